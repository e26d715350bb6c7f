/- Part 34 of 43: what the law stands on. -/
import Derived.Test.YtojhmadmlnfpcaaGreatDoorK16
import Derived.Test.YtojhmadmlnfpcaaGreatDoorK17
import Derived.Test.YtojhmadmlnfpcaaGreatDoorK32
set_option linter.unusedVariables false
set_option linter.unusedSimpArgs false
set_option linter.unnecessarySimpa false
set_option maxRecDepth 100000
set_option maxHeartbeats 64000000
namespace Go.Proofs.YtojhmadmlnfpcaaGreatDoor
open Go.AM Go.ChangeShapes Go.WideShapes Go.ChangeAt Go.RowKit
def c45:LF:= ⟨195,[.cell true 4 4],(.seq (.ai [qu 4 (.alloc [(qd 0),(qd 0),(qd 0),.aI])]) (.seq (.seq (.ai [qm 17 1,qu 18 (.aW 17),qf 19 1 18,ql 20 19]) (.block 0 (.seq (.ai [qu 22 (.aF .eql 20 (qi 1)),qm 21 22]) (.cond 21 (.seq (.ai [qm 23 0,qm 24 0,qu 25 (.aW 24),qf 26 0 25,qL 27 3 26,qu 28 (qc 66 [27]),qu 29 (.aW 23),qf 30 0 29,qw (.store 3 30 28)]) (.seq (.bQ [qm 31 0,qu 32 (.aW 31),qf 33 0 32,qf 34 2 33,ql 35 34,qm 36 0,qu 37 (.aW 36),qf 38 3 37,ql 39 38,qu 40 (.bO 4 35 39),qf 41 1 40,qw (.store 1 41 (qb true))] [(.cons 0 none (.cons 1 none (.cons 2 none (.cons 3 none (.cons 4 none (.cons 5 none (.cons 6 none (.cons 7 none (.cons 8 none (.cons 9 none (.cons 10 none (.cons 11 (some []) .nil))))))))))))]) (.seq (.ai [qu 42 (.build [(qd 0),(qd 0),(qd 0),.aI] []),qw (.store 4 4 42)]) .ret))) (.seq (.ai [qu 44 (.aF .eql 20 (qi 22)),qm 43 44]) (.cond 43 (.seq (.seq (.bQ [qm 45 0,qu 46 (.aW 45),qf 47 0 46,qf 48 2 47,ql 49 48,qm 50 0,qu 51 (.aW 50),qf 52 3 51,ql 53 52,qu 54 (.bO 4 49 53),qf 55 1 54,ql 56 55] [(.cons 0 none (.cons 1 none (.cons 2 none (.cons 3 none (.cons 4 none (.cons 5 none (.cons 6 none (.cons 7 none (.cons 8 none (.cons 9 none (.cons 10 none (.cons 11 none .nil))))))))))))]) (.cond 56 (.seq (.ai [qu 57 (.build [(qd 0),(qd 0),(qd 0),.aI] [(1,1,(qi 1))]),qw (.store 4 4 57)]) .ret) .skip)) (.seq (.ai [qu 58 (.build [(qd 0),(qd 0),(qd 0),.aI] []),qw (.store 4 4 58)]) .ret)) (.seq (.ai [qu 60 (.aF .eql 20 (qi 18)),qm 59 60]) (.cond 59 (.seq (.bQ [qm 62 0,qu 63 (.aW 62),qf 64 0 63,qL 65 3 64,qm 66 0,qu 67 (.aW 66),qf 68 3 67,ql 69 68,qu 70 (qc 84 [65,69]),qm 61 70,qu 71 (.ext 61 0),qu 72 (.ext 61 1),qu 73 (.ext 61 2),qu 74 (.ext 61 3),qu 5 (.alloc [.aI,.aI,.aI]),qw (.store 3 5 71),qm 6 72,qm 7 73,qm 8 74] [(.cons 0 none (.cons 1 none (.cons 2 none (.cons 3 none (.cons 4 none (.cons 5 none (.cons 6 none (.cons 7 none (.xK (.cons 8 (some []) (.cons 9 none (.cons 10 none (.cons 11 none (.cons 12 none (.cons 13 none (.cons 14 (some [7,3]) (.cons 15 (some []) (.cons 16 none (.cons 17 none (.cons 18 none .nil))))))))))) (.cons 14 (some [7,3]) (.cons 8 (some []) (.cons 9 none (.cons 10 none (.cons 11 none (.cons 12 none (.cons 13 none (.cons 15 (some []) (.cons 16 none (.cons 17 none (.cons 18 none .nil))))))))))))))))))))]) (.seq (.seq (.ai [qm 75 8,qu 76 (.aF .neq 75 (qi 0))]) (.cond 76 (.seq (.ai [qm 77 8,qu 78 (.build [(qd 0),(qd 0),(qd 0),.aI] [(0,1,77)]),qw (.store 4 4 78)]) .ret) .skip)) (.seq (.ai [qm 79 0,qL 80 3 5,qu 81 (.aW 79),qf 82 0 81,qw (.store 3 82 80)]) (.seq (.ai [qm 83 6,qm 84 7,qu 85 (.build [(qd 0),(qd 0),(qd 0),.aI] [(1,1,83),(2,1,84)]),qw (.store 4 4 85)]) .ret)))) (.seq (.ai [qu 87 (.aF .eql 20 (qi 19)),qm 86 87]) (.cond 86 (.seq (.bQ [qm 89 0,qu 90 (.aW 89),qf 91 0 90,qL 92 3 91,qm 93 0,qu 94 (.aW 93),qf 95 3 94,ql 96 95,qm 97 1,qu 98 (.aW 97),qf 99 4 98,ql 100 99,qu 101 (qc 85 [92,96,100]),qm 88 101,qu 102 (.ext 88 0),qu 103 (.ext 88 1),qu 9 (.alloc [.aI,.aI,.aI]),qw (.store 3 9 102),qm 10 103] [(.cons 0 none (.cons 1 none (.cons 2 none (.cons 3 none (.cons 4 none (.cons 5 none (.cons 6 none (.cons 7 none (.cons 8 none (.cons 9 none (.cons 10 none (.cons 11 none (.xK (.cons 12 (some []) (.cons 13 none (.cons 14 none (.cons 15 none (.cons 16 (some [11,7,3]) (.cons 17 (some []) (.cons 18 none .nil))))))) (.cons 16 (some [11,7,3]) (.cons 12 (some []) (.cons 13 none (.cons 14 none (.cons 15 none (.cons 17 (some []) (.cons 18 none .nil))))))))))))))))))))]) (.seq (.seq (.ai [qm 104 10,qu 105 (.aF .eql 104 (qi 0))]) (.cond 105 (.ai [qm 106 0,qL 107 3 9,qu 108 (.aW 106),qf 109 0 108,qw (.store 3 109 107)]) .skip)) (.seq (.ai [qm 110 10,qu 111 (.build [(qd 0),(qd 0),(qd 0),.aI] [(0,1,110)]),qw (.store 4 4 111)]) .ret))) .skip)))))))))) (.seq (.ai [qu 112 (.qz),qw (.kF (.i .i64) 112 (qi 20) (qi 2048)),qw (.kF (.i .i64) 112 (qi 21) (qi 1024)),qm 113 112,qm 114 1,qu 115 (.aW 114),qf 116 1 115,ql 117 116,qu 118 (.Bw (.one (qd 0)) (.i .i64) 113 117 false),qm 11 118]) (.cO (.seq (.ai [qm 120 0,qm 121 1,qu 122 (.aW 121),qf 123 2 122,ql 124 123,qm 125 11,qu 126 (qc 63 [120,124,125]),qm 119 126,qu 127 (.ext 119 0),qu 128 (.ext 119 1),qu 129 (.ext 119 2),qu 12 (.alloc [(qd 0),(qd 0)]),qw (.store 2 12 127),qm 13 128,qm 14 129]) (.seq (.block 1 (.seq (.ai [qm 131 14,qu 132 (.aF .neq 131 (qi 0)),qm 130 132]) (.cond 130 (.seq (.ai [qm 133 14,qu 134 (.build [(qd 0),(qd 0),(qd 0),.aI] [(0,1,133)]),qw (.store 4 4 134)]) .ret) (.seq (.ai [qm 136 0,qu 137 (.aW 136),qf 138 0 137,qf 139 0 138,ql 140 139,qm 141 13,qu 142 (.bO 9 140 141),qf 143 0 142,ql 144 143,qu 145 (.aF .neq 144 (qi 5)),qm 135 145]) (.cond 135 (.seq (.ai [qu 146 (.build [(qd 0),(qd 0),(qd 0),.aI] [(0,1,(qi 8))]),qw (.store 4 4 146)]) .ret) .skip))))) (.seq (.ai [qm 147 0,qu 148 (.aW 147),qf 149 0 148,qf 150 0 149,ql 151 150,qm 152 13,qu 153 (.bO 9 151 152),qf 154 6 153,ql 155 154,qm 15 155]) (.seq (.seq (.ai [qm 156 1,qu 157 (.aW 156),qf 158 1 157,ql 159 158,qu 160 (.aF .eql 159 (qi 21))]) (.cond 160 (.seq (.seq (.ai [qm 161 0,qu 162 (.aW 161),qf 163 0 162,qL 164 3 163,qm 165 15,qu 166 (qc 35 [164,165])]) (.cond 166 (.seq (.ai [qu 167 (.build [(qd 0),(qd 0),(qd 0),.aI] [(0,1,(qi 16))]),qw (.store 4 4 167)]) .ret) .skip)) (.seq (.ai [qm 168 0,qu 169 (.aW 168),qf 170 0 169,qf 171 2 170,ql 172 171,qm 173 15,qu 174 (.bO 4 172 173),qf 175 2 174,ql 176 175,qu 177 (.build [(qd 0),(qd 0),(qd 0),.aI] [(1,1,176)]),qw (.store 4 4 177)]) .ret)) .skip)) (.seq (.ai [qm 179 0,qu 180 (.aW 179),qf 181 0 180,qL 182 3 181,qm 183 15,qu 184 (qc 85 [182,183,(qi 255)]),qm 178 184,qu 185 (.ext 178 0),qu 186 (.ext 178 1),qu 16 (.alloc [.aI,.aI,.aI]),qw (.store 3 16 185),qm 14 186]) (.seq (.seq (.ai [qm 187 14,qu 188 (.aF .eql 187 (qi 0))]) (.cond 188 (.ai [qm 189 0,qL 190 3 16,qu 191 (.aW 189),qf 192 0 191,qw (.store 3 192 190)]) .skip)) (.seq (.ai [qm 193 14,qu 194 (.build [(qd 0),(qd 0),(qd 0),.aI] [(0,1,193)]),qw (.store 4 4 194)]) .ret)))))))))))⟩
namespace Kn
def fE(ps:List bi)(p:Nat):Bool:=match ps[p]? with|some x=>x.fenced|none=>false
def ma(ps:List bi)(p:Nat):List bi:=match ps[p]? with|some x=>ps.set p {x with fenced:=true}|none=>ps
def FV(ps:List bi)(z:Int):Int:=match ps[z.toNat]? with|some x=>x.code|none=>0
def iF(k:Kr)(e:Kr×Int):Kr×An:=(if e.2=0 then e.1 else k,An.no e.2)
def nC(k:Kr)(f:Kr×Int×Int×Int):Kr×An:=if f.2.2.2≠0 then(k,An.no f.2.2.2)else(f.1,⟨0,f.2.1,f.2.2.1,[]⟩)
def s7(k:Kr)(c:Cl)(o:Obj):Kr×An:=
 if o.ah≠5 then(k,An.no 8)
 else if c.ah=21 then(if ek k.ps o.aL=true then(k,An.no 16)else(k,⟨0,FV k.ps o.aL,0,[]⟩))
 else iF k (gJ k o.aL 255)
def jG(k:Kr)(c:Cl)(w:(Int×Int)×Int×Int):Kr×An:=if w.2.2≠0 then(k,An.no w.2.2)else s7 k c (nf k.l w.2.1)
def eS(k:Kr)(p:Nat)(c:Cl):Kr×An:=
 if c.ah=1 then(⟨k.l,k.ops,ma k.ps p⟩,⟨0,0,0,[]⟩)
 else if c.ah=22 then(k,⟨0,if fE k.ps p=true then 1 else 0,0,[]⟩)
 else if c.ah=18 then nC k (gL k p)
 else if c.ah=19 then iF k (gJ k p c.n)
 else jG k c (bu k p c.fd (if c.ah=20 then 2048 else 1024))
def p0(x:Int):Prop:=x=1\/x=22\/x=18\/x=19\/x=20\/x=21
theorem l45:bs Tryz.prog Tryz.f45=some c45.er:=by kernel_rfl
def VZ:LC:=bK (bK (bK c45.code))
def V0:LC:=pj VZ
theorem FW(k:Kr)(p:Nat)(hw:KW k p)(c:Cl)(need:Int)(hq:∀o,o∈k.l->o.ah=5->∃n:Nat,o.aL=n/\n<k.ps.length):
  aw Tryz.prog 2 V0 (QC c45.lj (jG k c (bu k p c.fd need)).1 p c (jG k c (bu k p c.fd need)).2)
   ⟨mg 195 [(0,.rv (.one (.ptr 0 0))),(1,.rv (.one (.ptr 1 0))),(4,.rv (.one (.ptr 2 0))),(11,an .i64 need)],[xB k p,cB c,bY]⟩:=by
 refine j8 k p hw c.fd need 0 rfl ?_;have hh:= @KW.held k p hw c.fd need;generalize bu k p c.fd need=w at hh⊢;obtain⟨⟨o,r⟩,b,e⟩:=w;refine br (fun he=>?_) (fun he=>?_)
 .have he:e≠0:=he;rw[jG,if_pos he];exact db (X:=[_,_])
 have he:e=0:=he;subst he;obtain⟨n,j,h1,h2,h3,h4,h5⟩:=hh rfl;have h3:b=j:=h3;subst h3;have e1:jG k c ((o,r),((j:Nat):Int),0)=s7 k c k.l[j]:=by rw[jG,if_neg aG,sX h4]
 rw[e1];have RM:=hq _ (aau h4);have hg:=iC h4;generalize k.l[j]=ob at RM hg⊢;refine ag hg ?_;refine br (fun h6=>?_) (fun h6=>?_)
 .have h6:ob.ah≠5:=h6;rw[s7,if_pos h6];exact db (X:=[_,_])
 have h6:ob.ah=5:=h6;rw[s7,if_neg (fun h=>h h6)]
 obtain⟨q,Hc,Ok⟩:=RM h6;refine ag hg ?_;refine bH (fun h7=>?_) (fun h7=>?_)
 .have h7:c.ah=21:=h7;rw[if_pos h7];refine ol k.l k.ops k.ps ob.aL ?_;cases hl:ek k.ps ob.aL with
  |true=>
   rw[if_pos rfl];exact db (X:=[_,_])
  |false=>
   rw[if_neg aG];have hc:FV k.ps ob.aL=k.ps[q].code:=by rw[FV,Hc,aaw,aab Ok]
   rw[hc];refine ag (x:=[.val (.bool k.ps[q].aV),.val (.bool k.ps[q].fenced),.val (.int .i64 k.ps[q].code),xZ k.ps[q].aU]) (by rw[Hc];exact d5 Ok) ?_
   exact db (X:=[_,_])
 .have h7:¬c.ah=21:=h7;rw[if_neg h7];refine Al k hw.kr ob.aL 255 ?_;generalize gJ k ob.aL 255=E;obtain⟨k2,e⟩:=E;refine bH (fun he=>?_) (fun he=>?_)
  .have he:e=0:=he;subst he;rw[iF,if_pos rfl];exact db (X:=[_,_,_])
  .have he:¬e=0:=he;rw[iF,if_neg he];exact db (X:=[_,_,_])
theorem C4{ps:List bi}{n:Nat}(hn:n<ps.length):ba (af (ps.map bi.enc)) n ((bi.enc ⟨ps[n].aV,true,ps[n].code,ps[n].aU⟩).map .aa)=af ((ma ps n).map bi.enc):=by
 have:ma ps n=ps.set n {ps[n]with fenced:=true}:=by rw[ma,aab hn]
 rw[this,bn,af,af,aa6,aa6]
theorem C5(k:Kr)(p:Nat)(hw:KW k p)(c:Cl)(hc:c.ah=1):
  body Tryz.prog c45 [.rv (.one (.ptr 0 0)),.rv (.one (.ptr 1 0))] [xB k p,cB c] (TC ⟨k.l,k.ops,ma k.ps p⟩ p c ⟨0,0,0,[]⟩):=by
 obtain⟨aL,ah,fd,gA,n,bx,a8,cA,data⟩:=c;have hc:ah=1:=hc;subst hc;refine ix k.l k.ops k.ps hw.mP hw.kr.lo hw.kr.lp hw.kr.sl hw.kr.ne ?_;refine ag (lY hw.hp) ?_;refine ag (bI bi.enc k.ps hw.hp) ?_;refine⟨trivial,_,_,View.o 6 [0,1] [3,4,5] (.put M6 .nil) (.pt rfl rfl (SN (k:=⟨k.l,k.ops,ma k.ps p⟩) (ib rfl rfl) (ib rfl rfl) (ib rfl (congrArg (fun x=>some (Bk.row 4 x)) (C4 hw.hp)))) (.pt rfl rfl (.eq rfl (b7 _)) (.nil _))),rfl,rfl⟩
theorem FX(k:Kr)(p:Nat)(hw:KW k p)(c:Cl)(hc:c.ah=22):
  body Tryz.prog c45 [.rv (.one (.ptr 0 0)),.rv (.one (.ptr 1 0))] [xB k p,cB c] (TC k p c ⟨0,if fE k.ps p=true then 1 else 0,0,[]⟩):=by
 obtain⟨aL,ah,fd,gA,n,bx,a8,cA,data⟩:=c;have hc:ah=22:=hc;subst hc;have hp:=hw.hp;have hf:fE k.ps p=k.ps[p].fenced:=by rw[fE,aab hp]
 rw[hf];refine ag (d5 hp) ?_;cases k.ps[p].fenced with
 |true=>exact db (X:=[_])
 |false=>exact db (X:=[_])
theorem FY(k:Kr)(p:Nat)(hw:KW k p)(c:Cl)(hc:c.ah=18):
  body Tryz.prog c45 [.rv (.one (.ptr 0 0)),.rv (.one (.ptr 1 0))] [xB k p,cB c] (TC (nC k (gL k p)).1 p c (nC k (gL k p)).2):=by
 obtain⟨aL,ah,fd,gA,n,bx,a8,cA,data⟩:=c;have hc:ah=18:=hc;subst hc;have V1:k.l.length<=4194303:=by have:=hw.l40;omega
 refine⟨?_,?_⟩
 .refine Ho k hw.kr V1 p ?_;generalize gL k p=F;obtain⟨k2,ch,fd,e⟩:=F;refine⟨trivial,⟨rfl,rfl,trivial⟩,trivial,?_⟩;refine br (fun he=>?_) (fun he=>?_)
  .have he:e≠0:=he;rw[nC,if_pos he];exact db (X:=[_,_])
  .have he:¬e≠0:=fun h=>h he
   rw[nC,if_neg he];exact db (k:=k2) (X:=[_,_])
 .refine⟨⟨rfl,rfl,trivial⟩,?_⟩;refine Ho k hw.kr V1 p ?_;generalize gL k p=F;obtain⟨k2,ch,fd,e⟩:=F;refine⟨trivial,trivial,?_⟩;refine br (fun he=>?_) (fun he=>?_)
  .have he:e≠0:=he;rw[nC,if_pos he];exact db (X:=[_,_])
  .have he:¬e≠0:=fun h=>h he
   rw[nC,if_neg he];exact db (k:=k2) (X:=[_,_])
theorem FZ(k:Kr)(p:Nat)(hw:KW k p)(c:Cl)(hc:c.ah=19):
  body Tryz.prog c45 [.rv (.one (.ptr 0 0)),.rv (.one (.ptr 1 0))] [xB k p,cB c] (TC (iF k (gJ k p c.n)).1 p c (iF k (gJ k p c.n)).2):=by
 obtain⟨aL,ah,fd,gA,n,bx,a8,cA,data⟩:=c;have hc:ah=19:=hc;subst hc;show body Tryz.prog c45 _ _ (TC (iF k (gJ k p n)).1 p _ (iF k (gJ k p n)).2);refine⟨?_,?_⟩
 .refine Al k hw.kr p n ?_;generalize gJ k p n=F;obtain⟨k2,e⟩:=F;refine⟨trivial,⟨rfl,rfl,rfl,trivial⟩,trivial,?_⟩;refine bH (fun he=>?_) (fun he=>?_)
  .have he:e=0:=he;rw[iF,if_pos he];exact db (k:=k2) (X:=[_,_])
  .have he:¬e=0:=he;rw[iF,if_neg he];exact db (X:=[_,_])
 .refine⟨⟨rfl,rfl,rfl,trivial⟩,?_⟩;refine Al k hw.kr p n ?_;generalize gJ k p n=F;obtain⟨k2,e⟩:=F;refine⟨trivial,trivial,?_⟩;refine bH (fun he=>?_) (fun he=>?_)
  .have he:e=0:=he;rw[iF,if_pos he];exact db (k:=k2) (X:=[_,_])
  .have he:¬e=0:=he;rw[iF,if_neg he];exact db (X:=[_,_])
theorem wP(k:Kr)(p:Nat)(hw:KW k p)(c:Cl)(hc:c.ah=20\/c.ah=21)(hq:∀o,o∈k.l->o.ah=5->∃n:Nat,o.aL=n/\n<k.ps.length):
  body Tryz.prog c45 [.rv (.one (.ptr 0 0)),.rv (.one (.ptr 1 0))] [xB k p,cB c] (TC (jG k c (bu k p c.fd (if c.ah=20 then 2048 else 1024))).1 p c (jG k c (bu k p c.fd (if c.ah=20 then 2048 else 1024))).2):=by
 have hs:=fun need=>FW k p hw c need hq
 obtain⟨aL,ah,fd,gA,n,bx,a8,cA,data⟩:=c;rcases hc with hc|hc
 .have hc:ah=20:=hc;subst hc;refine⟨_,View.o1 4 [0,1,2] [] ?_,hs 2048⟩
  .exact .pt rfl rfl (.eq rfl (bD _ _)) (.pt rfl rfl (.eq rfl (b7 _)) (.pt rfl rfl (.eq rfl (by simp[bY])) (.nil _)))
 .have hc:ah=21:=hc;subst hc;refine⟨_,View.o1 4 [0,1,2] [] ?_,hs 1024⟩
  .exact .pt rfl rfl (.eq rfl (bD _ _)) (.pt rfl rfl (.eq rfl (b7 _)) (.pt rfl rfl (.eq rfl (by simp[bY])) (.nil _)))
theorem ji(k:Kr)(p:Nat)(hw:KW k p)(c:Cl)(hc:p0 c.ah)(hq:∀o,o∈k.l->o.ah=5->∃n:Nat,o.aL=n/\n<k.ps.length):
  ar Tryz.prog 45 [.rv (.one (.ptr 0 0)),.rv (.one (.ptr 1 0))] [xB k p,cB c] (TC (eS k p c).1 p c (eS k p c).2):=by
 refine cm Tryz.func45 l45 ?_;rcases hc with hc|hc|hc|hc|hc|hc
 .rw[eS,if_pos hc];exact C5 k p hw c hc
 .rw[eS,if_neg om,if_pos hc];exact FX k p hw c hc
 .rw[eS,if_neg om,if_neg om,if_pos hc];exact FY k p hw c hc
 .rw[eS,if_neg om,if_neg om,if_neg om,if_pos hc];exact FZ k p hw c hc
 .rw[eS,if_neg om,if_neg om,if_neg om,if_neg om];exact wP k p hw c (.inl hc) hq
 .rw[eS,if_neg om,if_neg om,if_neg om,if_neg om];exact wP k p hw c (.inr hc) hq
end Kn
def c102:LF:= ⟨74,[.tmp 6],(.seq (.ai [qu 3 (.box 0),qu 6 (.aD (qi 0))]) (.seq (.seq (.ai [qf 7 0 3,ql 8 7]) (.block 0 (.seq (.ai [qu 10 (.aF .eql 8 (qi 1)),qm 9 10]) (.cond 9 (.seq (.ai [qf 11 3 3,ql 12 11,qu 13 (.aF .lss 12 (qi 0)),qm 14 13,qg 15 (.bg 3 3) 14 false,qg 16 (.load false 1 15) 14 false,qg 17 (.aF .geq 16 (qi 6)) 14 false,qu 18 (.pick 14 (qb true) 17)]) (.cond 18 (.seq (.ai [qu 6 (.aD (qi 3))]) .ret) .skip)) (.seq (.seq (.ai [qu 20 (.aF .eql 8 (qi 2)),qm 19 20]) (.cond 19 .skip (.seq (.ai [qu 21 (.aF .eql 8 (qi 3)),qm 19 21]) (.cond 19 .skip (.ai [qu 22 (.aF .eql 8 (qi 4)),qm 19 22]))))) (.cond 19 (.seq (.seq (.ai [qf 23 3 3,ql 24 23,qu 25 (.aF .lss 24 (qi 0)),qm 26 25,qg 27 (.bg 3 3) 26 false,qg 28 (.load false 1 27) 26 false,qg 29 (.aF .geq 28 (qi 2147483648)) 26 false,qu 30 (.pick 26 (qb true) 29),qm 31 30,qg 32 (.aD 1) 31 false,qg 33 (.bg 1 3) 31 false,qg 34 (.load false 1 33) 31 false,qg 35 (.aD 2) 31 false,qg 36 (qc 134 [32,34,(qi 40),35]) 31 false,qg 37 (.un .not 36) 31 false,qu 38 (.pick 31 (qb true) 37),qm 39 38,qg 40 (.aD 1) 39 false,qg 41 (.bg 2 3) 39 false,qg 42 (.load false 1 41) 39 false,qg 43 (.aD 2) 39 false,qg 44 (qc 134 [40,42,(qi 40),43]) 39 false,qg 45 (.un .not 44) 39 false,qu 46 (.pick 39 (qb true) 45)]) (.cond 46 (.seq (.ai [qu 6 (.aD (qi 3))]) .ret) .skip)) (.seq (.ai [qu 6 (.aD (qi 0))]) .ret)) (.seq (.ai [qu 48 (.aF .eql 8 (qi 5)),qm 47 48]) (.cond 47 (.seq (.ai [qm 49 1,qf 50 3 3,ql 51 50,qm 52 2,qm 53 2,qu 54 (qc 134 [49,51,52,53]),qu 55 (.un .not 54)]) (.cond 55 (.seq (.ai [qu 6 (.aD (qi 3))]) .ret) .skip)) (.seq (.ai [qu 57 (.aF .eql 8 (qi 6)),qm 56 57]) (.cond 56 (.seq (.ai [qf 58 3 3,ql 59 58,qu 60 (.aF .neq 59 (qi 1)),qm 61 60,qg 62 (.bg 3 3) 61 true,qg 63 (.load false 1 62) 61 true,qg 64 (.aF .neq 63 (qi 0)) 61 true,qu 65 (.pick 61 64 (qb false))]) (.cond 65 (.seq (.ai [qu 6 (.aD (qi 3))]) .ret) .skip)) (.seq (.ai [qu 6 (.aD (qi 1))]) .ret))))))))))) (.seq (.seq (.ai [qf 66 1 3,ql 67 66,qu 68 (.aF .neq 67 (qi 0)),qm 69 68,qg 70 (.bg 2 3) 69 false,qg 71 (.load false 1 70) 69 false,qg 72 (.aF .neq 71 (qi 0)) 69 false,qu 73 (.pick 69 (qb true) 72)]) (.cond 73 (.seq (.ai [qu 6 (.aD (qi 2))]) .ret) .skip)) (.seq (.ai [qu 6 (.aD (qi 0))]) .ret))))⟩
def c134:LF:= ⟨24,[.tmp 8],(.seq (.ai [qu 8 (.aD (qb false))]) (.seq (.ai [qm 9 1,qu 10 (.aF .geq 9 (qi 0)),qm 11 10,qg 12 (.aD 1) 11 true,qg 13 (.aD 2) 11 true,qg 14 (.aF .leq 12 13) 11 true,qu 15 (.pick 11 14 (qb false)),qm 16 15,qg 17 (.aD 0) 16 true,qg 18 (.aF .add 17 (qi 1)) 16 true,qg 19 (.aD 1) 16 true,qg 20 (.aF .add 18 19) 16 true,qg 21 (.aD 3) 16 true,qg 22 (.aF .lss 20 21) 16 true,qu 23 (.pick 16 22 (qb false)),qm 8 23]) .ret))⟩
structure dB where
 op:Int
 jt:Int
 jf:Int
 k:Int
 deriving DecidableEq
def dB.enc(i:dB):List Dt:=[.val (.int .i64 i.op),.val (.int .i64 i.jt),.val (.int .i64 i.jf),.val (.int .i64 i.k)]
def dB.cv(i:dB):CV:= .rv (.agg (i.enc.map .aa))
def V2(l:List dB):Dt:= .sl 4 (l.map dB.enc)
def rH(l:List dB):CV:= .rv (.one (.aa (V2 l)))
def nL(f:Int×Int):CV:= .rv (.agg [.aa (.val (.int .i64 f.1)),.aa (.val (.int .i64 f.2))])
def nD(a n wQ s:Int):Bool:=decide (n>=0)&&decide (n<=wQ)&&decide (a+1+n<s)
theorem l134:bs Tryz.prog Tryz.f134=some c134:=by kernel_rfl
theorem JL(a n wQ s:Int)(ha:0<=a)(TD:a<=4194304)(hm:wQ<=4194304):body Tryz.prog c134 [an .i64 a,an .i64 n,an .i64 wQ,an .i64 s] [] (fun r m=>r=ay (nD a n wQ s)):=by
 refine aE (fun h=>?_) (fun h=>?_)
 .refine aE (fun h2=>?_) (fun h2=>?_)
  .have e1:n>=0:=of_decide_eq_true h;have e2:n<=wQ:=of_decide_eq_true h2;show ay _=ay _;rw[nD,h,h2,g9 (n:=a+1) om om,g9 om om];rfl
  .show ay _=ay _;rw[nD,h,h2];rfl
 .show ay _=ay _;rw[nD,h];rfl
theorem PI(a n wQ s:Int)(ha:0<=a)(TD:a<=4194304)(hm:wQ<=4194304){m:Mem}{K:CV->Mem->Prop}(h:K (ay (nD a n wQ s)) m):ar Tryz.prog 134 [an .i64 a,an .i64 n,an .i64 wQ,an .i64 s] m K:=
 bm Tryz.func134 l134 rfl (aak rfl) (JL a n wQ s ha TD hm) rfl rfl h
def wR(i:dB):Int:=if(i.jt !=0)||(i.jf !=0)then 2 else 0
def im(i:dB)(a s:Int):Int:=
 if(i.op==1)then(if(decide (i.k<0)||decide (i.k>=6))then 3 else wR i)
 else if(i.op==2)||(i.op==3)||(i.op==4)then(if(decide (i.k<0)||decide (i.k>=2147483648)|| !nD a i.jt 40 s|| !nD a i.jf 40 s)then 3 else 0)
 else if(i.op==5)then(if !nD a i.k s s then 3 else wR i)
 else if(i.op==6)then(if(i.k !=1)&&(i.k !=0)then 3 else wR i)
 else 1
theorem l102:bs Tryz.prog Tryz.f102=some c102:=by kernel_rfl
theorem F0(i:dB)(a s:Int)(ha:0<=a)(TD:a<=4194304)(hs:s<=4194304):body Tryz.prog c102 [i.cv,an .i64 a,an .i64 s] [] (fun r m=>r=an .i64 (im i a s)):=by
 repeat' (first
  |(refine aE (fun h=>?_) (fun h=>?_))
  |(refine PI _ _ _ _ ha TD om ?_))
 all_goals(show an .i64 _=an .i64 _;refine congrArg _ ?_;simp only[im,wR, *];try(first|rfl|simp[*]))
theorem Ni(i:dB)(a s:Int)(ha:0<=a)(TD:a<=4194304)(hs:s<=4194304){m:Mem}{K:CV->Mem->Prop}(h:K (an .i64 (im i a s)) m):ar Tryz.prog 102 [i.cv,an .i64 a,an .i64 s] m K:=
 bm Tryz.func102 l102 rfl (aak rfl) (F0 i a s ha TD hs) rfl rfl h
def c60:LF:= ⟨46,[.cell true 2 2],(.seq (.ai [qu 2 (.alloc [(qd 0),(qd 0)])]) (.seq (.seq (.ai [qm 6 0,qu 7 (.len 1 6),qu 8 (.aF .lss 7 (qi 1)),qm 9 8,qg 10 (.aD 0) 9 false,qg 11 (.len 1 10) 9 false,qg 12 (.aF .gtr 11 (qi 400)) 9 false,qu 13 (.pick 9 (qb true) 12)]) (.cond 13 (.seq (.ai [qu 14 (.build [(qd 0),(qd 0)] [(0,1,(qi 5))]),qw (.store 2 2 14)]) .ret) .skip)) (.seq (.seq (.ai [qm 15 0,qu 16 (.len 1 15),qu 17 (.aD (qi 0))]) (.block 0 (.loop (.seq (.ai [qu 18 (.aF .lss 17 16)]) (.seq (.cond 18 .skip (.exit 0)) (.seq (.block 1 (.seq (.ai [qm 19 17,qu 20 (.bO 4 15 17),qL 21 4 20,qu 4 (.alloc [(qd 0),(qd 0),(qd 0),(qd 0)]),qm 3 19,qw (.store 4 4 21)]) (.seq (.ai [qL 22 4 4,qm 23 3,qm 24 0,qu 25 (.len 1 24),qu 26 (qc 102 [22,23,25]),qm 5 26]) (.seq (.ai [qm 27 5,qu 28 (.aF .neq 27 (qi 0))]) (.cond 28 (.seq (.ai [qm 29 5,qm 30 3,qu 31 (.build [(qd 0),(qd 0)] [(0,1,29),(1,1,30)]),qw (.store 2 2 31)]) .ret) .skip))))) (.ai [qu 32 (.aF .add 17 (qi 1)),qm 17 32]))))))) (.seq (.seq (.ai [qm 33 0,qm 34 0,qu 35 (.len 1 34),qu 36 (.aF .sub 35 (qi 1)),qu 37 (.bO 4 33 36),qf 38 0 37,ql 39 38,qu 40 (.aF .neq 39 (qi 6))]) (.cond 40 (.seq (.ai [qm 41 0,qu 42 (.len 1 41),qu 43 (.aF .sub 42 (qi 1)),qu 44 (.build [(qd 0),(qd 0)] [(0,1,(qi 2)),(1,1,43)]),qw (.store 2 2 44)]) .ret) .skip)) (.seq (.ai [qu 45 (.build [(qd 0),(qd 0)] []),qw (.store 2 2 45)]) .ret)))))⟩
def uA(s:Int):Nat->List dB->Int×Int
 |_,[]=>(0,0)
 |k,i::r=>if im i (k:Int) s=0 then uA s (k+1) r else(im i (k:Int) s,(k:Int))
theorem AP(s:Int):∀(l:List dB)(k:Nat),(∀(j:Nat)i,l[j]? =some i->im i ((k+j:Nat):Int) s=0)->uA s k l=(0,0)
 | [],_,_=>rfl
 |i::r,k,h=>by
  rw[uA,if_pos (by simpa using h 0 i rfl)]
  exact AP s r (k+1) fun j x hx=>by
   have:=h (j+1) x (by simpa using hx)
   rwa [show k+(j+1)=k+1+j by omega]at this
theorem C6(s:Int):∀(l:List dB)(k j:Nat)(i:dB),l[j]? =some i->(∀(j':Nat)i,j'<j->l[j']? =some i->im i ((k+j':Nat):Int) s=0)->im i ((k+j:Nat):Int) s≠0->uA s k l=(im i ((k+j:Nat):Int) s,((k+j:Nat):Int))
 | [],_,j,i,h,_,_=>by simp at h
 |x::r,k,0,i,h,_,hb=>by
  simp at h;subst h;rw[uA,if_neg (by simpa using hb)];rfl
 |x::r,k,j+1,i,h,hg,hb=>by
  rw[uA,if_pos (by simpa using hg 0 x om rfl)]
  rw[show k+(j+1)=k+1+j by omega]at hb⊢
  exact C6 s r (k+1) j i (by simpa using h) (fun j' y hj hy=>by
   have:=hg (j'+1) y om (by simpa using hy)
   rwa [show k+(j'+1)=k+1+j' by omega]at this) hb
def jH(p:List dB):Int×Int:=
 if p.length<1\/p.length>400 then(5,0)
 else if(uA p.length 0 p).1≠0 then uA p.length 0 p
 else match p[p.length-1]? with
  |some i=>if i.op=6 then(0,0)else(2,((p.length-1:Nat):Int))
  |none=>(0,0)
theorem l60:bs Tryz.prog Tryz.f60=some c60:=by kernel_rfl
theorem F3(p:List dB):body Tryz.prog c60 [rH p] [] (fun r m=>r=nL (jH p)):=by
 refine aE (fun h=>?_) (fun h0=>?_)
 .have h:p.length<1:=by have h:(((p.map dB.enc).length:Nat):Int)<1:=of_decide_eq_true h;rw[aad]at h;omega
  rw[jH,if_pos (.inl h)];exact rfl
 .refine aE (fun h=>?_) (fun h1=>?_)
  .have h:p.length>400:=by have h:(((p.map dB.enc).length:Nat):Int)>400:=of_decide_eq_true h;simp at h;omega
   rw[jH,if_pos (.inr h)];exact rfl
  .have h0:¬p.length<1:=by have h:¬(((p.map dB.enc).length:Nat):Int)<1:=of_decide_eq_false h0;rw[aad]at h;omega
   have h1:¬p.length>400:=by have h:¬(((p.map dB.enc).length:Nat):Int)>400:=of_decide_eq_false h1;rw[aad]at h;omega
   have hc:jH p=if(uA p.length 0 p).1≠0 then uA p.length 0 p else match p[p.length-1]? with
     |some i=>if i.op=6 then(0,0)else(2,((p.length-1:Nat):Int))
     |none=>(0,0):=by rw[jH,if_neg om]
   refine oc (fun k=>k<=p.length/\∀(j:Nat)i,j<k->p[j]? =some i->im i (j:Int) p.length=0) (fun k=>[(17,an .i64 (k:Nat)),(3,.ap),(4,.ap),(5,.ap),(18,.ap),(19,.ap),(20,.ap),(21,.ap),(22,.ap),(23,.ap),(24,.ap),(25,.ap),(26,.ap),(27,.ap),(28,.ap),(32,.ap)])
    (fun k=>[.var [.aa (.val (.int .i64 0)),.aa (.val (.int .i64 0))]]) (fun k=>p.length-k) 0 ⟨aao _,fun j i h=>absurd h (aaL j)⟩ ?_ (fun k hk=>?_)
   .refine View.o1 1 [0] [] ?_
    .exact .put (by simp[bq]) rfl (.eq rfl aG) (.nil _)
   .refine aE (fun h=>?_) (fun h=>?_)
    .have aC:k<p.length:=by have h:(k:Int)<((p.map dB.enc).length:Int):=of_decide_eq_true h;rw[aad]at h;omega
     have hg:cy (p.map dB.enc) (k:Nat)=some (p[k].enc):=by rw[bl,aaf,aab aC];rfl
     have hlen:(((p.map dB.enc).length:Nat):Int)=(p.length:Int):=by rw[aad]
     refine ag hg ?_;have tQ:∀{m:Mem}{K:CV->Mem->Prop},K (an .i64 (im p[k] k p.length)) m->ar Tryz.prog 102 [p[k].cv,an .i64 k,an .i64 (((p.map dB.enc).length:Nat):Int)] m K:=by intro m K h;rw[hlen];exact Ni _ _ _ om om om h
     refine tQ ?_;refine aE (fun h3=>?_) (fun h3=>?_)
     .have h3:im p[k] k p.length≠0:=by simpa using h3
      have:=C6 p.length p 0 k p[k] (aab aC) (fun j i hj hi=>by simpa using hk.2 j i hj hi) (by simpa using h3)
      rw[aaS]at this;rw[hc,this,if_pos h3];exact rfl
     .have h3:im p[k] k p.length=0:=by simpa using h3
      refine⟨k+1,⟨aC,fun j i hj hi=>?_⟩,?_,View.o 2 [0] [] ?_ ?_⟩
      .rcases aaq j k with h5|h5
       .exact hk.2 j i h5 hi
       .have:j=k:=om;subst this;rw[aab aC]at hi;cases hi;exact h3
      .show p.length-(k+1)<p.length-k;omega
      .repeat(first|exact .nil|refine .ap ?_|refine .put (.aQ (aq om).symm) ?_|refine .eq rfl ?_)
      .exact .put (by simp[bq]) rfl (.eq rfl aG) (.nil _)
    .have ei:¬(k:Int)<((p.map dB.enc).length:Int):=of_decide_eq_false h;rw[aad]at ei;have fl:=AP p.length p 0 fun j i hi=>by have:=(aac.1 hi).1;simpa using hk.2 j i om hi
     rw[hc,fl,if_neg aG];have lN:p.length-1<p.length:=om;rw[aab lN];have hw:IntKind.i64.wrap ((((p.map dB.enc).length:Nat):Int)-1)=((p.length-1:Nat):Int):=by rw[aad,g9 om om];omega
     have hg:cy (p.map dB.enc) (IntKind.i64.wrap ((((p.map dB.enc).length:Nat):Int)-1))=some (p[p.length-1].enc):=by rw[hw,bl,aaf,aab lN];rfl
     refine ag hg ?_;refine aE (fun h3=>?_) (fun h3=>?_)
     .have h3:p[p.length-1].op≠6:=by simpa using h3
      show nL (2,IntKind.i64.wrap ((((p.map dB.enc).length:Nat):Int)-1))=_;rw[hw];simp only;rw[if_neg h3]
     .have h3:p[p.length-1].op=6:=by simpa using h3
      simp only;rw[if_pos h3];exact rfl
theorem Nj(p:List dB){m:Mem}{K:CV->Mem->Prop}(h:K (nL (jH p)) m):ar Tryz.prog 60 [rH p] m K:=
 bm Tryz.func60 l60 rfl (aak rfl) (F3 p) rfl rfl h
theorem F4(jt jf k a s:Int):im ⟨1,jt,jf,k⟩ a s=if k<0\/k>=6 then 3 else if jt≠0\/jf≠0 then 2 else 0:=by simp[im,wR,<-Bool.decide_or]
theorem s8(o jt jf k a s:Int)(ho:o=2\/o=3\/o=4):im ⟨o,jt,jf,k⟩ a s=if k<0\/k>=2147483648\/jt<0\/jf<0\/jt>40\/jf>40\/jt>s-a-2\/jf>s-a-2 then 3 else 0:=by
 have h1:(o==1)=false:=by rcases ho with rfl|rfl|rfl<;>rfl
 have h2:((o==2)||(o==3)||(o==4))=true:=by rcases ho with rfl|rfl|rfl<;>rfl
 simp only[im,h1,h2,abh,if_false,if_true];by_cases hc:k<0\/k>=2147483648\/jt<0\/jf<0\/jt>40\/jf>40\/jt>s-a-2\/jf>s-a-2
 .rw[if_pos hc,if_pos];simp only[nD,abk,abg,abW,decide_eq_true_eq,decide_eq_false_iff_not];omega
 .rw[if_neg hc,if_neg];simp only[nD,abk,abg,abW,decide_eq_true_eq,decide_eq_false_iff_not];omega
theorem Nk(jt jf k a s:Int)(ha:0<=a):im ⟨5,jt,jf,k⟩ a s=if k<0\/k>s-a-2 then 3 else if jt≠0\/jf≠0 then 2 else 0:=by
 have e:(!nD a k s s)=decide (k<0\/k>s-a-2):=by rw[ab6];simp only[nD,abg,abW,decide_eq_true_eq,decide_eq_false_iff_not];omega
 simp[im,e,wR,<-Bool.decide_or]
theorem wS(jt jf k a s:Int):im ⟨6,jt,jf,k⟩ a s=if k≠0/\k≠1 then 3 else if jt≠0\/jf≠0 then 2 else 0:=by simp[im,wR,<-Bool.decide_or,<-Bool.decide_and];simp only[and_comm]
theorem SQ(o jt jf k a s:Int)(ho:o<1\/o>6):im ⟨o,jt,jf,k⟩ a s=1:=by
 have h:∀c:Int,1<=c->c<=6->(o==c)=false:=fun c h1 h2=>by rw[beq_eq_false_iff_ne];omega
 simp[im,h 1 om om,h 2 om om,h 3 om om,h 4 om om,h 5 om om,h 6 om om]
def c36:LF:= ⟨75,[.tmp 4,.tmp 5],(.seq (.ai [qu 3 (.box 1),qu 4 (.aD (qi 0)),qu 5 (.aD (qi 0))]) (.seq (.seq (.ai [qm 11 0,qu 12 (qc 60 [11]),qu 6 (.alloc [(qd 0),(qd 0)]),qw (.store 2 6 12)]) (.seq (.ai [qf 13 0 6,ql 14 13,qu 15 (.aF .neq 14 (qi 0))]) (.cond 15 (.seq (.ai [qu 4 (.aD (qi 0)),qu 5 (.aD (qi 0))]) .ret) .skip))) (.seq (.ai [qu 7 (.aD (qi 0))]) (.seq (.ai [qu 8 (.aD (qi 0))]) (.block 0 (.loop (.seq (.block 1 (.seq (.ai [qm 18 0,qm 19 8,qu 20 (.bO 4 18 19),qL 21 4 20,qu 9 (.alloc [(qd 0),(qd 0),(qd 0),(qd 0)]),qw (.store 4 9 21)]) (.seq (.ai [qu 10 (.aD (qb false))]) (.seq (.seq (.ai [qf 22 0 9,ql 23 22]) (.block 2 (.seq (.ai [qu 25 (.aF .eql 23 (qi 1)),qm 24 25]) (.cond 24 (.seq (.ai [qf 26 3 9,ql 27 26,qu 28 (.pA 6 1 3 27),ql 29 28,qm 7 29]) (.seq (.ai [qm 30 8,qu 31 (.aF .add 30 (qi 1)),qm 8 31]) (.exit 1))) (.seq (.ai [qu 33 (.aF .eql 23 (qi 5)),qm 32 33]) (.cond 32 (.seq (.ai [qm 34 8,qf 35 3 9,ql 36 35,qu 37 (.aF .add (qi 1) 36),qu 38 (.aF .add 34 37),qm 8 38]) (.exit 1)) (.seq (.ai [qu 40 (.aF .eql 23 (qi 6)),qm 39 40]) (.cond 39 (.seq (.ai [qf 41 3 9,ql 42 41,qm 43 5,qu 44 (.aF .add 43 (qi 1)),qm 4 42,qm 5 44]) .ret) (.seq (.ai [qu 46 (.aF .eql 23 (qi 2)),qm 45 46]) (.cond 45 (.ai [qm 47 7,qf 48 3 9,ql 49 48,qu 50 (.aF .eql 47 49),qm 10 50]) (.seq (.ai [qu 52 (.aF .eql 23 (qi 3)),qm 51 52]) (.cond 51 (.ai [qm 53 7,qf 54 3 9,ql 55 54,qu 56 (.aF .geq 53 55),qm 10 56]) (.seq (.ai [qu 58 (.aF .eql 23 (qi 4)),qm 57 58]) (.cond 57 (.ai [qm 59 7,qf 60 3 9,ql 61 60,qu 62 (.aF .and 59 61),qu 63 (.aF .neq 62 (qi 0)),qm 10 63]) .skip)))))))))))))) (.seq (.ai [qm 64 10]) (.cond 64 (.ai [qm 65 8,qf 66 1 9,ql 67 66,qu 68 (.aF .add (qi 1) 67),qu 69 (.aF .add 65 68),qm 8 69]) (.ai [qm 70 8,qf 71 2 9,ql 72 71,qu 73 (.aF .add (qi 1) 72),qu 74 (.aF .add 70 73),qm 8 74]))))))) (.ai [qm 16 5,qu 17 (.aF .add 16 (qi 1)),qm 5 17]))))))))⟩
structure oC where
 r0:Int
 r1:Int
 r2:Int
 r3:Int
 r4:Int
 r5:Int
def oC.enc(r:oC):List Dt:=[.val (.int .i64 r.r0),.val (.int .i64 r.r1),.val (.int .i64 r.r2),.val (.int .i64 r.r3),.val (.int .i64 r.r4),.val (.int .i64 r.r5)]
def oC.cv(r:oC):CV:= .rv (.agg (r.enc.map .aa))
def oC.get(r:oC):Nat->Int
 |0=>r.r0
 |1=>r.r1
 |2=>r.r2
 |3=>r.r3
 |4=>r.r4
 |_=>r.r5
theorem oC.V3(r:oC){k:Nat}(h:k<6):io (r.enc.map .aa) (0+k*1) 1=some [.aa (.val (.int .i64 (r.get k)))]:=by
 rw[show 0+k*1=k by omega]
 apply su
 match k,h with
 |0,_=>rfl
 |1,_=>rfl
 |2,_=>rfl
 |3,_=>rfl
 |4,_=>rfl
 |5,_=>rfl
def Nl(a b:Int):Int:=IntKind.i64.wrap ((BitVec.ofInt 64 a&&&BitVec.ofInt 64 b).toNat:Int)
def rU(i:dB)(dd:Int)(r:oC):Nat×Int:=
 if i.op=1 then(1,r.get i.k.toNat)
 else if i.op=5 then(1+i.k.toNat,dd)
 else if(if i.op=2 then dd==i.k else if i.op=3 then decide (dd>=i.k)else if i.op=4 then Nl dd i.k !=0 else false)=true then(1+i.jt.toNat,dd)
 else(1+i.jf.toNat,dd)
theorem Nm(x y:Nat)(k dd:Int)(r:oC):(dd=k->rU ⟨2,x,y,k⟩ dd r=(1+x,dd))/\(dd≠k->rU ⟨2,x,y,k⟩ dd r=(1+y,dd)):=
 ⟨fun h=>by subst h;simp[rU],fun h=>by simp[rU,h]⟩
theorem Nn(x y:Nat)(k dd:Int)(r:oC):(dd>=k->rU ⟨3,x,y,k⟩ dd r=(1+x,dd))/\(¬dd>=k->rU ⟨3,x,y,k⟩ dd r=(1+y,dd)):=
 ⟨fun h=>by simp[rU];omega,fun h=>by simp[rU];omega⟩
theorem No(x y:Nat)(k dd:Int)(r:oC):(Nl dd k≠0->rU ⟨4,x,y,k⟩ dd r=(1+x,dd))/\(Nl dd k=0->rU ⟨4,x,y,k⟩ dd r=(1+y,dd)):=
 ⟨fun h=>by simp[rU,h],fun h=>by simp[rU,h]⟩
theorem PJ(i:dB)(dd:Int)(r:oC):1<=(rU i dd r).1:=by
 unfold rU;repeat' split
 all_goals simp
def gk(p:List dB)(r:oC)(a:Nat)(dd:Int):Int×Int:=
 if h:a<p.length then
  if p[a].op=6 then(p[a].k,1)
  else((gk p r (a+(rU p[a] dd r).1) (rU p[a] dd r).2).1,(gk p r (a+(rU p[a] dd r).1) (rU p[a] dd r).2).2+1)
 else(0,0)
 termination_by p.length-a
 decreasing_by
 all_goals
  have:=PJ p[a] dd r;omega
theorem kD{p:List dB}{r:oC}{a:Nat}{dd:Int}{i:dB}(h:p[a]? =some i)(ho:i.op=6):gk p r a dd=(i.k,1):=by obtain⟨aC,rfl⟩:=aac.1 h;rw[gk,dif_pos aC,if_pos ho]
theorem e8{p:List dB}{r:oC}{a:Nat}{dd:Int}{i:dB}(h:p[a]? =some i)(ho:i.op≠6){d:Nat}{acc2:Int}(hn:rU i dd r=(d,acc2)):gk p r a dd=((gk p r (a+d) acc2).1,(gk p r (a+d) acc2).2+1):=by obtain⟨aC,rfl⟩:=aac.1 h;rw[gk,dif_pos aC,if_neg ho,hn]
theorem C7(s:Int):∀(l:List dB)(k:Nat),(uA s k l).1=0->∀(j:Nat)i,l[j]? =some i->im i ((k+j:Nat):Int) s=0
 | [],_,_,j,i,h=>by simp at h
 |x::r,k,h,j,i,hi=>by
  simp only[uA]at h;split at h
  .rename_i h0;cases j with
   |zero=>simp at hi;subst hi;simpa using h0
   |succ j=>
    have:=C7 s r (k+1) h j i (by simpa using hi)
    rwa [show k+1+j=k+(j+1) by omega]at this
  .rename_i h0;exact absurd h h0
theorem zg{p:List dB}(h:(jH p).1=0):1<=p.length/\p.length<=400/\(∀(j:Nat)i,p[j]? =some i->im i (j:Int) p.length=0)/\∃i,p[p.length-1]? =some i/\i.op=6:=by
 unfold jH at h;split at h
 .simp at h
 .rename_i hl;split at h
  .rename_i hc;exact absurd h hc
  .rename_i hc;have fl:=C7 p.length p 0 (by simpa using hc)
   refine⟨om,om,fun j i hi=>by simpa using fl j i hi,?_⟩
   have aC:p.length-1<p.length:=om;rw[aab aC]at h⊢;simp only at h;split at h
   .rename_i h6;exact⟨_,rfl,h6⟩
   .simp at h
theorem PK{i:dB}{a s:Int}(h:im i a s=0):i.op=1\/i.op=2\/i.op=3\/i.op=4\/i.op=5\/i.op=6:=by
 by_cases ho:i.op<1\/i.op>6
 .have:=SQ i.op i.jt i.jf i.k a s ho;have e:im ⟨i.op,i.jt,i.jf,i.k⟩ a s=im i a s:=rfl;omega
 .omega
theorem JM{p:List dB}(h:(jH p).1=0){a:Nat}{o jt jf k:Int}(hi:p[a]? =some ⟨o,jt,jf,k⟩):
  (o=1/\0<=k/\k<6/\a+1<p.length)\/((o=2\/o=3\/o=4)/\0<=jt/\0<=jf/\a+1+jt.toNat<p.length/\a+1+jf.toNat<p.length/\jt<=40/\jf<=40)\/(o=5/\0<=k/\a+1+k.toNat<p.length)\/(o=6/\(k=0\/k=1)):=by
 obtain⟨h1,h2,h3,i6,h4,h5⟩:=zg h;have he:=h3 a _ hi;have aC:=(aac.1 hi).1;rcases PK he with ho|ho|ho|ho|ho|ho<;>simp only at ho<;>subst ho
 .rw[F4]at he;have eW:a≠p.length-1:=fun e=>by rw[<-e,hi]at h4;cases h4;simp at h5
  split at he
  .simp at he
  .exact .inl ⟨rfl,om,om,om⟩
 .rw[s8 _ _ _ _ _ _ om]at he;split at he
  .simp at he
  .exact .inr (.inl ⟨om,om,om,om,om,om,om⟩)
 .rw[s8 _ _ _ _ _ _ om]at he;split at he
  .simp at he
  .exact .inr (.inl ⟨om,om,om,om,om,om,om⟩)
 .rw[s8 _ _ _ _ _ _ om]at he;split at he
  .simp at he
  .exact .inr (.inl ⟨om,om,om,om,om,om,om⟩)
 .rw[Nk _ _ _ _ _ om]at he;split at he
  .simp at he
  .exact .inr (.inr (.inl ⟨rfl,om,om⟩))
 .rw[wS]at he;split at he
  .simp at he
  .exact .inr (.inr (.inr ⟨rfl,om⟩))
def rI(p:List dB)(r:oC):Int×Int:=if(jH p).1=0 then gk p r 0 0 else(0,0)
theorem l36:bs Tryz.prog Tryz.f36=some c36:=by kernel_rfl
def Re(x:Int×Int):CV:= .bF [cH x.1,cH x.2]
theorem SR{s:Nat}(h:s<9223372036854775807):((s+1:Nat):Int)=IntKind.i64.wrap ((s:Int)+1):=by
 rw[show(s:Int)+1=((s+1:Nat):Int) by omega,jN om]
theorem wT(p:List dB)(r:oC):body Tryz.prog c36 [rH p,r.cv] [] (fun x m=>x=Re (rI p r)):=by
 refine Nj p ?_;refine br (fun h=>?_) (fun h=>?_)
 .have e:rI p r=(0,0):=by rw[rI,if_neg h]
  rw[e];exact rfl
 .have e:rI p r=gk p r 0 0:=by rw[rI,if_pos h]
  rw[e];obtain⟨g1,g2,g3,_⟩:=zg h;refine oc (α:=Nat×Int×Nat) (fun x=>x.1<p.length/\x.2.2<=x.1/\(gk p r x.1 x.2.1).1=(gk p r 0 0).1/\(gk p r x.1 x.2.1).2+x.2.2=(gk p r 0 0).2)
   (fun x=>[(8,an .i64 (x.1:Nat)),(7,an .i64 x.2.1),(5,an .i64 (x.2.2:Nat)),(6,.ap),(9,.ap),(10,.ap),(11,.ap),(12,.ap),(13,.ap),(14,.ap),(15,.ap),(16,.ap),(17,.ap),(18,.ap),(19,.ap),(20,.ap),(21,.ap),(22,.ap),(23,.ap),(24,.ap),(25,.ap),(26,.ap),(27,.ap),(28,.ap),(29,.ap),(30,.ap),(31,.ap),(32,.ap),(33,.ap),(34,.ap),(35,.ap),(36,.ap),(37,.ap),(38,.ap),(39,.ap),(40,.ap),(41,.ap),(42,.ap),(43,.ap),(44,.ap),(45,.ap),(46,.ap),(47,.ap),(48,.ap),(49,.ap),(50,.ap),(51,.ap),(52,.ap),(53,.ap),(54,.ap),(55,.ap),(56,.ap),(57,.ap),(58,.ap),(59,.ap),(60,.ap),(61,.ap),(62,.ap),(63,.ap),(64,.ap),(65,.ap),(66,.ap),(67,.ap),(68,.ap),(69,.ap),(70,.ap),(71,.ap),(72,.ap),(73,.ap),(74,.ap)])
   (fun x=>[.var (r.enc.map .aa)]) (fun x=>p.length-x.1) (0,0,0) ⟨by show 0<p.length;omega,aaj 0,rfl,aG⟩ ?_ (fun x hJ=>?_)
  .refine View.o1 2 [0] [] ?_
   .exact .put (by simp[bq]) rfl (.eq rfl aG) (.nil _)
  .obtain⟨a,dd,s⟩:=x;obtain⟨aC,DJ,Bp,uz⟩:=hJ;have aC:a<p.length:=aC;have DJ:s<=a:=DJ;have Bp:(gk p r a dd).1=(gk p r 0 0).1:=Bp;have uz:(gk p r a dd).2+s=(gk p r 0 0).2:=uz;have hi:=aab aC;generalize p[a]=i at hi;obtain⟨o,jt,jf,k⟩:=i;have hg:cy (p.map dB.enc) (a:Nat)=some [.val (.int .i64 o),.val (.int .i64 jt),.val (.int .i64 jf),.val (.int .i64 k)]:=by rw[bl,aaf,hi];rfl
   have next:∀(d:Nat)(acc2:Int),gk p r a dd=((gk p r (a+d) acc2).1,(gk p r (a+d) acc2).2+1)->(1<=d/\a+d<p.length)->∀{G:Prop},
     (((a+d<p.length)/\s+1<=a+d/\(gk p r (a+d) acc2).1=(gk p r 0 0).1/\(gk p r (a+d) acc2).2+((s+1:Nat):Int)=(gk p r 0 0).2)->(p.length-(a+d)<p.length-a)->G)->G:=by
    intro d acc2 hw hd G hG;refine hG ⟨hd.2,om,?_,?_⟩ om
    .rw[<-Bp,hw]
    .rw[<-uz,hw];simp only;omega
   refine ag hg ?_;rcases JM h hi with⟨rfl,k1,k2,k3⟩|⟨ho,j1,j2,j3,j4,j5,j6⟩|⟨rfl,k1,k2⟩|⟨rfl,k1⟩
   .obtain⟨n,rfl⟩:∃n:Nat,k=n:=⟨k.toNat,om⟩;refine ag (bT om) ?_;refine ag (r.V3 om) ?_;refine next 1 (r.get n) (e8 hi aG (by simp[rU])) om (fun hJ hm=>?_)
    exact⟨(a+1,(r.get n),s+1),hJ,hm,View.o 2 [0] [] (by
     repeat(first|exact .nil|refine .ap ?_|refine .put (.aQ (aq om).symm) ?_|refine .eq rfl ?_|refine .eq (congrArg (fun x=>an .i64 x) ((by rw[jN (n:=a+1) om]:((a+1:Nat):Int)=_))) ?_)) (.put (by simp[bq]) rfl (.eq rfl aG) (.nil _))⟩
   .obtain⟨x,rfl⟩:∃n:Nat,jt=n:=⟨jt.toNat,om⟩;obtain⟨y,rfl⟩:∃n:Nat,jf=n:=⟨jf.toNat,om⟩;have ex:IntKind.i64.wrap ((a:Int)+IntKind.i64.wrap (1+(x:Int)))=((a+(1+x):Nat):Int):=by rw[g9 (n:=1+(x:Int)) om om,g9 om om];omega
    have ey:IntKind.i64.wrap ((a:Int)+IntKind.i64.wrap (1+(y:Int)))=((a+(1+y):Nat):Int):=by rw[g9 (n:=1+(y:Int)) om om,g9 om om];omega
    rcases ho with rfl|rfl|rfl
    .refine bH (fun hy=>?_) (fun hy=>?_)
     .skip
      refine next (1+x) dd (e8 hi aG ((Nm x y k dd r).1 hy)) om (fun hJ hm=>?_)
      exact⟨(a+(1+x),dd,s+1),hJ,hm,View.o 2 [0] [] (by
       repeat(first|exact .nil|refine .ap ?_|refine .put (.aQ (aq om).symm) ?_|refine .eq rfl ?_|refine .eq (congrArg (fun x=>an .i64 x) (ex.symm)) ?_)) (.put (by simp[bq]) rfl (.eq rfl aG) (.nil _))⟩
     .skip
      refine next (1+y) dd (e8 hi aG ((Nm x y k dd r).2 hy)) om (fun hJ hm=>?_)
      exact⟨(a+(1+y),dd,s+1),hJ,hm,View.o 2 [0] [] (by
       repeat(first|exact .nil|refine .ap ?_|refine .put (.aQ (aq om).symm) ?_|refine .eq rfl ?_|refine .eq (congrArg (fun x=>an .i64 x) (ey.symm)) ?_)) (.put (by simp[bq]) rfl (.eq rfl aG) (.nil _))⟩
    .refine aB (fun hy=>?_) (fun hy=>?_)
     .skip
      refine next (1+x) dd (e8 hi aG ((Nn x y k dd r).1 hy)) om (fun hJ hm=>?_)
      exact⟨(a+(1+x),dd,s+1),hJ,hm,View.o 2 [0] [] (by
       repeat(first|exact .nil|refine .ap ?_|refine .put (.aQ (aq om).symm) ?_|refine .eq rfl ?_|refine .eq (congrArg (fun x=>an .i64 x) (ex.symm)) ?_)) (.put (by simp[bq]) rfl (.eq rfl aG) (.nil _))⟩
     .skip
      refine next (1+y) dd (e8 hi aG ((Nn x y k dd r).2 hy)) om (fun hJ hm=>?_)
      exact⟨(a+(1+y),dd,s+1),hJ,hm,View.o 2 [0] [] (by
       repeat(first|exact .nil|refine .ap ?_|refine .put (.aQ (aq om).symm) ?_|refine .eq rfl ?_|refine .eq (congrArg (fun x=>an .i64 x) (ey.symm)) ?_)) (.put (by simp[bq]) rfl (.eq rfl aG) (.nil _))⟩
    .refine br (fun hy=>?_) (fun hy=>?_)
     .skip
      refine next (1+x) dd (e8 hi aG ((No x y k dd r).1 hy)) om (fun hJ hm=>?_)
      exact⟨(a+(1+x),dd,s+1),hJ,hm,View.o 2 [0] [] (by
       repeat(first|exact .nil|refine .ap ?_|refine .put (.aQ (aq om).symm) ?_|refine .eq rfl ?_|refine .eq (congrArg (fun x=>an .i64 x) (ex.symm)) ?_)) (.put (by simp[bq]) rfl (.eq rfl aG) (.nil _))⟩
     .skip
      refine next (1+y) dd (e8 hi aG ((No x y k dd r).2 hy)) om (fun hJ hm=>?_)
      exact⟨(a+(1+y),dd,s+1),hJ,hm,View.o 2 [0] [] (by
       repeat(first|exact .nil|refine .ap ?_|refine .put (.aQ (aq om).symm) ?_|refine .eq rfl ?_|refine .eq (congrArg (fun x=>an .i64 x) (ey.symm)) ?_)) (.put (by simp[bq]) rfl (.eq rfl aG) (.nil _))⟩
   .obtain⟨n,rfl⟩:∃n:Nat,k=n:=⟨k.toNat,om⟩;have ex:IntKind.i64.wrap ((a:Int)+IntKind.i64.wrap (1+(n:Int)))=((a+(1+n):Nat):Int):=by rw[g9 (n:=1+(n:Int)) om om,g9 om om];omega
    refine next (1+n) dd (e8 hi aG (by simp[rU])) om (fun hJ hm=>?_)
    exact⟨(a+(1+n),dd,s+1),hJ,hm,View.o 2 [0] [] (by
     repeat(first|exact .nil|refine .ap ?_|refine .put (.aQ (aq om).symm) ?_|refine .eq rfl ?_|refine .eq (congrArg (fun x=>an .i64 x) (ex.symm)) ?_)) (.put (by simp[bq]) rfl (.eq rfl aG) (.nil _))⟩
   .have hb:gk p r a dd=(k,1):=kD hi rfl;rw[hb]at Bp uz;show CV.bF [cH k,cH (IntKind.i64.wrap ((s:Int)+1))]=_;rw[<-SR (s:=s) om];have e2:gk p r 0 0=(k,((s+1:Nat):Int)):=Prod.ext Bp.symm (by rw[<-uz];simp only;omega)
    rw[e2];rfl
theorem s9(p:List dB)(r:oC){m:Mem}{K:CV->Mem->Prop}(h:K (Re (rI p r)) m):ar Tryz.prog 36 [rH p,r.cv] m K:=
 bm Tryz.func36 l36 rfl (aak rfl) (wT p r) rfl rfl h
end Go.Proofs.YtojhmadmlnfpcaaGreatDoor
