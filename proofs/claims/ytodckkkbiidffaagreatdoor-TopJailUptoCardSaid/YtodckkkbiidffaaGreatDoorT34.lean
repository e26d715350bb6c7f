/- Part 34 of 39: what the law stands on. -/
import Derived.Test.YtodckkkbiidffaaGreatDoorT16
import Derived.Test.YtodckkkbiidffaaGreatDoorT17
import Derived.Test.YtodckkkbiidffaaGreatDoorT32
set_option linter.unusedVariables false
set_option linter.unusedSimpArgs false
set_option linter.unnecessarySimpa false
set_option maxRecDepth 100000
set_option maxHeartbeats 64000000
namespace Go.Proofs.YtodckkkbiidffaaGreatDoor
open Go.AM Go.ChangeShapes Go.WideShapes Go.ChangeAt Go.RowKit
def c40:LF:= ⟨195,[.cell true 4 4],(.seq (.ai [qu 4 (.alloc [(qd 0),(qd 0),(qd 0),.aB])]) (.seq (.seq (.ai [qm 17 1,qu 18 (.aT 17),qf 19 1 18,ql 20 19]) (.block 0 (.seq (.ai [qu 22 (.aH .eql 20 (qi 1)),qm 21 22]) (.cond 21 (.seq (.ai [qm 23 0,qm 24 0,qu 25 (.aT 24),qf 26 0 25,qL 27 3 26,qu 28 (qc 59 [27]),qu 29 (.aT 23),qf 30 0 29,qw (.store 3 30 28)]) (.seq (.bU [qm 31 0,qu 32 (.aT 31),qf 33 0 32,qf 34 2 33,ql 35 34,qm 36 0,qu 37 (.aT 36),qf 38 3 37,ql 39 38,qu 40 (.cr 4 35 39),qf 41 1 40,qw (.store 1 41 (qb true))] [(.cons 0 none (.cons 1 none (.cons 2 none (.cons 3 none (.cons 4 none (.cons 5 none (.cons 6 none (.cons 7 none (.cons 8 none (.cons 9 none (.cons 10 none (.cons 11 (some []) .nil))))))))))))]) (.seq (.ai [qu 42 (.build [(qd 0),(qd 0),(qd 0),.aB] []),qw (.store 4 4 42)]) .ret))) (.seq (.ai [qu 44 (.aH .eql 20 (qi 22)),qm 43 44]) (.cond 43 (.seq (.seq (.bU [qm 45 0,qu 46 (.aT 45),qf 47 0 46,qf 48 2 47,ql 49 48,qm 50 0,qu 51 (.aT 50),qf 52 3 51,ql 53 52,qu 54 (.cr 4 49 53),qf 55 1 54,ql 56 55] [(.cons 0 none (.cons 1 none (.cons 2 none (.cons 3 none (.cons 4 none (.cons 5 none (.cons 6 none (.cons 7 none (.cons 8 none (.cons 9 none (.cons 10 none (.cons 11 none .nil))))))))))))]) (.cond 56 (.seq (.ai [qu 57 (.build [(qd 0),(qd 0),(qd 0),.aB] [(1,1,(qi 1))]),qw (.store 4 4 57)]) .ret) .skip)) (.seq (.ai [qu 58 (.build [(qd 0),(qd 0),(qd 0),.aB] []),qw (.store 4 4 58)]) .ret)) (.seq (.ai [qu 60 (.aH .eql 20 (qi 18)),qm 59 60]) (.cond 59 (.seq (.bU [qm 62 0,qu 63 (.aT 62),qf 64 0 63,qL 65 3 64,qm 66 0,qu 67 (.aT 66),qf 68 3 67,ql 69 68,qu 70 (qc 77 [65,69]),qm 61 70,qu 71 (.ext 61 0),qu 72 (.ext 61 1),qu 73 (.ext 61 2),qu 74 (.ext 61 3),qu 5 (.alloc [.aB,.aB,.aB]),qw (.store 3 5 71),qm 6 72,qm 7 73,qm 8 74] [(.cons 0 none (.cons 1 none (.cons 2 none (.cons 3 none (.cons 4 none (.cons 5 none (.cons 6 none (.cons 7 none (.yU (.cons 8 (some []) (.cons 9 none (.cons 10 none (.cons 11 none (.cons 12 none (.cons 13 none (.cons 14 (some [7,3]) (.cons 15 (some []) (.cons 16 none (.cons 17 none (.cons 18 none .nil))))))))))) (.cons 14 (some [7,3]) (.cons 8 (some []) (.cons 9 none (.cons 10 none (.cons 11 none (.cons 12 none (.cons 13 none (.cons 15 (some []) (.cons 16 none (.cons 17 none (.cons 18 none .nil))))))))))))))))))))]) (.seq (.seq (.ai [qm 75 8,qu 76 (.aH .neq 75 (qi 0))]) (.cond 76 (.seq (.ai [qm 77 8,qu 78 (.build [(qd 0),(qd 0),(qd 0),.aB] [(0,1,77)]),qw (.store 4 4 78)]) .ret) .skip)) (.seq (.ai [qm 79 0,qL 80 3 5,qu 81 (.aT 79),qf 82 0 81,qw (.store 3 82 80)]) (.seq (.ai [qm 83 6,qm 84 7,qu 85 (.build [(qd 0),(qd 0),(qd 0),.aB] [(1,1,83),(2,1,84)]),qw (.store 4 4 85)]) .ret)))) (.seq (.ai [qu 87 (.aH .eql 20 (qi 19)),qm 86 87]) (.cond 86 (.seq (.bU [qm 89 0,qu 90 (.aT 89),qf 91 0 90,qL 92 3 91,qm 93 0,qu 94 (.aT 93),qf 95 3 94,ql 96 95,qm 97 1,qu 98 (.aT 97),qf 99 4 98,ql 100 99,qu 101 (qc 78 [92,96,100]),qm 88 101,qu 102 (.ext 88 0),qu 103 (.ext 88 1),qu 9 (.alloc [.aB,.aB,.aB]),qw (.store 3 9 102),qm 10 103] [(.cons 0 none (.cons 1 none (.cons 2 none (.cons 3 none (.cons 4 none (.cons 5 none (.cons 6 none (.cons 7 none (.cons 8 none (.cons 9 none (.cons 10 none (.cons 11 none (.yU (.cons 12 (some []) (.cons 13 none (.cons 14 none (.cons 15 none (.cons 16 (some [11,7,3]) (.cons 17 (some []) (.cons 18 none .nil))))))) (.cons 16 (some [11,7,3]) (.cons 12 (some []) (.cons 13 none (.cons 14 none (.cons 15 none (.cons 17 (some []) (.cons 18 none .nil))))))))))))))))))))]) (.seq (.seq (.ai [qm 104 10,qu 105 (.aH .eql 104 (qi 0))]) (.cond 105 (.ai [qm 106 0,qL 107 3 9,qu 108 (.aT 106),qf 109 0 108,qw (.store 3 109 107)]) .skip)) (.seq (.ai [qm 110 10,qu 111 (.build [(qd 0),(qd 0),(qd 0),.aB] [(0,1,110)]),qw (.store 4 4 111)]) .ret))) .skip)))))))))) (.seq (.ai [qu 112 (.sV),qw (.wY (.i .i64) 112 (qi 20) (qi 2048)),qw (.wY (.i .i64) 112 (qi 21) (qi 1024)),qm 113 112,qm 114 1,qu 115 (.aT 114),qf 116 1 115,ql 117 116,qu 118 (.E9 (.one (qd 0)) (.i .i64) 113 117 false),qm 11 118]) (.cI (.seq (.ai [qm 120 0,qm 121 1,qu 122 (.aT 121),qf 123 2 122,ql 124 123,qm 125 11,qu 126 (qc 56 [120,124,125]),qm 119 126,qu 127 (.ext 119 0),qu 128 (.ext 119 1),qu 129 (.ext 119 2),qu 12 (.alloc [(qd 0),(qd 0)]),qw (.store 2 12 127),qm 13 128,qm 14 129]) (.seq (.block 1 (.seq (.ai [qm 131 14,qu 132 (.aH .neq 131 (qi 0)),qm 130 132]) (.cond 130 (.seq (.ai [qm 133 14,qu 134 (.build [(qd 0),(qd 0),(qd 0),.aB] [(0,1,133)]),qw (.store 4 4 134)]) .ret) (.seq (.ai [qm 136 0,qu 137 (.aT 136),qf 138 0 137,qf 139 0 138,ql 140 139,qm 141 13,qu 142 (.cr 9 140 141),qf 143 0 142,ql 144 143,qu 145 (.aH .neq 144 (qi 5)),qm 135 145]) (.cond 135 (.seq (.ai [qu 146 (.build [(qd 0),(qd 0),(qd 0),.aB] [(0,1,(qi 8))]),qw (.store 4 4 146)]) .ret) .skip))))) (.seq (.ai [qm 147 0,qu 148 (.aT 147),qf 149 0 148,qf 150 0 149,ql 151 150,qm 152 13,qu 153 (.cr 9 151 152),qf 154 6 153,ql 155 154,qm 15 155]) (.seq (.seq (.ai [qm 156 1,qu 157 (.aT 156),qf 158 1 157,ql 159 158,qu 160 (.aH .eql 159 (qi 21))]) (.cond 160 (.seq (.seq (.ai [qm 161 0,qu 162 (.aT 161),qf 163 0 162,qL 164 3 163,qm 165 15,qu 166 (qc 29 [164,165])]) (.cond 166 (.seq (.ai [qu 167 (.build [(qd 0),(qd 0),(qd 0),.aB] [(0,1,(qi 16))]),qw (.store 4 4 167)]) .ret) .skip)) (.seq (.ai [qm 168 0,qu 169 (.aT 168),qf 170 0 169,qf 171 2 170,ql 172 171,qm 173 15,qu 174 (.cr 4 172 173),qf 175 2 174,ql 176 175,qu 177 (.build [(qd 0),(qd 0),(qd 0),.aB] [(1,1,176)]),qw (.store 4 4 177)]) .ret)) .skip)) (.seq (.ai [qm 179 0,qu 180 (.aT 179),qf 181 0 180,qL 182 3 181,qm 183 15,qu 184 (qc 78 [182,183,(qi 255)]),qm 178 184,qu 185 (.ext 178 0),qu 186 (.ext 178 1),qu 16 (.alloc [.aB,.aB,.aB]),qw (.store 3 16 185),qm 14 186]) (.seq (.seq (.ai [qm 187 14,qu 188 (.aH .eql 187 (qi 0))]) (.cond 188 (.ai [qm 189 0,qL 190 3 16,qu 191 (.aT 189),qf 192 0 191,qw (.store 3 192 190)]) .skip)) (.seq (.ai [qm 193 14,qu 194 (.build [(qd 0),(qd 0),(qd 0),.aB] [(0,1,193)]),qw (.store 4 4 194)]) .ret)))))))))))⟩
namespace Kn
def ji(ps:List bj)(p:Nat):Bool:=match ps[p]? with|some x=>x.fenced|none=>false
def ng(ps:List bj)(p:Nat):List bj:=match ps[p]? with|some x=>ps.set p {x with fenced:=true}|none=>ps
def Df(ps:List bj)(z:Int):Int:=match ps[z.toNat]? with|some x=>x.code|none=>0
def kD(k:Kr)(e:Kr×Int):Kr×An:=(if e.2=0 then e.1 else k,An.no e.2)
def se(k:Kr)(f:Kr×Int×Int×Int):Kr×An:=if f.2.2.2≠0 then(k,An.no f.2.2.2)else(f.1,⟨0,f.2.1,f.2.2.1,[]⟩)
def uK(k:Kr)(c:Cl)(o:Obj):Kr×An:=
 if o.ah≠5 then(k,An.no 8)
 else if c.ah=21 then(if eU k.ps o.aM=true then(k,An.no 16)else(k,⟨0,Df k.ps o.aM,0,[]⟩))
 else kD k (gX k o.aM 255)
def lY(k:Kr)(c:Cl)(w:(Int×Int)×Int×Int):Kr×An:=if w.2.2≠0 then(k,An.no w.2.2)else uK k c (lW k.l w.2.1)
def fp(k:Kr)(p:Nat)(c:Cl):Kr×An:=
 if c.ah=1 then(⟨k.l,k.ops,ng k.ps p⟩,⟨0,0,0,[]⟩)
 else if c.ah=22 then(k,⟨0,if ji k.ps p=true then 1 else 0,0,[]⟩)
 else if c.ah=18 then se k (iS k p)
 else if c.ah=19 then kD k (gX k p c.n)
 else lY k c (bv k p c.fd (if c.ah=20 then 2048 else 1024))
def oJ(x:Int):Prop:=x=1\/x=22\/x=18\/x=19\/x=20\/x=21
theorem l40:bs Tryz.prog Tryz.f40=some c40.er:=by kernel_rfl
def S4:LC:=bH (bH (bH c40.code))
def S5:LC:=ov S4
theorem Dg(k:Kr)(p:Nat)(hw:KW k p)(c:Cl)(need:Int)(hq:∀o,o∈k.l->o.ah=5->∃n:Nat,o.aM=n/\n<k.ps.length):
  aw Tryz.prog 2 S5 (QC c40.jW (lY k c (bv k p c.fd need)).1 p c (lY k c (bv k p c.fd need)).2)
   ⟨kR 195 [(0,.rv (.one (.ptr 0 0))),(1,.rv (.one (.ptr 1 0))),(4,.rv (.one (.ptr 2 0))),(11,an .i64 need)],[xB k p,cB c,bQ]⟩:=by
 refine je k p hw c.fd need 0 rfl ?_;have hh:= @KW.held k p hw c.fd need;generalize bv k p c.fd need=w at hh⊢;obtain⟨⟨o,r⟩,b,e⟩:=w;refine bt (fun he=>?_) (fun he=>?_)
 .have he:e≠0:=he;rw[lY,if_pos he];exact cM (X:=[_,_])
 have he:e=0:=he;subst he;obtain⟨n,j,h1,h2,h3,h4,h5⟩:=hh rfl;have h3:b=j:=h3;subst h3;have e1:lY k c ((o,r),((j:Nat):Int),0)=uK k c k.l[j]:=by rw[lY,if_neg aI,rb h4]
 rw[e1];have OG:=hq _ (Wl h4);have hg:=gI h4;generalize k.l[j]=ob at OG hg⊢;refine ag hg ?_;refine bt (fun h6=>?_) (fun h6=>?_)
 .have h6:ob.ah≠5:=h6;rw[uK,if_pos h6];exact cM (X:=[_,_])
 have h6:ob.ah=5:=h6;rw[uK,if_neg (fun h=>h h6)]
 obtain⟨q,Eo,K2⟩:=OG h6;refine ag hg ?_;refine bA (fun h7=>?_) (fun h7=>?_)
 .have h7:c.ah=21:=h7;rw[if_pos h7];refine mY k.l k.ops k.ps ob.aM ?_;cases hl:eU k.ps ob.aM with
  |true=>
   rw[if_pos rfl];exact cM (X:=[_,_])
  |false=>
   rw[if_neg aI];have hc:Df k.ps ob.aM=k.ps[q].code:=by rw[Df,Eo,Wk,sA K2]
   rw[hc];refine ag (x:=[.val (.bool k.ps[q].a7),.val (.bool k.ps[q].fenced),.val (.int .i64 k.ps[q].code),vp k.ps[q].bd]) (by rw[Eo];exact dM K2) ?_
   exact cM (X:=[_,_])
 .have h7:¬c.ah=21:=h7;rw[if_neg h7];refine xV k hw.kr ob.aM 255 ?_;generalize gX k ob.aM 255=E;obtain⟨k2,e⟩:=E;refine bA (fun he=>?_) (fun he=>?_)
  .have he:e=0:=he;subst he;rw[kD,if_pos rfl];exact cM (X:=[_,_,_])
  .have he:¬e=0:=he;rw[kD,if_neg he];exact cM (X:=[_,_,_])
theorem AH{ps:List bj}{n:Nat}(hn:n<ps.length):aZ (af (ps.map bj.enc)) n ((bj.enc ⟨ps[n].a7,true,ps[n].code,ps[n].bd⟩).map .aa)=af ((ng ps n).map bj.enc):=by
 have:ng ps n=ps.set n {ps[n]with fenced:=true}:=by rw[ng,sA hn]
 rw[this,bg,af,af,aay,aay]
theorem AI(k:Kr)(p:Nat)(hw:KW k p)(c:Cl)(hc:c.ah=1):
  body Tryz.prog c40 [.rv (.one (.ptr 0 0)),.rv (.one (.ptr 1 0))] [xB k p,cB c] (TC ⟨k.l,k.ops,ng k.ps p⟩ p c ⟨0,0,0,[]⟩):=by
 obtain⟨aM,ah,fd,fM,n,bi,aR,bm,data⟩:=c;have hc:ah=1:=hc;subst hc;refine gD k.l k.ops k.ps hw.mz hw.kr.lo hw.kr.lp hw.kr.sl hw.kr.ne ?_;refine ag (kM hw.hp) ?_;refine ag (bC bj.enc k.ps hw.hp) ?_;refine⟨trivial,_,_,View.o 6 [0,1] [3,4,5] (.put JY .nil) (.pt rfl rfl (PC (k:=⟨k.l,k.ops,ng k.ps p⟩) (gq rfl rfl) (gq rfl rfl) (gq rfl (congrArg (fun x=>some (Bk.row 4 x)) (AH hw.hp)))) (.pt rfl rfl (.eq rfl (ct _)) (.nil _))),rfl,rfl⟩
theorem Dh(k:Kr)(p:Nat)(hw:KW k p)(c:Cl)(hc:c.ah=22):
  body Tryz.prog c40 [.rv (.one (.ptr 0 0)),.rv (.one (.ptr 1 0))] [xB k p,cB c] (TC k p c ⟨0,if ji k.ps p=true then 1 else 0,0,[]⟩):=by
 obtain⟨aM,ah,fd,fM,n,bi,aR,bm,data⟩:=c;have hc:ah=22:=hc;subst hc;have hp:=hw.hp;have hf:ji k.ps p=k.ps[p].fenced:=by rw[ji,sA hp]
 rw[hf];refine ag (dM hp) ?_;cases k.ps[p].fenced with
 |true=>exact cM (X:=[_])
 |false=>exact cM (X:=[_])
theorem Di(k:Kr)(p:Nat)(hw:KW k p)(c:Cl)(hc:c.ah=18):
  body Tryz.prog c40 [.rv (.one (.ptr 0 0)),.rv (.one (.ptr 1 0))] [xB k p,cB c] (TC (se k (iS k p)).1 p c (se k (iS k p)).2):=by
 obtain⟨aM,ah,fd,fM,n,bi,aR,bm,data⟩:=c;have hc:ah=18:=hc;subst hc;have S6:k.l.length<=4194303:=by have:=hw.l40;omega
 refine⟨?_,?_⟩
 .refine EG k hw.kr S6 p ?_;generalize iS k p=F;obtain⟨k2,ch,fd,e⟩:=F;refine⟨trivial,⟨rfl,rfl,trivial⟩,trivial,?_⟩;refine bt (fun he=>?_) (fun he=>?_)
  .have he:e≠0:=he;rw[se,if_pos he];exact cM (X:=[_,_])
  .have he:¬e≠0:=fun h=>h he
   rw[se,if_neg he];exact cM (k:=k2) (X:=[_,_])
 .refine⟨⟨rfl,rfl,trivial⟩,?_⟩;refine EG k hw.kr S6 p ?_;generalize iS k p=F;obtain⟨k2,ch,fd,e⟩:=F;refine⟨trivial,trivial,?_⟩;refine bt (fun he=>?_) (fun he=>?_)
  .have he:e≠0:=he;rw[se,if_pos he];exact cM (X:=[_,_])
  .have he:¬e≠0:=fun h=>h he
   rw[se,if_neg he];exact cM (k:=k2) (X:=[_,_])
theorem Dj(k:Kr)(p:Nat)(hw:KW k p)(c:Cl)(hc:c.ah=19):
  body Tryz.prog c40 [.rv (.one (.ptr 0 0)),.rv (.one (.ptr 1 0))] [xB k p,cB c] (TC (kD k (gX k p c.n)).1 p c (kD k (gX k p c.n)).2):=by
 obtain⟨aM,ah,fd,fM,n,bi,aR,bm,data⟩:=c;have hc:ah=19:=hc;subst hc;show body Tryz.prog c40 _ _ (TC (kD k (gX k p n)).1 p _ (kD k (gX k p n)).2);refine⟨?_,?_⟩
 .refine xV k hw.kr p n ?_;generalize gX k p n=F;obtain⟨k2,e⟩:=F;refine⟨trivial,⟨rfl,rfl,rfl,trivial⟩,trivial,?_⟩;refine bA (fun he=>?_) (fun he=>?_)
  .have he:e=0:=he;rw[kD,if_pos he];exact cM (k:=k2) (X:=[_,_])
  .have he:¬e=0:=he;rw[kD,if_neg he];exact cM (X:=[_,_])
 .refine⟨⟨rfl,rfl,rfl,trivial⟩,?_⟩;refine xV k hw.kr p n ?_;generalize gX k p n=F;obtain⟨k2,e⟩:=F;refine⟨trivial,trivial,?_⟩;refine bA (fun he=>?_) (fun he=>?_)
  .have he:e=0:=he;rw[kD,if_pos he];exact cM (k:=k2) (X:=[_,_])
  .have he:¬e=0:=he;rw[kD,if_neg he];exact cM (X:=[_,_])
theorem uL(k:Kr)(p:Nat)(hw:KW k p)(c:Cl)(hc:c.ah=20\/c.ah=21)(hq:∀o,o∈k.l->o.ah=5->∃n:Nat,o.aM=n/\n<k.ps.length):
  body Tryz.prog c40 [.rv (.one (.ptr 0 0)),.rv (.one (.ptr 1 0))] [xB k p,cB c] (TC (lY k c (bv k p c.fd (if c.ah=20 then 2048 else 1024))).1 p c (lY k c (bv k p c.fd (if c.ah=20 then 2048 else 1024))).2):=by
 have hs:=fun need=>Dg k p hw c need hq
 obtain⟨aM,ah,fd,fM,n,bi,aR,bm,data⟩:=c;rcases hc with hc|hc
 .have hc:ah=20:=hc;subst hc;refine⟨_,View.o1 4 [0,1,2] [] ?_,hs 2048⟩
  .exact .pt rfl rfl (.eq rfl (bx _ _)) (.pt rfl rfl (.eq rfl (ct _)) (.pt rfl rfl (.eq rfl (by simp[bQ])) (.nil _)))
 .have hc:ah=21:=hc;subst hc;refine⟨_,View.o1 4 [0,1,2] [] ?_,hs 1024⟩
  .exact .pt rfl rfl (.eq rfl (bx _ _)) (.pt rfl rfl (.eq rfl (ct _)) (.pt rfl rfl (.eq rfl (by simp[bQ])) (.nil _)))
theorem iq(k:Kr)(p:Nat)(hw:KW k p)(c:Cl)(hc:oJ c.ah)(hq:∀o,o∈k.l->o.ah=5->∃n:Nat,o.aM=n/\n<k.ps.length):
  aq Tryz.prog 40 [.rv (.one (.ptr 0 0)),.rv (.one (.ptr 1 0))] [xB k p,cB c] (TC (fp k p c).1 p c (fp k p c).2):=by
 refine ce Tryz.func40 l40 ?_;rcases hc with hc|hc|hc|hc|hc|hc
 .rw[fp,if_pos hc];exact AI k p hw c hc
 .rw[fp,if_neg om,if_pos hc];exact Dh k p hw c hc
 .rw[fp,if_neg om,if_neg om,if_pos hc];exact Di k p hw c hc
 .rw[fp,if_neg om,if_neg om,if_neg om,if_pos hc];exact Dj k p hw c hc
 .rw[fp,if_neg om,if_neg om,if_neg om,if_neg om];exact uL k p hw c (.inl hc) hq
 .rw[fp,if_neg om,if_neg om,if_neg om,if_neg om];exact uL k p hw c (.inr hc) hq
end Kn
def c95:LF:= ⟨74,[.tmp 6],(.seq (.ai [qu 3 (.box 0),qu 6 (.aF (qi 0))]) (.seq (.seq (.ai [qf 7 0 3,ql 8 7]) (.block 0 (.seq (.ai [qu 10 (.aH .eql 8 (qi 1)),qm 9 10]) (.cond 9 (.seq (.ai [qf 11 3 3,ql 12 11,qu 13 (.aH .lss 12 (qi 0)),qm 14 13,qg 15 (.bX 3 3) 14 false,qg 16 (.load false 1 15) 14 false,qg 17 (.aH .geq 16 (qi 6)) 14 false,qu 18 (.pick 14 (qb true) 17)]) (.cond 18 (.seq (.ai [qu 6 (.aF (qi 3))]) .ret) .skip)) (.seq (.seq (.ai [qu 20 (.aH .eql 8 (qi 2)),qm 19 20]) (.cond 19 .skip (.seq (.ai [qu 21 (.aH .eql 8 (qi 3)),qm 19 21]) (.cond 19 .skip (.ai [qu 22 (.aH .eql 8 (qi 4)),qm 19 22]))))) (.cond 19 (.seq (.seq (.ai [qf 23 3 3,ql 24 23,qu 25 (.aH .lss 24 (qi 0)),qm 26 25,qg 27 (.bX 3 3) 26 false,qg 28 (.load false 1 27) 26 false,qg 29 (.aH .geq 28 (qi 2147483648)) 26 false,qu 30 (.pick 26 (qb true) 29),qm 31 30,qg 32 (.aF 1) 31 false,qg 33 (.bX 1 3) 31 false,qg 34 (.load false 1 33) 31 false,qg 35 (.aF 2) 31 false,qg 36 (qc 127 [32,34,(qi 40),35]) 31 false,qg 37 (.un .not 36) 31 false,qu 38 (.pick 31 (qb true) 37),qm 39 38,qg 40 (.aF 1) 39 false,qg 41 (.bX 2 3) 39 false,qg 42 (.load false 1 41) 39 false,qg 43 (.aF 2) 39 false,qg 44 (qc 127 [40,42,(qi 40),43]) 39 false,qg 45 (.un .not 44) 39 false,qu 46 (.pick 39 (qb true) 45)]) (.cond 46 (.seq (.ai [qu 6 (.aF (qi 3))]) .ret) .skip)) (.seq (.ai [qu 6 (.aF (qi 0))]) .ret)) (.seq (.ai [qu 48 (.aH .eql 8 (qi 5)),qm 47 48]) (.cond 47 (.seq (.ai [qm 49 1,qf 50 3 3,ql 51 50,qm 52 2,qm 53 2,qu 54 (qc 127 [49,51,52,53]),qu 55 (.un .not 54)]) (.cond 55 (.seq (.ai [qu 6 (.aF (qi 3))]) .ret) .skip)) (.seq (.ai [qu 57 (.aH .eql 8 (qi 6)),qm 56 57]) (.cond 56 (.seq (.ai [qf 58 3 3,ql 59 58,qu 60 (.aH .neq 59 (qi 1)),qm 61 60,qg 62 (.bX 3 3) 61 true,qg 63 (.load false 1 62) 61 true,qg 64 (.aH .neq 63 (qi 0)) 61 true,qu 65 (.pick 61 64 (qb false))]) (.cond 65 (.seq (.ai [qu 6 (.aF (qi 3))]) .ret) .skip)) (.seq (.ai [qu 6 (.aF (qi 1))]) .ret))))))))))) (.seq (.seq (.ai [qf 66 1 3,ql 67 66,qu 68 (.aH .neq 67 (qi 0)),qm 69 68,qg 70 (.bX 2 3) 69 false,qg 71 (.load false 1 70) 69 false,qg 72 (.aH .neq 71 (qi 0)) 69 false,qu 73 (.pick 69 (qb true) 72)]) (.cond 73 (.seq (.ai [qu 6 (.aF (qi 2))]) .ret) .skip)) (.seq (.ai [qu 6 (.aF (qi 0))]) .ret))))⟩
def c127:LF:= ⟨24,[.tmp 8],(.seq (.ai [qu 8 (.aF (qb false))]) (.seq (.ai [qm 9 1,qu 10 (.aH .geq 9 (qi 0)),qm 11 10,qg 12 (.aF 1) 11 true,qg 13 (.aF 2) 11 true,qg 14 (.aH .leq 12 13) 11 true,qu 15 (.pick 11 14 (qb false)),qm 16 15,qg 17 (.aF 0) 16 true,qg 18 (.aH .add 17 (qi 1)) 16 true,qg 19 (.aF 1) 16 true,qg 20 (.aH .add 18 19) 16 true,qg 21 (.aF 3) 16 true,qg 22 (.aH .lss 20 21) 16 true,qu 23 (.pick 16 22 (qb false)),qm 8 23]) .ret))⟩
structure dS where
 op:Int
 jt:Int
 jf:Int
 k:Int
 deriving DecidableEq
def dS.enc(i:dS):List Dt:=[.val (.int .i64 i.op),.val (.int .i64 i.jt),.val (.int .i64 i.jf),.val (.int .i64 i.k)]
def dS.cv(i:dS):CV:= .rv (.agg (i.enc.map .aa))
def S7(l:List dS):Dt:= .sl 4 (l.map dS.enc)
def pT(l:List dS):CV:= .rv (.one (.aa (S7 l)))
def yv(f:Int×Int):CV:= .rv (.agg [.aa (.val (.int .i64 f.1)),.aa (.val (.int .i64 f.2))])
def mt(a n uM s:Int):Bool:=decide (n>=0)&&decide (n<=uM)&&decide (a+1+n<s)
theorem l127:bs Tryz.prog Tryz.f127=some c127:=by kernel_rfl
theorem GO(a n uM s:Int)(ha:0<=a)(Qt:a<=4194304)(hm:uM<=4194304):body Tryz.prog c127 [an .i64 a,an .i64 n,an .i64 uM,an .i64 s] [] (fun r m=>r=ay (mt a n uM s)):=by
 refine aD (fun h=>?_) (fun h=>?_)
 .refine aD (fun h2=>?_) (fun h2=>?_)
  .have e1:n>=0:=of_decide_eq_true h;have e2:n<=uM:=of_decide_eq_true h2;show ay _=ay _;rw[mt,h,h2,gk (n:=a+1) om om,gk om om];rfl
  .show ay _=ay _;rw[mt,h,h2];rfl
 .show ay _=ay _;rw[mt,h];rfl
theorem Mt(a n uM s:Int)(ha:0<=a)(Qt:a<=4194304)(hm:uM<=4194304){m:Mem}{K:CV->Mem->Prop}(h:K (ay (mt a n uM s)) m):aq Tryz.prog 127 [an .i64 a,an .i64 n,an .i64 uM,an .i64 s] m K:=
 bu Tryz.func127 l127 rfl (V5 rfl) (GO a n uM s ha Qt hm) rfl rfl h
def uN(i:dS):Int:=if(i.jt !=0)||(i.jf !=0)then 2 else 0
def gw(i:dS)(a s:Int):Int:=
 if(i.op==1)then(if(decide (i.k<0)||decide (i.k>=6))then 3 else uN i)
 else if(i.op==2)||(i.op==3)||(i.op==4)then(if(decide (i.k<0)||decide (i.k>=2147483648)|| !mt a i.jt 40 s|| !mt a i.jf 40 s)then 3 else 0)
 else if(i.op==5)then(if !mt a i.k s s then 3 else uN i)
 else if(i.op==6)then(if(i.k !=1)&&(i.k !=0)then 3 else uN i)
 else 1
theorem l95:bs Tryz.prog Tryz.f95=some c95:=by kernel_rfl
theorem Dk(i:dS)(a s:Int)(ha:0<=a)(Qt:a<=4194304)(hs:s<=4194304):body Tryz.prog c95 [i.cv,an .i64 a,an .i64 s] [] (fun r m=>r=an .i64 (gw i a s)):=by
 repeat' (first
  |(refine aD (fun h=>?_) (fun h=>?_))
  |(refine Mt _ _ _ _ ha Qt om ?_))
 all_goals(show an .i64 _=an .i64 _;refine congrArg _ ?_;simp only[gw,uN, *];try(first|rfl|simp[*]))
theorem Kb(i:dS)(a s:Int)(ha:0<=a)(Qt:a<=4194304)(hs:s<=4194304){m:Mem}{K:CV->Mem->Prop}(h:K (an .i64 (gw i a s)) m):aq Tryz.prog 95 [i.cv,an .i64 a,an .i64 s] m K:=
 bu Tryz.func95 l95 rfl (V5 rfl) (Dk i a s ha Qt hs) rfl rfl h
def c53:LF:= ⟨46,[.cell true 2 2],(.seq (.ai [qu 2 (.alloc [(qd 0),(qd 0)])]) (.seq (.seq (.ai [qm 6 0,qu 7 (.len 1 6),qu 8 (.aH .lss 7 (qi 1)),qm 9 8,qg 10 (.aF 0) 9 false,qg 11 (.len 1 10) 9 false,qg 12 (.aH .gtr 11 (qi 400)) 9 false,qu 13 (.pick 9 (qb true) 12)]) (.cond 13 (.seq (.ai [qu 14 (.build [(qd 0),(qd 0)] [(0,1,(qi 5))]),qw (.store 2 2 14)]) .ret) .skip)) (.seq (.seq (.ai [qm 15 0,qu 16 (.len 1 15),qu 17 (.aF (qi 0))]) (.block 0 (.loop (.seq (.ai [qu 18 (.aH .lss 17 16)]) (.seq (.cond 18 .skip (.exit 0)) (.seq (.block 1 (.seq (.ai [qm 19 17,qu 20 (.cr 4 15 17),qL 21 4 20,qu 4 (.alloc [(qd 0),(qd 0),(qd 0),(qd 0)]),qm 3 19,qw (.store 4 4 21)]) (.seq (.ai [qL 22 4 4,qm 23 3,qm 24 0,qu 25 (.len 1 24),qu 26 (qc 95 [22,23,25]),qm 5 26]) (.seq (.ai [qm 27 5,qu 28 (.aH .neq 27 (qi 0))]) (.cond 28 (.seq (.ai [qm 29 5,qm 30 3,qu 31 (.build [(qd 0),(qd 0)] [(0,1,29),(1,1,30)]),qw (.store 2 2 31)]) .ret) .skip))))) (.ai [qu 32 (.aH .add 17 (qi 1)),qm 17 32]))))))) (.seq (.seq (.ai [qm 33 0,qm 34 0,qu 35 (.len 1 34),qu 36 (.aH .sub 35 (qi 1)),qu 37 (.cr 4 33 36),qf 38 0 37,ql 39 38,qu 40 (.aH .neq 39 (qi 6))]) (.cond 40 (.seq (.ai [qm 41 0,qu 42 (.len 1 41),qu 43 (.aH .sub 42 (qi 1)),qu 44 (.build [(qd 0),(qd 0)] [(0,1,(qi 2)),(1,1,43)]),qw (.store 2 2 44)]) .ret) .skip)) (.seq (.ai [qu 45 (.build [(qd 0),(qd 0)] []),qw (.store 2 2 45)]) .ret)))))⟩
def sC(s:Int):Nat->List dS->Int×Int
 |_,[]=>(0,0)
 |k,i::r=>if gw i (k:Int) s=0 then sC s (k+1) r else(gw i (k:Int) s,(k:Int))
theorem EU(s:Int):∀(l:List dS)(k:Nat),(∀(j:Nat)i,l[j]? =some i->gw i ((k+j:Nat):Int) s=0)->sC s k l=(0,0)
 | [],_,_=>rfl
 |i::r,k,h=>by
  rw[sC,if_pos (by simpa using h 0 i rfl)]
  exact EU s r (k+1) fun j x hx=>by
   have:=h (j+1) x (by simpa using hx)
   rwa [show k+(j+1)=k+1+j by omega]at this
theorem AJ(s:Int):∀(l:List dS)(k j:Nat)(i:dS),l[j]? =some i->(∀(j':Nat)i,j'<j->l[j']? =some i->gw i ((k+j':Nat):Int) s=0)->gw i ((k+j:Nat):Int) s≠0->sC s k l=(gw i ((k+j:Nat):Int) s,((k+j:Nat):Int))
 | [],_,j,i,h,_,_=>by simp at h
 |x::r,k,0,i,h,_,hb=>by
  simp at h;subst h;rw[sC,if_neg (by simpa using hb)];rfl
 |x::r,k,j+1,i,h,hg,hb=>by
  rw[sC,if_pos (by simpa using hg 0 x om rfl)]
  rw[show k+(j+1)=k+1+j by omega]at hb⊢
  exact AJ s r (k+1) j i (by simpa using h) (fun j' y hj hy=>by
   have:=hg (j'+1) y om (by simpa using hy)
   rwa [show k+(j'+1)=k+1+j' by omega]at this) hb
def kP(p:List dS):Int×Int:=
 if p.length<1\/p.length>400 then(5,0)
 else if(sC p.length 0 p).1≠0 then sC p.length 0 p
 else match p[p.length-1]? with
  |some i=>if i.op=6 then(0,0)else(2,((p.length-1:Nat):Int))
  |none=>(0,0)
theorem l53:bs Tryz.prog Tryz.f53=some c53:=by kernel_rfl
theorem Dl(p:List dS):body Tryz.prog c53 [pT p] [] (fun r m=>r=yv (kP p)):=by
 refine aD (fun h=>?_) (fun h0=>?_)
 .have h:p.length<1:=by have h:(((p.map dS.enc).length:Nat):Int)<1:=of_decide_eq_true h;rw[KB]at h;omega
  rw[kP,if_pos (.inl h)];exact rfl
 .refine aD (fun h=>?_) (fun h1=>?_)
  .have h:p.length>400:=by have h:(((p.map dS.enc).length:Nat):Int)>400:=of_decide_eq_true h;simp at h;omega
   rw[kP,if_pos (.inr h)];exact rfl
  .have h0:¬p.length<1:=by have h:¬(((p.map dS.enc).length:Nat):Int)<1:=of_decide_eq_false h0;rw[KB]at h;omega
   have h1:¬p.length>400:=by have h:¬(((p.map dS.enc).length:Nat):Int)>400:=of_decide_eq_false h1;rw[KB]at h;omega
   have hc:kP p=if(sC p.length 0 p).1≠0 then sC p.length 0 p else match p[p.length-1]? with
     |some i=>if i.op=6 then(0,0)else(2,((p.length-1:Nat):Int))
     |none=>(0,0):=by rw[kP,if_neg om]
   refine tN (fun k=>k<=p.length/\∀(j:Nat)i,j<k->p[j]? =some i->gw i (j:Int) p.length=0) (fun k=>[(17,an .i64 (k:Nat)),(3,.ar),(4,.ar),(5,.ar),(18,.ar),(19,.ar),(20,.ar),(21,.ar),(22,.ar),(23,.ar),(24,.ar),(25,.ar),(26,.ar),(27,.ar),(28,.ar),(32,.ar)])
    (fun k=>[.var [.aa (.val (.int .i64 0)),.aa (.val (.int .i64 0))]]) (fun k=>p.length-k) 0 ⟨Wi _,fun j i h=>absurd h (aah j)⟩ ?_ (fun k hk=>?_)
   .refine View.o1 1 [0] [] ?_
    .exact .put (by simp[bz]) rfl (.eq rfl aI) (.nil _)
   .refine aD (fun h=>?_) (fun h=>?_)
    .have aE:k<p.length:=by have h:(k:Int)<((p.map dS.enc).length:Int):=of_decide_eq_true h;rw[KB]at h;omega
     have hg:dg (p.map dS.enc) (k:Nat)=some (p[k].enc):=by rw[bI,NO,sA aE];rfl
     have hlen:(((p.map dS.enc).length:Nat):Int)=(p.length:Int):=by rw[KB]
     refine ag hg ?_;have rL:∀{m:Mem}{K:CV->Mem->Prop},K (an .i64 (gw p[k] k p.length)) m->aq Tryz.prog 95 [p[k].cv,an .i64 k,an .i64 (((p.map dS.enc).length:Nat):Int)] m K:=by intro m K h;rw[hlen];exact Kb _ _ _ om om om h
     refine rL ?_;refine aD (fun h3=>?_) (fun h3=>?_)
     .have h3:gw p[k] k p.length≠0:=by simpa using h3
      have:=AJ p.length p 0 k p[k] (sA aE) (fun j i hj hi=>by simpa using hk.2 j i hj hi) (by simpa using h3)
      rw[aai]at this;rw[hc,this,if_pos h3];exact rfl
     .have h3:gw p[k] k p.length=0:=by simpa using h3
      refine⟨k+1,⟨aE,fun j i hj hi=>?_⟩,?_,View.o 2 [0] [] ?_ ?_⟩
      .rcases Wj j k with h5|h5
       .exact hk.2 j i h5 hi
       .have:j=k:=om;subst this;rw[sA aE]at hi;cases hi;exact h3
      .show p.length-(k+1)<p.length-k;omega
      .repeat(first|exact .nil|refine .ar ?_|refine .put (.aQ (aL om).symm) ?_|refine .eq rfl ?_)
      .exact .put (by simp[bz]) rfl (.eq rfl aI) (.nil _)
    .have eu:¬(k:Int)<((p.map dS.enc).length:Int):=of_decide_eq_false h;rw[KB]at eu;have fm:=EU p.length p 0 fun j i hi=>by have:=(Gf.1 hi).1;simpa using hk.2 j i om hi
     rw[hc,fm,if_neg aI];have mc:p.length-1<p.length:=om;rw[sA mc];have hw:IntKind.i64.wrap ((((p.map dS.enc).length:Nat):Int)-1)=((p.length-1:Nat):Int):=by rw[KB,gk om om];omega
     have hg:dg (p.map dS.enc) (IntKind.i64.wrap ((((p.map dS.enc).length:Nat):Int)-1))=some (p[p.length-1].enc):=by rw[hw,bI,NO,sA mc];rfl
     refine ag hg ?_;refine aD (fun h3=>?_) (fun h3=>?_)
     .have h3:p[p.length-1].op≠6:=by simpa using h3
      show yv (2,IntKind.i64.wrap ((((p.map dS.enc).length:Nat):Int)-1))=_;rw[hw];simp only;rw[if_neg h3]
     .have h3:p[p.length-1].op=6:=by simpa using h3
      simp only;rw[if_pos h3];exact rfl
theorem Kc(p:List dS){m:Mem}{K:CV->Mem->Prop}(h:K (yv (kP p)) m):aq Tryz.prog 53 [pT p] m K:=
 bu Tryz.func53 l53 rfl (V5 rfl) (Dl p) rfl rfl h
theorem PF(jt jf k a s:Int):gw ⟨1,jt,jf,k⟩ a s=if k<0\/k>=6 then 3 else if jt≠0\/jf≠0 then 2 else 0:=by simp[gw,uN,<-Bool.decide_or]
theorem Dm(o jt jf k a s:Int)(ho:o=2\/o=3\/o=4):gw ⟨o,jt,jf,k⟩ a s=if k<0\/k>=2147483648\/jt<0\/jf<0\/jt>40\/jf>40\/jt>s-a-2\/jf>s-a-2 then 3 else 0:=by
 have h1:(o==1)=false:=by rcases ho with rfl|rfl|rfl<;>rfl
 have h2:((o==2)||(o==3)||(o==4))=true:=by rcases ho with rfl|rfl|rfl<;>rfl
 simp only[gw,h1,h2,aaV,if_false,if_true];by_cases hc:k<0\/k>=2147483648\/jt<0\/jf<0\/jt>40\/jf>40\/jt>s-a-2\/jf>s-a-2
 .rw[if_pos hc,if_pos];simp only[mt,aaX,aaT,abS,decide_eq_true_eq,decide_eq_false_iff_not];omega
 .rw[if_neg hc,if_neg];simp only[mt,aaX,aaT,abS,decide_eq_true_eq,decide_eq_false_iff_not];omega
theorem PG(jt jf k a s:Int)(ha:0<=a):gw ⟨5,jt,jf,k⟩ a s=if k<0\/k>s-a-2 then 3 else if jt≠0\/jf≠0 then 2 else 0:=by
 have e:(!mt a k s s)=decide (k<0\/k>s-a-2):=by rw[acd];simp only[mt,aaT,abS,decide_eq_true_eq,decide_eq_false_iff_not];omega
 simp[gw,e,uN,<-Bool.decide_or]
theorem PH(jt jf k a s:Int):gw ⟨6,jt,jf,k⟩ a s=if k≠0/\k≠1 then 3 else if jt≠0\/jf≠0 then 2 else 0:=by simp[gw,uN,<-Bool.decide_or,<-Bool.decide_and];simp only[and_comm]
theorem PI(o jt jf k a s:Int)(ho:o<1\/o>6):gw ⟨o,jt,jf,k⟩ a s=1:=by
 have h:∀c:Int,1<=c->c<=6->(o==c)=false:=fun c h1 h2=>by rw[beq_eq_false_iff_ne];omega
 simp[gw,h 1 om om,h 2 om om,h 3 om om,h 4 om om,h 5 om om,h 6 om om]
def c30:LF:= ⟨75,[.tmp 4,.tmp 5],(.seq (.ai [qu 3 (.box 1),qu 4 (.aF (qi 0)),qu 5 (.aF (qi 0))]) (.seq (.seq (.ai [qm 11 0,qu 12 (qc 53 [11]),qu 6 (.alloc [(qd 0),(qd 0)]),qw (.store 2 6 12)]) (.seq (.ai [qf 13 0 6,ql 14 13,qu 15 (.aH .neq 14 (qi 0))]) (.cond 15 (.seq (.ai [qu 4 (.aF (qi 0)),qu 5 (.aF (qi 0))]) .ret) .skip))) (.seq (.ai [qu 7 (.aF (qi 0))]) (.seq (.ai [qu 8 (.aF (qi 0))]) (.block 0 (.loop (.seq (.block 1 (.seq (.ai [qm 18 0,qm 19 8,qu 20 (.cr 4 18 19),qL 21 4 20,qu 9 (.alloc [(qd 0),(qd 0),(qd 0),(qd 0)]),qw (.store 4 9 21)]) (.seq (.ai [qu 10 (.aF (qb false))]) (.seq (.seq (.ai [qf 22 0 9,ql 23 22]) (.block 2 (.seq (.ai [qu 25 (.aH .eql 23 (qi 1)),qm 24 25]) (.cond 24 (.seq (.ai [qf 26 3 9,ql 27 26,qu 28 (.yS 6 1 3 27),ql 29 28,qm 7 29]) (.seq (.ai [qm 30 8,qu 31 (.aH .add 30 (qi 1)),qm 8 31]) (.exit 1))) (.seq (.ai [qu 33 (.aH .eql 23 (qi 5)),qm 32 33]) (.cond 32 (.seq (.ai [qm 34 8,qf 35 3 9,ql 36 35,qu 37 (.aH .add (qi 1) 36),qu 38 (.aH .add 34 37),qm 8 38]) (.exit 1)) (.seq (.ai [qu 40 (.aH .eql 23 (qi 6)),qm 39 40]) (.cond 39 (.seq (.ai [qf 41 3 9,ql 42 41,qm 43 5,qu 44 (.aH .add 43 (qi 1)),qm 4 42,qm 5 44]) .ret) (.seq (.ai [qu 46 (.aH .eql 23 (qi 2)),qm 45 46]) (.cond 45 (.ai [qm 47 7,qf 48 3 9,ql 49 48,qu 50 (.aH .eql 47 49),qm 10 50]) (.seq (.ai [qu 52 (.aH .eql 23 (qi 3)),qm 51 52]) (.cond 51 (.ai [qm 53 7,qf 54 3 9,ql 55 54,qu 56 (.aH .geq 53 55),qm 10 56]) (.seq (.ai [qu 58 (.aH .eql 23 (qi 4)),qm 57 58]) (.cond 57 (.ai [qm 59 7,qf 60 3 9,ql 61 60,qu 62 (.aH .and 59 61),qu 63 (.aH .neq 62 (qi 0)),qm 10 63]) .skip)))))))))))))) (.seq (.ai [qm 64 10]) (.cond 64 (.ai [qm 65 8,qf 66 1 9,ql 67 66,qu 68 (.aH .add (qi 1) 67),qu 69 (.aH .add 65 68),qm 8 69]) (.ai [qm 70 8,qf 71 2 9,ql 72 71,qu 73 (.aH .add (qi 1) 72),qu 74 (.aH .add 70 73),qm 8 74]))))))) (.ai [qm 16 5,qu 17 (.aH .add 16 (qi 1)),qm 5 17]))))))))⟩
structure wM where
 r0:Int
 r1:Int
 r2:Int
 r3:Int
 r4:Int
 r5:Int
def wM.enc(r:wM):List Dt:=[.val (.int .i64 r.r0),.val (.int .i64 r.r1),.val (.int .i64 r.r2),.val (.int .i64 r.r3),.val (.int .i64 r.r4),.val (.int .i64 r.r5)]
def wM.cv(r:wM):CV:= .rv (.agg (r.enc.map .aa))
def wM.get(r:wM):Nat->Int
 |0=>r.r0
 |1=>r.r1
 |2=>r.r2
 |3=>r.r3
 |4=>r.r4
 |_=>r.r5
theorem wM.WZ(r:wM){k:Nat}(h:k<6):gR (r.enc.map .aa) (0+k*1) 1=some [.aa (.val (.int .i64 (r.get k)))]:=by
 rw[show 0+k*1=k by omega]
 apply wg
 match k,h with
 |0,_=>rfl
 |1,_=>rfl
 |2,_=>rfl
 |3,_=>rfl
 |4,_=>rfl
 |5,_=>rfl
def PJ(a b:Int):Int:=IntKind.i64.wrap ((BitVec.ofInt 64 a&&&BitVec.ofInt 64 b).toNat:Int)
def ru(i:dS)(d7:Int)(r:wM):Nat×Int:=
 if i.op=1 then(1,r.get i.k.toNat)
 else if i.op=5 then(1+i.k.toNat,d7)
 else if(if i.op=2 then d7==i.k else if i.op=3 then decide (d7>=i.k)else if i.op=4 then PJ d7 i.k !=0 else false)=true then(1+i.jt.toNat,d7)
 else(1+i.jf.toNat,d7)
theorem NZ(x y:Nat)(k d7:Int)(r:wM):(d7=k->ru ⟨2,x,y,k⟩ d7 r=(1+x,d7))/\(d7≠k->ru ⟨2,x,y,k⟩ d7 r=(1+y,d7)):=
 ⟨fun h=>by subst h;simp[ru],fun h=>by simp[ru,h]⟩
theorem N0(x y:Nat)(k d7:Int)(r:wM):(d7>=k->ru ⟨3,x,y,k⟩ d7 r=(1+x,d7))/\(¬d7>=k->ru ⟨3,x,y,k⟩ d7 r=(1+y,d7)):=
 ⟨fun h=>by simp[ru];omega,fun h=>by simp[ru];omega⟩
theorem N1(x y:Nat)(k d7:Int)(r:wM):(PJ d7 k≠0->ru ⟨4,x,y,k⟩ d7 r=(1+x,d7))/\(PJ d7 k=0->ru ⟨4,x,y,k⟩ d7 r=(1+y,d7)):=
 ⟨fun h=>by simp[ru,h],fun h=>by simp[ru,h]⟩
theorem Mu(i:dS)(d7:Int)(r:wM):1<=(ru i d7 r).1:=by
 unfold ru;repeat' split
 all_goals simp
def ir(p:List dS)(r:wM)(a:Nat)(d7:Int):Int×Int:=
 if h:a<p.length then
  if p[a].op=6 then(p[a].k,1)
  else((ir p r (a+(ru p[a] d7 r).1) (ru p[a] d7 r).2).1,(ir p r (a+(ru p[a] d7 r).1) (ru p[a] d7 r).2).2+1)
 else(0,0)
 termination_by p.length-a
 decreasing_by
 all_goals
  have:=Mu p[a] d7 r;omega
theorem GP{p:List dS}{r:wM}{a:Nat}{d7:Int}{i:dS}(h:p[a]? =some i)(ho:i.op=6):ir p r a d7=(i.k,1):=by obtain⟨aE,rfl⟩:=Gf.1 h;rw[ir,dif_pos aE,if_pos ho]
theorem kF{p:List dS}{r:wM}{a:Nat}{d7:Int}{i:dS}(h:p[a]? =some i)(ho:i.op≠6){d:Nat}{yw:Int}(hn:ru i d7 r=(d,yw)):ir p r a d7=((ir p r (a+d) yw).1,(ir p r (a+d) yw).2+1):=by obtain⟨aE,rfl⟩:=Gf.1 h;rw[ir,dif_pos aE,if_neg ho,hn]
theorem AK(s:Int):∀(l:List dS)(k:Nat),(sC s k l).1=0->∀(j:Nat)i,l[j]? =some i->gw i ((k+j:Nat):Int) s=0
 | [],_,_,j,i,h=>by simp at h
 |x::r,k,h,j,i,hi=>by
  simp only[sC]at h;split at h
  .rename_i h0;cases j with
   |zero=>simp at hi;subst hi;simpa using h0
   |succ j=>
    have:=AK s r (k+1) h j i (by simpa using hi)
    rwa [show k+1+j=k+(j+1) by omega]at this
  .rename_i h0;exact absurd h h0
theorem wN{p:List dS}(h:(kP p).1=0):1<=p.length/\p.length<=400/\(∀(j:Nat)i,p[j]? =some i->gw i (j:Int) p.length=0)/\∃i,p[p.length-1]? =some i/\i.op=6:=by
 unfold kP at h;split at h
 .simp at h
 .rename_i hl;split at h
  .rename_i hc;exact absurd h hc
  .rename_i hc;have fm:=AK p.length p 0 (by simpa using hc)
   refine⟨om,om,fun j i hi=>by simpa using fm j i hi,?_⟩
   have aE:p.length-1<p.length:=om;rw[sA aE]at h⊢;simp only at h;split at h
   .rename_i h6;exact⟨_,rfl,h6⟩
   .simp at h
theorem Mv{i:dS}{a s:Int}(h:gw i a s=0):i.op=1\/i.op=2\/i.op=3\/i.op=4\/i.op=5\/i.op=6:=by
 by_cases ho:i.op<1\/i.op>6
 .have:=PI i.op i.jt i.jf i.k a s ho;have e:gw ⟨i.op,i.jt,i.jf,i.k⟩ a s=gw i a s:=rfl;omega
 .omega
theorem GQ{p:List dS}(h:(kP p).1=0){a:Nat}{o jt jf k:Int}(hi:p[a]? =some ⟨o,jt,jf,k⟩):
  (o=1/\0<=k/\k<6/\a+1<p.length)\/((o=2\/o=3\/o=4)/\0<=jt/\0<=jf/\a+1+jt.toNat<p.length/\a+1+jf.toNat<p.length/\jt<=40/\jf<=40)\/(o=5/\0<=k/\a+1+k.toNat<p.length)\/(o=6/\(k=0\/k=1)):=by
 obtain⟨h1,h2,h3,i6,h4,h5⟩:=wN h;have he:=h3 a _ hi;have aE:=(Gf.1 hi).1;rcases Mv he with ho|ho|ho|ho|ho|ho<;>simp only at ho<;>subst ho
 .rw[PF]at he;have eG:a≠p.length-1:=fun e=>by rw[<-e,hi]at h4;cases h4;simp at h5
  split at he
  .simp at he
  .exact .inl ⟨rfl,om,om,om⟩
 .rw[Dm _ _ _ _ _ _ om]at he;split at he
  .simp at he
  .exact .inr (.inl ⟨om,om,om,om,om,om,om⟩)
 .rw[Dm _ _ _ _ _ _ om]at he;split at he
  .simp at he
  .exact .inr (.inl ⟨om,om,om,om,om,om,om⟩)
 .rw[Dm _ _ _ _ _ _ om]at he;split at he
  .simp at he
  .exact .inr (.inl ⟨om,om,om,om,om,om,om⟩)
 .rw[PG _ _ _ _ _ om]at he;split at he
  .simp at he
  .exact .inr (.inr (.inl ⟨rfl,om,om⟩))
 .rw[PH]at he;split at he
  .simp at he
  .exact .inr (.inr (.inr ⟨rfl,om⟩))
def vu(p:List dS)(r:wM):Int×Int:=if(kP p).1=0 then ir p r 0 0 else(0,0)
theorem l30:bs Tryz.prog Tryz.f30=some c30:=by kernel_rfl
def N2(x:Int×Int):CV:= .bF [cC x.1,cC x.2]
theorem PK{s:Nat}(h:s<9223372036854775807):((s+1:Nat):Int)=IntKind.i64.wrap ((s:Int)+1):=by
 rw[show(s:Int)+1=((s+1:Nat):Int) by omega,l9 om]
theorem Ke(p:List dS)(r:wM):body Tryz.prog c30 [pT p,r.cv] [] (fun x m=>x=N2 (vu p r)):=by
 refine Kc p ?_;refine bt (fun h=>?_) (fun h=>?_)
 .have e:vu p r=(0,0):=by rw[vu,if_neg h]
  rw[e];exact rfl
 .have e:vu p r=ir p r 0 0:=by rw[vu,if_pos h]
  rw[e];obtain⟨g1,g2,g3,_⟩:=wN h;refine tN (α:=Nat×Int×Nat) (fun x=>x.1<p.length/\x.2.2<=x.1/\(ir p r x.1 x.2.1).1=(ir p r 0 0).1/\(ir p r x.1 x.2.1).2+x.2.2=(ir p r 0 0).2)
   (fun x=>[(8,an .i64 (x.1:Nat)),(7,an .i64 x.2.1),(5,an .i64 (x.2.2:Nat)),(6,.ar),(9,.ar),(10,.ar),(11,.ar),(12,.ar),(13,.ar),(14,.ar),(15,.ar),(16,.ar),(17,.ar),(18,.ar),(19,.ar),(20,.ar),(21,.ar),(22,.ar),(23,.ar),(24,.ar),(25,.ar),(26,.ar),(27,.ar),(28,.ar),(29,.ar),(30,.ar),(31,.ar),(32,.ar),(33,.ar),(34,.ar),(35,.ar),(36,.ar),(37,.ar),(38,.ar),(39,.ar),(40,.ar),(41,.ar),(42,.ar),(43,.ar),(44,.ar),(45,.ar),(46,.ar),(47,.ar),(48,.ar),(49,.ar),(50,.ar),(51,.ar),(52,.ar),(53,.ar),(54,.ar),(55,.ar),(56,.ar),(57,.ar),(58,.ar),(59,.ar),(60,.ar),(61,.ar),(62,.ar),(63,.ar),(64,.ar),(65,.ar),(66,.ar),(67,.ar),(68,.ar),(69,.ar),(70,.ar),(71,.ar),(72,.ar),(73,.ar),(74,.ar)])
   (fun x=>[.var (r.enc.map .aa)]) (fun x=>p.length-x.1) (0,0,0) ⟨by show 0<p.length;omega,Pq 0,rfl,aI⟩ ?_ (fun x hJ=>?_)
  .refine View.o1 2 [0] [] ?_
   .exact .put (by simp[bz]) rfl (.eq rfl aI) (.nil _)
  .obtain⟨a,d7,s⟩:=x;obtain⟨aE,EE,yQ,sR⟩:=hJ;have aE:a<p.length:=aE;have EE:s<=a:=EE;have yQ:(ir p r a d7).1=(ir p r 0 0).1:=yQ;have sR:(ir p r a d7).2+s=(ir p r 0 0).2:=sR;have hi:=sA aE;generalize p[a]=i at hi;obtain⟨o,jt,jf,k⟩:=i;have hg:dg (p.map dS.enc) (a:Nat)=some [.val (.int .i64 o),.val (.int .i64 jt),.val (.int .i64 jf),.val (.int .i64 k)]:=by rw[bI,NO,hi];rfl
   have next:∀(d:Nat)(yw:Int),ir p r a d7=((ir p r (a+d) yw).1,(ir p r (a+d) yw).2+1)->(1<=d/\a+d<p.length)->∀{G:Prop},
     (((a+d<p.length)/\s+1<=a+d/\(ir p r (a+d) yw).1=(ir p r 0 0).1/\(ir p r (a+d) yw).2+((s+1:Nat):Int)=(ir p r 0 0).2)->(p.length-(a+d)<p.length-a)->G)->G:=by
    intro d yw hw hd G hG;refine hG ⟨hd.2,om,?_,?_⟩ om
    .rw[<-yQ,hw]
    .rw[<-sR,hw];simp only;omega
   refine ag hg ?_;rcases GQ h hi with⟨rfl,k1,k2,k3⟩|⟨ho,j1,j2,j3,j4,j5,j6⟩|⟨rfl,k1,k2⟩|⟨rfl,k1⟩
   .obtain⟨n,rfl⟩:∃n:Nat,k=n:=⟨k.toNat,om⟩;refine ag (bZ om) ?_;refine ag (r.WZ om) ?_;refine next 1 (r.get n) (kF hi aI (by simp[ru])) om (fun hJ hm=>?_)
    exact⟨(a+1,(r.get n),s+1),hJ,hm,View.o 2 [0] [] (by
     repeat(first|exact .nil|refine .ar ?_|refine .put (.aQ (aL om).symm) ?_|refine .eq rfl ?_|refine .eq (congrArg (fun x=>an .i64 x) ((by rw[l9 (n:=a+1) om]:((a+1:Nat):Int)=_))) ?_)) (.put (by simp[bz]) rfl (.eq rfl aI) (.nil _))⟩
   .obtain⟨x,rfl⟩:∃n:Nat,jt=n:=⟨jt.toNat,om⟩;obtain⟨y,rfl⟩:∃n:Nat,jf=n:=⟨jf.toNat,om⟩;have ex:IntKind.i64.wrap ((a:Int)+IntKind.i64.wrap (1+(x:Int)))=((a+(1+x):Nat):Int):=by rw[gk (n:=1+(x:Int)) om om,gk om om];omega
    have ey:IntKind.i64.wrap ((a:Int)+IntKind.i64.wrap (1+(y:Int)))=((a+(1+y):Nat):Int):=by rw[gk (n:=1+(y:Int)) om om,gk om om];omega
    rcases ho with rfl|rfl|rfl
    .refine bA (fun hy=>?_) (fun hy=>?_)
     .skip
      refine next (1+x) d7 (kF hi aI ((NZ x y k d7 r).1 hy)) om (fun hJ hm=>?_)
      exact⟨(a+(1+x),d7,s+1),hJ,hm,View.o 2 [0] [] (by
       repeat(first|exact .nil|refine .ar ?_|refine .put (.aQ (aL om).symm) ?_|refine .eq rfl ?_|refine .eq (congrArg (fun x=>an .i64 x) (ex.symm)) ?_)) (.put (by simp[bz]) rfl (.eq rfl aI) (.nil _))⟩
     .skip
      refine next (1+y) d7 (kF hi aI ((NZ x y k d7 r).2 hy)) om (fun hJ hm=>?_)
      exact⟨(a+(1+y),d7,s+1),hJ,hm,View.o 2 [0] [] (by
       repeat(first|exact .nil|refine .ar ?_|refine .put (.aQ (aL om).symm) ?_|refine .eq rfl ?_|refine .eq (congrArg (fun x=>an .i64 x) (ey.symm)) ?_)) (.put (by simp[bz]) rfl (.eq rfl aI) (.nil _))⟩
    .refine aJ (fun hy=>?_) (fun hy=>?_)
     .skip
      refine next (1+x) d7 (kF hi aI ((N0 x y k d7 r).1 hy)) om (fun hJ hm=>?_)
      exact⟨(a+(1+x),d7,s+1),hJ,hm,View.o 2 [0] [] (by
       repeat(first|exact .nil|refine .ar ?_|refine .put (.aQ (aL om).symm) ?_|refine .eq rfl ?_|refine .eq (congrArg (fun x=>an .i64 x) (ex.symm)) ?_)) (.put (by simp[bz]) rfl (.eq rfl aI) (.nil _))⟩
     .skip
      refine next (1+y) d7 (kF hi aI ((N0 x y k d7 r).2 hy)) om (fun hJ hm=>?_)
      exact⟨(a+(1+y),d7,s+1),hJ,hm,View.o 2 [0] [] (by
       repeat(first|exact .nil|refine .ar ?_|refine .put (.aQ (aL om).symm) ?_|refine .eq rfl ?_|refine .eq (congrArg (fun x=>an .i64 x) (ey.symm)) ?_)) (.put (by simp[bz]) rfl (.eq rfl aI) (.nil _))⟩
    .refine bt (fun hy=>?_) (fun hy=>?_)
     .skip
      refine next (1+x) d7 (kF hi aI ((N1 x y k d7 r).1 hy)) om (fun hJ hm=>?_)
      exact⟨(a+(1+x),d7,s+1),hJ,hm,View.o 2 [0] [] (by
       repeat(first|exact .nil|refine .ar ?_|refine .put (.aQ (aL om).symm) ?_|refine .eq rfl ?_|refine .eq (congrArg (fun x=>an .i64 x) (ex.symm)) ?_)) (.put (by simp[bz]) rfl (.eq rfl aI) (.nil _))⟩
     .skip
      refine next (1+y) d7 (kF hi aI ((N1 x y k d7 r).2 hy)) om (fun hJ hm=>?_)
      exact⟨(a+(1+y),d7,s+1),hJ,hm,View.o 2 [0] [] (by
       repeat(first|exact .nil|refine .ar ?_|refine .put (.aQ (aL om).symm) ?_|refine .eq rfl ?_|refine .eq (congrArg (fun x=>an .i64 x) (ey.symm)) ?_)) (.put (by simp[bz]) rfl (.eq rfl aI) (.nil _))⟩
   .obtain⟨n,rfl⟩:∃n:Nat,k=n:=⟨k.toNat,om⟩;have ex:IntKind.i64.wrap ((a:Int)+IntKind.i64.wrap (1+(n:Int)))=((a+(1+n):Nat):Int):=by rw[gk (n:=1+(n:Int)) om om,gk om om];omega
    refine next (1+n) d7 (kF hi aI (by simp[ru])) om (fun hJ hm=>?_)
    exact⟨(a+(1+n),d7,s+1),hJ,hm,View.o 2 [0] [] (by
     repeat(first|exact .nil|refine .ar ?_|refine .put (.aQ (aL om).symm) ?_|refine .eq rfl ?_|refine .eq (congrArg (fun x=>an .i64 x) (ex.symm)) ?_)) (.put (by simp[bz]) rfl (.eq rfl aI) (.nil _))⟩
   .have hb:ir p r a d7=(k,1):=GP hi rfl;rw[hb]at yQ sR;show CV.bF [cC k,cC (IntKind.i64.wrap ((s:Int)+1))]=_;rw[<-PK (s:=s) om];have e2:ir p r 0 0=(k,((s+1:Nat):Int)):=Prod.ext yQ.symm (by rw[<-sR];simp only;omega)
    rw[e2];rfl
theorem PL(p:List dS)(r:wM){m:Mem}{K:CV->Mem->Prop}(h:K (N2 (vu p r)) m):aq Tryz.prog 30 [pT p,r.cv] m K:=
 bu Tryz.func30 l30 rfl (V5 rfl) (Ke p r) rfl rfl h
end Go.Proofs.YtodckkkbiidffaaGreatDoor
