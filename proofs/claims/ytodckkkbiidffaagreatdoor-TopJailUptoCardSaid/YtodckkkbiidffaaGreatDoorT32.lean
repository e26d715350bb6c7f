/- Part 32 of 39: what the law stands on. -/
import Derived.Test.YtodckkkbiidffaaGreatDoorT16
import Derived.Test.YtodckkkbiidffaaGreatDoorT31
set_option linter.unusedVariables false
set_option linter.unusedSimpArgs false
set_option linter.unnecessarySimpa false
set_option maxRecDepth 100000
set_option maxHeartbeats 64000000
namespace Go.Proofs.YtodckkkbiidffaaGreatDoor
open Go.AM Go.ChangeShapes Go.WideShapes Go.ChangeAt Go.RowKit
def c55:LF:= ⟨117,[.cell true 4 8],(.seq (.ai [qu 8 (.alloc [(qd 0),(qd 0),(qd 0),.aB])]) (.seq (.bU [qm 15 0,qu 16 (.aT 15),qf 17 0 16,qf 18 0 17,ql 19 18,qm 20 2,qm 21 1,qu 22 (.aT 21),qf 23 7 22,ql 24 23,qm 25 3,qu 26 (qc 67 [19,20,24,25,(qb true)]),qm 14 26,qu 27 (.ext 14 0),qu 28 (.ext 14 1),qu 9 (.alloc [(qd 0),(qd 0),(.aa (.val (.string ⟨#[]⟩)))]),qw (.store 3 9 27),qm 10 28] [(.cons 0 none (.cons 1 none (.cons 2 none (.cons 3 none (.cons 4 none (.cons 5 none (.cons 6 none (.cons 7 none (.cons 8 none (.cons 9 none (.cons 10 none (.yU (.cons 11 (some []) (.cons 12 none (.cons 13 none (.cons 14 none (.cons 15 (some [9,4]) (.cons 16 (some []) (.cons 17 none .nil))))))) (.cons 15 (some [9,4]) (.cons 11 (some []) (.cons 12 none (.cons 13 none (.cons 14 none (.cons 16 (some []) (.cons 17 none .nil)))))))))))))))))))]) (.cI (.seq (.ai [qf 29 0 9,ql 30 29,qm 11 30]) (.seq (.block 0 (.seq (.ai [qm 32 10,qu 33 (.aH .neq 32 (qi 0)),qm 31 33]) (.cond 31 .skip (.seq (.ai [qm 35 11,qu 36 (.aH .lss 35 (qi 0)),qm 37 36,qg 38 (.aF 1) 37 true,qg 39 (.aT 38) 37 true,qg 40 (.bX 5 39) 37 true,qg 41 (.load false 1 40) 37 true,qg 42 (.aH .and 41 (qi 1)) 37 true,qg 43 (.aH .eql 42 (qi 0)) 37 true,qu 44 (.pick 37 43 (qb false)),qm 34 44]) (.cond 34 (.ai [qu 10 (.aF (qi 6))]) (.seq (.ai [qm 46 11,qu 47 (.aH .lss 46 (qi 0)),qm 45 47]) (.cond 45 (.ai [qm 49 0,qL 50 3 9,qu 51 (.build [(qd 0),.aB,.aB,(.aa (.val (.string ⟨#[]⟩))),(qd 0),.aB,(qd 0),(qd 0),(qd 0)] [(0,1,(qi 1))]),qu 52 (qc 70 [49,50,51]),qm 48 52,qu 53 (.ext 48 0),qu 54 (.ext 48 1),qm 11 53,qm 10 54]) (.seq (.ai [qm 56 1,qu 57 (.aT 56),qf 58 5 57,ql 59 58,qu 60 (.aH .and 59 (qi 2)),qu 61 (.aH .neq 60 (qi 0)),qm 62 61,qg 63 (.aF 0) 62 true,qg 64 (.aT 63) 62 true,qg 65 (.bX 0 64) 62 true,qg 66 (.bX 0 65) 62 true,qg 67 (.load false 1 66) 62 true,qg 68 (.aF 11) 62 true,qg 69 (.cr 9 67 68) 62 true,qg 70 (.bX 0 69) 62 true,qg 71 (.load false 1 70) 62 true,qg 72 (.aH .eql 71 (qi 2)) 62 true,qu 73 (.pick 62 72 (qb false)),qm 55 73]) (.cond 55 (.ai [qu 10 (.aF (qi 12))]) .skip))))))))) (.cI (.seq (.seq (.ai [qm 74 10,qu 75 (.aH .neq 74 (qi 0))]) (.cond 75 (.seq (.ai [qm 76 10,qu 77 (.build [(qd 0),(qd 0),(qd 0),.aB] [(0,1,76)]),qw (.store 4 8 77)]) .ret) .skip)) (.seq (.bU [qm 79 0,qu 80 (.aT 79),qf 81 0 80,qL 82 3 81,qm 83 0,qu 84 (.aT 83),qf 85 3 84,ql 86 85,qm 87 11,qm 88 1,qu 89 (.aT 88),qf 90 6 89,ql 91 90,qu 92 (qc 72 [82,86,87,91]),qm 78 92,qu 93 (.ext 78 0),qu 94 (.ext 78 1),qu 95 (.ext 78 2),qu 12 (.alloc [.aB,.aB,.aB]),qw (.store 3 12 93),qm 13 94,qm 10 95] [(.cons 0 none (.cons 1 none (.cons 2 none (.cons 3 none (.cons 4 none (.cons 5 none (.cons 6 none (.cons 7 none (.cons 8 none (.cons 9 none (.cons 10 none (.cons 11 none (.cons 12 none (.yU (.cons 13 (some []) (.cons 14 none (.cons 15 none (.cons 16 none (.cons 17 none (.cons 18 (some [12,7,3]) (.cons 19 (some []) (.cons 20 none (.cons 21 none .nil))))))))) (.cons 18 (some [12,7,3]) (.cons 13 (some []) (.cons 14 none (.cons 15 none (.cons 16 none (.cons 17 none (.cons 19 (some []) (.cons 20 none (.cons 21 none .nil)))))))))))))))))))))))]) (.cI (.seq (.seq (.ai [qm 96 10,qu 97 (.aH .neq 96 (qi 0))]) (.cond 97 (.seq (.ai [qm 98 10,qu 99 (.build [(qd 0),(qd 0),(qd 0),.aB] [(0,1,98)]),qw (.store 4 8 99)]) .ret) .skip)) (.cI (.seq (.seq (.ai [qm 100 1,qu 101 (.aT 100),qf 102 5 101,ql 103 102,qu 104 (.aH .and 103 (qi 2)),qu 105 (.aH .neq 104 (qi 0))]) (.cond 105 (.ai [qf 106 0 12,ql 107 106,qm 108 11,qu 109 (.cr 9 107 108),qf 110 1 109,qw (.store 1 110 qe)]) .skip)) (.seq (.ai [qm 111 0,qL 112 3 12,qu 113 (.aT 111),qf 114 0 113,qw (.store 3 114 112)]) (.seq (.ai [qm 115 13,qu 116 (.build [(qd 0),(qd 0),(qd 0),.aB] [(1,1,115)]),qw (.store 4 8 116)]) .ret))))))))))))))⟩
namespace Kn
def m9:Obj:=⟨1,[],[],⟨#[]⟩,0,[],0,0,0⟩
theorem wG:Mp m9:=⟨⟨⟨⟨[],rfl⟩,⟨[],rfl⟩,by simp[m9]⟩,by simp[m9],by simp[m9],by simp[m9],by simp[m9]⟩,rfl⟩
def fW(k:Kr)(au:Int)(s:bp.cQ)(ax follow:Bool):R4:=mf (k.l.map Obj.ob) au s ax follow
theorem pQ(k:Kr)(p:Nat)(hw:KW k p)(au:Int)(s:bp.cQ)(ax follow:Bool){m:Mem}{K:CV->Mem->Prop}(h:K (Qo (fW k au s ax follow)) m):
  aq Tryz.prog 67 [cq k.l,an .i64 au,bp.vT s,ay ax,ay follow] m K:=by
 rw[show cq k.l=xL (k.l.map Obj.ob)from congrArg (fun d=>CV.rv (.one (.aa d))) (Pw k.l)]
 exact Mg _ hw.lk au s ax follow h
def CZ(l:List Obj)(z:Int):Int:=match l[z.toNat]? with|some o=>o.ah|none=>0
def bR(k:Kr)(c:Cl)(f:R4):Kr×Int×Int:=
 if f.f4≠0 then(k,f.br,f.f4)
 else if f.br<0 then(if iK c.bi 1=0 then(k,f.br,6)else cJ k f m9)
 else if iK c.bi 2≠0/\CZ k.l f.br=2 then(k,f.br,12)
 else(k,f.br,0)
def na(l:List Obj)(z:Int):List Obj:=match l[z.toNat]? with|some o=>l.set z.toNat {o with data:=[]}|none=>l
def eI(p:Nat)(c:Cl)(x:Kr×Int×Int):Kr×An:=
 if x.2.2≠0 then(x.1,An.no x.2.2)
 else if(aK x.1 p x.2.1 c.aR).2.2≠0 then(x.1,An.no (aK x.1 p x.2.1 c.aR).2.2)
 else(if iK c.bi 2≠0 then⟨na (aK x.1 p x.2.1 c.aR).1.l x.2.1,(aK x.1 p x.2.1 c.aR).1.ops,(aK x.1 p x.2.1 c.aR).1.ps⟩else(aK x.1 p x.2.1 c.aR).1,⟨0,(aK x.1 p x.2.1 c.aR).2.1,0,[]⟩)
def ip(k:Kr)(p:Nat)(c:Cl)(au:Int)(ax:Bool):Kr×An:=eI p c (bR k c (fW k au c.bm ax true))
theorem Mq{m:Mem}{Z:Nat->Prop}{p:Option Nat}{id:Nat}{l:List Obj}{k:Nat}{c:List CC}{x:Obj}(hc:gV m Z (some id) c x.enc)(hz:Z id)(hm:m[id]? =some (.row 9 (aZ (af (l.map Obj.enc)) k c))):
  dj m Z p (.row id 9 0 none) (c7 (l.set k x)):=by
 rw[bg]at hm;refine dj.row id 9 0 none _ _ hz hm (by simp[af]) (fun i cs es h1 h2=>?_) (fun i cs es j c' d h1 h2 h3 h4=>?_)
 .rw[aan]at h1;rw[NO,aan]at h2;by_cases e:k=i
  .subst e;rw[if_pos rfl]at h1 h2;split at h1
   .cases h1;split at h2
    .cases h2;exact hc.len
    .cases h2
   .cases h1
  .rw[if_neg e]at h1 h2;rw[af,NO,NO]at h1;cases hx:l[i]? with
   |none=>rw[hx]at h2;cases h2
   |some y=>
    rw[hx]at h1 h2;cases h1;cases h2;simp
 .rw[aan]at h1;rw[NO,aan]at h2;by_cases e:k=i
  .subst e;rw[if_pos rfl]at h1 h2;split at h1
   .cases h1;split at h2
    .cases h2;exact hc.get j c' d h3 h4
    .cases h2
   .cases h1
  .rw[if_neg e]at h1 h2;rw[af,NO,NO]at h1;cases hx:l[i]? with
   |none=>rw[hx]at h2;cases h2
   |some y=>
    rw[hx]at h1 h2;cases h1;cases h2;rw[NO,h4]at h3;cases h3;exact .aa _
theorem l55:bs Tryz.prog Tryz.f55=some c55.er:=by kernel_rfl
def C29:LC:=bH (bH c55.code)
def Yp:LC:=ov C29
def C74:LC:=bH (bH Yp)
def Yq:LC:=ov C74
def C96:LC:=bH (bH Yq)
def WA:LC:=ov C96
def WB:LC:=bH WA
def WC:LC:=ov WB
def bQ:Bk:= .var [.aa (.val (.int .i64 0)),.aa (.val (.int .i64 0)),.aa (.val (.int .i64 0)),.aB]
def TC(k:Kr)(p:Nat)(c:Cl)(a:An)(r:CV)(m:Mem):Prop:=∃r' m',View 2 ⟨[r],m⟩ ⟨[r'],m'⟩/\r'=a.cv/\m'=[xB k p,cB c]
def QC(jW:List Rv)(k:Kr)(p:Nat)(c:Cl)(a:An):Ex->St->Prop:=mJ Tryz.prog jW (TC k p c a)
theorem JY{σ:Nat->Nat}{m:Mem}{Z:Nat->Prop}{e n x:Int}:po σ m Z (.rv (.agg [.aa (.val (.int .i64 e)),.aa (.val (.int .i64 n)),.aa (.val (.int .i64 x)),.aB])) (An.cv ⟨e,n,x,[]⟩):=
 .rv (.agg rfl fun i c c' h1 h2=>by
  match i,h1,h2 with
  |0,h1,h2=>cases h1;cases h2;exact .aQ (.aa _)
  |1,h1,h2=>cases h1;cases h2;exact .aQ (.aa _)
  |2,h1,h2=>cases h1;cases h2;exact .aQ (.aa _)
  |3,h1,h2=>cases h1;cases h2;exact .eZ (.aB 1)
  |n+4,h1,h2=>simp at h1)
theorem cM{k:Kr}{p:Nat}{c:Cl}{X:Mem}{e n x:Int}:TC k p c ⟨e,n,x,[]⟩ (.rv (.agg [.aa (.val (.int .i64 e)),.aa (.val (.int .i64 n)),.aa (.val (.int .i64 x)),.aB])) (xB k p::cB c::X):=
 ⟨_,_,View.of (X.length+2) [0,1] [] rfl rfl rfl rfl rfl (by simp[eR,Nat.blt]) (.put JY .nil) (.pt rfl rfl (.eq rfl (bx _ _)) (.pt rfl rfl (.eq rfl (ct _)) (.nil _))),rfl,rfl⟩
theorem JZ{l:List Obj}{n:Nat}(h:n<l.length):dp (n:Int) (lenOf (af (l.map Obj.enc)).length 0 none)=some n:=bZ (by show n<(af (l.map Obj.enc)).length;rw[bb,KB];exact h)
theorem C0(k1:Kr)(p:Nat)(c:Cl)(O:Kr)(j:Nat)(hj:j<O.l.length)(fd:Int)(kf:Kr)(hk:kf=if iK c.bi 2≠0 then⟨na O.l j,O.ops,O.ps⟩else O):
  aw Tryz.prog 2 WC (QC c55.jW kf p c ⟨0,fd,0,[]⟩)
   ⟨kR 117 [(0,.rv (.one (.ptr 0 0))),(1,.rv (.one (.ptr 1 0))),(8,.rv (.one (.ptr 2 0))),(11,an .i64 (j:Nat)),(12,.rv (.one (.ptr 3 0))),(13,an .i64 fd)],
    [xB k1 p,cB c,bQ,.var [.row 4 9 0 none,.aa (eB O.ops),.aa (fE O.ps)],.row 9 (af (O.l.map Obj.enc))]⟩:=by
 refine bt (fun h2=>?_) (fun h2=>?_)
 .have h2:iK c.bi 2≠0:=h2;rw[if_pos h2]at hk;subst hk;refine ag (JZ hj) ?_;have ho:=bC Obj.enc O.l hj;have ht:na O.l (j:Nat)=O.l.set j {O.l[j]with data:=[]}:=by rw[na,Wk,sA hj]
  rw[ht];generalize O.l[j]=x at ho;obtain⟨ah,data,aj,target,aC,ak,aM,am,up⟩:=x;refine ag ho ?_;refine⟨_,_,View.o 5 [0,1] [4] (.put JY .nil) (.pt rfl rfl (PC (k:=⟨O.l.set j ⟨ah,[],aj,target,aC,ak,aM,am,up⟩,O.ops,O.ps⟩) (Mq (.cons (.aa _) (.cons (.aB 1) (.cons (.aa _) (.cons (.aa _) (.cons (.aa _) (.cons (.aa _) (.cons (.aa _) (.cons (.aa _) (.cons (.aa _) .nil))))))))) rfl rfl) (.aa _) (.aa _)) (.pt rfl rfl (.eq rfl (ct _)) (.nil _))),rfl,rfl⟩
 .have h2:¬iK c.bi 2≠0:=fun h=>h h2
  rw[if_neg h2]at hk;subst hk;exact⟨_,_,View.o 5 [0,1] [4] (.put JY .nil) (.pt rfl rfl (PC (gq rfl rfl) (.aa _) (.aa _)) (.pt rfl rfl (.eq rfl (ct _)) (.nil _))),rfl,rfl⟩
theorem GB{k:Kr}{n:Nat}{br cn:Int}(h:(aK k n br cn).2.2=0):(aK k n br cn).1.l=k.l:=by
 unfold aK at h⊢;split at h
 .simp at h
 .rename_i h1;rw[if_neg h1];split at h
  .rename_i h2;exact absurd h h2
  .rename_i h2;rw[if_neg h2]
theorem uE(k1:Kr)(p:Nat)(c:Cl)(e:Int)(he:e≠0):
  aw Tryz.prog 2 WA (QC c55.jW k1 p c (An.no e)) ⟨kR 117 [(0,.rv (.one (.ptr 0 0))),(1,.rv (.one (.ptr 1 0))),(8,.rv (.one (.ptr 2 0))),(10,an .i64 e)],[xB k1 p,cB c,bQ]⟩:=by
 refine bt (fun h2=>?_) (fun h2=>absurd h2 he)
 exact cM (X:=[_])
theorem uF(k1:Kr)(p:Nat)(c:Cl)(O:Kr)(j:Nat)(hj:j<O.l.length)(fd:Int)(kf:Kr)(hk:kf=if iK c.bi 2≠0 then⟨na O.l j,O.ops,O.ps⟩else O):
  aw Tryz.prog 2 WA (QC c55.jW kf p c ⟨0,fd,0,[]⟩)
   ⟨kR 117 [(0,.rv (.one (.ptr 0 0))),(1,.rv (.one (.ptr 1 0))),(8,.rv (.one (.ptr 2 0))),(10,an .i64 0),(11,an .i64 (j:Nat)),(12,.rv (.one (.ptr 3 0))),(13,an .i64 fd)],
    [xB k1 p,cB c,bQ,.var [.row 4 9 0 none,.aa (eB O.ops),.aa (fE O.ps)],.row 9 (af (O.l.map Obj.enc))]⟩:=by
 refine⟨_,View.o1 5 [0,1,2,3,4] [] ?_,C0 k1 p c O j hj fd kf hk⟩
 .exact .pt rfl rfl (.eq rfl (bx _ _)) (.pt rfl rfl (.eq rfl (ct _)) (.pt rfl rfl (.eq rfl (by simp[bQ])) (.pe rfl rfl rfl (.pn rfl rfl rfl))))
theorem GC(p:Nat)(c:Cl)(x:Kr×Int×Int)(hx:x.2.2=0->dz x.1.l x.1.ops x.1.ps/\p<x.1.ps.length/\∃j:Nat,x.2.1=j/\j<x.1.l.length):
  aw Tryz.prog 2 Yq (QC c55.jW (eI p c x).1 p c (eI p c x).2)
   ⟨kR 117 [(0,.rv (.one (.ptr 0 0))),(1,.rv (.one (.ptr 1 0))),(8,.rv (.one (.ptr 2 0))),(10,an .i64 x.2.2),(11,an .i64 x.2.1)],[xB x.1 p,cB c,bQ]⟩:=by
 obtain⟨k1,br,e⟩:=x;refine bt (fun h2=>?_) (fun h2=>?_)
 .have h2:e≠0:=h2;have e1:eI p c (k1,br,e)=(k1,An.no e):=by rw[eI,if_pos h2]
  rw[e1];exact cM (X:=[_])
 have h2:e=0:=h2;subst h2;obtain⟨hk,hp,j,hj,lG⟩:=hx rfl;have hj:br=(j:Nat):=hj;subst hj;have hS:eI p c (k1,(j:Int),0)=if(aK k1 p j c.aR).2.2≠0 then(k1,An.no (aK k1 p j c.aR).2.2)
  else(if iK c.bi 2≠0 then⟨na (aK k1 p j c.aR).1.l j,(aK k1 p j c.aR).1.ops,(aK k1 p j c.aR).1.ps⟩else(aK k1 p j c.aR).1,⟨0,(aK k1 p j c.aR).2.1,0,[]⟩):=by
  rw[eI,if_neg aI]
 rw[hS];have zs:= @GB k1 p (j:Int) c.aR;refine⟨?_,?_⟩
 .refine uD k1 hk p hp (j:Int) c.aR (fun he=>?_) (fun he=>?_)
  .rw[if_pos he];refine⟨trivial,⟨rfl,rfl,rfl,trivial⟩,trivial,_,View.o1 4 [0,1,2] [] ?_,uE k1 p c _ he⟩
   .exact .pt rfl rfl (.eq rfl (bx _ _)) (.pt rfl rfl (.eq rfl (ct _)) (.pt rfl rfl (.eq rfl (by simp[bQ])) (.nil _)))
  .rw[if_neg (by simp[he])]
   have hl:=zs he;refine⟨trivial,⟨rfl,rfl,rfl,trivial⟩,trivial,_,View.o1 5 [0,1,2,4,3] [] ?_,uF k1 p c (aK k1 p j c.aR).1 j (by rw[hl];exact lG) _ _ rfl⟩
   .exact .pt rfl rfl (.eq rfl (bx _ _)) (.pt rfl rfl (.eq rfl (ct _)) (.pt rfl rfl (.eq rfl (by simp[bQ])) (.pe rfl rfl rfl (.pn rfl rfl rfl))))
 .refine⟨⟨rfl,rfl,rfl,trivial⟩,?_⟩;refine uD k1 hk p hp (j:Int) c.aR (fun he=>?_) (fun he=>?_)
  .rw[if_pos he];refine⟨trivial,trivial,_,View.o1 4 [0,1,2] [] ?_,uE k1 p c _ he⟩
   .exact .pt rfl rfl (.eq rfl (bx _ _)) (.pt rfl rfl (.eq rfl (ct _)) (.pt rfl rfl (.eq rfl (by simp[bQ])) (.nil _)))
  .rw[if_neg (by simp[he])]
   have hl:=zs he;refine⟨trivial,trivial,_,View.o1 5 [0,1,2,3,4] [] ?_,uF k1 p c (aK k1 p j c.aR).1 j (by rw[hl];exact lG) _ _ rfl⟩
   .exact .pt rfl rfl (.eq rfl (bx _ _)) (.pt rfl rfl (.eq rfl (ct _)) (.pt rfl rfl (.eq rfl (by simp[bQ])) (.pe rfl rfl rfl (.pn rfl rfl rfl))))
theorem yp(a b:CV)(k:Int)(t:ByteArray):jA [a,b,.rv (.agg [.aa (.val (.int .i64 k)),.aB,.aB,.aa (.val (.string t)),.aa (.val (.int .i64 0)),.aB,.aa (.val (.int .i64 0)),.aa (.val (.int .i64 0)),.aa (.val (.int .i64 0))])] [a,b,Obj.cv ⟨k,[],[],t,0,[],0,0,0⟩]:=
 .dv _ (.dv _ (.agg (.cons (.dv _) (.cons (.aB 1) (.cons (.aB 2) (.cons (.dv _) (.cons (.dv _) (.cons (.aB 4) (.cons (.dv _) (.cons (.dv _) (.cons (.dv _) .nil))))))))) .nil))
structure C1(k:Kr)(p:Nat)(c:Cl)(f:R4):Prop where
 fi:f.f4=0->f.br<(k.l.length:Int)
 x:(bR k c f).2.2=0->dz (bR k c f).1.l (bR k c f).1.ops (bR k c f).1.ps/\p<(bR k c f).1.ps.length/\∃j:Nat,(bR k c f).2.1=j/\j<(bR k c f).1.l.length
theorem GD(k:Kr)(p:Nat)(hw:KW k p)(c:Cl)(f:R4)(hf:C1 k p c f):
  aw Tryz.prog 2 Yp (QC c55.jW (eI p c (bR k c f)).1 p c (eI p c (bR k c f)).2)
   ⟨kR 117 [(0,.rv (.one (.ptr 0 0))),(1,.rv (.one (.ptr 1 0))),(8,.rv (.one (.ptr 2 0))),(9,.rv (.one (.ptr 3 0))),(10,an .i64 f.f4)],[xB k p,cB c,bQ,.var ((Qn f).map .aa)]⟩:=by
 have Ht:=GC p c (bR k c f) hf.x;have P8:=hf.fi;clear hf;obtain⟨br,cD,name,f4⟩:=f;refine bt (fun he=>?_) (fun he=>?_)
 .have he:f4≠0:=he;have e1:bR k c ⟨br,cD,name,f4⟩=(k,br,f4):=by rw[bR,if_pos he]
  rw[e1]at Ht⊢;refine⟨_,View.o1 4 [0,1,2] [] ?_,Ht⟩
  .exact .pt rfl rfl (.eq rfl (bx _ _)) (.pt rfl rfl (.eq rfl (ct _)) (.pt rfl rfl (.eq rfl (by simp[bQ])) (.nil _)))
 have he:f4=0:=he;subst he;have P8:br<(k.l.length:Int):=P8 rfl;refine aJ (fun h1=>?_) (fun h1=>?_)
 .have h1:br<0:=h1;refine bA (fun h2=>?_) (fun h2=>?_)
  .have h2:iK c.bi 1=0:=h2;have e1:bR k c ⟨br,cD,name,0⟩=(k,br,6):=by rw[bR,if_neg aI,if_pos h1,if_pos h2]
   rw[e1]at Ht⊢;refine⟨_,View.o1 4 [0,1,2] [] ?_,Ht⟩
   .exact .pt rfl rfl (.eq rfl (bx _ _)) (.pt rfl rfl (.eq rfl (ct _)) (.pt rfl rfl (.eq rfl (by simp[bQ])) (.nil _)))
  .have h2:¬iK c.bi 1=0:=h2;have e1:bR k c ⟨br,cD,name,0⟩=cJ k ⟨br,cD,name,0⟩ m9:=by rw[bR,if_neg aI,if_pos h1,if_neg h2]
   rw[e1]at Ht⊢;refine cj (decide_eq_true h1) ?_;refine ld (yp _ _ _ _) (q9 k p hw ⟨br,cD,name,0⟩ m9 wG 0 rfl ?_);refine⟨_,View.o1 4 [0,1,2] [] ?_,Ht⟩
   .exact .pt rfl rfl (.eq rfl (bx _ _)) (.pt rfl rfl (.eq rfl (ct _)) (.pt rfl rfl (.eq rfl (by simp[bQ])) (.nil _)))
 .have h1:¬br<0:=h1;obtain⟨j,rfl⟩:∃j:Nat,br=j:=⟨br.toNat,om⟩;have hj:j<k.l.length:=om;have KX:CZ k.l (j:Int)=k.l[j].ah:=by rw[CZ,Wk,sA hj]
  refine bt (fun h2=>?_) (fun h2=>?_)
  .have h2:iK c.bi 2≠0:=h2;refine ag (gI hj) ?_;refine bA (fun h3=>?_) (fun h3=>?_)
   .have h3:k.l[j].ah=2:=h3;have e1:bR k c ⟨(j:Nat),cD,name,0⟩=(k,(j:Int),12):=by rw[bR,if_neg aI,if_neg h1,if_pos ⟨h2,by rw[<-h3,<-KX]⟩]
    rw[e1]at Ht⊢;refine⟨_,View.o1 4 [0,1,2] [] ?_,Ht⟩
    .exact .pt rfl rfl (.eq rfl (bx _ _)) (.pt rfl rfl (.eq rfl (ct _)) (.pt rfl rfl (.eq rfl (by simp[bQ])) (.nil _)))
   .have h3:¬k.l[j].ah=2:=h3;have e1:bR k c ⟨(j:Nat),cD,name,0⟩=(k,(j:Int),0):=by rw[bR,if_neg aI,if_neg h1,if_neg (by rw[KX];exact fun h=>h3 h.2)]
    rw[e1]at Ht⊢;refine⟨_,View.o1 4 [0,1,2] [] ?_,Ht⟩
    .exact .pt rfl rfl (.eq rfl (bx _ _)) (.pt rfl rfl (.eq rfl (ct _)) (.pt rfl rfl (.eq rfl (by simp[bQ])) (.nil _)))
  .have h2:¬iK c.bi 2≠0:=fun h=>h h2
   have e1:bR k c ⟨(j:Nat),cD,name,0⟩=(k,(j:Int),0):=by rw[bR,if_neg aI,if_neg h1,if_neg (fun h=>h2 h.1)]
   rw[e1]at Ht⊢;refine⟨_,View.o1 4 [0,1,2] [] ?_,Ht⟩
   .exact .pt rfl rfl (.eq rfl (bx _ _)) (.pt rfl rfl (.eq rfl (ct _)) (.pt rfl rfl (.eq rfl (by simp[bQ])) (.nil _)))
theorem C2(k:Kr)(p:Nat)(hw:KW k p)(c:Cl)(au:Int)(ax:Bool)(hf:C1 k p c (fW k au c.bm ax true)):
  body Tryz.prog c55 [.rv (.one (.ptr 0 0)),.rv (.one (.ptr 1 0)),an .i64 au,ay ax] [xB k p,cB c] (TC (ip k p c au ax).1 p c (ip k p c au ax).2):=by
 have hs:=GD k p hw c _ hf;show body Tryz.prog c55 _ _ (TC (eI p c (bR k c (fW k au c.bm ax true))).1 p c (eI p c (bR k c (fW k au c.bm ax true))).2);refine⟨?_,?_⟩
 .refine pQ k p hw au c.bm ax true ?_;refine⟨trivial,⟨rfl,rfl,trivial⟩,trivial,_,View.o1 4 [0,1,2,3] [] ?_,hs⟩
  .exact .pt rfl rfl (.eq rfl (bx _ _)) (.pt rfl rfl (.eq rfl (ct _)) (.pt rfl rfl (.eq rfl (by simp[bQ])) (.pm rfl rfl rfl)))
 .refine⟨⟨rfl,rfl,trivial⟩,?_⟩;refine pQ k p hw au c.bm ax true ?_;refine⟨trivial,trivial,_,View.o1 4 [0,1,2,3] [] ?_,hs⟩
  .exact .pt rfl rfl (.eq rfl (bx _ _)) (.pt rfl rfl (.eq rfl (ct _)) (.pt rfl rfl (.eq rfl (by simp[bQ])) (.pm rfl rfl rfl)))
theorem Ax(k:Kr)(p:Nat)(hw:KW k p)(c:Cl)(au:Int)(ax:Bool)(hf:C1 k p c (fW k au c.bm ax true)){m:Mem}(i j:Nat)(o8:fI [i,j]=true)(aE:eR m.length [i,j]=true)(hi:cR m i=some (xB k p))(hj:cR m j=some (cB c)){K:CV->Mem->Prop}(hK:K (ip k p c au ax).2.cv (cU m [i,j] [xB (ip k p c au ax).1 p,cB c])):
  aq Tryz.prog 55 [.rv (.one (.ptr i 0)),.rv (.one (.ptr j 0)),an .i64 au,ay ax] m K:=
 NW (args:=[an .i64 au,ay ax]) (fun _=>rfl) (fun _=>rfl)
  (bK (ce Tryz.func55 l55 (C2 k p hw c au ax hf)) fun r m1⟨r',m',hv,hq⟩=>⟨r',m',hv,hq⟩) i j o8 aE hi hj hK
end Kn
def c32:LF:= ⟨78,[.cell true 4 4],(.seq (.ai [qu 4 (.alloc [(qd 0),(qd 0),(qd 0),.aB])]) (.seq (.seq (.ai [qm 9 1,qu 10 (.aT 9),qf 11 6 10,ql 12 11,qu 13 (qc 54 [12]),qu 14 (.un .not 13),qm 15 14,qg 16 (.aF 1) 15 false,qg 17 (.aT 16) 15 false,qg 18 (.bX 5 17) 15 false,qg 19 (.load false 1 18) 15 false,qg 20 (.aH .lss 19 (qi 0)) 15 false,qu 21 (.pick 15 (qb true) 20),qm 22 21,qg 23 (.aF 1) 22 false,qg 24 (.aT 23) 22 false,qg 25 (.bX 5 24) 22 false,qg 26 (.load false 1 25) 22 false,qg 27 (.aH .gtr 26 (qi 3)) 22 false,qu 28 (.pick 22 (qb true) 27)]) (.cond 28 (.seq (.ai [qu 29 (.build [(qd 0),(qd 0),(qd 0),.aB] [(0,1,(qi 3))]),qw (.store 4 4 29)]) .ret) .skip)) (.seq (.seq (.ai [qm 30 1,qu 31 (.aT 30),qf 32 1 31,ql 33 32,qu 34 (.aH .eql 33 (qi 2))]) (.cond 34 (.seq (.ai [qm 35 0,qm 36 1,qu 37 (qc 55 [35,36,(qi 0),(qb false)]),qw (.store 4 4 37)]) .ret) .skip)) (.seq (.ai [qm 38 1,qu 39 (.aT 38),qf 40 6 39,ql 41 40,qu 42 (.aH .or (qi 8) 41),qm 5 42]) (.seq (.seq (.ai [qm 43 1,qu 44 (.aT 43),qf 45 5 44,ql 46 45,qu 47 (.aH .and 46 (qi 1)),qu 48 (.aH .neq 47 (qi 0))]) (.cond 48 (.ai [qm 49 5,qu 50 (.aH .or 49 (qi 16)),qm 5 50]) .skip)) (.seq (.seq (.ai [qm 51 1,qu 52 (.aT 51),qf 53 5 52,ql 54 53,qu 55 (.aH .and 54 (qi 2)),qu 56 (.aH .neq 55 (qi 0))]) (.cond 56 (.ai [qm 57 5,qu 58 (.aH .or 57 (qi 2)),qm 5 58]) .skip)) (.cI (.seq (.ai [qm 60 0,qm 61 1,qu 62 (.aT 61),qf 63 2 62,ql 64 63,qm 65 5,qu 66 (qc 56 [60,64,65]),qm 59 66,qu 67 (.ext 59 0),qu 68 (.ext 59 1),qu 69 (.ext 59 2),qu 6 (.alloc [(qd 0),(qd 0)]),qw (.store 2 6 67),qm 7 68,qm 8 69]) (.seq (.seq (.ai [qm 70 8,qu 71 (.aH .neq 70 (qi 0))]) (.cond 71 (.seq (.ai [qm 72 8,qu 73 (.build [(qd 0),(qd 0),(qd 0),.aB] [(0,1,72)]),qw (.store 4 4 73)]) .ret) .skip)) (.seq (.ai [qm 74 0,qm 75 1,qm 76 7,qu 77 (qc 55 [74,75,76,(qb true)]),qw (.store 4 4 77)]) .ret))))))))))⟩
namespace Kn
def ku(c:Cl):Int:=if iK c.bi 2≠0 then Pz (if iK c.bi 1≠0 then Pz (Pz 8 c.aR) 16 else Pz 8 c.aR) 2 else(if iK c.bi 1≠0 then Pz (Pz 8 c.aR) 16 else Pz 8 c.aR)
def gY(k:Kr)(p:Nat)(c:Cl):Kr×An:=
 if Tb.dN c.aR=false\/c.bi<0\/c.bi>3 then(k,An.no 3)
 else if c.ah=2 then ip k p c 0 false
 else if(bv k p c.fd (ku c)).2.2≠0 then(k,An.no (bv k p c.fd (ku c)).2.2)
 else ip k p c (bv k p c.fd (ku c)).2.1 true
theorem C3{k:Kr}{p:Nat}{c:Cl}{X:Mem}{a:An}:TC k p c a a.cv (xB k p::cB c::X):=
 ⟨_,_,View.of (X.length+2) [0,1] [] rfl rfl rfl rfl rfl (by simp[eR,Nat.blt]) (.eq rfl .nil) (.pt rfl rfl (.eq rfl (bx _ _)) (.pt rfl rfl (.eq rfl (ct _)) (.nil _))),rfl,rfl⟩
theorem l32:bs Tryz.prog Tryz.f32=some c32.er:=by kernel_rfl
def WD:LC:=bH (bH (bH (bH (bH (bH c32.code)))))
def SU:LC:=ov WD
theorem J0(k:Kr)(p:Nat)(hw:KW k p)(c:Cl)(need:Int)(hf:∀au,C1 k p c (fW k au c.bm true true))(R:Kr×An)(hR:R=if(bv k p c.fd need).2.2≠0 then(k,An.no (bv k p c.fd need).2.2)else ip k p c (bv k p c.fd need).2.1 true):
  aw Tryz.prog 2 SU (QC c32.jW R.1 p c R.2) ⟨kR 78 [(0,.rv (.one (.ptr 0 0))),(1,.rv (.one (.ptr 1 0))),(4,.rv (.one (.ptr 2 0))),(5,an .i64 need)],[xB k p,cB c,bQ]⟩:=by
 refine je k p hw c.fd need 0 rfl ?_;generalize bv k p c.fd need=w at hR⊢;obtain⟨⟨o,r⟩,b,e⟩:=w;refine bt (fun he=>?_) (fun he=>?_)
 .have he:e≠0:=he;rw[if_pos he]at hR;subst hR;exact cM (X:=[_,_])
 .have he:e=0:=he;subst he;rw[if_neg aI]at hR;subst hR;refine Ax k p hw c b true (hf b) 0 1 rfl rfl rfl rfl ?_;exact C3 (X:=[_,_])
theorem GF(k:Kr)(p:Nat)(hw:KW k p)(c:Cl)(hf:∀au ax,C1 k p c (fW k au c.bm ax true)):
  body Tryz.prog c32 [.rv (.one (.ptr 0 0)),.rv (.one (.ptr 1 0))] [xB k p,cB c] (TC (gY k p c).1 p c (gY k p c).2):=by
 have hv:∀need R,R=(if(bv k p c.fd need).2.2≠0 then(k,An.no (bv k p c.fd need).2.2)else ip k p c (bv k p c.fd need).2.1 true)->
  aw Tryz.prog 2 SU (QC c32.jW R.1 p c R.2) ⟨kR 78 [(0,.rv (.one (.ptr 0 0))),(1,.rv (.one (.ptr 1 0))),(4,.rv (.one (.ptr 2 0))),(5,an .i64 need)],[xB k p,cB c,bQ]⟩:=fun need R hR=>J0 k p hw c need (fun b=>hf b true) R hR
 refine Tb.ub c.aR ?_;cases hr:Tb.dN c.aR with
 |false=>
  have e1:gY k p c=(k,An.no 3):=by rw[gY,if_pos (.inl hr)]
  rw[e1];exact cM (X:=[_])
 |true=>
  refine aJ (fun h1=>?_) (fun h1=>?_)
  .have h1:c.bi<0:=h1;have e1:gY k p c=(k,An.no 3):=by rw[gY,if_pos (.inr (.inl h1))]
   rw[e1];exact cM (X:=[_])
  have h1:¬c.bi<0:=h1;refine aJ (fun h2=>?_) (fun h2=>?_)
  .have h2:c.bi>3:=h2;have e1:gY k p c=(k,An.no 3):=by rw[gY,if_pos (.inr (.inr h2))]
   rw[e1];exact cM (X:=[_])
  have h2:¬c.bi>3:=h2;have e0:gY k p c=if c.ah=2 then ip k p c 0 false
   else if(bv k p c.fd (ku c)).2.2≠0 then(k,An.no (bv k p c.fd (ku c)).2.2)
   else ip k p c (bv k p c.fd (ku c)).2.1 true:=by rw[gY,if_neg (by simp[hr,h1,h2])]
  rw[e0];refine bA (fun h3=>?_) (fun h3=>?_)
  .have h3:c.ah=2:=h3;rw[if_pos h3];refine Ax k p hw c 0 false (hf 0 false) 0 1 rfl rfl rfl rfl ?_;exact C3 (X:=[_])
  have h3:¬c.ah=2:=h3;rw[if_neg h3];refine bt (fun h4=>?_) (fun h4=>?_)
  .have h4:iK c.bi 1≠0:=h4;refine bt (fun h5=>?_) (fun h5=>?_)
   .have h5:iK c.bi 2≠0:=h5;refine⟨_,View.o 3 [0,1,2] [] ?_ ?_,hv (ku c) _ rfl⟩
    .rw[ku,if_pos h4,if_pos h5];repeat(first|exact .nil|refine .ar ?_|refine .eq rfl ?_)
    .exact .pt rfl rfl (.eq rfl (bx _ _)) (.pt rfl rfl (.eq rfl (ct _)) (.pt rfl rfl (.eq rfl (by simp[bQ])) (.nil _)))
   .have h5:¬iK c.bi 2≠0:=fun h=>h h5
    refine⟨_,View.o 3 [0,1,2] [] ?_ ?_,hv (ku c) _ rfl⟩
    .rw[ku,if_pos h4,if_neg h5];repeat(first|exact .nil|refine .ar ?_|refine .eq rfl ?_)
    .exact .pt rfl rfl (.eq rfl (bx _ _)) (.pt rfl rfl (.eq rfl (ct _)) (.pt rfl rfl (.eq rfl (by simp[bQ])) (.nil _)))
  .have h4:¬iK c.bi 1≠0:=fun h=>h h4
   refine bt (fun h5=>?_) (fun h5=>?_)
   .have h5:iK c.bi 2≠0:=h5;refine⟨_,View.o 3 [0,1,2] [] ?_ ?_,hv (ku c) _ rfl⟩
    .rw[ku,if_neg h4,if_pos h5];repeat(first|exact .nil|refine .ar ?_|refine .eq rfl ?_)
    .exact .pt rfl rfl (.eq rfl (bx _ _)) (.pt rfl rfl (.eq rfl (ct _)) (.pt rfl rfl (.eq rfl (by simp[bQ])) (.nil _)))
   .have h5:¬iK c.bi 2≠0:=fun h=>h h5
    refine⟨_,View.o 3 [0,1,2] [] ?_ ?_,hv (ku c) _ rfl⟩
    .rw[ku,if_neg h4,if_neg h5];repeat(first|exact .nil|refine .ar ?_|refine .eq rfl ?_)
    .exact .pt rfl rfl (.eq rfl (bx _ _)) (.pt rfl rfl (.eq rfl (ct _)) (.pt rfl rfl (.eq rfl (by simp[bQ])) (.nil _)))
theorem dm{f:Nat}{k k':Kr}{p:Nat}{c:Cl}{a:An}(hc:aq Tryz.prog f [.rv (.one (.ptr 0 0)),.rv (.one (.ptr 1 0))] [xB k p,cB c] (TC k' p c a)){m:Mem}(i j:Nat)(o8:fI [i,j]=true)(aE:eR m.length [i,j]=true)(hi:cR m i=some (xB k p))(hj:cR m j=some (cB c)){K:CV->Mem->Prop}(hK:K a.cv (cU m [i,j] [xB k' p,cB c])):aq Tryz.prog f [.rv (.one (.ptr i 0)),.rv (.one (.ptr j 0))] m K:=
 NW (args:=[]) (fun _=>rfl) (fun _=>rfl) (bK hc fun r m1⟨r',m',hv,hq⟩=>⟨r',m',hv,hq⟩) i j o8 aE hi hj hK
theorem wH(k:Kr)(p:Nat)(hw:KW k p)(c:Cl)(hf:∀au ax,C1 k p c (fW k au c.bm ax true)):aq Tryz.prog 32 [.rv (.one (.ptr 0 0)),.rv (.one (.ptr 1 0))] [xB k p,cB c] (TC (gY k p c).1 p c (gY k p c).2):=
 ce Tryz.func32 l32 (GF k p hw c hf)
end Kn
def c33:LF:= ⟨172,[.cell true 4 4],(.seq (.ai [qu 4 (.alloc [(qd 0),(qd 0),(qd 0),.aB])]) (.seq (.ai [qu 15 (.sV),qw (.wY (.i .i64) 15 (qi 4) (qi 1)),qw (.wY (.i .i64) 15 (qi 5) (qi 2)),qw (.wY (.i .i64) 15 (qi 6) (qi 4)),qm 16 15,qm 17 1,qu 18 (.aT 17),qf 19 1 18,ql 20 19,qu 21 (.E9 (.one (qd 0)) (.i .i64) 16 20 false),qm 5 21]) (.cI (.seq (.ai [qm 23 0,qm 24 1,qu 25 (.aT 24),qf 26 2 25,ql 27 26,qm 28 5,qu 29 (qc 56 [23,27,28]),qm 22 29,qu 30 (.ext 22 0),qu 31 (.ext 22 1),qu 32 (.ext 22 2),qu 6 (.alloc [(qd 0),(qd 0)]),qw (.store 2 6 30),qm 7 31,qm 8 32]) (.seq (.seq (.ai [qm 33 8,qu 34 (.aH .neq 33 (qi 0))]) (.cond 34 (.seq (.ai [qm 35 8,qu 36 (.build [(qd 0),(qd 0),(qd 0),.aB] [(0,1,35)]),qw (.store 4 4 36)]) .ret) .skip)) (.seq (.bU [qm 37 0,qu 38 (.aT 37),qf 39 0 38,qf 40 1 39,ql 41 40,qf 42 0 6,ql 43 42,qu 44 (.cr 2 41 43),qf 45 1 44,ql 46 45,qm 9 46] [(.cons 0 none (.cons 1 none (.cons 2 none (.cons 3 none (.cons 4 none (.cons 5 none (.cons 6 none (.cons 7 none (.cons 8 none (.cons 9 none (.cons 10 none .nil)))))))))))]) (.seq (.ai [qu 47 (.build [(qd 0),(qd 0),(qd 0),.aB] []),qu 10 (.alloc [(qd 0),(qd 0),(qd 0),.aB]),qw (.store 4 10 47)]) (.seq (.seq (.ai [qm 48 1,qu 49 (.aT 48),qf 50 1 49,ql 51 50]) (.block 0 (.seq (.ai [qu 70 (.aH .eql 51 (qi 4)),qm 69 70]) (.cond 69 (.seq (.bU [qm 72 0,qu 73 (.aT 72),qf 74 0 73,qf 75 0 74,ql 76 75,qm 77 7,qu 78 (.cr 9 76 77),qL 79 9 78,qm 80 9,qm 81 1,qu 82 (.aT 81),qf 83 4 82,ql 84 83,qu 85 (qc 57 [79,80,84]),qm 71 85,qu 86 (.ext 71 0),qu 87 (.ext 71 1),qm 11 86,qm 12 87] [(.cons 0 none (.cons 1 none (.cons 2 none (.cons 3 none (.cons 4 none (.cons 5 none (.cons 6 none (.cons 7 none (.cons 8 none (.cons 9 none (.cons 10 none (.cons 11 none (.cons 12 none (.cons 13 (some []) (.cons 14 none (.cons 15 none (.cons 16 none (.cons 17 none (.cons 18 none .nil)))))))))))))))))))]) (.seq (.seq (.ai [qm 88 12,qu 89 (.aH .neq 88 (qi 0))]) (.cond 89 (.seq (.ai [qm 90 12,qu 91 (.build [(qd 0),(qd 0),(qd 0),.aB] [(0,1,90)]),qw (.store 4 4 91)]) .ret) .skip)) (.seq (.ai [qm 92 9,qm 93 11,qu 94 (.len 1 93),qu 95 (.aH .add 92 94),qm 9 95]) (.ai [qm 96 11,qu 97 (.len 1 96),qm 98 11,qf 99 1 10,qw (.store 1 99 97),qf 100 3 10,qw (.store 1 100 98)])))) (.seq (.ai [qu 102 (.aH .eql 51 (qi 5)),qm 101 102]) (.cond 101 (.seq (.bU [qm 104 0,qu 105 (.aT 104),qf 106 0 105,qf 107 0 106,ql 108 107,qm 109 7,qu 110 (.cr 9 108 109),qL 111 9 110,qm 112 9,qm 113 1,qu 114 (.aT 113),qf 115 8 114,ql 116 115,qu 117 (qc 58 [111,112,116]),qm 103 117,qu 118 (.ext 103 0),qu 119 (.ext 103 1),qu 13 (.alloc [(qd 0),.aB,.aB,(.aa (.val (.string ⟨#[]⟩))),(qd 0),.aB,(qd 0),(qd 0),(qd 0)]),qw (.store 9 13 118),qm 14 119] [(.cons 0 none (.cons 1 none (.cons 2 none (.cons 3 none (.cons 4 none (.cons 5 none (.cons 6 none (.cons 7 none (.cons 8 none (.cons 9 none (.cons 10 none (.cons 11 none (.cons 12 none (.yU (.cons 13 (some []) (.cons 14 none (.cons 15 none (.cons 16 none (.cons 17 (some [12,7,6,4]) (.cons 18 (some []) (.cons 19 none .nil))))))) (.cons 17 (some [12,7,6,4]) (.cons 13 (some []) (.cons 14 none (.cons 15 none (.cons 16 none (.cons 18 (some []) (.cons 19 none .nil)))))))))))))))))))))]) (.cI (.seq (.seq (.ai [qm 120 14,qu 121 (.aH .neq 120 (qi 0))]) (.cond 121 (.seq (.ai [qm 122 14,qu 123 (.build [(qd 0),(qd 0),(qd 0),.aB] [(0,1,122)]),qw (.store 4 4 123)]) .ret) .skip)) (.seq (.ai [qm 124 0,qm 125 0,qu 126 (.aT 125),qf 127 0 126,qL 128 3 127,qu 129 (qc 59 [128]),qu 130 (.aT 124),qf 131 0 130,qw (.store 3 131 129)]) (.seq (.bU [qm 132 0,qu 133 (.aT 132),qf 134 0 133,qf 135 0 134,ql 136 135,qm 137 7,qL 138 9 13,qu 139 (.cr 9 136 137),qw (.store 9 139 138)] [(.cons 0 none (.cons 1 none (.cons 2 none (.cons 3 none (.cons 4 none (.cons 5 none (.cons 6 none (.cons 7 none (.cons 8 (some []) .nil)))))))))]) (.seq (.ai [qm 140 9,qm 141 1,qu 142 (.aT 141),qf 143 8 142,ql 144 143,qu 145 (.len 1 144),qu 146 (.aH .add 140 145),qm 9 146]) (.ai [qm 147 1,qu 148 (.aT 147),qf 149 8 148,ql 150 149,qu 151 (.len 1 150),qf 152 1 10,qw (.store 1 152 151)]))))))) (.seq (.seq (.ai [qm 52 1,qu 53 (.aT 52),qf 54 4 53,ql 55 54,qu 56 (.aH .lss 55 (qi 0)),qm 57 56,qg 58 (.aF 1) 57 false,qg 59 (.aT 58) 57 false,qg 60 (.bX 4 59) 57 false,qg 61 (.load false 1 60) 57 false,qg 62 (.aH .gtr 61 (qi 60)) 57 false,qu 63 (.pick 57 (qb true) 62)]) (.cond 63 (.seq (.ai [qu 64 (.build [(qd 0),(qd 0),(qd 0),.aB] [(0,1,(qi 3))]),qw (.store 4 4 64)]) .ret) .skip)) (.ai [qm 65 1,qu 66 (.aT 65),qf 67 4 66,ql 68 67,qm 9 68])))))))) (.cI (.seq (.ai [qm 153 0,qm 154 0,qu 155 (.aT 154),qf 156 0 155,qL 157 3 156,qu 158 (qc 59 [157]),qu 159 (.aT 153),qf 160 0 159,qw (.store 3 160 158)]) (.seq (.bU [qm 161 0,qu 162 (.aT 161),qf 163 0 162,qf 164 1 163,ql 165 164,qf 166 0 6,ql 167 166,qm 168 9,qu 169 (.cr 2 165 167),qf 170 1 169,qw (.store 1 170 168)] [(.cons 0 none (.cons 1 none (.cons 2 none (.cons 3 none (.cons 4 none (.cons 5 none (.cons 6 none (.cons 7 none (.cons 8 none (.cons 9 none (.cons 10 (some []) .nil)))))))))))]) (.seq (.ai [qL 171 4 10,qw (.store 4 4 171)]) .ret))))))))))))⟩
namespace Kn
def lW(l:List Obj)(z:Int):Obj:=(l[z.toNat]?).getD gE
def sb(k:Kr)(z a:Int):Kr:=⟨k.l,(match k.ops[z.toNat]? with|some o=>k.ops.set z.toNat {o with cT:=a}|none=>k.ops),k.ps⟩
def setObj(k:Kr)(z:Int)(o:Obj):Kr:=⟨k.l.set z.toNat o,k.ops,k.ps⟩
def yq(a b:Int):Int:=IntKind.i64.wrap (a+b)
def nb(ah:Int):Int:=if ah=4 then 1 else if ah=5 then 2 else 4
def oF(k:Kr)(n:Int)(cT:Int)(r:List (List Dt)×Int):Kr×An:=
 if r.2≠0 then(k,An.no r.2)else(sb k n (yq cT r.1.length),⟨0,r.1.length,0,r.1⟩)
def oG(k:Kr)(n:Int)(br:Int)(cT:Int)(len:Nat)(r:Obj×Int):Kr×An:=
 if r.2≠0 then(k,An.no r.2)else(sb (setObj k br r.1) n (yq cT len),⟨0,len,0,[]⟩)
def ra(k:Kr)(n:Int)(cT:Int):Kr×An:=
 if cT<0\/cT>60 then(k,An.no 3)else(sb k n cT,⟨0,0,0,[]⟩)
def lX(k:Kr)(c:Cl)(w:(Int×Int)×Int×Int):Kr×An:=
 if w.2.2≠0 then(k,An.no w.2.2)
 else if c.ah=4 then oF k w.1.1 (m8 k.ops w.1.1) (gm (lW k.l w.2.1).ah (lW k.l w.2.1).data (m8 k.ops w.1.1) c.n)
 else if c.ah=5 then oG k w.1.1 w.2.1 (m8 k.ops w.1.1) c.data.length (eh (lW k.l w.2.1) (m8 k.ops w.1.1) (fB c.data))
 else ra k w.1.1 c.n
def iM(k:Kr)(p:Nat)(c:Cl):Kr×An:=lX k c (bv k p c.fd (nb c.ah))
theorem rb{l:List Obj}{n:Nat}(h:n<l.length):lW l (n:Int)=l[n]:=by rw[lW,Wk,sA h];rfl
def Qs(d:List Int)(A:Nat)(b:List Int):List Int:=if b.length=0 then d else cF (d++List.replicate (A+b.length-d.length) 0) A b
theorem C4(d b:List Int)(A:Nat):nW (fB d) A (fB b)=fB (Qs d A b):=by
 have hl:∀x:List Int,(fB x).length=x.length:=fun x=>by simp[fB]
 have hz:∀n,List.replicate n zb=fB (List.replicate n 0):=fun n=>by simp[fB,zb]
 unfold nW Qs;rw[hl];split
 .rfl
 .unfold Ph cF;rw[hl,hz,hl];simp only[fB,aav,abd,abN]
theorem EQ(d b:List Int)(A:Nat)(hb:b.length<=60)(hA:A+b.length<=60):(Qs d A b).length<=60\/(Qs d A b).length<=d.length:=by
 unfold Qs;split
 .exact .inr (Pq _)
 .unfold cF;simp only[aaH,Z3,aaC,List.length_replicate];omega
theorem uG{o:Obj}(ho:o.sm){cT:Int}{b:List Int}(h:(eh o cT (fB b)).2=0):(eh o cT (fB b)).1.sm/\o.ah=1/\0<=cT/\cT<=60/\(b.length:Int)<=60-cT/\(eh o cT (fB b)).1={o with data:=nW o.data cT.toNat (fB b)}:=by
 have hl:(fB b).length=b.length:=by simp[fB]
 unfold eh at h⊢;split at h
 .simp at h
 .rename_i h1;split at h
  .simp at h
  .rename_i h2;split at h
   .simp at h
   .rename_i h3;split at h
    .simp at h
    .rename_i h4;rw[if_neg h1,if_neg h2,if_neg h3,if_neg h4];rw[hl]at h4;obtain⟨⟨⟨d,hd⟩,tp,ht3⟩,kj,he,hq,hqd⟩:=ho;refine⟨⟨⟨⟨Qs d cT.toNat b,?_⟩,tp,ht3⟩,?_,he,hq,hqd⟩,om,om,om,om,rfl⟩
     .show nW o.data cT.toNat (fB b)=_;rw[hd,C4]
     .show(nW o.data cT.toNat (fB b)).length<=64;rw[hd,C4,show ∀x:List Int,(fB x).length=x.length from fun x=>by simp[fB]]
      have aaW:d.length<=64:=by rw[hd]at kj;simpa[fB]using kj
      have:=EQ d b cT.toNat om om;omega
theorem dz.GG{k:Kr}(h:dz k.l k.ops k.ps){z:Int}{o:Obj}(ho:o.sm):dz (setObj k z o).l (setObj k z o).ops (setObj k z o).ps:=by
 refine⟨fun x hx=>?_,by simpa[setObj]using h.ll,h.lo,h.lp,h.sl,h.ne⟩
 rcases aac hx with hx|rfl
 .exact h.sm x hx
 .exact ho
theorem l33:bs Tryz.prog Tryz.f33=some c33.er:=by kernel_rfl
def WE:LC:=bH (bH c33.code)
def PD:LC:=ov WE
def SV:LC:=bH (bH (bH (bH (bH PD))))
def WG:LC:=ov SV
theorem oH(k:Kr)(hk:dz k.l k.ops k.ps)(p:Nat)(c:Cl)(n:Nat)(hn:n<k.ops.length)(r cT:Int)(a:An):
  aw Tryz.prog 2 WG (QC c33.jW (sb k n cT) p c a)
   ⟨kR 172 [(0,.rv (.one (.ptr 0 0))),(1,.rv (.one (.ptr 1 0))),(4,.rv (.one (.ptr 2 0))),(6,.rv (.one (.ptr 3 0))),(9,an .i64 cT),(10,.rv (.one (.ptr 4 0)))],
    [xB k p,cB c,bQ,.var [.aa (.val (.int .i64 (n:Nat))),.aa (.val (.int .i64 r))],.var (a.enc.map .aa)]⟩:=by
 refine gD k.l k.ops k.ps ⟨hk.ll,fun o ho=>(hk.sm o ho).mz⟩ hk.lo hk.lp hk.sl hk.ne ?_
 refine ag (xO hn) ?_;have ho:=bC bD.enc k.ops hn;have hs:sb k n cT=⟨k.l,k.ops.set n {k.ops[n]with cT:=cT},k.ps⟩:=by rw[sb,Wk,sA hn]
 rw[hs];generalize k.ops[n]=x at ho;obtain⟨xo,xa⟩:=x;refine ag ho ?_;refine⟨trivial,_,_,View.o 8 [0,1] [5,6,7] (.eq rfl .nil) (.pt rfl rfl (PC (k:=⟨k.l,k.ops.set n ⟨xo,cT⟩,k.ps⟩) (gq rfl rfl) (gq rfl (congrArg (fun x=>some (Bk.row 2 x)) ?_)) (gq rfl rfl)) (.pt rfl rfl (.eq rfl (ct _)) (.nil _))),rfl,rfl⟩
 show aZ (af (k.ops.map bD.enc)) n ((bD.enc ⟨xo,cT⟩).map .aa)=_;rw[bg,af,af,aay,aay]
def unB:LC->LC
 | .block _ b=>b
 |x=>x
def WH:LC:=match unB (bH (R7 (bH (bH (bH (bH PD))))))with
 | .seq _ (.cond _ _ (.seq _ (.cond _ (.seq _ g) _)))=>g
 |x=>x
def WI:LC:=ov WH
def C5(a b d:Int)(x:Int):Prop:=x=a\/x=b\/x=d
theorem NX{σ:Nat->Nat}{m:Mem}{Z:Nat->Prop}{id:Nat}{e n x:Int}:lA σ m Z id (.var [.aa (.val (.int .i64 e)),.aa (.val (.int .i64 n)),.aa (.val (.int .i64 x)),.aB]) (.var ((An.enc ⟨e,n,x,[]⟩).map .aa)):=
 eC.var (.cons (.aQ (.aa _)) (.cons (.aQ (.aa _)) (.cons (.aQ (.aa _)) (.cons (.eZ (.aB 1)) .nil))))
theorem C6(k:Kr)(p:Nat)(hw:KW k p)(c:Cl)(n j:Nat)(hn:n<k.ops.length)(hj:j<k.l.length)(r cT:Int)(o':Obj)(e:Int)(ho:e=0->o'.sm):
  aw Tryz.prog 2 WI (Bs 0 (Oi (aw Tryz.prog 2 SV) (QC c33.jW (oG k n j cT c.data.length (o',e)).1 p c (oG k n j cT c.data.length (o',e)).2)))
   ⟨kR 172 [(0,.rv (.one (.ptr 0 0))),(1,.rv (.one (.ptr 1 0))),(4,.rv (.one (.ptr 2 0))),(6,.rv (.one (.ptr 3 0))),(7,an .i64 (j:Nat)),(9,an .i64 cT),(10,.rv (.one (.ptr 4 0))),(13,.rv (.one (.ptr 5 0))),(14,an .i64 e)],
    [xB k p,cB c,bQ,.var [.aa (.val (.int .i64 (n:Nat))),.aa (.val (.int .i64 r))],.var [.aa (.val (.int .i64 0)),.aa (.val (.int .i64 0)),.aa (.val (.int .i64 0)),.aB],.var (o'.enc.map .aa)]⟩:=by
 refine bt (fun he=>?_) (fun he=>?_)
 .have he:e≠0:=he;rw[oG,if_pos he];exact cM (X:=[_,_,_,_])
 have he:e=0:=he;subst he;have ho:=ho rfl;rw[oG,if_neg aI];refine gD k.l k.ops k.ps hw.mz hw.kr.lo hw.kr.lp hw.kr.sl hw.kr.ne ?_;refine ag (JZ hj) ?_;refine ag (bC Obj.enc k.l hj) ?_;refine⟨trivial,?_⟩;have hx:aZ (af (k.l.map Obj.enc)) j (o'.enc.map .aa)=af ((setObj k j o').l.map Obj.enc):=lM Obj.enc k.l j o';refine⟨_,View.o 9 [0,1,2,3,4] [6,7,8] ?_ ?_,oH (setObj k j o') (dz.GG hw.kr ho) p c n hn r (yq cT c.data.length) ⟨0,c.data.length,0,[]⟩⟩
 .have hl:∀x:List Int,(fB x).length=x.length:=fun x=>by simp[fB]
  have h9:an .i64 (IntKind.i64.wrap (cT+((fB c.data).length:Nat)))=an .i64 (yq cT c.data.length):=by rw[hl];rfl
  repeat(first|exact .nil|refine .ar ?_|refine .eq rfl ?_|refine .eq h9.symm ?_)
 .have h9:((fB c.data).length:Int)=(c.data.length:Int):=by simp[fB]
  refine .pt rfl rfl (PC (k:=setObj k j o') (gq rfl (congrArg (fun x=>some (Bk.row 9 x)) hx)) (gq rfl rfl) (gq rfl rfl)) (.pt rfl rfl (.eq rfl (ct _)) (.pt rfl rfl (.eq rfl (by simp[bQ])) (.pe rfl rfl rfl (.pt rfl rfl ?_ (.nil _)))))
  rw[<-h9];exact NX
theorem Mr{ops:List bD}{n:Nat}(h:n<ops.length):m8 ops (n:Int)=ops[n].cT:=by rw[m8,Wk,sA h]
theorem GH(k:Kr)(p:Nat)(hw:KW k p)(c:Cl)(need:Int)(A9:C5 4 5 6 c.ah)(hd:c.data.length<=4194304):
  aw Tryz.prog 2 PD (QC c33.jW (lX k c (bv k p c.fd need)).1 p c (lX k c (bv k p c.fd need)).2)
   ⟨kR 172 [(0,.rv (.one (.ptr 0 0))),(1,.rv (.one (.ptr 1 0))),(4,.rv (.one (.ptr 2 0))),(5,an .i64 need)],[xB k p,cB c,bQ]⟩:=by
 refine je k p hw c.fd need 0 rfl ?_;have hh:= @KW.held k p hw c.fd need;generalize bv k p c.fd need=w at hh⊢;obtain⟨⟨o,r⟩,b,e⟩:=w;refine bt (fun he=>?_) (fun he=>?_)
 .have he:e≠0:=he;have e1:lX k c ((o,r),b,e)=(k,An.no e):=by rw[lX,if_pos he]
  rw[e1];exact cM (X:=[_,_])
 have he:e=0:=he;subst he;obtain⟨n,j,h1,h2,h3,h4,h5⟩:=hh rfl;have h1:o=n:=h1;have h3:b=j:=h3;subst h1 h3;have iX:=(hw.kr.sm _ (Wl h4)).mz;have BG:=hw.kr.sm _ (Wl h4);have NA:=rb h4;refine ag (sO h2) ?_;have hS:lX k c ((((n:Nat):Int),r),((j:Nat):Int),0)=if c.ah=4 then oF k n k.ops[n].cT (gm k.l[j].ah k.l[j].data k.ops[n].cT c.n)
  else if c.ah=5 then oG k n j k.ops[n].cT c.data.length (eh k.l[j] k.ops[n].cT (fB c.data))else ra k n c.n:=by
  rw[lX,if_neg aI,NA,Mr h2]
 rw[hS];refine bA (fun k4=>?_) (fun k4=>?_)
 .have k4:c.ah=4:=k4;rw[if_pos k4];refine ag (gI h4) ?_;refine JS k.l[j] iX.1 k.ops[n].cT c.n ?_;generalize gm k.l[j].ah k.l[j].data k.ops[n].cT c.n=R;obtain⟨d,e⟩:=R;refine⟨trivial,?_⟩;refine bt (fun he=>?_) (fun he=>?_)
  .have he:e≠0:=he;rw[oF,if_pos he];exact cM (X:=[_,_,_])
  .have he:e=0:=he;subst he;rw[oF,if_neg aI];refine⟨_,View.o1 5 [0,1,2,3,4] [] ?_,oH k hw.kr p c n h2 r (yq k.ops[n].cT d.length) ⟨0,d.length,0,d⟩⟩
   .exact .pt rfl rfl (.eq rfl (bx _ _)) (.pt rfl rfl (.eq rfl (ct _)) (.pt rfl rfl (.eq rfl (by simp[bQ])) (.pe rfl rfl rfl (.pm rfl rfl rfl))))
 have k4:¬c.ah=4:=k4;rw[if_neg k4];refine bA (fun k5=>?_) (fun k5=>?_)
 .have k5:c.ah=5:=k5;rw[if_pos k5];have hb:(fB c.data).length<=4194304:=by simpa[fB]using hd
  have yL:=fun(h:(eh k.l[j] k.ops[n].cT (fB c.data)).2=0)=>(uG BG h).1
  have hg:=gI h4;have SX:=fun o' e(h:e=0->Obj.sm o')=>C6 k p hw c n j h2 h4 r k.ops[n].cT o' e h
  refine ag hg ?_;refine⟨?_,?_⟩
  .refine Af k.l[j] iX k.ops[n].cT (fB c.data) hb ?_;generalize eh k.l[j] k.ops[n].cT (fB c.data)=R at yL⊢;obtain⟨o',e⟩:=R;refine⟨trivial,⟨rfl,rfl,ag hg rfl,rfl,trivial⟩,trivial,_,View.o1 6 [0,1,2,3,4,5] [] ?_,SX o' e yL⟩
   .exact .pt rfl rfl (.eq rfl (bx _ _)) (.pt rfl rfl (.eq rfl (ct _)) (.pt rfl rfl (.eq rfl (by simp[bQ])) (.pe rfl rfl rfl (.pe rfl rfl rfl (.pm rfl rfl rfl)))))
  .refine⟨⟨rfl,rfl,ag hg rfl,rfl,trivial⟩,?_⟩;refine Af k.l[j] iX k.ops[n].cT (fB c.data) hb ?_;generalize eh k.l[j] k.ops[n].cT (fB c.data)=R at yL⊢;obtain⟨o',e⟩:=R;refine⟨trivial,trivial,_,View.o1 6 [0,1,2,3,4,5] [] ?_,SX o' e yL⟩
   .exact .pt rfl rfl (.eq rfl (bx _ _)) (.pt rfl rfl (.eq rfl (ct _)) (.pt rfl rfl (.eq rfl (by simp[bQ])) (.pe rfl rfl rfl (.pe rfl rfl rfl (.pm rfl rfl rfl)))))
 .have k5:¬c.ah=5:=k5;rw[if_neg k5];refine aJ (fun h6=>?_) (fun h6=>?_)
  .have h6:c.n<0:=h6;rw[ra,if_pos (.inl h6)];exact cM (X:=[_,_,_])
  have h6:¬c.n<0:=h6;refine aJ (fun h7=>?_) (fun h7=>?_)
  .have h7:c.n>60:=h7;rw[ra,if_pos (.inr h7)];exact cM (X:=[_,_,_])
  have h7:¬c.n>60:=h7;rw[ra,if_neg om];refine⟨_,View.o1 5 [0,1,2,3,4] [] ?_,oH k hw.kr p c n h2 r c.n ⟨0,0,0,[]⟩⟩
  .exact .pt rfl rfl (.eq rfl (bx _ _)) (.pt rfl rfl (.eq rfl (ct _)) (.pt rfl rfl (.eq rfl (by simp[bQ])) (.pe rfl rfl rfl (.pt rfl rfl NX (.nil _)))))
theorem C7(k:Kr)(p:Nat)(hw:KW k p)(c:Cl)(A9:C5 4 5 6 c.ah)(hd:c.data.length<=4194304):
  body Tryz.prog c33 [.rv (.one (.ptr 0 0)),.rv (.one (.ptr 1 0))] [xB k p,cB c] (TC (iM k p c).1 p c (iM k p c).2):=by
 have hs:=fun need=>GH k p hw c need A9 hd
 have NY:iM k p c=lX k c (bv k p c.fd (nb c.ah)):=rfl;rw[NY];clear NY;obtain⟨aM,ah,fd,fM,n,bi,aR,bm,data⟩:=c;rcases A9 with h|h|h
 .have h:ah=4:=h;subst h;refine⟨_,View.o1 4 [0,1,2] [] ?_,hs 1⟩
  .exact .pt rfl rfl (.eq rfl (bx _ _)) (.pt rfl rfl (.eq rfl (ct _)) (.pt rfl rfl (.eq rfl (by simp[bQ])) (.nil _)))
 .have h:ah=5:=h;subst h;refine⟨_,View.o1 4 [0,1,2] [] ?_,hs 2⟩
  .exact .pt rfl rfl (.eq rfl (bx _ _)) (.pt rfl rfl (.eq rfl (ct _)) (.pt rfl rfl (.eq rfl (by simp[bQ])) (.nil _)))
 .have h:ah=6:=h;subst h;refine⟨_,View.o1 4 [0,1,2] [] ?_,hs 4⟩
  .exact .pt rfl rfl (.eq rfl (bx _ _)) (.pt rfl rfl (.eq rfl (ct _)) (.pt rfl rfl (.eq rfl (by simp[bQ])) (.nil _)))
theorem oI(k:Kr)(p:Nat)(hw:KW k p)(c:Cl)(A9:C5 4 5 6 c.ah)(hd:c.data.length<=4194304):aq Tryz.prog 33 [.rv (.one (.ptr 0 0)),.rv (.one (.ptr 1 0))] [xB k p,cB c] (TC (iM k p c).1 p c (iM k p c).2):=
 ce Tryz.func33 l33 (C7 k p hw c A9 hd)
end Kn
end Go.Proofs.YtodckkkbiidffaaGreatDoor
