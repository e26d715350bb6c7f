/- Part 32 of 41: what the law stands on. -/
import Derived.Test.YthagjdhjmamakaaGreatDoorT16
import Derived.Test.YthagjdhjmamakaaGreatDoorT31
set_option linter.unusedVariables false
set_option linter.unusedSimpArgs false
set_option linter.unnecessarySimpa false
set_option maxRecDepth 100000
set_option maxHeartbeats 64000000
namespace Go.Proofs.YthagjdhjmamakaaGreatDoor
open Go.AM Go.ChangeShapes Go.WideShapes Go.ChangeAt Go.RowKit
def c48:LF:= ⟨117,[.cell true 4 8],(.seq (.ai [qu 8 (.alloc [(qd 0),(qd 0),(qd 0),.aB])]) (.seq (.bT [qm 15 0,qu 16 (.aR 15),qf 17 0 16,qf 18 0 17,ql 19 18,qm 20 2,qm 21 1,qu 22 (.aR 21),qf 23 7 22,ql 24 23,qm 25 3,qu 26 (qc 60 [19,20,24,25,(qb true)]),qm 14 26,qu 27 (.ext 14 0),qu 28 (.ext 14 1),qu 9 (.alloc [(qd 0),(qd 0),(.aa (.val (.string ⟨#[]⟩)))]),qw (.store 3 9 27),qm 10 28] [(.cons 0 none (.cons 1 none (.cons 2 none (.cons 3 none (.cons 4 none (.cons 5 none (.cons 6 none (.cons 7 none (.cons 8 none (.cons 9 none (.cons 10 none (.zS (.cons 11 (some []) (.cons 12 none (.cons 13 none (.cons 14 none (.cons 15 (some [9,4]) (.cons 16 (some []) (.cons 17 none .nil))))))) (.cons 15 (some [9,4]) (.cons 11 (some []) (.cons 12 none (.cons 13 none (.cons 14 none (.cons 16 (some []) (.cons 17 none .nil)))))))))))))))))))]) (.cL (.seq (.ai [qf 29 0 9,ql 30 29,qm 11 30]) (.seq (.block 0 (.seq (.ai [qm 32 10,qu 33 (.aE .neq 32 (qi 0)),qm 31 33]) (.cond 31 .skip (.seq (.ai [qm 35 11,qu 36 (.aE .lss 35 (qi 0)),qm 37 36,qg 38 (.aD 1) 37 true,qg 39 (.aR 38) 37 true,qg 40 (.bQ 5 39) 37 true,qg 41 (.load false 1 40) 37 true,qg 42 (.aE .and 41 (qi 1)) 37 true,qg 43 (.aE .eql 42 (qi 0)) 37 true,qu 44 (.pick 37 43 (qb false)),qm 34 44]) (.cond 34 (.ai [qu 10 (.aD (qi 6))]) (.seq (.ai [qm 46 11,qu 47 (.aE .lss 46 (qi 0)),qm 45 47]) (.cond 45 (.ai [qm 49 0,qL 50 3 9,qu 51 (.build [(qd 0),.aB,.aB,(.aa (.val (.string ⟨#[]⟩))),(qd 0),.aB,(qd 0),(qd 0),(qd 0)] [(0,1,(qi 1))]),qu 52 (qc 63 [49,50,51]),qm 48 52,qu 53 (.ext 48 0),qu 54 (.ext 48 1),qm 11 53,qm 10 54]) (.seq (.ai [qm 56 1,qu 57 (.aR 56),qf 58 5 57,ql 59 58,qu 60 (.aE .and 59 (qi 2)),qu 61 (.aE .neq 60 (qi 0)),qm 62 61,qg 63 (.aD 0) 62 true,qg 64 (.aR 63) 62 true,qg 65 (.bQ 0 64) 62 true,qg 66 (.bQ 0 65) 62 true,qg 67 (.load false 1 66) 62 true,qg 68 (.aD 11) 62 true,qg 69 (.b7 9 67 68) 62 true,qg 70 (.bQ 0 69) 62 true,qg 71 (.load false 1 70) 62 true,qg 72 (.aE .eql 71 (qi 2)) 62 true,qu 73 (.pick 62 72 (qb false)),qm 55 73]) (.cond 55 (.ai [qu 10 (.aD (qi 12))]) .skip))))))))) (.cL (.seq (.seq (.ai [qm 74 10,qu 75 (.aE .neq 74 (qi 0))]) (.cond 75 (.seq (.ai [qm 76 10,qu 77 (.build [(qd 0),(qd 0),(qd 0),.aB] [(0,1,76)]),qw (.store 4 8 77)]) .ret) .skip)) (.seq (.bT [qm 79 0,qu 80 (.aR 79),qf 81 0 80,qL 82 3 81,qm 83 0,qu 84 (.aR 83),qf 85 3 84,ql 86 85,qm 87 11,qm 88 1,qu 89 (.aR 88),qf 90 6 89,ql 91 90,qu 92 (qc 65 [82,86,87,91]),qm 78 92,qu 93 (.ext 78 0),qu 94 (.ext 78 1),qu 95 (.ext 78 2),qu 12 (.alloc [.aB,.aB,.aB]),qw (.store 3 12 93),qm 13 94,qm 10 95] [(.cons 0 none (.cons 1 none (.cons 2 none (.cons 3 none (.cons 4 none (.cons 5 none (.cons 6 none (.cons 7 none (.cons 8 none (.cons 9 none (.cons 10 none (.cons 11 none (.cons 12 none (.zS (.cons 13 (some []) (.cons 14 none (.cons 15 none (.cons 16 none (.cons 17 none (.cons 18 (some [12,7,3]) (.cons 19 (some []) (.cons 20 none (.cons 21 none .nil))))))))) (.cons 18 (some [12,7,3]) (.cons 13 (some []) (.cons 14 none (.cons 15 none (.cons 16 none (.cons 17 none (.cons 19 (some []) (.cons 20 none (.cons 21 none .nil)))))))))))))))))))))))]) (.cL (.seq (.seq (.ai [qm 96 10,qu 97 (.aE .neq 96 (qi 0))]) (.cond 97 (.seq (.ai [qm 98 10,qu 99 (.build [(qd 0),(qd 0),(qd 0),.aB] [(0,1,98)]),qw (.store 4 8 99)]) .ret) .skip)) (.cL (.seq (.seq (.ai [qm 100 1,qu 101 (.aR 100),qf 102 5 101,ql 103 102,qu 104 (.aE .and 103 (qi 2)),qu 105 (.aE .neq 104 (qi 0))]) (.cond 105 (.ai [qf 106 0 12,ql 107 106,qm 108 11,qu 109 (.b7 9 107 108),qf 110 1 109,qw (.store 1 110 qe)]) .skip)) (.seq (.ai [qm 111 0,qL 112 3 12,qu 113 (.aR 111),qf 114 0 113,qw (.store 3 114 112)]) (.seq (.ai [qm 115 13,qu 116 (.build [(qd 0),(qd 0),(qd 0),.aB] [(1,1,115)]),qw (.store 4 8 116)]) .ret))))))))))))))⟩
namespace Kn
def nF:Obj:=⟨1,[],[],⟨#[]⟩,0,[],0,0,0⟩
theorem xI:ND nF:=⟨⟨⟨⟨[],rfl⟩,⟨[],rfl⟩,by simp[nF]⟩,by simp[nF],by simp[nF],by simp[nF],by simp[nF]⟩,rfl⟩
def iQ(k:Kr)(au:Int)(s:bD.di)(ax follow:Bool):R4:=oF (k.l.map Obj.ob) au s ax follow
theorem qx(k:Kr)(p:Nat)(hw:KW k p)(au:Int)(s:bD.di)(ax follow:Bool){m:Mem}{K:CV->Mem->Prop}(h:K (RR (iQ k au s ax follow)) m):
  ar Tryz.prog 60 [cq k.l,an .i64 au,bD.vT s,aA ax,aA follow] m K:=by
 rw[show cq k.l=yD (k.l.map Obj.ob)from congrArg (fun d=>CV.rv (.one (.aa d))) (QS k.l)]
 exact Nv _ hw.lk au s ax follow h
def D7(l:List Obj)(z:Int):Int:=match l[z.toNat]? with|some o=>o.ah|none=>0
def cH(k:Kr)(c:Cl)(f:R4):Kr×Int×Int:=
 if f.ix≠0 then(k,f.bt,f.ix)
 else if f.bt<0 then(if kh c.bj 1=0 then(k,f.bt,6)else cK k f nF)
 else if kh c.bj 2≠0/\D7 k.l f.bt=2 then(k,f.bt,12)
 else(k,f.bt,0)
def nG(l:List Obj)(z:Int):List Obj:=match l[z.toNat]? with|some o=>l.set z.toNat {o with data:=[]}|none=>l
def gV(p:Nat)(c:Cl)(x:Kr×Int×Int):Kr×An:=
 if x.2.2≠0 then(x.1,An.no x.2.2)
 else if(aH x.1 p x.2.1 c.aQ).2.2≠0 then(x.1,An.no (aH x.1 p x.2.1 c.aQ).2.2)
 else(if kh c.bj 2≠0 then⟨nG (aH x.1 p x.2.1 c.aQ).1.l x.2.1,(aH x.1 p x.2.1 c.aQ).1.ops,(aH x.1 p x.2.1 c.aQ).1.ps⟩else(aH x.1 p x.2.1 c.aQ).1,⟨0,(aH x.1 p x.2.1 c.aQ).2.1,0,[]⟩)
def iB(k:Kr)(p:Nat)(c:Cl)(au:Int)(ax:Bool):Kr×An:=gV p c (cH k c (iQ k au c.bZ ax true))
theorem NF{m:Mem}{Z:Nat->Prop}{p:Option Nat}{id:Nat}{l:List Obj}{k:Nat}{c:List CC}{x:Obj}(hc:gx m Z (some id) c x.enc)(hz:Z id)(hm:m[id]? =some (.row 9 (a7 (af (l.map Obj.enc)) k c))):
  dm m Z p (.row id 9 0 none) (da (l.set k x)):=by
 rw[bg]at hm;refine dm.row id 9 0 none _ _ hz hm (by simp[af]) (fun i cs es h1 h2=>?_) (fun i cs es j c' d h1 h2 h3 h4=>?_)
 .rw[aaq]at h1;rw[O6,aaq]at h2;by_cases e:k=i
  .subst e;rw[if_pos rfl]at h1 h2;split at h1
   .cases h1;split at h2
    .cases h2;exact hc.len
    .cases h2
   .cases h1
  .rw[if_neg e]at h1 h2;rw[af,O6,O6]at h1;cases hx:l[i]? with
   |none=>rw[hx]at h2;cases h2
   |some y=>
    rw[hx]at h1 h2;cases h1;cases h2;simp
 .rw[aaq]at h1;rw[O6,aaq]at h2;by_cases e:k=i
  .subst e;rw[if_pos rfl]at h1 h2;split at h1
   .cases h1;split at h2
    .cases h2;exact hc.get j c' d h3 h4
    .cases h2
   .cases h1
  .rw[if_neg e]at h1 h2;rw[af,O6,O6]at h1;cases hx:l[i]? with
   |none=>rw[hx]at h2;cases h2
   |some y=>
    rw[hx]at h1 h2;cases h1;cases h2;rw[O6,h4]at h3;cases h3;exact .aa _
theorem l48:bq Tryz.prog Tryz.f48=some c48.er:=by kernel_rfl
def C29:LC:=bI (bI c48.code)
def ZU:LC:=oV C29
def C74:LC:=bI (bI ZU)
def ZV:LC:=oV C74
def C96:LC:=bI (bI ZV)
def X4:LC:=oV C96
def X5:LC:=bI X4
def X6:LC:=oV X5
def bS:Bk:= .var [.aa (.val (.int .i64 0)),.aa (.val (.int .i64 0)),.aa (.val (.int .i64 0)),.aB]
def TC(k:Kr)(p:Nat)(c:Cl)(a:An)(r:CV)(m:Mem):Prop:=∃r' m',View 2 ⟨[r],m⟩ ⟨[r'],m'⟩/\r'=a.cv/\m'=[xB k p,cB c]
def QC(ki:List Rv)(k:Kr)(p:Nat)(c:Cl)(a:An):Ex->St->Prop:=nb Tryz.prog ki (TC k p c a)
theorem Lh{σ:Nat->Nat}{m:Mem}{Z:Nat->Prop}{e n x:Int}:pS σ m Z (.rv (.agg [.aa (.val (.int .i64 e)),.aa (.val (.int .i64 n)),.aa (.val (.int .i64 x)),.aB])) (An.cv ⟨e,n,x,[]⟩):=
 .rv (.agg rfl fun i c c' h1 h2=>by
  match i,h1,h2 with
  |0,h1,h2=>cases h1;cases h2;exact .aP (.aa _)
  |1,h1,h2=>cases h1;cases h2;exact .aP (.aa _)
  |2,h1,h2=>cases h1;cases h2;exact .aP (.aa _)
  |3,h1,h2=>cases h1;cases h2;exact .eu (.aB 1)
  |n+4,h1,h2=>simp at h1)
theorem cO{k:Kr}{p:Nat}{c:Cl}{X:Mem}{e n x:Int}:TC k p c ⟨e,n,x,[]⟩ (.rv (.agg [.aa (.val (.int .i64 e)),.aa (.val (.int .i64 n)),.aa (.val (.int .i64 x)),.aB])) (xB k p::cB c::X):=
 ⟨_,_,View.of (X.length+2) [0,1] [] rfl rfl rfl rfl rfl (by simp[eX,Nat.blt]) (.put Lh .nil) (.pt rfl rfl (.eq rfl (bx _ _)) (.pt rfl rfl (.eq rfl (cr _)) (.nil _))),rfl,rfl⟩
theorem Li{l:List Obj}{n:Nat}(h:n<l.length):dt (n:Int) (lenOf (af (l.map Obj.enc)).length 0 none)=some n:=bP (by show n<(af (l.map Obj.enc)).length;rw[bb,LW];exact h)
theorem D8(k1:Kr)(p:Nat)(c:Cl)(O:Kr)(j:Nat)(hj:j<O.l.length)(fd:Int)(kf:Kr)(hk:kf=if kh c.bj 2≠0 then⟨nG O.l j,O.ops,O.ps⟩else O):
  aw Tryz.prog 2 X6 (QC c48.ki kf p c ⟨0,fd,0,[]⟩)
   ⟨lB 117 [(0,.rv (.one (.ptr 0 0))),(1,.rv (.one (.ptr 1 0))),(8,.rv (.one (.ptr 2 0))),(11,an .i64 (j:Nat)),(12,.rv (.one (.ptr 3 0))),(13,an .i64 fd)],
    [xB k1 p,cB c,bS,.var [.row 4 9 0 none,.aa (eF O.ops),.aa (fM O.ps)],.row 9 (af (O.l.map Obj.enc))]⟩:=by
 refine bu (fun h2=>?_) (fun h2=>?_)
 .have h2:kh c.bj 2≠0:=h2;rw[if_pos h2]at hk;subst hk;refine ag (Li hj) ?_;have ho:=bA Obj.enc O.l hj;have ht:nG O.l (j:Nat)=O.l.set j {O.l[j]with data:=[]}:=by rw[nG,XO,tq hj]
  rw[ht];generalize O.l[j]=x at ho;obtain⟨ah,data,aj,target,aG,ak,aM,am,up⟩:=x;refine ag ho ?_;refine⟨_,_,View.o 5 [0,1] [4] (.put Lh .nil) (.pt rfl rfl (QY (k:=⟨O.l.set j ⟨ah,[],aj,target,aG,ak,aM,am,up⟩,O.ops,O.ps⟩) (NF (.cons (.aa _) (.cons (.aB 1) (.cons (.aa _) (.cons (.aa _) (.cons (.aa _) (.cons (.aa _) (.cons (.aa _) (.cons (.aa _) (.cons (.aa _) .nil))))))))) rfl rfl) (.aa _) (.aa _)) (.pt rfl rfl (.eq rfl (cr _)) (.nil _))),rfl,rfl⟩
 .have h2:¬kh c.bj 2≠0:=fun h=>h h2
  rw[if_neg h2]at hk;subst hk;exact⟨_,_,View.o 5 [0,1] [4] (.put Lh .nil) (.pt rfl rfl (QY (gA rfl rfl) (.aa _) (.aa _)) (.pt rfl rfl (.eq rfl (cr _)) (.nil _))),rfl,rfl⟩
theorem HV{k:Kr}{n:Nat}{bt cn:Int}(h:(aH k n bt cn).2.2=0):(aH k n bt cn).1.l=k.l:=by
 unfold aH at h⊢;split at h
 .simp at h
 .rename_i h1;rw[if_neg h1];split at h
  .rename_i h2;exact absurd h h2
  .rename_i h2;rw[if_neg h2]
theorem vp(k1:Kr)(p:Nat)(c:Cl)(e:Int)(he:e≠0):
  aw Tryz.prog 2 X4 (QC c48.ki k1 p c (An.no e)) ⟨lB 117 [(0,.rv (.one (.ptr 0 0))),(1,.rv (.one (.ptr 1 0))),(8,.rv (.one (.ptr 2 0))),(10,an .i64 e)],[xB k1 p,cB c,bS]⟩:=by
 refine bu (fun h2=>?_) (fun h2=>absurd h2 he)
 exact cO (X:=[_])
theorem vq(k1:Kr)(p:Nat)(c:Cl)(O:Kr)(j:Nat)(hj:j<O.l.length)(fd:Int)(kf:Kr)(hk:kf=if kh c.bj 2≠0 then⟨nG O.l j,O.ops,O.ps⟩else O):
  aw Tryz.prog 2 X4 (QC c48.ki kf p c ⟨0,fd,0,[]⟩)
   ⟨lB 117 [(0,.rv (.one (.ptr 0 0))),(1,.rv (.one (.ptr 1 0))),(8,.rv (.one (.ptr 2 0))),(10,an .i64 0),(11,an .i64 (j:Nat)),(12,.rv (.one (.ptr 3 0))),(13,an .i64 fd)],
    [xB k1 p,cB c,bS,.var [.row 4 9 0 none,.aa (eF O.ops),.aa (fM O.ps)],.row 9 (af (O.l.map Obj.enc))]⟩:=by
 refine⟨_,View.o1 5 [0,1,2,3,4] [] ?_,D8 k1 p c O j hj fd kf hk⟩
 .exact .pt rfl rfl (.eq rfl (bx _ _)) (.pt rfl rfl (.eq rfl (cr _)) (.pt rfl rfl (.eq rfl (by simp[bS])) (.pe rfl rfl rfl (.pn rfl rfl rfl))))
theorem HW(p:Nat)(c:Cl)(x:Kr×Int×Int)(hx:x.2.2=0->dC x.1.l x.1.ops x.1.ps/\p<x.1.ps.length/\∃j:Nat,x.2.1=j/\j<x.1.l.length):
  aw Tryz.prog 2 ZV (QC c48.ki (gV p c x).1 p c (gV p c x).2)
   ⟨lB 117 [(0,.rv (.one (.ptr 0 0))),(1,.rv (.one (.ptr 1 0))),(8,.rv (.one (.ptr 2 0))),(10,an .i64 x.2.2),(11,an .i64 x.2.1)],[xB x.1 p,cB c,bS]⟩:=by
 obtain⟨k1,bt,e⟩:=x;refine bu (fun h2=>?_) (fun h2=>?_)
 .have h2:e≠0:=h2;have e1:gV p c (k1,bt,e)=(k1,An.no e):=by rw[gV,if_pos h2]
  rw[e1];exact cO (X:=[_])
 have h2:e=0:=h2;subst h2;obtain⟨hk,hp,j,hj,l4⟩:=hx rfl;have hj:bt=(j:Nat):=hj;subst hj;have hS:gV p c (k1,(j:Int),0)=if(aH k1 p j c.aQ).2.2≠0 then(k1,An.no (aH k1 p j c.aQ).2.2)
  else(if kh c.bj 2≠0 then⟨nG (aH k1 p j c.aQ).1.l j,(aH k1 p j c.aQ).1.ops,(aH k1 p j c.aQ).1.ps⟩else(aH k1 p j c.aQ).1,⟨0,(aH k1 p j c.aQ).2.1,0,[]⟩):=by
  rw[gV,if_neg aK]
 rw[hS];have Aw:= @HV k1 p (j:Int) c.aQ;refine⟨?_,?_⟩
 .refine vo k1 hk p hp (j:Int) c.aQ (fun he=>?_) (fun he=>?_)
  .rw[if_pos he];refine⟨trivial,⟨rfl,rfl,rfl,trivial⟩,trivial,_,View.o1 4 [0,1,2] [] ?_,vp k1 p c _ he⟩
   .exact .pt rfl rfl (.eq rfl (bx _ _)) (.pt rfl rfl (.eq rfl (cr _)) (.pt rfl rfl (.eq rfl (by simp[bS])) (.nil _)))
  .rw[if_neg (by simp[he])]
   have hl:=Aw he;refine⟨trivial,⟨rfl,rfl,rfl,trivial⟩,trivial,_,View.o1 5 [0,1,2,4,3] [] ?_,vq k1 p c (aH k1 p j c.aQ).1 j (by rw[hl];exact l4) _ _ rfl⟩
   .exact .pt rfl rfl (.eq rfl (bx _ _)) (.pt rfl rfl (.eq rfl (cr _)) (.pt rfl rfl (.eq rfl (by simp[bS])) (.pe rfl rfl rfl (.pn rfl rfl rfl))))
 .refine⟨⟨rfl,rfl,rfl,trivial⟩,?_⟩;refine vo k1 hk p hp (j:Int) c.aQ (fun he=>?_) (fun he=>?_)
  .rw[if_pos he];refine⟨trivial,trivial,_,View.o1 4 [0,1,2] [] ?_,vp k1 p c _ he⟩
   .exact .pt rfl rfl (.eq rfl (bx _ _)) (.pt rfl rfl (.eq rfl (cr _)) (.pt rfl rfl (.eq rfl (by simp[bS])) (.nil _)))
  .rw[if_neg (by simp[he])]
   have hl:=Aw he;refine⟨trivial,trivial,_,View.o1 5 [0,1,2,3,4] [] ?_,vq k1 p c (aH k1 p j c.aQ).1 j (by rw[hl];exact l4) _ _ rfl⟩
   .exact .pt rfl rfl (.eq rfl (bx _ _)) (.pt rfl rfl (.eq rfl (cr _)) (.pt rfl rfl (.eq rfl (by simp[bS])) (.pe rfl rfl rfl (.pn rfl rfl rfl))))
theorem y9(a b:CV)(k:Int)(t:ByteArray):jL [a,b,.rv (.agg [.aa (.val (.int .i64 k)),.aB,.aB,.aa (.val (.string t)),.aa (.val (.int .i64 0)),.aB,.aa (.val (.int .i64 0)),.aa (.val (.int .i64 0)),.aa (.val (.int .i64 0))])] [a,b,Obj.cv ⟨k,[],[],t,0,[],0,0,0⟩]:=
 .dz _ (.dz _ (.agg (.cons (.dz _) (.cons (.aB 1) (.cons (.aB 2) (.cons (.dz _) (.cons (.dz _) (.cons (.aB 4) (.cons (.dz _) (.cons (.dz _) (.cons (.dz _) .nil))))))))) .nil))
structure D9(k:Kr)(p:Nat)(c:Cl)(f:R4):Prop where
 fi:f.ix=0->f.bt<(k.l.length:Int)
 x:(cH k c f).2.2=0->dC (cH k c f).1.l (cH k c f).1.ops (cH k c f).1.ps/\p<(cH k c f).1.ps.length/\∃j:Nat,(cH k c f).2.1=j/\j<(cH k c f).1.l.length
theorem HX(k:Kr)(p:Nat)(hw:KW k p)(c:Cl)(f:R4)(hf:D9 k p c f):
  aw Tryz.prog 2 ZU (QC c48.ki (gV p c (cH k c f)).1 p c (gV p c (cH k c f)).2)
   ⟨lB 117 [(0,.rv (.one (.ptr 0 0))),(1,.rv (.one (.ptr 1 0))),(8,.rv (.one (.ptr 2 0))),(9,.rv (.one (.ptr 3 0))),(10,an .i64 f.ix)],[xB k p,cB c,bS,.var ((RQ f).map .aa)]⟩:=by
 have IP:=HW p c (cH k c f) hf.x;have RA:=hf.fi;clear hf;obtain⟨bt,cE,name,ix⟩:=f;refine bu (fun he=>?_) (fun he=>?_)
 .have he:ix≠0:=he;have e1:cH k c ⟨bt,cE,name,ix⟩=(k,bt,ix):=by rw[cH,if_pos he]
  rw[e1]at IP⊢;refine⟨_,View.o1 4 [0,1,2] [] ?_,IP⟩
  .exact .pt rfl rfl (.eq rfl (bx _ _)) (.pt rfl rfl (.eq rfl (cr _)) (.pt rfl rfl (.eq rfl (by simp[bS])) (.nil _)))
 have he:ix=0:=he;subst he;have RA:bt<(k.l.length:Int):=RA rfl;refine aJ (fun h1=>?_) (fun h1=>?_)
 .have h1:bt<0:=h1;refine bz (fun h2=>?_) (fun h2=>?_)
  .have h2:kh c.bj 1=0:=h2;have e1:cH k c ⟨bt,cE,name,0⟩=(k,bt,6):=by rw[cH,if_neg aK,if_pos h1,if_pos h2]
   rw[e1]at IP⊢;refine⟨_,View.o1 4 [0,1,2] [] ?_,IP⟩
   .exact .pt rfl rfl (.eq rfl (bx _ _)) (.pt rfl rfl (.eq rfl (cr _)) (.pt rfl rfl (.eq rfl (by simp[bS])) (.nil _)))
  .have h2:¬kh c.bj 1=0:=h2;have e1:cH k c ⟨bt,cE,name,0⟩=cK k ⟨bt,cE,name,0⟩ nF:=by rw[cH,if_neg aK,if_pos h1,if_neg h2]
   rw[e1]at IP⊢;refine b8 (decide_eq_true h1) ?_;refine lI (y9 _ _ _ _) (rK k p hw ⟨bt,cE,name,0⟩ nF xI 0 rfl ?_);refine⟨_,View.o1 4 [0,1,2] [] ?_,IP⟩
   .exact .pt rfl rfl (.eq rfl (bx _ _)) (.pt rfl rfl (.eq rfl (cr _)) (.pt rfl rfl (.eq rfl (by simp[bS])) (.nil _)))
 .have h1:¬bt<0:=h1;obtain⟨j,rfl⟩:∃j:Nat,bt=j:=⟨bt.toNat,om⟩;have hj:j<k.l.length:=om;have Mp:D7 k.l (j:Int)=k.l[j].ah:=by rw[D7,XO,tq hj]
  refine bu (fun h2=>?_) (fun h2=>?_)
  .have h2:kh c.bj 2≠0:=h2;refine ag (gU hj) ?_;refine bz (fun h3=>?_) (fun h3=>?_)
   .have h3:k.l[j].ah=2:=h3;have e1:cH k c ⟨(j:Nat),cE,name,0⟩=(k,(j:Int),12):=by rw[cH,if_neg aK,if_neg h1,if_pos ⟨h2,by rw[<-h3,<-Mp]⟩]
    rw[e1]at IP⊢;refine⟨_,View.o1 4 [0,1,2] [] ?_,IP⟩
    .exact .pt rfl rfl (.eq rfl (bx _ _)) (.pt rfl rfl (.eq rfl (cr _)) (.pt rfl rfl (.eq rfl (by simp[bS])) (.nil _)))
   .have h3:¬k.l[j].ah=2:=h3;have e1:cH k c ⟨(j:Nat),cE,name,0⟩=(k,(j:Int),0):=by rw[cH,if_neg aK,if_neg h1,if_neg (by rw[Mp];exact fun h=>h3 h.2)]
    rw[e1]at IP⊢;refine⟨_,View.o1 4 [0,1,2] [] ?_,IP⟩
    .exact .pt rfl rfl (.eq rfl (bx _ _)) (.pt rfl rfl (.eq rfl (cr _)) (.pt rfl rfl (.eq rfl (by simp[bS])) (.nil _)))
  .have h2:¬kh c.bj 2≠0:=fun h=>h h2
   have e1:cH k c ⟨(j:Nat),cE,name,0⟩=(k,(j:Int),0):=by rw[cH,if_neg aK,if_neg h1,if_neg (fun h=>h2 h.1)]
   rw[e1]at IP⊢;refine⟨_,View.o1 4 [0,1,2] [] ?_,IP⟩
   .exact .pt rfl rfl (.eq rfl (bx _ _)) (.pt rfl rfl (.eq rfl (cr _)) (.pt rfl rfl (.eq rfl (by simp[bS])) (.nil _)))
theorem Ea(k:Kr)(p:Nat)(hw:KW k p)(c:Cl)(au:Int)(ax:Bool)(hf:D9 k p c (iQ k au c.bZ ax true)):
  body Tryz.prog c48 [.rv (.one (.ptr 0 0)),.rv (.one (.ptr 1 0)),an .i64 au,aA ax] [xB k p,cB c] (TC (iB k p c au ax).1 p c (iB k p c au ax).2):=by
 have hs:=HX k p hw c _ hf;show body Tryz.prog c48 _ _ (TC (gV p c (cH k c (iQ k au c.bZ ax true))).1 p c (gV p c (cH k c (iQ k au c.bZ ax true))).2);refine⟨?_,?_⟩
 .refine qx k p hw au c.bZ ax true ?_;refine⟨trivial,⟨rfl,rfl,trivial⟩,trivial,_,View.o1 4 [0,1,2,3] [] ?_,hs⟩
  .exact .pt rfl rfl (.eq rfl (bx _ _)) (.pt rfl rfl (.eq rfl (cr _)) (.pt rfl rfl (.eq rfl (by simp[bS])) (.pm rfl rfl rfl)))
 .refine⟨⟨rfl,rfl,trivial⟩,?_⟩;refine qx k p hw au c.bZ ax true ?_;refine⟨trivial,trivial,_,View.o1 4 [0,1,2,3] [] ?_,hs⟩
  .exact .pt rfl rfl (.eq rfl (bx _ _)) (.pt rfl rfl (.eq rfl (cr _)) (.pt rfl rfl (.eq rfl (by simp[bS])) (.pm rfl rfl rfl)))
theorem Bu(k:Kr)(p:Nat)(hw:KW k p)(c:Cl)(au:Int)(ax:Bool)(hf:D9 k p c (iQ k au c.bZ ax true)){m:Mem}(i j:Nat)(pG:fQ [i,j]=true)(aF:eX m.length [i,j]=true)(hi:cR m i=some (xB k p))(hj:cR m j=some (cB c)){K:CV->Mem->Prop}(hK:K (iB k p c au ax).2.cv (cV m [i,j] [xB (iB k p c au ax).1 p,cB c])):
  ar Tryz.prog 48 [.rv (.one (.ptr i 0)),.rv (.one (.ptr j 0)),an .i64 au,aA ax] m K:=
 Pf (args:=[an .i64 au,aA ax]) (fun _=>rfl) (fun _=>rfl)
  (bK (cf Tryz.func48 l48 (Ea k p hw c au ax hf)) fun r m1⟨r',m',hv,hq⟩=>⟨r',m',hv,hq⟩) i j pG aF hi hj hK
end Kn
def c28:LF:= ⟨78,[.cell true 4 4],(.seq (.ai [qu 4 (.alloc [(qd 0),(qd 0),(qd 0),.aB])]) (.seq (.seq (.ai [qm 9 1,qu 10 (.aR 9),qf 11 6 10,ql 12 11,qu 13 (qc 47 [12]),qu 14 (.un .not 13),qm 15 14,qg 16 (.aD 1) 15 false,qg 17 (.aR 16) 15 false,qg 18 (.bQ 5 17) 15 false,qg 19 (.load false 1 18) 15 false,qg 20 (.aE .lss 19 (qi 0)) 15 false,qu 21 (.pick 15 (qb true) 20),qm 22 21,qg 23 (.aD 1) 22 false,qg 24 (.aR 23) 22 false,qg 25 (.bQ 5 24) 22 false,qg 26 (.load false 1 25) 22 false,qg 27 (.aE .gtr 26 (qi 3)) 22 false,qu 28 (.pick 22 (qb true) 27)]) (.cond 28 (.seq (.ai [qu 29 (.build [(qd 0),(qd 0),(qd 0),.aB] [(0,1,(qi 3))]),qw (.store 4 4 29)]) .ret) .skip)) (.seq (.seq (.ai [qm 30 1,qu 31 (.aR 30),qf 32 1 31,ql 33 32,qu 34 (.aE .eql 33 (qi 2))]) (.cond 34 (.seq (.ai [qm 35 0,qm 36 1,qu 37 (qc 48 [35,36,(qi 0),(qb false)]),qw (.store 4 4 37)]) .ret) .skip)) (.seq (.ai [qm 38 1,qu 39 (.aR 38),qf 40 6 39,ql 41 40,qu 42 (.aE .or (qi 8) 41),qm 5 42]) (.seq (.seq (.ai [qm 43 1,qu 44 (.aR 43),qf 45 5 44,ql 46 45,qu 47 (.aE .and 46 (qi 1)),qu 48 (.aE .neq 47 (qi 0))]) (.cond 48 (.ai [qm 49 5,qu 50 (.aE .or 49 (qi 16)),qm 5 50]) .skip)) (.seq (.seq (.ai [qm 51 1,qu 52 (.aR 51),qf 53 5 52,ql 54 53,qu 55 (.aE .and 54 (qi 2)),qu 56 (.aE .neq 55 (qi 0))]) (.cond 56 (.ai [qm 57 5,qu 58 (.aE .or 57 (qi 2)),qm 5 58]) .skip)) (.cL (.seq (.ai [qm 60 0,qm 61 1,qu 62 (.aR 61),qf 63 2 62,ql 64 63,qm 65 5,qu 66 (qc 49 [60,64,65]),qm 59 66,qu 67 (.ext 59 0),qu 68 (.ext 59 1),qu 69 (.ext 59 2),qu 6 (.alloc [(qd 0),(qd 0)]),qw (.store 2 6 67),qm 7 68,qm 8 69]) (.seq (.seq (.ai [qm 70 8,qu 71 (.aE .neq 70 (qi 0))]) (.cond 71 (.seq (.ai [qm 72 8,qu 73 (.build [(qd 0),(qd 0),(qd 0),.aB] [(0,1,72)]),qw (.store 4 4 73)]) .ret) .skip)) (.seq (.ai [qm 74 0,qm 75 1,qm 76 7,qu 77 (qc 48 [74,75,76,(qb true)]),qw (.store 4 4 77)]) .ret))))))))))⟩
namespace Kn
def kN(c:Cl):Int:=if kh c.bj 2≠0 then QW (if kh c.bj 1≠0 then QW (QW 8 c.aQ) 16 else QW 8 c.aQ) 2 else(if kh c.bj 1≠0 then QW (QW 8 c.aQ) 16 else QW 8 c.aQ)
def ig(k:Kr)(p:Nat)(c:Cl):Kr×An:=
 if Tb.dv c.aQ=false\/c.bj<0\/c.bj>3 then(k,An.no 3)
 else if c.ah=2 then iB k p c 0 false
 else if(bn k p c.fd (kN c)).2.2≠0 then(k,An.no (bn k p c.fd (kN c)).2.2)
 else iB k p c (bn k p c.fd (kN c)).2.1 true
theorem Eb{k:Kr}{p:Nat}{c:Cl}{X:Mem}{a:An}:TC k p c a a.cv (xB k p::cB c::X):=
 ⟨_,_,View.of (X.length+2) [0,1] [] rfl rfl rfl rfl rfl (by simp[eX,Nat.blt]) (.eq rfl .nil) (.pt rfl rfl (.eq rfl (bx _ _)) (.pt rfl rfl (.eq rfl (cr _)) (.nil _))),rfl,rfl⟩
theorem l28:bq Tryz.prog Tryz.f28=some c28.er:=by kernel_rfl
def X7:LC:=bI (bI (bI (bI (bI (bI c28.code)))))
def Uk:LC:=oV X7
theorem Lj(k:Kr)(p:Nat)(hw:KW k p)(c:Cl)(need:Int)(hf:∀au,D9 k p c (iQ k au c.bZ true true))(R:Kr×An)(hR:R=if(bn k p c.fd need).2.2≠0 then(k,An.no (bn k p c.fd need).2.2)else iB k p c (bn k p c.fd need).2.1 true):
  aw Tryz.prog 2 Uk (QC c28.ki R.1 p c R.2) ⟨lB 78 [(0,.rv (.one (.ptr 0 0))),(1,.rv (.one (.ptr 1 0))),(4,.rv (.one (.ptr 2 0))),(5,an .i64 need)],[xB k p,cB c,bS]⟩:=by
 refine jp k p hw c.fd need 0 rfl ?_;generalize bn k p c.fd need=w at hR⊢;obtain⟨⟨o,r⟩,b,e⟩:=w;refine bu (fun he=>?_) (fun he=>?_)
 .have he:e≠0:=he;rw[if_pos he]at hR;subst hR;exact cO (X:=[_,_])
 .have he:e=0:=he;subst he;rw[if_neg aK]at hR;subst hR;refine Bu k p hw c b true (hf b) 0 1 rfl rfl rfl rfl ?_;exact Eb (X:=[_,_])
theorem HY(k:Kr)(p:Nat)(hw:KW k p)(c:Cl)(hf:∀au ax,D9 k p c (iQ k au c.bZ ax true)):
  body Tryz.prog c28 [.rv (.one (.ptr 0 0)),.rv (.one (.ptr 1 0))] [xB k p,cB c] (TC (ig k p c).1 p c (ig k p c).2):=by
 have hv:∀need R,R=(if(bn k p c.fd need).2.2≠0 then(k,An.no (bn k p c.fd need).2.2)else iB k p c (bn k p c.fd need).2.1 true)->
  aw Tryz.prog 2 Uk (QC c28.ki R.1 p c R.2) ⟨lB 78 [(0,.rv (.one (.ptr 0 0))),(1,.rv (.one (.ptr 1 0))),(4,.rv (.one (.ptr 2 0))),(5,an .i64 need)],[xB k p,cB c,bS]⟩:=fun need R hR=>Lj k p hw c need (fun b=>hf b true) R hR
 refine Tb.uS c.aQ ?_;cases hr:Tb.dv c.aQ with
 |false=>
  have e1:ig k p c=(k,An.no 3):=by rw[ig,if_pos (.inl hr)]
  rw[e1];exact cO (X:=[_])
 |true=>
  refine aJ (fun h1=>?_) (fun h1=>?_)
  .have h1:c.bj<0:=h1;have e1:ig k p c=(k,An.no 3):=by rw[ig,if_pos (.inr (.inl h1))]
   rw[e1];exact cO (X:=[_])
  have h1:¬c.bj<0:=h1;refine aJ (fun h2=>?_) (fun h2=>?_)
  .have h2:c.bj>3:=h2;have e1:ig k p c=(k,An.no 3):=by rw[ig,if_pos (.inr (.inr h2))]
   rw[e1];exact cO (X:=[_])
  have h2:¬c.bj>3:=h2;have e0:ig k p c=if c.ah=2 then iB k p c 0 false
   else if(bn k p c.fd (kN c)).2.2≠0 then(k,An.no (bn k p c.fd (kN c)).2.2)
   else iB k p c (bn k p c.fd (kN c)).2.1 true:=by rw[ig,if_neg (by simp[hr,h1,h2])]
  rw[e0];refine bz (fun h3=>?_) (fun h3=>?_)
  .have h3:c.ah=2:=h3;rw[if_pos h3];refine Bu k p hw c 0 false (hf 0 false) 0 1 rfl rfl rfl rfl ?_;exact Eb (X:=[_])
  have h3:¬c.ah=2:=h3;rw[if_neg h3];refine bu (fun h4=>?_) (fun h4=>?_)
  .have h4:kh c.bj 1≠0:=h4;refine bu (fun h5=>?_) (fun h5=>?_)
   .have h5:kh c.bj 2≠0:=h5;refine⟨_,View.o 3 [0,1,2] [] ?_ ?_,hv (kN c) _ rfl⟩
    .rw[kN,if_pos h4,if_pos h5];repeat(first|exact .nil|refine .aq ?_|refine .eq rfl ?_)
    .exact .pt rfl rfl (.eq rfl (bx _ _)) (.pt rfl rfl (.eq rfl (cr _)) (.pt rfl rfl (.eq rfl (by simp[bS])) (.nil _)))
   .have h5:¬kh c.bj 2≠0:=fun h=>h h5
    refine⟨_,View.o 3 [0,1,2] [] ?_ ?_,hv (kN c) _ rfl⟩
    .rw[kN,if_pos h4,if_neg h5];repeat(first|exact .nil|refine .aq ?_|refine .eq rfl ?_)
    .exact .pt rfl rfl (.eq rfl (bx _ _)) (.pt rfl rfl (.eq rfl (cr _)) (.pt rfl rfl (.eq rfl (by simp[bS])) (.nil _)))
  .have h4:¬kh c.bj 1≠0:=fun h=>h h4
   refine bu (fun h5=>?_) (fun h5=>?_)
   .have h5:kh c.bj 2≠0:=h5;refine⟨_,View.o 3 [0,1,2] [] ?_ ?_,hv (kN c) _ rfl⟩
    .rw[kN,if_neg h4,if_pos h5];repeat(first|exact .nil|refine .aq ?_|refine .eq rfl ?_)
    .exact .pt rfl rfl (.eq rfl (bx _ _)) (.pt rfl rfl (.eq rfl (cr _)) (.pt rfl rfl (.eq rfl (by simp[bS])) (.nil _)))
   .have h5:¬kh c.bj 2≠0:=fun h=>h h5
    refine⟨_,View.o 3 [0,1,2] [] ?_ ?_,hv (kN c) _ rfl⟩
    .rw[kN,if_neg h4,if_neg h5];repeat(first|exact .nil|refine .aq ?_|refine .eq rfl ?_)
    .exact .pt rfl rfl (.eq rfl (bx _ _)) (.pt rfl rfl (.eq rfl (cr _)) (.pt rfl rfl (.eq rfl (by simp[bS])) (.nil _)))
theorem dq{f:Nat}{k k':Kr}{p:Nat}{c:Cl}{a:An}(hc:ar Tryz.prog f [.rv (.one (.ptr 0 0)),.rv (.one (.ptr 1 0))] [xB k p,cB c] (TC k' p c a)){m:Mem}(i j:Nat)(pG:fQ [i,j]=true)(aF:eX m.length [i,j]=true)(hi:cR m i=some (xB k p))(hj:cR m j=some (cB c)){K:CV->Mem->Prop}(hK:K a.cv (cV m [i,j] [xB k' p,cB c])):ar Tryz.prog f [.rv (.one (.ptr i 0)),.rv (.one (.ptr j 0))] m K:=
 Pf (args:=[]) (fun _=>rfl) (fun _=>rfl) (bK hc fun r m1⟨r',m',hv,hq⟩=>⟨r',m',hv,hq⟩) i j pG aF hi hj hK
theorem xJ(k:Kr)(p:Nat)(hw:KW k p)(c:Cl)(hf:∀au ax,D9 k p c (iQ k au c.bZ ax true)):ar Tryz.prog 28 [.rv (.one (.ptr 0 0)),.rv (.one (.ptr 1 0))] [xB k p,cB c] (TC (ig k p c).1 p c (ig k p c).2):=
 cf Tryz.func28 l28 (HY k p hw c hf)
end Kn
def c29:LF:= ⟨172,[.cell true 4 4],(.seq (.ai [qu 4 (.alloc [(qd 0),(qd 0),(qd 0),.aB])]) (.seq (.ai [qu 15 (.tQ),qw (.x4 (.i .i64) 15 (qi 4) (qi 1)),qw (.x4 (.i .i64) 15 (qi 5) (qi 2)),qw (.x4 (.i .i64) 15 (qi 6) (qi 4)),qm 16 15,qm 17 1,qu 18 (.aR 17),qf 19 1 18,ql 20 19,qu 21 (.Gt (.one (qd 0)) (.i .i64) 16 20 false),qm 5 21]) (.cL (.seq (.ai [qm 23 0,qm 24 1,qu 25 (.aR 24),qf 26 2 25,ql 27 26,qm 28 5,qu 29 (qc 49 [23,27,28]),qm 22 29,qu 30 (.ext 22 0),qu 31 (.ext 22 1),qu 32 (.ext 22 2),qu 6 (.alloc [(qd 0),(qd 0)]),qw (.store 2 6 30),qm 7 31,qm 8 32]) (.seq (.seq (.ai [qm 33 8,qu 34 (.aE .neq 33 (qi 0))]) (.cond 34 (.seq (.ai [qm 35 8,qu 36 (.build [(qd 0),(qd 0),(qd 0),.aB] [(0,1,35)]),qw (.store 4 4 36)]) .ret) .skip)) (.seq (.bT [qm 37 0,qu 38 (.aR 37),qf 39 0 38,qf 40 1 39,ql 41 40,qf 42 0 6,ql 43 42,qu 44 (.b7 2 41 43),qf 45 1 44,ql 46 45,qm 9 46] [(.cons 0 none (.cons 1 none (.cons 2 none (.cons 3 none (.cons 4 none (.cons 5 none (.cons 6 none (.cons 7 none (.cons 8 none (.cons 9 none (.cons 10 none .nil)))))))))))]) (.seq (.ai [qu 47 (.build [(qd 0),(qd 0),(qd 0),.aB] []),qu 10 (.alloc [(qd 0),(qd 0),(qd 0),.aB]),qw (.store 4 10 47)]) (.seq (.seq (.ai [qm 48 1,qu 49 (.aR 48),qf 50 1 49,ql 51 50]) (.block 0 (.seq (.ai [qu 70 (.aE .eql 51 (qi 4)),qm 69 70]) (.cond 69 (.seq (.bT [qm 72 0,qu 73 (.aR 72),qf 74 0 73,qf 75 0 74,ql 76 75,qm 77 7,qu 78 (.b7 9 76 77),qL 79 9 78,qm 80 9,qm 81 1,qu 82 (.aR 81),qf 83 4 82,ql 84 83,qu 85 (qc 50 [79,80,84]),qm 71 85,qu 86 (.ext 71 0),qu 87 (.ext 71 1),qm 11 86,qm 12 87] [(.cons 0 none (.cons 1 none (.cons 2 none (.cons 3 none (.cons 4 none (.cons 5 none (.cons 6 none (.cons 7 none (.cons 8 none (.cons 9 none (.cons 10 none (.cons 11 none (.cons 12 none (.cons 13 (some []) (.cons 14 none (.cons 15 none (.cons 16 none (.cons 17 none (.cons 18 none .nil)))))))))))))))))))]) (.seq (.seq (.ai [qm 88 12,qu 89 (.aE .neq 88 (qi 0))]) (.cond 89 (.seq (.ai [qm 90 12,qu 91 (.build [(qd 0),(qd 0),(qd 0),.aB] [(0,1,90)]),qw (.store 4 4 91)]) .ret) .skip)) (.seq (.ai [qm 92 9,qm 93 11,qu 94 (.len 1 93),qu 95 (.aE .add 92 94),qm 9 95]) (.ai [qm 96 11,qu 97 (.len 1 96),qm 98 11,qf 99 1 10,qw (.store 1 99 97),qf 100 3 10,qw (.store 1 100 98)])))) (.seq (.ai [qu 102 (.aE .eql 51 (qi 5)),qm 101 102]) (.cond 101 (.seq (.bT [qm 104 0,qu 105 (.aR 104),qf 106 0 105,qf 107 0 106,ql 108 107,qm 109 7,qu 110 (.b7 9 108 109),qL 111 9 110,qm 112 9,qm 113 1,qu 114 (.aR 113),qf 115 8 114,ql 116 115,qu 117 (qc 51 [111,112,116]),qm 103 117,qu 118 (.ext 103 0),qu 119 (.ext 103 1),qu 13 (.alloc [(qd 0),.aB,.aB,(.aa (.val (.string ⟨#[]⟩))),(qd 0),.aB,(qd 0),(qd 0),(qd 0)]),qw (.store 9 13 118),qm 14 119] [(.cons 0 none (.cons 1 none (.cons 2 none (.cons 3 none (.cons 4 none (.cons 5 none (.cons 6 none (.cons 7 none (.cons 8 none (.cons 9 none (.cons 10 none (.cons 11 none (.cons 12 none (.zS (.cons 13 (some []) (.cons 14 none (.cons 15 none (.cons 16 none (.cons 17 (some [12,7,6,4]) (.cons 18 (some []) (.cons 19 none .nil))))))) (.cons 17 (some [12,7,6,4]) (.cons 13 (some []) (.cons 14 none (.cons 15 none (.cons 16 none (.cons 18 (some []) (.cons 19 none .nil)))))))))))))))))))))]) (.cL (.seq (.seq (.ai [qm 120 14,qu 121 (.aE .neq 120 (qi 0))]) (.cond 121 (.seq (.ai [qm 122 14,qu 123 (.build [(qd 0),(qd 0),(qd 0),.aB] [(0,1,122)]),qw (.store 4 4 123)]) .ret) .skip)) (.seq (.ai [qm 124 0,qm 125 0,qu 126 (.aR 125),qf 127 0 126,qL 128 3 127,qu 129 (qc 52 [128]),qu 130 (.aR 124),qf 131 0 130,qw (.store 3 131 129)]) (.seq (.bT [qm 132 0,qu 133 (.aR 132),qf 134 0 133,qf 135 0 134,ql 136 135,qm 137 7,qL 138 9 13,qu 139 (.b7 9 136 137),qw (.store 9 139 138)] [(.cons 0 none (.cons 1 none (.cons 2 none (.cons 3 none (.cons 4 none (.cons 5 none (.cons 6 none (.cons 7 none (.cons 8 (some []) .nil)))))))))]) (.seq (.ai [qm 140 9,qm 141 1,qu 142 (.aR 141),qf 143 8 142,ql 144 143,qu 145 (.len 1 144),qu 146 (.aE .add 140 145),qm 9 146]) (.ai [qm 147 1,qu 148 (.aR 147),qf 149 8 148,ql 150 149,qu 151 (.len 1 150),qf 152 1 10,qw (.store 1 152 151)]))))))) (.seq (.seq (.ai [qm 52 1,qu 53 (.aR 52),qf 54 4 53,ql 55 54,qu 56 (.aE .lss 55 (qi 0)),qm 57 56,qg 58 (.aD 1) 57 false,qg 59 (.aR 58) 57 false,qg 60 (.bQ 4 59) 57 false,qg 61 (.load false 1 60) 57 false,qg 62 (.aE .gtr 61 (qi 60)) 57 false,qu 63 (.pick 57 (qb true) 62)]) (.cond 63 (.seq (.ai [qu 64 (.build [(qd 0),(qd 0),(qd 0),.aB] [(0,1,(qi 3))]),qw (.store 4 4 64)]) .ret) .skip)) (.ai [qm 65 1,qu 66 (.aR 65),qf 67 4 66,ql 68 67,qm 9 68])))))))) (.cL (.seq (.ai [qm 153 0,qm 154 0,qu 155 (.aR 154),qf 156 0 155,qL 157 3 156,qu 158 (qc 52 [157]),qu 159 (.aR 153),qf 160 0 159,qw (.store 3 160 158)]) (.seq (.bT [qm 161 0,qu 162 (.aR 161),qf 163 0 162,qf 164 1 163,ql 165 164,qf 166 0 6,ql 167 166,qm 168 9,qu 169 (.b7 2 165 167),qf 170 1 169,qw (.store 1 170 168)] [(.cons 0 none (.cons 1 none (.cons 2 none (.cons 3 none (.cons 4 none (.cons 5 none (.cons 6 none (.cons 7 none (.cons 8 none (.cons 9 none (.cons 10 (some []) .nil)))))))))))]) (.seq (.ai [qL 171 4 10,qw (.store 4 4 171)]) .ret))))))))))))⟩
namespace Kn
def mq(l:List Obj)(z:Int):Obj:=(l[z.toNat]?).getD gQ
def kO(k:Kr)(z a:Int):Kr:=⟨k.l,(match k.ops[z.toNat]? with|some o=>k.ops.set z.toNat {o with cU:=a}|none=>k.ops),k.ps⟩
def setObj(k:Kr)(z:Int)(o:Obj):Kr:=⟨k.l.set z.toNat o,k.ops,k.ps⟩
def qy(a b:Int):Int:=IntKind.i64.wrap (a+b)
def nH(ah:Int):Int:=if ah=4 then 1 else if ah=5 then 2 else 4
def iC(k:Kr)(n:Int)(cU:Int)(r:List (List Dt)×Int):Kr×An:=
 if r.2≠0 then(k,An.no r.2)else(kO k n (qy cU r.1.length),⟨0,r.1.length,0,r.1⟩)
def mr(k:Kr)(n:Int)(bt:Int)(cU:Int)(len:Nat)(r:Obj×Int):Kr×An:=
 if r.2≠0 then(k,An.no r.2)else(kO (setObj k bt r.1) n (qy cU len),⟨0,len,0,[]⟩)
def rL(k:Kr)(n:Int)(cU:Int):Kr×An:=
 if cU<0\/cU>60 then(k,An.no 3)else(kO k n cU,⟨0,0,0,[]⟩)
def jU(k:Kr)(c:Cl)(w:(Int×Int)×Int×Int):Kr×An:=
 if w.2.2≠0 then(k,An.no w.2.2)
 else if c.ah=4 then iC k w.1.1 (nD k.ops w.1.1) (e8 (mq k.l w.2.1).ah (mq k.l w.2.1).data (nD k.ops w.1.1) c.n)
 else if c.ah=5 then mr k w.1.1 w.2.1 (nD k.ops w.1.1) c.data.length (dR (mq k.l w.2.1) (nD k.ops w.1.1) (dh c.data))
 else rL k w.1.1 c.n
def iY(k:Kr)(p:Nat)(c:Cl):Kr×An:=jU k c (bn k p c.fd (nH c.ah))
theorem rM{l:List Obj}{n:Nat}(h:n<l.length):mq l (n:Int)=l[n]:=by rw[mq,XO,tq h];rfl
def QZ(d:List Int)(A:Nat)(b:List Int):List Int:=if b.length=0 then d else cC (d++List.replicate (A+b.length-d.length) 0) A b
theorem zc(d b:List Int)(A:Nat):mK (dh d) A (dh b)=dh (QZ d A b):=by
 have hl:∀x:List Int,(dh x).length=x.length:=fun x=>by simp[dh]
 have hz:∀n,List.replicate n zb=dh (List.replicate n 0):=fun n=>by simp[dh,zb]
 unfold mK QZ;rw[hl];split
 .rfl
 .unfold QE cC;rw[hl,hz,hl];simp only[dh,aax,abc,abD]
theorem Gb(d b:List Int)(A:Nat)(hb:b.length<=60)(hA:A+b.length<=60):(QZ d A b).length<=60\/(QZ d A b).length<=d.length:=by
 unfold QZ;split
 .exact .inr (QN _)
 .unfold cC;simp only[aaw,Z3,aaE,List.length_replicate];omega
theorem vr{o:Obj}(ho:o.sm){cU:Int}{b:List Int}(h:(dR o cU (dh b)).2=0):(dR o cU (dh b)).1.sm/\o.ah=1/\0<=cU/\cU<=60/\(b.length:Int)<=60-cU/\(dR o cU (dh b)).1={o with data:=mK o.data cU.toNat (dh b)}:=by
 have hl:(dh b).length=b.length:=by simp[dh]
 unfold dR at h⊢;split at h
 .simp at h
 .rename_i h1;split at h
  .simp at h
  .rename_i h2;split at h
   .simp at h
   .rename_i h3;split at h
    .simp at h
    .rename_i h4;rw[if_neg h1,if_neg h2,if_neg h3,if_neg h4];rw[hl]at h4;obtain⟨⟨⟨d,hd⟩,ug,ht3⟩,kI,he,hq,hqd⟩:=ho;refine⟨⟨⟨⟨QZ d cU.toNat b,?_⟩,ug,ht3⟩,?_,he,hq,hqd⟩,om,om,om,om,rfl⟩
     .show mK o.data cU.toNat (dh b)=_;rw[hd,zc]
     .show(mK o.data cU.toNat (dh b)).length<=64;rw[hd,zc,show ∀x:List Int,(dh x).length=x.length from fun x=>by simp[dh]]
      have acu:d.length<=64:=by rw[hd]at kI;simpa[dh]using kI
      have:=Gb d b cU.toNat om om;omega
theorem dC.HZ{k:Kr}(h:dC k.l k.ops k.ps){z:Int}{o:Obj}(ho:o.sm):dC (setObj k z o).l (setObj k z o).ops (setObj k z o).ps:=by
 refine⟨fun x hx=>?_,by simpa[setObj]using h.ll,h.lo,h.lp,h.sl,h.ne⟩
 rcases aag hx with hx|rfl
 .exact h.sm x hx
 .exact ho
theorem l29:bq Tryz.prog Tryz.f29=some c29.er:=by kernel_rfl
def X8:LC:=bI (bI c29.code)
def Q0:LC:=oV X8
def Ul:LC:=bI (bI (bI (bI (bI Q0))))
def X9:LC:=oV Ul
theorem o6(k:Kr)(hk:dC k.l k.ops k.ps)(p:Nat)(c:Cl)(n:Nat)(hn:n<k.ops.length)(r cU:Int)(a:An):
  aw Tryz.prog 2 X9 (QC c29.ki (kO k n cU) p c a)
   ⟨lB 172 [(0,.rv (.one (.ptr 0 0))),(1,.rv (.one (.ptr 1 0))),(4,.rv (.one (.ptr 2 0))),(6,.rv (.one (.ptr 3 0))),(9,an .i64 cU),(10,.rv (.one (.ptr 4 0)))],
    [xB k p,cB c,bS,.var [.aa (.val (.int .i64 (n:Nat))),.aa (.val (.int .i64 r))],.var (a.enc.map .aa)]⟩:=by
 refine gP k.l k.ops k.ps ⟨hk.ll,fun o ho=>(hk.sm o ho).mU⟩ hk.lo hk.lp hk.sl hk.ne ?_
 refine ag (yG hn) ?_;have ho:=bA bC.enc k.ops hn;have hs:kO k n cU=⟨k.l,k.ops.set n {k.ops[n]with cU:=cU},k.ps⟩:=by rw[kO,XO,tq hn]
 rw[hs];generalize k.ops[n]=x at ho;obtain⟨xo,xa⟩:=x;refine ag ho ?_;refine⟨trivial,_,_,View.o 8 [0,1] [5,6,7] (.eq rfl .nil) (.pt rfl rfl (QY (k:=⟨k.l,k.ops.set n ⟨xo,cU⟩,k.ps⟩) (gA rfl rfl) (gA rfl (congrArg (fun x=>some (Bk.row 2 x)) ?_)) (gA rfl rfl)) (.pt rfl rfl (.eq rfl (cr _)) (.nil _))),rfl,rfl⟩
 show a7 (af (k.ops.map bC.enc)) n ((bC.enc ⟨xo,cU⟩).map .aa)=_;rw[bg,af,af,aaG,aaG]
def unB:LC->LC
 | .block _ b=>b
 |x=>x
def Ya:LC:=match unB (bI (Ty (bI (bI (bI (bI Q0))))))with
 | .seq _ (.cond _ _ (.seq _ (.cond _ (.seq _ g) _)))=>g
 |x=>x
def Yb:LC:=oV Ya
def Ec(a b d:Int)(x:Int):Prop:=x=a\/x=b\/x=d
theorem Pg{σ:Nat->Nat}{m:Mem}{Z:Nat->Prop}{id:Nat}{e n x:Int}:lU σ m Z id (.var [.aa (.val (.int .i64 e)),.aa (.val (.int .i64 n)),.aa (.val (.int .i64 x)),.aB]) (.var ((An.enc ⟨e,n,x,[]⟩).map .aa)):=
 eG.var (.cons (.aP (.aa _)) (.cons (.aP (.aa _)) (.cons (.aP (.aa _)) (.cons (.eu (.aB 1)) .nil))))
theorem Ed(k:Kr)(p:Nat)(hw:KW k p)(c:Cl)(n j:Nat)(hn:n<k.ops.length)(hj:j<k.l.length)(r cU:Int)(o':Obj)(e:Int)(ho:e=0->o'.sm):
  aw Tryz.prog 2 Yb (Cx 0 (PC (aw Tryz.prog 2 Ul) (QC c29.ki (mr k n j cU c.data.length (o',e)).1 p c (mr k n j cU c.data.length (o',e)).2)))
   ⟨lB 172 [(0,.rv (.one (.ptr 0 0))),(1,.rv (.one (.ptr 1 0))),(4,.rv (.one (.ptr 2 0))),(6,.rv (.one (.ptr 3 0))),(7,an .i64 (j:Nat)),(9,an .i64 cU),(10,.rv (.one (.ptr 4 0))),(13,.rv (.one (.ptr 5 0))),(14,an .i64 e)],
    [xB k p,cB c,bS,.var [.aa (.val (.int .i64 (n:Nat))),.aa (.val (.int .i64 r))],.var [.aa (.val (.int .i64 0)),.aa (.val (.int .i64 0)),.aa (.val (.int .i64 0)),.aB],.var (o'.enc.map .aa)]⟩:=by
 refine bu (fun he=>?_) (fun he=>?_)
 .have he:e≠0:=he;rw[mr,if_pos he];exact cO (X:=[_,_,_,_])
 have he:e=0:=he;subst he;have ho:=ho rfl;rw[mr,if_neg aK];refine gP k.l k.ops k.ps hw.mU hw.kr.lo hw.kr.lp hw.kr.sl hw.kr.ne ?_;refine ag (Li hj) ?_;refine ag (bA Obj.enc k.l hj) ?_;refine⟨trivial,?_⟩;have hx:a7 (af (k.l.map Obj.enc)) j (o'.enc.map .aa)=af ((setObj k j o').l.map Obj.enc):=mc Obj.enc k.l j o';refine⟨_,View.o 9 [0,1,2,3,4] [6,7,8] ?_ ?_,o6 (setObj k j o') (dC.HZ hw.kr ho) p c n hn r (qy cU c.data.length) ⟨0,c.data.length,0,[]⟩⟩
 .have hl:∀x:List Int,(dh x).length=x.length:=fun x=>by simp[dh]
  have h9:an .i64 (IntKind.i64.wrap (cU+((dh c.data).length:Nat)))=an .i64 (qy cU c.data.length):=by rw[hl];rfl
  repeat(first|exact .nil|refine .aq ?_|refine .eq rfl ?_|refine .eq h9.symm ?_)
 .have h9:((dh c.data).length:Int)=(c.data.length:Int):=by simp[dh]
  refine .pt rfl rfl (QY (k:=setObj k j o') (gA rfl (congrArg (fun x=>some (Bk.row 9 x)) hx)) (gA rfl rfl) (gA rfl rfl)) (.pt rfl rfl (.eq rfl (cr _)) (.pt rfl rfl (.eq rfl (by simp[bS])) (.pe rfl rfl rfl (.pt rfl rfl ?_ (.nil _)))))
  rw[<-h9];exact Pg
theorem NG{ops:List bC}{n:Nat}(h:n<ops.length):nD ops (n:Int)=ops[n].cU:=by rw[nD,XO,tq h]
theorem H0(k:Kr)(p:Nat)(hw:KW k p)(c:Cl)(need:Int)(Cf:Ec 4 5 6 c.ah)(hd:c.data.length<=4194304):
  aw Tryz.prog 2 Q0 (QC c29.ki (jU k c (bn k p c.fd need)).1 p c (jU k c (bn k p c.fd need)).2)
   ⟨lB 172 [(0,.rv (.one (.ptr 0 0))),(1,.rv (.one (.ptr 1 0))),(4,.rv (.one (.ptr 2 0))),(5,an .i64 need)],[xB k p,cB c,bS]⟩:=by
 refine jp k p hw c.fd need 0 rfl ?_;have hh:= @KW.held k p hw c.fd need;generalize bn k p c.fd need=w at hh⊢;obtain⟨⟨o,r⟩,b,e⟩:=w;refine bu (fun he=>?_) (fun he=>?_)
 .have he:e≠0:=he;have e1:jU k c ((o,r),b,e)=(k,An.no e):=by rw[jU,if_pos he]
  rw[e1];exact cO (X:=[_,_])
 have he:e=0:=he;subst he;obtain⟨n,j,h1,h2,h3,h4,h5⟩:=hh rfl;have h1:o=n:=h1;have h3:b=j:=h3;subst h1 h3;have jg:=(hw.kr.sm _ (XP h4)).mU;have CM:=hw.kr.sm _ (XP h4);have OT:=rM h4;refine ag (tJ h2) ?_;have hS:jU k c ((((n:Nat):Int),r),((j:Nat):Int),0)=if c.ah=4 then iC k n k.ops[n].cU (e8 k.l[j].ah k.l[j].data k.ops[n].cU c.n)
  else if c.ah=5 then mr k n j k.ops[n].cU c.data.length (dR k.l[j] k.ops[n].cU (dh c.data))else rL k n c.n:=by
  rw[jU,if_neg aK,OT,NG h2]
 rw[hS];refine bz (fun k4=>?_) (fun k4=>?_)
 .have k4:c.ah=4:=k4;rw[if_pos k4];refine ag (gU h4) ?_;refine Lb k.l[j] jg.1 k.ops[n].cU c.n ?_;generalize e8 k.l[j].ah k.l[j].data k.ops[n].cU c.n=R;obtain⟨d,e⟩:=R;refine⟨trivial,?_⟩;refine bu (fun he=>?_) (fun he=>?_)
  .have he:e≠0:=he;rw[iC,if_pos he];exact cO (X:=[_,_,_])
  .have he:e=0:=he;subst he;rw[iC,if_neg aK];refine⟨_,View.o1 5 [0,1,2,3,4] [] ?_,o6 k hw.kr p c n h2 r (qy k.ops[n].cU d.length) ⟨0,d.length,0,d⟩⟩
   .exact .pt rfl rfl (.eq rfl (bx _ _)) (.pt rfl rfl (.eq rfl (cr _)) (.pt rfl rfl (.eq rfl (by simp[bS])) (.pe rfl rfl rfl (.pm rfl rfl rfl))))
 have k4:¬c.ah=4:=k4;rw[if_neg k4];refine bz (fun k5=>?_) (fun k5=>?_)
 .have k5:c.ah=5:=k5;rw[if_pos k5];have hb:(dh c.data).length<=4194304:=by simpa[dh]using hd
  have zJ:=fun(h:(dR k.l[j] k.ops[n].cU (dh c.data)).2=0)=>(vr CM h).1
  have hg:=gU h4;have Um:=fun o' e(h:e=0->Obj.sm o')=>Ed k p hw c n j h2 h4 r k.ops[n].cU o' e h
  refine ag hg ?_;refine⟨?_,?_⟩
  .refine Bd k.l[j] jg k.ops[n].cU (dh c.data) hb ?_;generalize dR k.l[j] k.ops[n].cU (dh c.data)=R at zJ⊢;obtain⟨o',e⟩:=R;refine⟨trivial,⟨rfl,rfl,ag hg rfl,rfl,trivial⟩,trivial,_,View.o1 6 [0,1,2,3,4,5] [] ?_,Um o' e zJ⟩
   .exact .pt rfl rfl (.eq rfl (bx _ _)) (.pt rfl rfl (.eq rfl (cr _)) (.pt rfl rfl (.eq rfl (by simp[bS])) (.pe rfl rfl rfl (.pe rfl rfl rfl (.pm rfl rfl rfl)))))
  .refine⟨⟨rfl,rfl,ag hg rfl,rfl,trivial⟩,?_⟩;refine Bd k.l[j] jg k.ops[n].cU (dh c.data) hb ?_;generalize dR k.l[j] k.ops[n].cU (dh c.data)=R at zJ⊢;obtain⟨o',e⟩:=R;refine⟨trivial,trivial,_,View.o1 6 [0,1,2,3,4,5] [] ?_,Um o' e zJ⟩
   .exact .pt rfl rfl (.eq rfl (bx _ _)) (.pt rfl rfl (.eq rfl (cr _)) (.pt rfl rfl (.eq rfl (by simp[bS])) (.pe rfl rfl rfl (.pe rfl rfl rfl (.pm rfl rfl rfl)))))
 .have k5:¬c.ah=5:=k5;rw[if_neg k5];refine aJ (fun h6=>?_) (fun h6=>?_)
  .have h6:c.n<0:=h6;rw[rL,if_pos (.inl h6)];exact cO (X:=[_,_,_])
  have h6:¬c.n<0:=h6;refine aJ (fun h7=>?_) (fun h7=>?_)
  .have h7:c.n>60:=h7;rw[rL,if_pos (.inr h7)];exact cO (X:=[_,_,_])
  have h7:¬c.n>60:=h7;rw[rL,if_neg om];refine⟨_,View.o1 5 [0,1,2,3,4] [] ?_,o6 k hw.kr p c n h2 r c.n ⟨0,0,0,[]⟩⟩
  .exact .pt rfl rfl (.eq rfl (bx _ _)) (.pt rfl rfl (.eq rfl (cr _)) (.pt rfl rfl (.eq rfl (by simp[bS])) (.pe rfl rfl rfl (.pt rfl rfl Pg (.nil _)))))
theorem Ee(k:Kr)(p:Nat)(hw:KW k p)(c:Cl)(Cf:Ec 4 5 6 c.ah)(hd:c.data.length<=4194304):
  body Tryz.prog c29 [.rv (.one (.ptr 0 0)),.rv (.one (.ptr 1 0))] [xB k p,cB c] (TC (iY k p c).1 p c (iY k p c).2):=by
 have hs:=fun need=>H0 k p hw c need Cf hd
 have Ph:iY k p c=jU k c (bn k p c.fd (nH c.ah)):=rfl;rw[Ph];clear Ph;obtain⟨aM,ah,fd,fT,n,bj,aQ,bZ,data⟩:=c;rcases Cf with h|h|h
 .have h:ah=4:=h;subst h;refine⟨_,View.o1 4 [0,1,2] [] ?_,hs 1⟩
  .exact .pt rfl rfl (.eq rfl (bx _ _)) (.pt rfl rfl (.eq rfl (cr _)) (.pt rfl rfl (.eq rfl (by simp[bS])) (.nil _)))
 .have h:ah=5:=h;subst h;refine⟨_,View.o1 4 [0,1,2] [] ?_,hs 2⟩
  .exact .pt rfl rfl (.eq rfl (bx _ _)) (.pt rfl rfl (.eq rfl (cr _)) (.pt rfl rfl (.eq rfl (by simp[bS])) (.nil _)))
 .have h:ah=6:=h;subst h;refine⟨_,View.o1 4 [0,1,2] [] ?_,hs 4⟩
  .exact .pt rfl rfl (.eq rfl (bx _ _)) (.pt rfl rfl (.eq rfl (cr _)) (.pt rfl rfl (.eq rfl (by simp[bS])) (.nil _)))
theorem o7(k:Kr)(p:Nat)(hw:KW k p)(c:Cl)(Cf:Ec 4 5 6 c.ah)(hd:c.data.length<=4194304):ar Tryz.prog 29 [.rv (.one (.ptr 0 0)),.rv (.one (.ptr 1 0))] [xB k p,cB c] (TC (iY k p c).1 p c (iY k p c).2):=
 cf Tryz.func29 l29 (Ee k p hw c Cf hd)
end Kn
end Go.Proofs.YthagjdhjmamakaaGreatDoor
