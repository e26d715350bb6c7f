/- Part 32 of 43: what the law stands on. -/
import Derived.Test.YtojhmadmlnfpcaaGreatDoorK16
import Derived.Test.YtojhmadmlnfpcaaGreatDoorK31
set_option linter.unusedVariables false
set_option linter.unusedSimpArgs false
set_option linter.unnecessarySimpa false
set_option maxRecDepth 100000
set_option maxHeartbeats 64000000
namespace Go.Proofs.YtojhmadmlnfpcaaGreatDoor
open Go.AM Go.ChangeShapes Go.WideShapes Go.ChangeAt Go.RowKit
def c62:LF:= ⟨117,[.cell true 4 8],(.seq (.ai [qu 8 (.alloc [(qd 0),(qd 0),(qd 0),.aI])]) (.seq (.bQ [qm 15 0,qu 16 (.aW 15),qf 17 0 16,qf 18 0 17,ql 19 18,qm 20 2,qm 21 1,qu 22 (.aW 21),qf 23 7 22,ql 24 23,qm 25 3,qu 26 (qc 74 [19,20,24,25,(qb true)]),qm 14 26,qu 27 (.ext 14 0),qu 28 (.ext 14 1),qu 9 (.alloc [(qd 0),(qd 0),(.aa (.val (.string ⟨#[]⟩)))]),qw (.store 3 9 27),qm 10 28] [(.cons 0 none (.cons 1 none (.cons 2 none (.cons 3 none (.cons 4 none (.cons 5 none (.cons 6 none (.cons 7 none (.cons 8 none (.cons 9 none (.cons 10 none (.xK (.cons 11 (some []) (.cons 12 none (.cons 13 none (.cons 14 none (.cons 15 (some [9,4]) (.cons 16 (some []) (.cons 17 none .nil))))))) (.cons 15 (some [9,4]) (.cons 11 (some []) (.cons 12 none (.cons 13 none (.cons 14 none (.cons 16 (some []) (.cons 17 none .nil)))))))))))))))))))]) (.cO (.seq (.ai [qf 29 0 9,ql 30 29,qm 11 30]) (.seq (.block 0 (.seq (.ai [qm 32 10,qu 33 (.aF .neq 32 (qi 0)),qm 31 33]) (.cond 31 .skip (.seq (.ai [qm 35 11,qu 36 (.aF .lss 35 (qi 0)),qm 37 36,qg 38 (.aD 1) 37 true,qg 39 (.aW 38) 37 true,qg 40 (.bg 5 39) 37 true,qg 41 (.load false 1 40) 37 true,qg 42 (.aF .and 41 (qi 1)) 37 true,qg 43 (.aF .eql 42 (qi 0)) 37 true,qu 44 (.pick 37 43 (qb false)),qm 34 44]) (.cond 34 (.ai [qu 10 (.aD (qi 6))]) (.seq (.ai [qm 46 11,qu 47 (.aF .lss 46 (qi 0)),qm 45 47]) (.cond 45 (.ai [qm 49 0,qL 50 3 9,qu 51 (.build [(qd 0),.aI,.aI,(.aa (.val (.string ⟨#[]⟩))),(qd 0),.aI,(qd 0),(qd 0),(qd 0)] [(0,1,(qi 1))]),qu 52 (qc 77 [49,50,51]),qm 48 52,qu 53 (.ext 48 0),qu 54 (.ext 48 1),qm 11 53,qm 10 54]) (.seq (.ai [qm 56 1,qu 57 (.aW 56),qf 58 5 57,ql 59 58,qu 60 (.aF .and 59 (qi 2)),qu 61 (.aF .neq 60 (qi 0)),qm 62 61,qg 63 (.aD 0) 62 true,qg 64 (.aW 63) 62 true,qg 65 (.bg 0 64) 62 true,qg 66 (.bg 0 65) 62 true,qg 67 (.load false 1 66) 62 true,qg 68 (.aD 11) 62 true,qg 69 (.bO 9 67 68) 62 true,qg 70 (.bg 0 69) 62 true,qg 71 (.load false 1 70) 62 true,qg 72 (.aF .eql 71 (qi 2)) 62 true,qu 73 (.pick 62 72 (qb false)),qm 55 73]) (.cond 55 (.ai [qu 10 (.aD (qi 12))]) .skip))))))))) (.cO (.seq (.seq (.ai [qm 74 10,qu 75 (.aF .neq 74 (qi 0))]) (.cond 75 (.seq (.ai [qm 76 10,qu 77 (.build [(qd 0),(qd 0),(qd 0),.aI] [(0,1,76)]),qw (.store 4 8 77)]) .ret) .skip)) (.seq (.bQ [qm 79 0,qu 80 (.aW 79),qf 81 0 80,qL 82 3 81,qm 83 0,qu 84 (.aW 83),qf 85 3 84,ql 86 85,qm 87 11,qm 88 1,qu 89 (.aW 88),qf 90 6 89,ql 91 90,qu 92 (qc 79 [82,86,87,91]),qm 78 92,qu 93 (.ext 78 0),qu 94 (.ext 78 1),qu 95 (.ext 78 2),qu 12 (.alloc [.aI,.aI,.aI]),qw (.store 3 12 93),qm 13 94,qm 10 95] [(.cons 0 none (.cons 1 none (.cons 2 none (.cons 3 none (.cons 4 none (.cons 5 none (.cons 6 none (.cons 7 none (.cons 8 none (.cons 9 none (.cons 10 none (.cons 11 none (.cons 12 none (.xK (.cons 13 (some []) (.cons 14 none (.cons 15 none (.cons 16 none (.cons 17 none (.cons 18 (some [12,7,3]) (.cons 19 (some []) (.cons 20 none (.cons 21 none .nil))))))))) (.cons 18 (some [12,7,3]) (.cons 13 (some []) (.cons 14 none (.cons 15 none (.cons 16 none (.cons 17 none (.cons 19 (some []) (.cons 20 none (.cons 21 none .nil)))))))))))))))))))))))]) (.cO (.seq (.seq (.ai [qm 96 10,qu 97 (.aF .neq 96 (qi 0))]) (.cond 97 (.seq (.ai [qm 98 10,qu 99 (.build [(qd 0),(qd 0),(qd 0),.aI] [(0,1,98)]),qw (.store 4 8 99)]) .ret) .skip)) (.cO (.seq (.seq (.ai [qm 100 1,qu 101 (.aW 100),qf 102 5 101,ql 103 102,qu 104 (.aF .and 103 (qi 2)),qu 105 (.aF .neq 104 (qi 0))]) (.cond 105 (.ai [qf 106 0 12,ql 107 106,qm 108 11,qu 109 (.bO 9 107 108),qf 110 1 109,qw (.store 1 110 qe)]) .skip)) (.seq (.ai [qm 111 0,qL 112 3 12,qu 113 (.aW 111),qf 114 0 113,qw (.store 3 114 112)]) (.seq (.ai [qm 115 13,qu 116 (.build [(qd 0),(qd 0),(qd 0),.aI] [(1,1,115)]),qw (.store 4 8 116)]) .ret))))))))))))))⟩
namespace Kn
def oy:Obj:=⟨1,[],[],⟨#[]⟩,0,[],0,0,0⟩
theorem y9:PC oy:=⟨⟨⟨⟨[],rfl⟩,⟨[],rfl⟩,by simp[oy]⟩,by simp[oy],by simp[oy],by simp[oy],by simp[oy]⟩,rfl⟩
def iD(k:Kr)(ax:Int)(s:bJ.dN)(aA follow:Bool):R4:=pq (k.l.map Obj.ob) ax s aA follow
theorem rD(k:Kr)(p:Nat)(hw:KW k p)(ax:Int)(s:bJ.dN)(aA follow:Bool){m:Mem}{K:CV->Mem->Prop}(h:K (Tw (iD k ax s aA follow)) m):
  ar Tryz.prog 74 [cg k.l,an .i64 ax,bJ.vT s,ay aA,ay follow] m K:=by
 rw[show cg k.l=Ab (k.l.map Obj.ob)from congrArg (fun d=>CV.rv (.one (.aa d))) (SJ k.l)]
 exact Ps _ hw.lk ax s aA follow h
def FF(l:List Obj)(z:Int):Int:=match l[z.toNat]? with|some o=>o.ah|none=>0
def cC(k:Kr)(c:Cl)(f:R4):Kr×Int×Int:=
 if f.iL≠0 then(k,f.bv,f.iL)
 else if f.bv<0 then(if ln c.bx 1=0 then(k,f.bv,6)else cI k f oy)
 else if ln c.bx 2≠0/\FF k.l f.bv=2 then(k,f.bv,12)
 else(k,f.bv,0)
def oz(l:List Obj)(z:Int):List Obj:=match l[z.toNat]? with|some o=>l.set z.toNat {o with data:=[]}|none=>l
def je(p:Nat)(c:Cl)(x:Kr×Int×Int):Kr×An:=
 if x.2.2≠0 then(x.1,An.no x.2.2)
 else if(aM x.1 p x.2.1 c.a8).2.2≠0 then(x.1,An.no (aM x.1 p x.2.1 c.a8).2.2)
 else(if ln c.bx 2≠0 then⟨oz (aM x.1 p x.2.1 c.a8).1.l x.2.1,(aM x.1 p x.2.1 c.a8).1.ops,(aM x.1 p x.2.1 c.a8).1.ps⟩else(aM x.1 p x.2.1 c.a8).1,⟨0,(aM x.1 p x.2.1 c.a8).2.1,0,[]⟩)
def gV(k:Kr)(p:Nat)(c:Cl)(ax:Int)(aA:Bool):Kr×An:=je p c (cC k c (iD k ax c.cA aA true))
theorem PD{m:Mem}{Z:Nat->Prop}{p:Option Nat}{id:Nat}{l:List Obj}{k:Nat}{c:List CC}{x:Obj}(hc:jO m Z (some id) c x.enc)(hz:Z id)(hm:m[id]? =some (.row 9 (ba (af (l.map Obj.enc)) k c))):
  dP m Z p (.row id 9 0 none) (cX (l.set k x)):=by
 rw[bn]at hm;refine dP.row id 9 0 none _ _ hz hm (by simp[af]) (fun i cs es h1 h2=>?_) (fun i cs es j c' d h1 h2 h3 h4=>?_)
 .rw[aaQ]at h1;rw[aaf,aaQ]at h2;by_cases e:k=i
  .subst e;rw[if_pos rfl]at h1 h2;split at h1
   .cases h1;split at h2
    .cases h2;exact hc.len
    .cases h2
   .cases h1
  .rw[if_neg e]at h1 h2;rw[af,aaf,aaf]at h1;cases hx:l[i]? with
   |none=>rw[hx]at h2;cases h2
   |some y=>
    rw[hx]at h1 h2;cases h1;cases h2;simp
 .rw[aaQ]at h1;rw[aaf,aaQ]at h2;by_cases e:k=i
  .subst e;rw[if_pos rfl]at h1 h2;split at h1
   .cases h1;split at h2
    .cases h2;exact hc.get j c' d h3 h4
    .cases h2
   .cases h1
  .rw[if_neg e]at h1 h2;rw[af,aaf,aaf]at h1;cases hx:l[i]? with
   |none=>rw[hx]at h2;cases h2
   |some y=>
    rw[hx]at h1 h2;cases h1;cases h2;rw[aaf,h4]at h3;cases h3;exact .aa _
theorem l62:bs Tryz.prog Tryz.f62=some c62.er:=by kernel_rfl
def C29:LC:=bK (bK c62.code)
def G29:LC:=pj C29
def C74:LC:=bK (bK G29)
def G74:LC:=pj C74
def C96:LC:=bK (bK G74)
def Zv:LC:=pj C96
def Zw:LC:=bK Zv
def Zx:LC:=pj Zw
def bY:Bk:= .var [.aa (.val (.int .i64 0)),.aa (.val (.int .i64 0)),.aa (.val (.int .i64 0)),.aI]
def TC(k:Kr)(p:Nat)(c:Cl)(a:An)(r:CV)(m:Mem):Prop:=∃r' m',View 2 ⟨[r],m⟩ ⟨[r'],m'⟩/\r'=a.cv/\m'=[xB k p,cB c]
def QC(lj:List Rv)(k:Kr)(p:Nat)(c:Cl)(a:An):Ex->St->Prop:=nG Tryz.prog lj (TC k p c a)
theorem M6{σ:Nat->Nat}{m:Mem}{Z:Nat->Prop}{e n x:Int}:qv σ m Z (.rv (.agg [.aa (.val (.int .i64 e)),.aa (.val (.int .i64 n)),.aa (.val (.int .i64 x)),.aI])) (An.cv ⟨e,n,x,[]⟩):=
 .rv (.agg rfl fun i c c' h1 h2=>by
  match i,h1,h2 with
  |0,h1,h2=>cases h1;cases h2;exact .aQ (.aa _)
  |1,h1,h2=>cases h1;cases h2;exact .aQ (.aa _)
  |2,h1,h2=>cases h1;cases h2;exact .aQ (.aa _)
  |3,h1,h2=>cases h1;cases h2;exact .fv (.aI 1)
  |n+4,h1,h2=>simp at h1)
theorem db{k:Kr}{p:Nat}{c:Cl}{X:Mem}{e n x:Int}:TC k p c ⟨e,n,x,[]⟩ (.rv (.agg [.aa (.val (.int .i64 e)),.aa (.val (.int .i64 n)),.aa (.val (.int .i64 x)),.aI])) (xB k p::cB c::X):=
 ⟨_,_,View.of (X.length+2) [0,1] [] rfl rfl rfl rfl rfl (by simp[fm,Nat.blt]) (.put M6 .nil) (.pt rfl rfl (.eq rfl (bD _ _)) (.pt rfl rfl (.eq rfl (b7 _)) (.nil _))),rfl,rfl⟩
theorem M7{l:List Obj}{n:Nat}(h:n<l.length):dU (n:Int) (lenOf (af (l.map Obj.enc)).length 0 none)=some n:=bT (by show n<(af (l.map Obj.enc)).length;rw[bc,aad];exact h)
theorem FG(k1:Kr)(p:Nat)(c:Cl)(O:Kr)(j:Nat)(hj:j<O.l.length)(fd:Int)(kf:Kr)(hk:kf=if ln c.bx 2≠0 then⟨oz O.l j,O.ops,O.ps⟩else O):
  aw Tryz.prog 2 Zx (QC c62.lj kf p c ⟨0,fd,0,[]⟩)
   ⟨mg 117 [(0,.rv (.one (.ptr 0 0))),(1,.rv (.one (.ptr 1 0))),(8,.rv (.one (.ptr 2 0))),(11,an .i64 (j:Nat)),(12,.rv (.one (.ptr 3 0))),(13,an .i64 fd)],
    [xB k1 p,cB c,bY,.var [.row 4 9 0 none,.aa (eA O.ops),.aa (fC O.ps)],.row 9 (af (O.l.map Obj.enc))]⟩:=by
 refine br (fun h2=>?_) (fun h2=>?_)
 .have h2:ln c.bx 2≠0:=h2;rw[if_pos h2]at hk;subst hk;refine ag (M7 hj) ?_;have ho:=bI Obj.enc O.l hj;have ht:oz O.l (j:Nat)=O.l.set j {O.l[j]with data:=[]}:=by rw[oz,aaw,aab hj]
  rw[ht];generalize O.l[j]=x at ho;obtain⟨ah,data,ak,target,aJ,aj,aL,am,up⟩:=x;refine ag ho ?_;refine⟨_,_,View.o 5 [0,1] [4] (.put M6 .nil) (.pt rfl rfl (SN (k:=⟨O.l.set j ⟨ah,[],ak,target,aJ,aj,aL,am,up⟩,O.ops,O.ps⟩) (PD (.cons (.aa _) (.cons (.aI 1) (.cons (.aa _) (.cons (.aa _) (.cons (.aa _) (.cons (.aa _) (.cons (.aa _) (.cons (.aa _) (.cons (.aa _) .nil))))))))) rfl rfl) (.aa _) (.aa _)) (.pt rfl rfl (.eq rfl (b7 _)) (.nil _))),rfl,rfl⟩
 .have h2:¬ln c.bx 2≠0:=fun h=>h h2
  rw[if_neg h2]at hk;subst hk;exact⟨_,_,View.o 5 [0,1] [4] (.put M6 .nil) (.pt rfl rfl (SN (ib rfl rfl) (.aa _) (.aa _)) (.pt rfl rfl (.eq rfl (b7 _)) (.nil _))),rfl,rfl⟩
theorem Jy{k:Kr}{n:Nat}{bv cf:Int}(h:(aM k n bv cf).2.2=0):(aM k n bv cf).1.l=k.l:=by
 unfold aM at h⊢;split at h
 .simp at h
 .rename_i h1;rw[if_neg h1];split at h
  .rename_i h2;exact absurd h h2
  .rename_i h2;rw[if_neg h2]
theorem wG(k1:Kr)(p:Nat)(c:Cl)(e:Int)(he:e≠0):
  aw Tryz.prog 2 Zv (QC c62.lj k1 p c (An.no e)) ⟨mg 117 [(0,.rv (.one (.ptr 0 0))),(1,.rv (.one (.ptr 1 0))),(8,.rv (.one (.ptr 2 0))),(10,an .i64 e)],[xB k1 p,cB c,bY]⟩:=by
 refine br (fun h2=>?_) (fun h2=>absurd h2 he)
 exact db (X:=[_])
theorem wH(k1:Kr)(p:Nat)(c:Cl)(O:Kr)(j:Nat)(hj:j<O.l.length)(fd:Int)(kf:Kr)(hk:kf=if ln c.bx 2≠0 then⟨oz O.l j,O.ops,O.ps⟩else O):
  aw Tryz.prog 2 Zv (QC c62.lj kf p c ⟨0,fd,0,[]⟩)
   ⟨mg 117 [(0,.rv (.one (.ptr 0 0))),(1,.rv (.one (.ptr 1 0))),(8,.rv (.one (.ptr 2 0))),(10,an .i64 0),(11,an .i64 (j:Nat)),(12,.rv (.one (.ptr 3 0))),(13,an .i64 fd)],
    [xB k1 p,cB c,bY,.var [.row 4 9 0 none,.aa (eA O.ops),.aa (fC O.ps)],.row 9 (af (O.l.map Obj.enc))]⟩:=by
 refine⟨_,View.o1 5 [0,1,2,3,4] [] ?_,FG k1 p c O j hj fd kf hk⟩
 .exact .pt rfl rfl (.eq rfl (bD _ _)) (.pt rfl rfl (.eq rfl (b7 _)) (.pt rfl rfl (.eq rfl (by simp[bY])) (.pe rfl rfl rfl (.pn rfl rfl rfl))))
theorem Jz(p:Nat)(c:Cl)(x:Kr×Int×Int)(hx:x.2.2=0->dE x.1.l x.1.ops x.1.ps/\p<x.1.ps.length/\∃j:Nat,x.2.1=j/\j<x.1.l.length):
  aw Tryz.prog 2 G74 (QC c62.lj (je p c x).1 p c (je p c x).2)
   ⟨mg 117 [(0,.rv (.one (.ptr 0 0))),(1,.rv (.one (.ptr 1 0))),(8,.rv (.one (.ptr 2 0))),(10,an .i64 x.2.2),(11,an .i64 x.2.1)],[xB x.1 p,cB c,bY]⟩:=by
 obtain⟨k1,bv,e⟩:=x;refine br (fun h2=>?_) (fun h2=>?_)
 .have h2:e≠0:=h2;have e1:je p c (k1,bv,e)=(k1,An.no e):=by rw[je,if_pos h2]
  rw[e1];exact db (X:=[_])
 have h2:e=0:=h2;subst h2;obtain⟨hk,hp,j,hj,mU⟩:=hx rfl;have hj:bv=(j:Nat):=hj;subst hj;have hS:je p c (k1,(j:Int),0)=if(aM k1 p j c.a8).2.2≠0 then(k1,An.no (aM k1 p j c.a8).2.2)
  else(if ln c.bx 2≠0 then⟨oz (aM k1 p j c.a8).1.l j,(aM k1 p j c.a8).1.ops,(aM k1 p j c.a8).1.ps⟩else(aM k1 p j c.a8).1,⟨0,(aM k1 p j c.a8).2.1,0,[]⟩):=by
  rw[je,if_neg aG]
 rw[hS];have B2:= @Jy k1 p (j:Int) c.a8;refine⟨?_,?_⟩
 .refine wF k1 hk p hp (j:Int) c.a8 (fun he=>?_) (fun he=>?_)
  .rw[if_pos he];refine⟨trivial,⟨rfl,rfl,rfl,trivial⟩,trivial,_,View.o1 4 [0,1,2] [] ?_,wG k1 p c _ he⟩
   .exact .pt rfl rfl (.eq rfl (bD _ _)) (.pt rfl rfl (.eq rfl (b7 _)) (.pt rfl rfl (.eq rfl (by simp[bY])) (.nil _)))
  .rw[if_neg (by simp[he])]
   have hl:=B2 he;refine⟨trivial,⟨rfl,rfl,rfl,trivial⟩,trivial,_,View.o1 5 [0,1,2,4,3] [] ?_,wH k1 p c (aM k1 p j c.a8).1 j (by rw[hl];exact mU) _ _ rfl⟩
   .exact .pt rfl rfl (.eq rfl (bD _ _)) (.pt rfl rfl (.eq rfl (b7 _)) (.pt rfl rfl (.eq rfl (by simp[bY])) (.pe rfl rfl rfl (.pn rfl rfl rfl))))
 .refine⟨⟨rfl,rfl,rfl,trivial⟩,?_⟩;refine wF k1 hk p hp (j:Int) c.a8 (fun he=>?_) (fun he=>?_)
  .rw[if_pos he];refine⟨trivial,trivial,_,View.o1 4 [0,1,2] [] ?_,wG k1 p c _ he⟩
   .exact .pt rfl rfl (.eq rfl (bD _ _)) (.pt rfl rfl (.eq rfl (b7 _)) (.pt rfl rfl (.eq rfl (by simp[bY])) (.nil _)))
  .rw[if_neg (by simp[he])]
   have hl:=B2 he;refine⟨trivial,trivial,_,View.o1 5 [0,1,2,3,4] [] ?_,wH k1 p c (aM k1 p j c.a8).1 j (by rw[hl];exact mU) _ _ rfl⟩
   .exact .pt rfl rfl (.eq rfl (bD _ _)) (.pt rfl rfl (.eq rfl (b7 _)) (.pt rfl rfl (.eq rfl (by simp[bY])) (.pe rfl rfl rfl (.pn rfl rfl rfl))))
theorem AK(a b:CV)(k:Int)(t:ByteArray):kO [a,b,.rv (.agg [.aa (.val (.int .i64 k)),.aI,.aI,.aa (.val (.string t)),.aa (.val (.int .i64 0)),.aI,.aa (.val (.int .i64 0)),.aa (.val (.int .i64 0)),.aa (.val (.int .i64 0))])] [a,b,Obj.cv ⟨k,[],[],t,0,[],0,0,0⟩]:=
 .dK _ (.dK _ (.agg (.cons (.dK _) (.cons (.aI 1) (.cons (.aI 2) (.cons (.dK _) (.cons (.dK _) (.cons (.aI 4) (.cons (.dK _) (.cons (.dK _) (.cons (.dK _) .nil))))))))) .nil))
structure FH(k:Kr)(p:Nat)(c:Cl)(f:R4):Prop where
 fi:f.iL=0->f.bv<(k.l.length:Int)
 x:(cC k c f).2.2=0->dE (cC k c f).1.l (cC k c f).1.ops (cC k c f).1.ps/\p<(cC k c f).1.ps.length/\∃j:Nat,(cC k c f).2.1=j/\j<(cC k c f).1.l.length
theorem JA(k:Kr)(p:Nat)(hw:KW k p)(c:Cl)(f:R4)(hf:FH k p c f):
  aw Tryz.prog 2 G29 (QC c62.lj (je p c (cC k c f)).1 p c (je p c (cC k c f)).2)
   ⟨mg 117 [(0,.rv (.one (.ptr 0 0))),(1,.rv (.one (.ptr 1 0))),(8,.rv (.one (.ptr 2 0))),(9,.rv (.one (.ptr 3 0))),(10,an .i64 f.iL)],[xB k p,cB c,bY,.var ((Tv f).map .aa)]⟩:=by
 have Kp:=Jz p c (cC k c f) hf.x;have Tg:=hf.fi;clear hf;obtain⟨bv,cL,name,iL⟩:=f;refine br (fun he=>?_) (fun he=>?_)
 .have he:iL≠0:=he;have e1:cC k c ⟨bv,cL,name,iL⟩=(k,bv,iL):=by rw[cC,if_pos he]
  rw[e1]at Kp⊢;refine⟨_,View.o1 4 [0,1,2] [] ?_,Kp⟩
  .exact .pt rfl rfl (.eq rfl (bD _ _)) (.pt rfl rfl (.eq rfl (b7 _)) (.pt rfl rfl (.eq rfl (by simp[bY])) (.nil _)))
 have he:iL=0:=he;subst he;have Tg:bv<(k.l.length:Int):=Tg rfl;refine aB (fun h1=>?_) (fun h1=>?_)
 .have h1:bv<0:=h1;refine bH (fun h2=>?_) (fun h2=>?_)
  .have h2:ln c.bx 1=0:=h2;have e1:cC k c ⟨bv,cL,name,0⟩=(k,bv,6):=by rw[cC,if_neg aG,if_pos h1,if_pos h2]
   rw[e1]at Kp⊢;refine⟨_,View.o1 4 [0,1,2] [] ?_,Kp⟩
   .exact .pt rfl rfl (.eq rfl (bD _ _)) (.pt rfl rfl (.eq rfl (b7 _)) (.pt rfl rfl (.eq rfl (by simp[bY])) (.nil _)))
  .have h2:¬ln c.bx 1=0:=h2;have e1:cC k c ⟨bv,cL,name,0⟩=cI k ⟨bv,cL,name,0⟩ oy:=by rw[cC,if_neg aG,if_pos h1,if_neg h2]
   rw[e1]at Kp⊢;refine cF (decide_eq_true h1) ?_;refine mz (AK _ _ _ _) (sV k p hw ⟨bv,cL,name,0⟩ oy y9 0 rfl ?_);refine⟨_,View.o1 4 [0,1,2] [] ?_,Kp⟩
   .exact .pt rfl rfl (.eq rfl (bD _ _)) (.pt rfl rfl (.eq rfl (b7 _)) (.pt rfl rfl (.eq rfl (by simp[bY])) (.nil _)))
 .have h1:¬bv<0:=h1;obtain⟨j,rfl⟩:∃j:Nat,bv=j:=⟨bv.toNat,om⟩;have hj:j<k.l.length:=om;have Og:FF k.l (j:Int)=k.l[j].ah:=by rw[FF,aaw,aab hj]
  refine br (fun h2=>?_) (fun h2=>?_)
  .have h2:ln c.bx 2≠0:=h2;refine ag (iC hj) ?_;refine bH (fun h3=>?_) (fun h3=>?_)
   .have h3:k.l[j].ah=2:=h3;have e1:cC k c ⟨(j:Nat),cL,name,0⟩=(k,(j:Int),12):=by rw[cC,if_neg aG,if_neg h1,if_pos ⟨h2,by rw[<-h3,<-Og]⟩]
    rw[e1]at Kp⊢;refine⟨_,View.o1 4 [0,1,2] [] ?_,Kp⟩
    .exact .pt rfl rfl (.eq rfl (bD _ _)) (.pt rfl rfl (.eq rfl (b7 _)) (.pt rfl rfl (.eq rfl (by simp[bY])) (.nil _)))
   .have h3:¬k.l[j].ah=2:=h3;have e1:cC k c ⟨(j:Nat),cL,name,0⟩=(k,(j:Int),0):=by rw[cC,if_neg aG,if_neg h1,if_neg (by rw[Og];exact fun h=>h3 h.2)]
    rw[e1]at Kp⊢;refine⟨_,View.o1 4 [0,1,2] [] ?_,Kp⟩
    .exact .pt rfl rfl (.eq rfl (bD _ _)) (.pt rfl rfl (.eq rfl (b7 _)) (.pt rfl rfl (.eq rfl (by simp[bY])) (.nil _)))
  .have h2:¬ln c.bx 2≠0:=fun h=>h h2
   have e1:cC k c ⟨(j:Nat),cL,name,0⟩=(k,(j:Int),0):=by rw[cC,if_neg aG,if_neg h1,if_neg (fun h=>h2 h.1)]
   rw[e1]at Kp⊢;refine⟨_,View.o1 4 [0,1,2] [] ?_,Kp⟩
   .exact .pt rfl rfl (.eq rfl (bD _ _)) (.pt rfl rfl (.eq rfl (b7 _)) (.pt rfl rfl (.eq rfl (by simp[bY])) (.nil _)))
theorem FI(k:Kr)(p:Nat)(hw:KW k p)(c:Cl)(ax:Int)(aA:Bool)(hf:FH k p c (iD k ax c.cA aA true)):
  body Tryz.prog c62 [.rv (.one (.ptr 0 0)),.rv (.one (.ptr 1 0)),an .i64 ax,ay aA] [xB k p,cB c] (TC (gV k p c ax aA).1 p c (gV k p c ax aA).2):=by
 have hs:=JA k p hw c _ hf;show body Tryz.prog c62 _ _ (TC (je p c (cC k c (iD k ax c.cA aA true))).1 p c (je p c (cC k c (iD k ax c.cA aA true))).2);refine⟨?_,?_⟩
 .refine rD k p hw ax c.cA aA true ?_;refine⟨trivial,⟨rfl,rfl,trivial⟩,trivial,_,View.o1 4 [0,1,2,3] [] ?_,hs⟩
  .exact .pt rfl rfl (.eq rfl (bD _ _)) (.pt rfl rfl (.eq rfl (b7 _)) (.pt rfl rfl (.eq rfl (by simp[bY])) (.pm rfl rfl rfl)))
 .refine⟨⟨rfl,rfl,trivial⟩,?_⟩;refine rD k p hw ax c.cA aA true ?_;refine⟨trivial,trivial,_,View.o1 4 [0,1,2,3] [] ?_,hs⟩
  .exact .pt rfl rfl (.eq rfl (bD _ _)) (.pt rfl rfl (.eq rfl (b7 _)) (.pt rfl rfl (.eq rfl (by simp[bY])) (.pm rfl rfl rfl)))
theorem CY(k:Kr)(p:Nat)(hw:KW k p)(c:Cl)(ax:Int)(aA:Bool)(hf:FH k p c (iD k ax c.cA aA true)){m:Mem}(i j:Nat)(pM:gp [i,j]=true)(aC:fm m.length [i,j]=true)(hi:df m i=some (xB k p))(hj:df m j=some (cB c)){K:CV->Mem->Prop}(hK:K (gV k p c ax aA).2.cv (dn m [i,j] [xB (gV k p c ax aA).1 p,cB c])):
  ar Tryz.prog 62 [.rv (.one (.ptr i 0)),.rv (.one (.ptr j 0)),an .i64 ax,ay aA] m K:=
 Rb (args:=[an .i64 ax,ay aA]) (fun _=>rfl) (fun _=>rfl)
  (bN (cm Tryz.func62 l62 (FI k p hw c ax aA hf)) fun r m1⟨r',m',hv,hq⟩=>⟨r',m',hv,hq⟩) i j pM aC hi hj hK
end Kn
def c37:LF:= ⟨78,[.cell true 4 4],(.seq (.ai [qu 4 (.alloc [(qd 0),(qd 0),(qd 0),.aI])]) (.seq (.seq (.ai [qm 9 1,qu 10 (.aW 9),qf 11 6 10,ql 12 11,qu 13 (qc 61 [12]),qu 14 (.un .not 13),qm 15 14,qg 16 (.aD 1) 15 false,qg 17 (.aW 16) 15 false,qg 18 (.bg 5 17) 15 false,qg 19 (.load false 1 18) 15 false,qg 20 (.aF .lss 19 (qi 0)) 15 false,qu 21 (.pick 15 (qb true) 20),qm 22 21,qg 23 (.aD 1) 22 false,qg 24 (.aW 23) 22 false,qg 25 (.bg 5 24) 22 false,qg 26 (.load false 1 25) 22 false,qg 27 (.aF .gtr 26 (qi 3)) 22 false,qu 28 (.pick 22 (qb true) 27)]) (.cond 28 (.seq (.ai [qu 29 (.build [(qd 0),(qd 0),(qd 0),.aI] [(0,1,(qi 3))]),qw (.store 4 4 29)]) .ret) .skip)) (.seq (.seq (.ai [qm 30 1,qu 31 (.aW 30),qf 32 1 31,ql 33 32,qu 34 (.aF .eql 33 (qi 2))]) (.cond 34 (.seq (.ai [qm 35 0,qm 36 1,qu 37 (qc 62 [35,36,(qi 0),(qb false)]),qw (.store 4 4 37)]) .ret) .skip)) (.seq (.ai [qm 38 1,qu 39 (.aW 38),qf 40 6 39,ql 41 40,qu 42 (.aF .or (qi 8) 41),qm 5 42]) (.seq (.seq (.ai [qm 43 1,qu 44 (.aW 43),qf 45 5 44,ql 46 45,qu 47 (.aF .and 46 (qi 1)),qu 48 (.aF .neq 47 (qi 0))]) (.cond 48 (.ai [qm 49 5,qu 50 (.aF .or 49 (qi 16)),qm 5 50]) .skip)) (.seq (.seq (.ai [qm 51 1,qu 52 (.aW 51),qf 53 5 52,ql 54 53,qu 55 (.aF .and 54 (qi 2)),qu 56 (.aF .neq 55 (qi 0))]) (.cond 56 (.ai [qm 57 5,qu 58 (.aF .or 57 (qi 2)),qm 5 58]) .skip)) (.cO (.seq (.ai [qm 60 0,qm 61 1,qu 62 (.aW 61),qf 63 2 62,ql 64 63,qm 65 5,qu 66 (qc 63 [60,64,65]),qm 59 66,qu 67 (.ext 59 0),qu 68 (.ext 59 1),qu 69 (.ext 59 2),qu 6 (.alloc [(qd 0),(qd 0)]),qw (.store 2 6 67),qm 7 68,qm 8 69]) (.seq (.seq (.ai [qm 70 8,qu 71 (.aF .neq 70 (qi 0))]) (.cond 71 (.seq (.ai [qm 72 8,qu 73 (.build [(qd 0),(qd 0),(qd 0),.aI] [(0,1,72)]),qw (.store 4 4 73)]) .ret) .skip)) (.seq (.ai [qm 74 0,qm 75 1,qm 76 7,qu 77 (qc 62 [74,75,76,(qb true)]),qw (.store 4 4 77)]) .ret))))))))))⟩
namespace Kn
def jP(c:Cl):Int:=if ln c.bx 2≠0 then Py (if ln c.bx 1≠0 then Py (Py 8 c.a8) 16 else Py 8 c.a8) 2 else(if ln c.bx 1≠0 then Py (Py 8 c.a8) 16 else Py 8 c.a8)
def gN(k:Kr)(p:Nat)(c:Cl):Kr×An:=
 if Tb.eQ c.a8=false\/c.bx<0\/c.bx>3 then(k,An.no 3)
 else if c.ah=2 then gV k p c 0 false
 else if(bu k p c.fd (jP c)).2.2≠0 then(k,An.no (bu k p c.fd (jP c)).2.2)
 else gV k p c (bu k p c.fd (jP c)).2.1 true
theorem FJ{k:Kr}{p:Nat}{c:Cl}{X:Mem}{a:An}:TC k p c a a.cv (xB k p::cB c::X):=
 ⟨_,_,View.of (X.length+2) [0,1] [] rfl rfl rfl rfl rfl (by simp[fm,Nat.blt]) (.eq rfl .nil) (.pt rfl rfl (.eq rfl (bD _ _)) (.pt rfl rfl (.eq rfl (b7 _)) (.nil _))),rfl,rfl⟩
theorem l37:bs Tryz.prog Tryz.f37=some c37.er:=by kernel_rfl
def Zy:LC:=bK (bK (bK (bK (bK (bK c37.code)))))
def VQ:LC:=pj Zy
theorem M8(k:Kr)(p:Nat)(hw:KW k p)(c:Cl)(need:Int)(hf:∀ax,FH k p c (iD k ax c.cA true true))(R:Kr×An)(hR:R=if(bu k p c.fd need).2.2≠0 then(k,An.no (bu k p c.fd need).2.2)else gV k p c (bu k p c.fd need).2.1 true):
  aw Tryz.prog 2 VQ (QC c37.lj R.1 p c R.2) ⟨mg 78 [(0,.rv (.one (.ptr 0 0))),(1,.rv (.one (.ptr 1 0))),(4,.rv (.one (.ptr 2 0))),(5,an .i64 need)],[xB k p,cB c,bY]⟩:=by
 refine j8 k p hw c.fd need 0 rfl ?_;generalize bu k p c.fd need=w at hR⊢;obtain⟨⟨o,r⟩,b,e⟩:=w;refine br (fun he=>?_) (fun he=>?_)
 .have he:e≠0:=he;rw[if_pos he]at hR;subst hR;exact db (X:=[_,_])
 .have he:e=0:=he;subst he;rw[if_neg aG]at hR;subst hR;refine CY k p hw c b true (hf b) 0 1 rfl rfl rfl rfl ?_;exact FJ (X:=[_,_])
theorem JB(k:Kr)(p:Nat)(hw:KW k p)(c:Cl)(hf:∀ax aA,FH k p c (iD k ax c.cA aA true)):
  body Tryz.prog c37 [.rv (.one (.ptr 0 0)),.rv (.one (.ptr 1 0))] [xB k p,cB c] (TC (gN k p c).1 p c (gN k p c).2):=by
 have hv:∀need R,R=(if(bu k p c.fd need).2.2≠0 then(k,An.no (bu k p c.fd need).2.2)else gV k p c (bu k p c.fd need).2.1 true)->
  aw Tryz.prog 2 VQ (QC c37.lj R.1 p c R.2) ⟨mg 78 [(0,.rv (.one (.ptr 0 0))),(1,.rv (.one (.ptr 1 0))),(4,.rv (.one (.ptr 2 0))),(5,an .i64 need)],[xB k p,cB c,bY]⟩:=fun need R hR=>M8 k p hw c need (fun b=>hf b true) R hR
 refine Tb.wd c.a8 ?_;cases hr:Tb.eQ c.a8 with
 |false=>
  have e1:gN k p c=(k,An.no 3):=by rw[gN,if_pos (.inl hr)]
  rw[e1];exact db (X:=[_])
 |true=>
  refine aB (fun h1=>?_) (fun h1=>?_)
  .have h1:c.bx<0:=h1;have e1:gN k p c=(k,An.no 3):=by rw[gN,if_pos (.inr (.inl h1))]
   rw[e1];exact db (X:=[_])
  have h1:¬c.bx<0:=h1;refine aB (fun h2=>?_) (fun h2=>?_)
  .have h2:c.bx>3:=h2;have e1:gN k p c=(k,An.no 3):=by rw[gN,if_pos (.inr (.inr h2))]
   rw[e1];exact db (X:=[_])
  have h2:¬c.bx>3:=h2;have e0:gN k p c=if c.ah=2 then gV k p c 0 false
   else if(bu k p c.fd (jP c)).2.2≠0 then(k,An.no (bu k p c.fd (jP c)).2.2)
   else gV k p c (bu k p c.fd (jP c)).2.1 true:=by rw[gN,if_neg (by simp[hr,h1,h2])]
  rw[e0];refine bH (fun h3=>?_) (fun h3=>?_)
  .have h3:c.ah=2:=h3;rw[if_pos h3];refine CY k p hw c 0 false (hf 0 false) 0 1 rfl rfl rfl rfl ?_;exact FJ (X:=[_])
  have h3:¬c.ah=2:=h3;rw[if_neg h3];refine br (fun h4=>?_) (fun h4=>?_)
  .have h4:ln c.bx 1≠0:=h4;refine br (fun h5=>?_) (fun h5=>?_)
   .have h5:ln c.bx 2≠0:=h5;refine⟨_,View.o 3 [0,1,2] [] ?_ ?_,hv (jP c) _ rfl⟩
    .rw[jP,if_pos h4,if_pos h5];repeat(first|exact .nil|refine .ap ?_|refine .eq rfl ?_)
    .exact .pt rfl rfl (.eq rfl (bD _ _)) (.pt rfl rfl (.eq rfl (b7 _)) (.pt rfl rfl (.eq rfl (by simp[bY])) (.nil _)))
   .have h5:¬ln c.bx 2≠0:=fun h=>h h5
    refine⟨_,View.o 3 [0,1,2] [] ?_ ?_,hv (jP c) _ rfl⟩
    .rw[jP,if_pos h4,if_neg h5];repeat(first|exact .nil|refine .ap ?_|refine .eq rfl ?_)
    .exact .pt rfl rfl (.eq rfl (bD _ _)) (.pt rfl rfl (.eq rfl (b7 _)) (.pt rfl rfl (.eq rfl (by simp[bY])) (.nil _)))
  .have h4:¬ln c.bx 1≠0:=fun h=>h h4
   refine br (fun h5=>?_) (fun h5=>?_)
   .have h5:ln c.bx 2≠0:=h5;refine⟨_,View.o 3 [0,1,2] [] ?_ ?_,hv (jP c) _ rfl⟩
    .rw[jP,if_neg h4,if_pos h5];repeat(first|exact .nil|refine .ap ?_|refine .eq rfl ?_)
    .exact .pt rfl rfl (.eq rfl (bD _ _)) (.pt rfl rfl (.eq rfl (b7 _)) (.pt rfl rfl (.eq rfl (by simp[bY])) (.nil _)))
   .have h5:¬ln c.bx 2≠0:=fun h=>h h5
    refine⟨_,View.o 3 [0,1,2] [] ?_ ?_,hv (jP c) _ rfl⟩
    .rw[jP,if_neg h4,if_neg h5];repeat(first|exact .nil|refine .ap ?_|refine .eq rfl ?_)
    .exact .pt rfl rfl (.eq rfl (bD _ _)) (.pt rfl rfl (.eq rfl (b7 _)) (.pt rfl rfl (.eq rfl (by simp[bY])) (.nil _)))
theorem dS{f:Nat}{k k':Kr}{p:Nat}{c:Cl}{a:An}(hc:ar Tryz.prog f [.rv (.one (.ptr 0 0)),.rv (.one (.ptr 1 0))] [xB k p,cB c] (TC k' p c a)){m:Mem}(i j:Nat)(pM:gp [i,j]=true)(aC:fm m.length [i,j]=true)(hi:df m i=some (xB k p))(hj:df m j=some (cB c)){K:CV->Mem->Prop}(hK:K a.cv (dn m [i,j] [xB k' p,cB c])):ar Tryz.prog f [.rv (.one (.ptr i 0)),.rv (.one (.ptr j 0))] m K:=
 Rb (args:=[]) (fun _=>rfl) (fun _=>rfl) (bN hc fun r m1⟨r',m',hv,hq⟩=>⟨r',m',hv,hq⟩) i j pM aC hi hj hK
theorem zc(k:Kr)(p:Nat)(hw:KW k p)(c:Cl)(hf:∀ax aA,FH k p c (iD k ax c.cA aA true)):ar Tryz.prog 37 [.rv (.one (.ptr 0 0)),.rv (.one (.ptr 1 0))] [xB k p,cB c] (TC (gN k p c).1 p c (gN k p c).2):=
 cm Tryz.func37 l37 (JB k p hw c hf)
end Kn
def c38:LF:= ⟨172,[.cell true 4 4],(.seq (.ai [qu 4 (.alloc [(qd 0),(qd 0),(qd 0),.aI])]) (.seq (.ai [qu 15 (.qz),qw (.kF (.i .i64) 15 (qi 4) (qi 1)),qw (.kF (.i .i64) 15 (qi 5) (qi 2)),qw (.kF (.i .i64) 15 (qi 6) (qi 4)),qm 16 15,qm 17 1,qu 18 (.aW 17),qf 19 1 18,ql 20 19,qu 21 (.Bw (.one (qd 0)) (.i .i64) 16 20 false),qm 5 21]) (.cO (.seq (.ai [qm 23 0,qm 24 1,qu 25 (.aW 24),qf 26 2 25,ql 27 26,qm 28 5,qu 29 (qc 63 [23,27,28]),qm 22 29,qu 30 (.ext 22 0),qu 31 (.ext 22 1),qu 32 (.ext 22 2),qu 6 (.alloc [(qd 0),(qd 0)]),qw (.store 2 6 30),qm 7 31,qm 8 32]) (.seq (.seq (.ai [qm 33 8,qu 34 (.aF .neq 33 (qi 0))]) (.cond 34 (.seq (.ai [qm 35 8,qu 36 (.build [(qd 0),(qd 0),(qd 0),.aI] [(0,1,35)]),qw (.store 4 4 36)]) .ret) .skip)) (.seq (.bQ [qm 37 0,qu 38 (.aW 37),qf 39 0 38,qf 40 1 39,ql 41 40,qf 42 0 6,ql 43 42,qu 44 (.bO 2 41 43),qf 45 1 44,ql 46 45,qm 9 46] [(.cons 0 none (.cons 1 none (.cons 2 none (.cons 3 none (.cons 4 none (.cons 5 none (.cons 6 none (.cons 7 none (.cons 8 none (.cons 9 none (.cons 10 none .nil)))))))))))]) (.seq (.ai [qu 47 (.build [(qd 0),(qd 0),(qd 0),.aI] []),qu 10 (.alloc [(qd 0),(qd 0),(qd 0),.aI]),qw (.store 4 10 47)]) (.seq (.seq (.ai [qm 48 1,qu 49 (.aW 48),qf 50 1 49,ql 51 50]) (.block 0 (.seq (.ai [qu 70 (.aF .eql 51 (qi 4)),qm 69 70]) (.cond 69 (.seq (.bQ [qm 72 0,qu 73 (.aW 72),qf 74 0 73,qf 75 0 74,ql 76 75,qm 77 7,qu 78 (.bO 9 76 77),qL 79 9 78,qm 80 9,qm 81 1,qu 82 (.aW 81),qf 83 4 82,ql 84 83,qu 85 (qc 64 [79,80,84]),qm 71 85,qu 86 (.ext 71 0),qu 87 (.ext 71 1),qm 11 86,qm 12 87] [(.cons 0 none (.cons 1 none (.cons 2 none (.cons 3 none (.cons 4 none (.cons 5 none (.cons 6 none (.cons 7 none (.cons 8 none (.cons 9 none (.cons 10 none (.cons 11 none (.cons 12 none (.cons 13 (some []) (.cons 14 none (.cons 15 none (.cons 16 none (.cons 17 none (.cons 18 none .nil)))))))))))))))))))]) (.seq (.seq (.ai [qm 88 12,qu 89 (.aF .neq 88 (qi 0))]) (.cond 89 (.seq (.ai [qm 90 12,qu 91 (.build [(qd 0),(qd 0),(qd 0),.aI] [(0,1,90)]),qw (.store 4 4 91)]) .ret) .skip)) (.seq (.ai [qm 92 9,qm 93 11,qu 94 (.len 1 93),qu 95 (.aF .add 92 94),qm 9 95]) (.ai [qm 96 11,qu 97 (.len 1 96),qm 98 11,qf 99 1 10,qw (.store 1 99 97),qf 100 3 10,qw (.store 1 100 98)])))) (.seq (.ai [qu 102 (.aF .eql 51 (qi 5)),qm 101 102]) (.cond 101 (.seq (.bQ [qm 104 0,qu 105 (.aW 104),qf 106 0 105,qf 107 0 106,ql 108 107,qm 109 7,qu 110 (.bO 9 108 109),qL 111 9 110,qm 112 9,qm 113 1,qu 114 (.aW 113),qf 115 8 114,ql 116 115,qu 117 (qc 65 [111,112,116]),qm 103 117,qu 118 (.ext 103 0),qu 119 (.ext 103 1),qu 13 (.alloc [(qd 0),.aI,.aI,(.aa (.val (.string ⟨#[]⟩))),(qd 0),.aI,(qd 0),(qd 0),(qd 0)]),qw (.store 9 13 118),qm 14 119] [(.cons 0 none (.cons 1 none (.cons 2 none (.cons 3 none (.cons 4 none (.cons 5 none (.cons 6 none (.cons 7 none (.cons 8 none (.cons 9 none (.cons 10 none (.cons 11 none (.cons 12 none (.xK (.cons 13 (some []) (.cons 14 none (.cons 15 none (.cons 16 none (.cons 17 (some [12,7,6,4]) (.cons 18 (some []) (.cons 19 none .nil))))))) (.cons 17 (some [12,7,6,4]) (.cons 13 (some []) (.cons 14 none (.cons 15 none (.cons 16 none (.cons 18 (some []) (.cons 19 none .nil)))))))))))))))))))))]) (.cO (.seq (.seq (.ai [qm 120 14,qu 121 (.aF .neq 120 (qi 0))]) (.cond 121 (.seq (.ai [qm 122 14,qu 123 (.build [(qd 0),(qd 0),(qd 0),.aI] [(0,1,122)]),qw (.store 4 4 123)]) .ret) .skip)) (.seq (.ai [qm 124 0,qm 125 0,qu 126 (.aW 125),qf 127 0 126,qL 128 3 127,qu 129 (qc 66 [128]),qu 130 (.aW 124),qf 131 0 130,qw (.store 3 131 129)]) (.seq (.bQ [qm 132 0,qu 133 (.aW 132),qf 134 0 133,qf 135 0 134,ql 136 135,qm 137 7,qL 138 9 13,qu 139 (.bO 9 136 137),qw (.store 9 139 138)] [(.cons 0 none (.cons 1 none (.cons 2 none (.cons 3 none (.cons 4 none (.cons 5 none (.cons 6 none (.cons 7 none (.cons 8 (some []) .nil)))))))))]) (.seq (.ai [qm 140 9,qm 141 1,qu 142 (.aW 141),qf 143 8 142,ql 144 143,qu 145 (.len 1 144),qu 146 (.aF .add 140 145),qm 9 146]) (.ai [qm 147 1,qu 148 (.aW 147),qf 149 8 148,ql 150 149,qu 151 (.len 1 150),qf 152 1 10,qw (.store 1 152 151)]))))))) (.seq (.seq (.ai [qm 52 1,qu 53 (.aW 52),qf 54 4 53,ql 55 54,qu 56 (.aF .lss 55 (qi 0)),qm 57 56,qg 58 (.aD 1) 57 false,qg 59 (.aW 58) 57 false,qg 60 (.bg 4 59) 57 false,qg 61 (.load false 1 60) 57 false,qg 62 (.aF .gtr 61 (qi 60)) 57 false,qu 63 (.pick 57 (qb true) 62)]) (.cond 63 (.seq (.ai [qu 64 (.build [(qd 0),(qd 0),(qd 0),.aI] [(0,1,(qi 3))]),qw (.store 4 4 64)]) .ret) .skip)) (.ai [qm 65 1,qu 66 (.aW 65),qf 67 4 66,ql 68 67,qm 9 68])))))))) (.cO (.seq (.ai [qm 153 0,qm 154 0,qu 155 (.aW 154),qf 156 0 155,qL 157 3 156,qu 158 (qc 66 [157]),qu 159 (.aW 153),qf 160 0 159,qw (.store 3 160 158)]) (.seq (.bQ [qm 161 0,qu 162 (.aW 161),qf 163 0 162,qf 164 1 163,ql 165 164,qf 166 0 6,ql 167 166,qm 168 9,qu 169 (.bO 2 165 167),qf 170 1 169,qw (.store 1 170 168)] [(.cons 0 none (.cons 1 none (.cons 2 none (.cons 3 none (.cons 4 none (.cons 5 none (.cons 6 none (.cons 7 none (.cons 8 none (.cons 9 none (.cons 10 (some []) .nil)))))))))))]) (.seq (.ai [qL 171 4 10,qw (.store 4 4 171)]) .ret))))))))))))⟩
namespace Kn
def nf(l:List Obj)(z:Int):Obj:=(l[z.toNat]?).getD gH
def uc(k:Kr)(z a:Int):Kr:=⟨k.l,(match k.ops[z.toNat]? with|some o=>k.ops.set z.toNat {o with dm:=a}|none=>k.ops),k.ps⟩
def setObj(k:Kr)(z:Int)(o:Obj):Kr:=⟨k.l.set z.toNat o,k.ops,k.ps⟩
def AL(a b:Int):Int:=IntKind.i64.wrap (a+b)
def lP(ah:Int):Int:=if ah=4 then 1 else if ah=5 then 2 else 4
def sW(k:Kr)(n:Int)(dm:Int)(r:List (List Dt)×Int):Kr×An:=
 if r.2≠0 then(k,An.no r.2)else(uc k n (AL dm r.1.length),⟨0,r.1.length,0,r.1⟩)
def oA(k:Kr)(n:Int)(bv:Int)(dm:Int)(len:Nat)(r:Obj×Int):Kr×An:=
 if r.2≠0 then(k,An.no r.2)else(uc (setObj k bv r.1) n (AL dm len),⟨0,len,0,[]⟩)
def pX(k:Kr)(n:Int)(dm:Int):Kr×An:=
 if dm<0\/dm>60 then(k,An.no 3)else(uc k n dm,⟨0,0,0,[]⟩)
def jg(k:Kr)(c:Cl)(w:(Int×Int)×Int×Int):Kr×An:=
 if w.2.2≠0 then(k,An.no w.2.2)
 else if c.ah=4 then sW k w.1.1 (ox k.ops w.1.1) (jv (nf k.l w.2.1).ah (nf k.l w.2.1).data (ox k.ops w.1.1) c.n)
 else if c.ah=5 then oA k w.1.1 w.2.1 (ox k.ops w.1.1) c.data.length (eR (nf k.l w.2.1) (ox k.ops w.1.1) (fM c.data))
 else pX k w.1.1 c.n
def fZ(k:Kr)(p:Nat)(c:Cl):Kr×An:=jg k c (bu k p c.fd (lP c.ah))
theorem sX{l:List Obj}{n:Nat}(h:n<l.length):nf l (n:Int)=l[n]:=by rw[nf,aaw,aab h];rfl
def TA(d:List Int)(A:Nat)(b:List Int):List Int:=if b.length=0 then d else cN (d++List.replicate (A+b.length-d.length) 0) A b
theorem FK(d b:List Int)(A:Nat):pu (fM d) A (fM b)=fM (TA d A b):=by
 have hl:∀x:List Int,(fM x).length=x.length:=fun x=>by simp[fM]
 have hz:∀n,List.replicate n zb=fM (List.replicate n 0):=fun n=>by simp[fM,zb]
 unfold pu TA;rw[hl];split
 .rfl
 .unfold Sv cN;rw[hl,hz,hl];simp only[fM,aaU,abS,acJ]
theorem HA(d b:List Int)(A:Nat)(hb:b.length<=60)(hA:A+b.length<=60):(TA d A b).length<=60\/(TA d A b).length<=d.length:=by
 unfold TA;split
 .exact .inr (aaj _)
 .unfold cN;simp only[aa3,aaz,aa4,List.length_replicate];omega
theorem wI{o:Obj}(ho:o.sm){dm:Int}{b:List Int}(h:(eR o dm (fM b)).2=0):(eR o dm (fM b)).1.sm/\o.ah=1/\0<=dm/\dm<=60/\(b.length:Int)<=60-dm/\(eR o dm (fM b)).1={o with data:=pu o.data dm.toNat (fM b)}:=by
 have hl:(fM b).length=b.length:=by simp[fM]
 unfold eR at h⊢;split at h
 .simp at h
 .rename_i h1;split at h
  .simp at h
  .rename_i h2;split at h
   .simp at h
   .rename_i h3;split at h
    .simp at h
    .rename_i h4;rw[if_neg h1,if_neg h2,if_neg h3,if_neg h4];rw[hl]at h4;obtain⟨⟨⟨d,hd⟩,vn,ht3⟩,lJ,he,hq,hqd⟩:=ho;refine⟨⟨⟨⟨TA d dm.toNat b,?_⟩,vn,ht3⟩,?_,he,hq,hqd⟩,om,om,om,om,rfl⟩
     .show pu o.data dm.toNat (fM b)=_;rw[hd,FK]
     .show(pu o.data dm.toNat (fM b)).length<=64;rw[hd,FK,show ∀x:List Int,(fM x).length=x.length from fun x=>by simp[fM]]
      have adR:d.length<=64:=by rw[hd]at lJ;simpa[fM]using lJ
      have:=HA d b dm.toNat om om;omega
theorem dE.JC{k:Kr}(h:dE k.l k.ops k.ps){z:Int}{o:Obj}(ho:o.sm):dE (setObj k z o).l (setObj k z o).ops (setObj k z o).ps:=by
 refine⟨fun x hx=>?_,by simpa[setObj]using h.ll,h.lo,h.lp,h.sl,h.ne⟩
 rcases aaI hx with hx|rfl
 .exact h.sm x hx
 .exact ho
theorem l38:bs Tryz.prog Tryz.f38=some c38.er:=by kernel_rfl
def Zz:LC:=bK (bK c38.code)
def SO:LC:=pj Zz
def VR:LC:=bK (bK (bK (bK (bK SO))))
def ZA:LC:=pj VR
theorem pY(k:Kr)(hk:dE k.l k.ops k.ps)(p:Nat)(c:Cl)(n:Nat)(hn:n<k.ops.length)(r dm:Int)(a:An):
  aw Tryz.prog 2 ZA (QC c38.lj (uc k n dm) p c a)
   ⟨mg 172 [(0,.rv (.one (.ptr 0 0))),(1,.rv (.one (.ptr 1 0))),(4,.rv (.one (.ptr 2 0))),(6,.rv (.one (.ptr 3 0))),(9,an .i64 dm),(10,.rv (.one (.ptr 4 0)))],
    [xB k p,cB c,bY,.var [.aa (.val (.int .i64 (n:Nat))),.aa (.val (.int .i64 r))],.var (a.enc.map .aa)]⟩:=by
 refine ix k.l k.ops k.ps ⟨hk.ll,fun o ho=>(hk.sm o ho).mP⟩ hk.lo hk.lp hk.sl hk.ne ?_
 refine ag (Ad hn) ?_;have ho:=bI bG.enc k.ops hn;have hs:uc k n dm=⟨k.l,k.ops.set n {k.ops[n]with dm:=dm},k.ps⟩:=by rw[uc,aaw,aab hn]
 rw[hs];generalize k.ops[n]=x at ho;obtain⟨xo,xa⟩:=x;refine ag ho ?_;refine⟨trivial,_,_,View.o 8 [0,1] [5,6,7] (.eq rfl .nil) (.pt rfl rfl (SN (k:=⟨k.l,k.ops.set n ⟨xo,dm⟩,k.ps⟩) (ib rfl rfl) (ib rfl (congrArg (fun x=>some (Bk.row 2 x)) ?_)) (ib rfl rfl)) (.pt rfl rfl (.eq rfl (b7 _)) (.nil _))),rfl,rfl⟩
 show ba (af (k.ops.map bG.enc)) n ((bG.enc ⟨xo,dm⟩).map .aa)=_;rw[bn,af,af,aa6,aa6]
def unB:LC->LC
 | .block _ b=>b
 |x=>x
def ZB:LC:=match unB (bK (U9 (bK (bK (bK (bK SO))))))with
 | .seq _ (.cond _ _ (.seq _ (.cond _ (.seq _ g) _)))=>g
 |x=>x
def ZC:LC:=pj ZB
def FL(a b d:Int)(x:Int):Prop:=x=a\/x=b\/x=d
theorem Rc{σ:Nat->Nat}{m:Mem}{Z:Nat->Prop}{id:Nat}{e n x:Int}:mZ σ m Z id (.var [.aa (.val (.int .i64 e)),.aa (.val (.int .i64 n)),.aa (.val (.int .i64 x)),.aI]) (.var ((An.enc ⟨e,n,x,[]⟩).map .aa)):=
 e7.var (.cons (.aQ (.aa _)) (.cons (.aQ (.aa _)) (.cons (.aQ (.aa _)) (.cons (.fv (.aI 1)) .nil))))
theorem FM(k:Kr)(p:Nat)(hw:KW k p)(c:Cl)(n j:Nat)(hn:n<k.ops.length)(hj:j<k.l.length)(r dm:Int)(o':Obj)(e:Int)(ho:e=0->o'.sm):
  aw Tryz.prog 2 ZC (DY 0 (Rs (aw Tryz.prog 2 VR) (QC c38.lj (oA k n j dm c.data.length (o',e)).1 p c (oA k n j dm c.data.length (o',e)).2)))
   ⟨mg 172 [(0,.rv (.one (.ptr 0 0))),(1,.rv (.one (.ptr 1 0))),(4,.rv (.one (.ptr 2 0))),(6,.rv (.one (.ptr 3 0))),(7,an .i64 (j:Nat)),(9,an .i64 dm),(10,.rv (.one (.ptr 4 0))),(13,.rv (.one (.ptr 5 0))),(14,an .i64 e)],
    [xB k p,cB c,bY,.var [.aa (.val (.int .i64 (n:Nat))),.aa (.val (.int .i64 r))],.var [.aa (.val (.int .i64 0)),.aa (.val (.int .i64 0)),.aa (.val (.int .i64 0)),.aI],.var (o'.enc.map .aa)]⟩:=by
 refine br (fun he=>?_) (fun he=>?_)
 .have he:e≠0:=he;rw[oA,if_pos he];exact db (X:=[_,_,_,_])
 have he:e=0:=he;subst he;have ho:=ho rfl;rw[oA,if_neg aG];refine ix k.l k.ops k.ps hw.mP hw.kr.lo hw.kr.lp hw.kr.sl hw.kr.ne ?_;refine ag (M7 hj) ?_;refine ag (bI Obj.enc k.l hj) ?_;refine⟨trivial,?_⟩;have hx:ba (af (k.l.map Obj.enc)) j (o'.enc.map .aa)=af ((setObj k j o').l.map Obj.enc):=m5 Obj.enc k.l j o';refine⟨_,View.o 9 [0,1,2,3,4] [6,7,8] ?_ ?_,pY (setObj k j o') (dE.JC hw.kr ho) p c n hn r (AL dm c.data.length) ⟨0,c.data.length,0,[]⟩⟩
 .have hl:∀x:List Int,(fM x).length=x.length:=fun x=>by simp[fM]
  have h9:an .i64 (IntKind.i64.wrap (dm+((fM c.data).length:Nat)))=an .i64 (AL dm c.data.length):=by rw[hl];rfl
  repeat(first|exact .nil|refine .ap ?_|refine .eq rfl ?_|refine .eq h9.symm ?_)
 .have h9:((fM c.data).length:Int)=(c.data.length:Int):=by simp[fM]
  refine .pt rfl rfl (SN (k:=setObj k j o') (ib rfl (congrArg (fun x=>some (Bk.row 9 x)) hx)) (ib rfl rfl) (ib rfl rfl)) (.pt rfl rfl (.eq rfl (b7 _)) (.pt rfl rfl (.eq rfl (by simp[bY])) (.pe rfl rfl rfl (.pt rfl rfl ?_ (.nil _)))))
  rw[<-h9];exact Rc
theorem PG{ops:List bG}{n:Nat}(h:n<ops.length):ox ops (n:Int)=ops[n].dm:=by rw[ox,aaw,aab h]
theorem JD(k:Kr)(p:Nat)(hw:KW k p)(c:Cl)(need:Int)(yE:FL 4 5 6 c.ah)(hd:c.data.length<=4194304):
  aw Tryz.prog 2 SO (QC c38.lj (jg k c (bu k p c.fd need)).1 p c (jg k c (bu k p c.fd need)).2)
   ⟨mg 172 [(0,.rv (.one (.ptr 0 0))),(1,.rv (.one (.ptr 1 0))),(4,.rv (.one (.ptr 2 0))),(5,an .i64 need)],[xB k p,cB c,bY]⟩:=by
 refine j8 k p hw c.fd need 0 rfl ?_;have hh:= @KW.held k p hw c.fd need;generalize bu k p c.fd need=w at hh⊢;obtain⟨⟨o,r⟩,b,e⟩:=w;refine br (fun he=>?_) (fun he=>?_)
 .have he:e≠0:=he;have e1:jg k c ((o,r),b,e)=(k,An.no e):=by rw[jg,if_pos he]
  rw[e1];exact db (X:=[_,_])
 have he:e=0:=he;subst he;obtain⟨n,j,h1,h2,h3,h4,h5⟩:=hh rfl;have h1:o=n:=h1;have h3:b=j:=h3;subst h1 h3;have jr:=(hw.kr.sm _ (aau h4)).mP;have Ec:=hw.kr.sm _ (aau h4);have QP:=sX h4;refine ag (oR h2) ?_;have hS:jg k c ((((n:Nat):Int),r),((j:Nat):Int),0)=if c.ah=4 then sW k n k.ops[n].dm (jv k.l[j].ah k.l[j].data k.ops[n].dm c.n)
  else if c.ah=5 then oA k n j k.ops[n].dm c.data.length (eR k.l[j] k.ops[n].dm (fM c.data))else pX k n c.n:=by
  rw[jg,if_neg aG,QP,PG h2]
 rw[hS];refine bH (fun k4=>?_) (fun k4=>?_)
 .have k4:c.ah=4:=k4;rw[if_pos k4];refine ag (iC h4) ?_;refine M0 k.l[j] jr.1 k.ops[n].dm c.n ?_;generalize jv k.l[j].ah k.l[j].data k.ops[n].dm c.n=R;obtain⟨d,e⟩:=R;refine⟨trivial,?_⟩;refine br (fun he=>?_) (fun he=>?_)
  .have he:e≠0:=he;rw[sW,if_pos he];exact db (X:=[_,_,_])
  .have he:e=0:=he;subst he;rw[sW,if_neg aG];refine⟨_,View.o1 5 [0,1,2,3,4] [] ?_,pY k hw.kr p c n h2 r (AL k.ops[n].dm d.length) ⟨0,d.length,0,d⟩⟩
   .exact .pt rfl rfl (.eq rfl (bD _ _)) (.pt rfl rfl (.eq rfl (b7 _)) (.pt rfl rfl (.eq rfl (by simp[bY])) (.pe rfl rfl rfl (.pm rfl rfl rfl))))
 have k4:¬c.ah=4:=k4;rw[if_neg k4];refine bH (fun k5=>?_) (fun k5=>?_)
 .have k5:c.ah=5:=k5;rw[if_pos k5];have hb:(fM c.data).length<=4194304:=by simpa[fM]using hd
  have Bj:=fun(h:(eR k.l[j] k.ops[n].dm (fM c.data)).2=0)=>(wI Ec h).1
  have hg:=iC h4;have VS:=fun o' e(h:e=0->Obj.sm o')=>FM k p hw c n j h2 h4 r k.ops[n].dm o' e h
  refine ag hg ?_;refine⟨?_,?_⟩
  .refine CH k.l[j] jr k.ops[n].dm (fM c.data) hb ?_;generalize eR k.l[j] k.ops[n].dm (fM c.data)=R at Bj⊢;obtain⟨o',e⟩:=R;refine⟨trivial,⟨rfl,rfl,ag hg rfl,rfl,trivial⟩,trivial,_,View.o1 6 [0,1,2,3,4,5] [] ?_,VS o' e Bj⟩
   .exact .pt rfl rfl (.eq rfl (bD _ _)) (.pt rfl rfl (.eq rfl (b7 _)) (.pt rfl rfl (.eq rfl (by simp[bY])) (.pe rfl rfl rfl (.pe rfl rfl rfl (.pm rfl rfl rfl)))))
  .refine⟨⟨rfl,rfl,ag hg rfl,rfl,trivial⟩,?_⟩;refine CH k.l[j] jr k.ops[n].dm (fM c.data) hb ?_;generalize eR k.l[j] k.ops[n].dm (fM c.data)=R at Bj⊢;obtain⟨o',e⟩:=R;refine⟨trivial,trivial,_,View.o1 6 [0,1,2,3,4,5] [] ?_,VS o' e Bj⟩
   .exact .pt rfl rfl (.eq rfl (bD _ _)) (.pt rfl rfl (.eq rfl (b7 _)) (.pt rfl rfl (.eq rfl (by simp[bY])) (.pe rfl rfl rfl (.pe rfl rfl rfl (.pm rfl rfl rfl)))))
 .have k5:¬c.ah=5:=k5;rw[if_neg k5];refine aB (fun h6=>?_) (fun h6=>?_)
  .have h6:c.n<0:=h6;rw[pX,if_pos (.inl h6)];exact db (X:=[_,_,_])
  have h6:¬c.n<0:=h6;refine aB (fun h7=>?_) (fun h7=>?_)
  .have h7:c.n>60:=h7;rw[pX,if_pos (.inr h7)];exact db (X:=[_,_,_])
  have h7:¬c.n>60:=h7;rw[pX,if_neg om];refine⟨_,View.o1 5 [0,1,2,3,4] [] ?_,pY k hw.kr p c n h2 r c.n ⟨0,0,0,[]⟩⟩
  .exact .pt rfl rfl (.eq rfl (bD _ _)) (.pt rfl rfl (.eq rfl (b7 _)) (.pt rfl rfl (.eq rfl (by simp[bY])) (.pe rfl rfl rfl (.pt rfl rfl Rc (.nil _)))))
theorem FN(k:Kr)(p:Nat)(hw:KW k p)(c:Cl)(yE:FL 4 5 6 c.ah)(hd:c.data.length<=4194304):
  body Tryz.prog c38 [.rv (.one (.ptr 0 0)),.rv (.one (.ptr 1 0))] [xB k p,cB c] (TC (fZ k p c).1 p c (fZ k p c).2):=by
 have hs:=fun need=>JD k p hw c need yE hd
 have Rd:fZ k p c=jg k c (bu k p c.fd (lP c.ah)):=rfl;rw[Rd];clear Rd;obtain⟨aL,ah,fd,gA,n,bx,a8,cA,data⟩:=c;rcases yE with h|h|h
 .have h:ah=4:=h;subst h;refine⟨_,View.o1 4 [0,1,2] [] ?_,hs 1⟩
  .exact .pt rfl rfl (.eq rfl (bD _ _)) (.pt rfl rfl (.eq rfl (b7 _)) (.pt rfl rfl (.eq rfl (by simp[bY])) (.nil _)))
 .have h:ah=5:=h;subst h;refine⟨_,View.o1 4 [0,1,2] [] ?_,hs 2⟩
  .exact .pt rfl rfl (.eq rfl (bD _ _)) (.pt rfl rfl (.eq rfl (b7 _)) (.pt rfl rfl (.eq rfl (by simp[bY])) (.nil _)))
 .have h:ah=6:=h;subst h;refine⟨_,View.o1 4 [0,1,2] [] ?_,hs 4⟩
  .exact .pt rfl rfl (.eq rfl (bD _ _)) (.pt rfl rfl (.eq rfl (b7 _)) (.pt rfl rfl (.eq rfl (by simp[bY])) (.nil _)))
theorem pZ(k:Kr)(p:Nat)(hw:KW k p)(c:Cl)(yE:FL 4 5 6 c.ah)(hd:c.data.length<=4194304):ar Tryz.prog 38 [.rv (.one (.ptr 0 0)),.rv (.one (.ptr 1 0))] [xB k p,cB c] (TC (fZ k p c).1 p c (fZ k p c).2):=
 cm Tryz.func38 l38 (FN k p hw c yE hd)
end Kn
end Go.Proofs.YtojhmadmlnfpcaaGreatDoor
