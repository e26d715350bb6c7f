/- Part 15 of 18. -/
import Derived.Test.YtojhmadmlnfpcaaGreatDoorS10
import Derived.Test.YtojhmadmlnfpcaaGreatDoorS11
import Derived.Test.YtojhmadmlnfpcaaGreatDoorS14
set_option linter.unusedVariables false
set_option linter.unusedSimpArgs false
set_option linter.unnecessarySimpa false
set_option maxRecDepth 100000
set_option maxHeartbeats 0
namespace Go.Proofs.YtojhmadmlnfpcaaGreatDoor
open Go.AM Go.ChangeShapes Go.WideShapes Go.ChangeAt Go.RowKit
def c62:LF:= ⟨117,[.cell true 4 8],(.seq (.ai [qu 8 (.alloc [qd 0,qd 0,qd 0,.aI])]) (.seq (.bX [qm 15 0,qu 16 (.aY 15),qf 17 0 16,qf 18 0 17,ql 19 18,qm 20 2,qm 21 1,qu 22 (.aY 21),qf 23 7 22,ql 24 23,qm 25 3,qu 26 (qc 74 [19,20,24,25,qb true]),qm 14 26,qu 27 (.ext 14 0),qu 28 (.ext 14 1),qu 9 (.alloc [qd 0,qd 0,(.aa (.val (.string ⟨#[]⟩)))]),qw (.store 3 9 27),qm 10 28] [(.cons 0 none (.cons 1 none (.cons 2 none (.cons 3 none (.cons 4 none (.cons 5 none (.cons 6 none (.cons 7 none (.cons 8 none (.cons 9 none (.cons 10 none (.xJ (.cons 11 (some []) (.cons 12 none (.cons 13 none (.cons 14 none (.cons 15 (some [9,4]) (.cons 16 (some []) (.cons 17 none .nil))))))) (.cons 15 (some [9,4]) (.cons 11 (some []) (.cons 12 none (.cons 13 none (.cons 14 none (.cons 16 (some []) (.cons 17 none .nil)))))))))))))))))))]) (.cu (.seq (.ai [qf 29 0 9,ql 30 29,qm 11 30]) (.seq (.block 0 (.seq (.ai [qm 32 10,qu 33 (.aF .neq 32 (qi 0)),qm 31 33]) (.cond 31 .skip (.seq (.ai [qm 35 11,qu 36 (.aF .lss 35 (qi 0)),qm 37 36,qg 38 (.aH 1) 37 true,qg 39 (.aY 38) 37 true,qg 40 (.br 5 39) 37 true,qg 41 (.load false 1 40) 37 true,qg 42 (.aF .and 41 (qi 1)) 37 true,qg 43 (.aF .eql 42 (qi 0)) 37 true,qu 44 (.pick 37 43 (qb false)),qm 34 44]) (.cond 34 (.ai [qu 10 (.aH (qi 6))]) (.seq (.ai [qm 46 11,qu 47 (.aF .lss 46 (qi 0)),qm 45 47]) (.cond 45 (.ai [qm 49 0,qL 50 3 9,qu 51 (.build [qd 0,.aI,.aI,(.aa (.val (.string ⟨#[]⟩))),qd 0,.aI,qd 0,qd 0,qd 0] [(0,1,qi 1)]),qu 52 (qc 77 [49,50,51]),qm 48 52,qu 53 (.ext 48 0),qu 54 (.ext 48 1),qm 11 53,qm 10 54]) (.seq (.ai [qm 56 1,qu 57 (.aY 56),qf 58 5 57,ql 59 58,qu 60 (.aF .and 59 (qi 2)),qu 61 (.aF .neq 60 (qi 0)),qm 62 61,qg 63 (.aH 0) 62 true,qg 64 (.aY 63) 62 true,qg 65 (.br 0 64) 62 true,qg 66 (.br 0 65) 62 true,qg 67 (.load false 1 66) 62 true,qg 68 (.aH 11) 62 true,qg 69 (.bW 9 67 68) 62 true,qg 70 (.br 0 69) 62 true,qg 71 (.load false 1 70) 62 true,qg 72 (.aF .eql 71 (qi 2)) 62 true,qu 73 (.pick 62 72 (qb false)),qm 55 73]) (.cond 55 (.ai [qu 10 (.aH (qi 12))]) .skip))))))))) (.cu (.seq (.seq (.ai [qm 74 10,qu 75 (.aF .neq 74 (qi 0))]) (.cond 75 (.seq (.ai [qm 76 10,qu 77 (.build [qd 0,qd 0,qd 0,.aI] [(0,1,76)]),qw (.store 4 8 77)]) .ret) .skip)) (.seq (.bX [qm 79 0,qu 80 (.aY 79),qf 81 0 80,qL 82 3 81,qm 83 0,qu 84 (.aY 83),qf 85 3 84,ql 86 85,qm 87 11,qm 88 1,qu 89 (.aY 88),qf 90 6 89,ql 91 90,qu 92 (qc 79 [82,86,87,91]),qm 78 92,qu 93 (.ext 78 0),qu 94 (.ext 78 1),qu 95 (.ext 78 2),qu 12 (.alloc [.aI,.aI,.aI]),qw (.store 3 12 93),qm 13 94,qm 10 95] [(.cons 0 none (.cons 1 none (.cons 2 none (.cons 3 none (.cons 4 none (.cons 5 none (.cons 6 none (.cons 7 none (.cons 8 none (.cons 9 none (.cons 10 none (.cons 11 none (.cons 12 none (.xJ (.cons 13 (some []) (.cons 14 none (.cons 15 none (.cons 16 none (.cons 17 none (.cons 18 (some [12,7,3]) (.cons 19 (some []) (.cons 20 none (.cons 21 none .nil))))))))) (.cons 18 (some [12,7,3]) (.cons 13 (some []) (.cons 14 none (.cons 15 none (.cons 16 none (.cons 17 none (.cons 19 (some []) (.cons 20 none (.cons 21 none .nil)))))))))))))))))))))))]) (.cu (.seq (.seq (.ai [qm 96 10,qu 97 (.aF .neq 96 (qi 0))]) (.cond 97 (.seq (.ai [qm 98 10,qu 99 (.build [qd 0,qd 0,qd 0,.aI] [(0,1,98)]),qw (.store 4 8 99)]) .ret) .skip)) (.cu (.seq (.seq (.ai [qm 100 1,qu 101 (.aY 100),qf 102 5 101,ql 103 102,qu 104 (.aF .and 103 (qi 2)),qu 105 (.aF .neq 104 (qi 0))]) (.cond 105 (.ai [qf 106 0 12,ql 107 106,qm 108 11,qu 109 (.bW 9 107 108),qf 110 1 109,qw (.store 1 110 qe)]) .skip)) (.seq (.ai [qm 111 0,qL 112 3 12,qu 113 (.aY 111),qf 114 0 113,qw (.store 3 114 112)]) (.seq (.ai [qm 115 13,qu 116 (.build [qd 0,qd 0,qd 0,.aI] [(1,1,115)]),qw (.store 4 8 116)]) .ret))))))))))))))⟩
namespace Kn
def oy:Obj:=⟨1,[],[],⟨#[]⟩,0,[],0,0,0⟩
theorem yG:Pq oy:=⟨⟨⟨⟨[],rfl⟩,⟨[],rfl⟩,by simp[oy]⟩,by simp[oy],by simp[oy],by simp[oy],by simp[oy]⟩,rfl⟩
def jx(k:Kr)(aA:Int)(s:bP.dG)(aE follow:Bool):R4:=pB (k.l.map Obj.ob) aA s aE follow
theorem rG(k:Kr)(p:Nat)(hw:KW k p)(aA:Int)(s:bP.dG)(aE follow:Bool){m:Mem}{K:CV->Mem->Prop}(h:K (Ug (jx k aA s aE follow)) m):
  au Tryz.prog 74 [b8 k.l,an .i64 aA,bP.vT s,ax aE,ax follow] m K:=by
 rw[show b8 k.l=zK (k.l.map Obj.ob)from congrArg (fun d=>CV.rv (.one (.aa d))) (SZ k.l)]
 exact Pi _ hw.lk aA s aE follow h
def E0(l:List Obj)(z:Int):Int:=match l[z.toNat]? with|some o=>o.ah|none=>0
def cW(k:Kr)(c:Cl)(f:R4):Kr×Int×Int:=
 if f.js≠0 then(k,f.bD,f.js)
 else if f.bD<0 then(if lj c.bF 1=0 then(k,f.bD,6)else c7 k f oy)
 else if lj c.bF 2≠0/\E0 k.l f.bD=2 then(k,f.bD,12)
 else(k,f.bD,0)
def oz(l:List Obj)(z:Int):List Obj:=match l[z.toNat]? with|some o=>l.set z.toNat {o with data:=[]}|none=>l
def jE(p:Nat)(c:Cl)(x:Kr×Int×Int):Kr×An:=
 if x.2.2≠0 then(x.1,An.no x.2.2)
 else if(aP x.1 p x.2.1 c.bc).2.2≠0 then(x.1,An.no (aP x.1 p x.2.1 c.bc).2.2)
 else(if lj c.bF 2≠0 then⟨oz (aP x.1 p x.2.1 c.bc).1.l x.2.1,(aP x.1 p x.2.1 c.bc).1.ops,(aP x.1 p x.2.1 c.bc).1.ps⟩else(aP x.1 p x.2.1 c.bc).1,⟨0,(aP x.1 p x.2.1 c.bc).2.1,0,[]⟩)
def i7(k:Kr)(p:Nat)(c:Cl)(aA:Int)(aE:Bool):Kr×An:=jE p c (cW k c (jx k aA c.cN aE true))
theorem Pr{m:Mem}{Z:Nat->Prop}{p:Option Nat}{id:Nat}{l:List Obj}{k:Nat}{c:List CC}{x:Obj}(hc:jL m Z (some id) c x.enc)(hz:Z id)(hm:m[id]? =some (.row 9 (bb (af (l.map Obj.enc)) k c))):
  dC m Z p (.row id 9 0 none) (cU (l.set k x)):=by
 rw[bj]at hm;refine dC.row id 9 0 none _ _ hz hm (by simp[af]) (fun i cs es h1 h2=>?_) (fun i cs es j c' d h1 h2 h3 h4=>?_)
 .rw[abw]at h1;rw[Q8,abw]at h2;by_cases e:k=i
  .subst e;rw[if_pos rfl]at h1 h2;split at h1
   .cases h1;split at h2
    .cases h2;exact hc.len
    .cases h2
   .cases h1
  .rw[if_neg e]at h1 h2;rw[af,Q8,Q8]at h1;cases hx:l[i]? with
   |none=>rw[hx]at h2;cases h2
   |some y=>
    rw[hx]at h1 h2;cases h1;cases h2;simp
 .rw[abw]at h1;rw[Q8,abw]at h2;by_cases e:k=i
  .subst e;rw[if_pos rfl]at h1 h2;split at h1
   .cases h1;split at h2
    .cases h2;exact hc.get j c' d h3 h4
    .cases h2
   .cases h1
  .rw[if_neg e]at h1 h2;rw[af,Q8,Q8]at h1;cases hx:l[i]? with
   |none=>rw[hx]at h2;cases h2
   |some y=>
    rw[hx]at h1 h2;cases h1;cases h2;rw[Q8,h4]at h3;cases h3;exact .aa _
theorem l62:bx Tryz.prog Tryz.f62=some c62.er:=by kernel_rfl
def C29:LC:=bv (bv c62.code)
def G29:LC:=lX C29
def C74:LC:=bv (bv G29)
def G74:LC:=lX C74
def C96:LC:=bv (bv G74)
def G96:LC:=lX C96
def aah:LC:=bv G96
def aai:LC:=lX aah
def cf:Bk:= .var [.aa (.val (.int .i64 0)),.aa (.val (.int .i64 0)),.aa (.val (.int .i64 0)),.aI]
def TC(k:Kr)(p:Nat)(c:Cl)(a:An)(r:CV)(m:Mem):Prop:=∃r' m',View 2 ⟨[r],m⟩ ⟨[r'],m'⟩/\r'=a.cv/\m'=[xB k p,cB c]
def QC(kD:List Rv)(k:Kr)(p:Nat)(c:Cl)(a:An):Ex->St->Prop:=mg Tryz.prog kD (TC k p c a)
theorem MQ{σ:Nat->Nat}{m:Mem}{Z:Nat->Prop}{e n x:Int}:pW σ m Z (.rv (.agg [.aa (.val (.int .i64 e)),.aa (.val (.int .i64 n)),.aa (.val (.int .i64 x)),.aI])) (An.cv ⟨e,n,x,[]⟩):=
 .rv (.agg rfl fun i c c' h1 h2=>by
  match i,h1,h2 with
  |0,h1,h2=>cases h1;cases h2;exact .aO (.aa _)
  |1,h1,h2=>cases h1;cases h2;exact .aO (.aa _)
  |2,h1,h2=>cases h1;cases h2;exact .aO (.aa _)
  |3,h1,h2=>cases h1;cases h2;exact .e8 (.aI 1)
  |n+4,h1,h2=>simp at h1)
theorem dg{k:Kr}{p:Nat}{c:Cl}{X:Mem}{e n x:Int}:TC k p c ⟨e,n,x,[]⟩ (.rv (.agg [.aa (.val (.int .i64 e)),.aa (.val (.int .i64 n)),.aa (.val (.int .i64 x)),.aI])) (xB k p::cB c::X):=
 ⟨_,_,View.of (X.length+2) [0,1] [] rfl rfl rfl rfl rfl (by simp[eO,Nat.blt]) (.put MQ .nil) (.pt rfl rfl (.eq rfl (bL _ _)) (.pt rfl rfl (.eq rfl (cI _)) (.nil _))),rfl,rfl⟩
theorem MR{l:List Obj}{n:Nat}(h:n<l.length):dH (n:Int) (lenOf (af (l.map Obj.enc)).length 0 none)=some n:=cn (by show n<(af (l.map Obj.enc)).length;rw[aU,Nq];exact h)
theorem E3(k1:Kr)(p:Nat)(c:Cl)(O:Kr)(j:Nat)(hj:j<O.l.length)(fd:Int)(kf:Kr)(hk:kf=if lj c.bF 2≠0 then⟨oz O.l j,O.ops,O.ps⟩else O):
  aw Tryz.prog 2 aai (QC c62.kD kf p c ⟨0,fd,0,[]⟩)
   ⟨iL 117 [(0,.rv (.one (.ptr 0 0))),(1,.rv (.one (.ptr 1 0))),(8,.rv (.one (.ptr 2 0))),(11,an .i64 (j:Nat)),(12,.rv (.one (.ptr 3 0))),(13,an .i64 fd)],
    [xB k1 p,cB c,cf,.var [.row 4 9 0 none,.aa (d5 O.ops),.aa (ff O.ps)],.row 9 (af (O.l.map Obj.enc))]⟩:=by
 refine bG (fun h2=>?_) (fun h2=>?_)
 .have h2:lj c.bF 2≠0:=h2;rw[if_pos h2]at hk;subst hk;refine ag (MR hj) ?_;have ho:=bA Obj.enc O.l hj;have ht:oz O.l (j:Nat)=O.l.set j {O.l[j]with data:=[]}:=by rw[oz,Z3,IE hj]
  rw[ht];generalize O.l[j]=x at ho;obtain⟨ah,data,ak,target,aD,aj,aM,am,up⟩:=x;refine ag ho ?_;refine⟨_,_,View.o 5 [0,1] [4] (.put MQ .nil) (.pt rfl rfl (S6 (k:=⟨O.l.set j ⟨ah,[],ak,target,aD,aj,aM,am,up⟩,O.ops,O.ps⟩) (Pr (.cons (.aa _) (.cons (.aI 1) (.cons (.aa _) (.cons (.aa _) (.cons (.aa _) (.cons (.aa _) (.cons (.aa _) (.cons (.aa _) (.cons (.aa _) .nil))))))))) rfl rfl) (.aa _) (.aa _)) (.pt rfl rfl (.eq rfl (cI _)) (.nil _))),rfl,rfl⟩
 .have h2:¬lj c.bF 2≠0:=fun h=>h h2
  rw[if_neg h2]at hk;subst hk;exact⟨_,_,View.o 5 [0,1] [4] (.put MQ .nil) (.pt rfl rfl (S6 (ia rfl rfl) (.aa _) (.aa _)) (.pt rfl rfl (.eq rfl (cI _)) (.nil _))),rfl,rfl⟩
theorem I2{k:Kr}{n:Nat}{bD bZ:Int}(h:(aP k n bD bZ).2.2=0):(aP k n bD bZ).1.l=k.l:=by
 unfold aP at h⊢;split at h
 .simp at h
 .rename_i h1;rw[if_neg h1];split at h
  .rename_i h2;exact absurd h h2
  .rename_i h2;rw[if_neg h2]
theorem wx(k1:Kr)(p:Nat)(c:Cl)(e:Int)(he:e≠0):
  aw Tryz.prog 2 G96 (QC c62.kD k1 p c (An.no e)) ⟨iL 117 [(0,.rv (.one (.ptr 0 0))),(1,.rv (.one (.ptr 1 0))),(8,.rv (.one (.ptr 2 0))),(10,an .i64 e)],[xB k1 p,cB c,cf]⟩:=by
 refine bG (fun h2=>?_) (fun h2=>absurd h2 he)
 exact dg (X:=[_])
theorem wy(k1:Kr)(p:Nat)(c:Cl)(O:Kr)(j:Nat)(hj:j<O.l.length)(fd:Int)(kf:Kr)(hk:kf=if lj c.bF 2≠0 then⟨oz O.l j,O.ops,O.ps⟩else O):
  aw Tryz.prog 2 G96 (QC c62.kD kf p c ⟨0,fd,0,[]⟩)
   ⟨iL 117 [(0,.rv (.one (.ptr 0 0))),(1,.rv (.one (.ptr 1 0))),(8,.rv (.one (.ptr 2 0))),(10,an .i64 0),(11,an .i64 (j:Nat)),(12,.rv (.one (.ptr 3 0))),(13,an .i64 fd)],
    [xB k1 p,cB c,cf,.var [.row 4 9 0 none,.aa (d5 O.ops),.aa (ff O.ps)],.row 9 (af (O.l.map Obj.enc))]⟩:=by
 refine⟨_,View.o1 5 [0,1,2,3,4] [] ?_,E3 k1 p c O j hj fd kf hk⟩
 .exact .pt rfl rfl (.eq rfl (bL _ _)) (.pt rfl rfl (.eq rfl (cI _)) (.pt rfl rfl (.eq rfl (by simp[cf])) (.pe rfl rfl rfl (.pn rfl rfl rfl))))
theorem I3(p:Nat)(c:Cl)(x:Kr×Int×Int)(hx:x.2.2=0->dF x.1.l x.1.ops x.1.ps/\p<x.1.ps.length/\∃j:Nat,x.2.1=j/\j<x.1.l.length):
  aw Tryz.prog 2 G74 (QC c62.kD (jE p c x).1 p c (jE p c x).2)
   ⟨iL 117 [(0,.rv (.one (.ptr 0 0))),(1,.rv (.one (.ptr 1 0))),(8,.rv (.one (.ptr 2 0))),(10,an .i64 x.2.2),(11,an .i64 x.2.1)],[xB x.1 p,cB c,cf]⟩:=by
 obtain⟨k1,bD,e⟩:=x;refine bG (fun h2=>?_) (fun h2=>?_)
 .have h2:e≠0:=h2;have e1:jE p c (k1,bD,e)=(k1,An.no e):=by rw[jE,if_pos h2]
  rw[e1];exact dg (X:=[_])
 have h2:e=0:=h2;subst h2;obtain⟨hk,hp,j,hj,km⟩:=hx rfl;have hj:bD=(j:Nat):=hj;subst hj;have hS:jE p c (k1,(j:Int),0)=if(aP k1 p j c.bc).2.2≠0 then(k1,An.no (aP k1 p j c.bc).2.2)
  else(if lj c.bF 2≠0 then⟨oz (aP k1 p j c.bc).1.l j,(aP k1 p j c.bc).1.ops,(aP k1 p j c.bc).1.ps⟩else(aP k1 p j c.bc).1,⟨0,(aP k1 p j c.bc).2.1,0,[]⟩):=by
  rw[jE,if_neg aG]
 rw[hS];have zt:= @I2 k1 p (j:Int) c.bc;refine⟨?_,?_⟩
 .refine ww k1 hk p hp (j:Int) c.bc (fun he=>?_) (fun he=>?_)
  .rw[if_pos he];refine⟨trivial,⟨rfl,rfl,rfl,trivial⟩,trivial,_,View.o1 4 [0,1,2] [] ?_,wx k1 p c _ he⟩
   .exact .pt rfl rfl (.eq rfl (bL _ _)) (.pt rfl rfl (.eq rfl (cI _)) (.pt rfl rfl (.eq rfl (by simp[cf])) (.nil _)))
  .rw[if_neg (by simp[he])]
   have hl:=zt he;refine⟨trivial,⟨rfl,rfl,rfl,trivial⟩,trivial,_,View.o1 5 [0,1,2,4,3] [] ?_,wy k1 p c (aP k1 p j c.bc).1 j (by rw[hl];exact km) _ _ rfl⟩
   .exact .pt rfl rfl (.eq rfl (bL _ _)) (.pt rfl rfl (.eq rfl (cI _)) (.pt rfl rfl (.eq rfl (by simp[cf])) (.pe rfl rfl rfl (.pn rfl rfl rfl))))
 .refine⟨⟨rfl,rfl,rfl,trivial⟩,?_⟩;refine ww k1 hk p hp (j:Int) c.bc (fun he=>?_) (fun he=>?_)
  .rw[if_pos he];refine⟨trivial,trivial,_,View.o1 4 [0,1,2] [] ?_,wx k1 p c _ he⟩
   .exact .pt rfl rfl (.eq rfl (bL _ _)) (.pt rfl rfl (.eq rfl (cI _)) (.pt rfl rfl (.eq rfl (by simp[cf])) (.nil _)))
  .rw[if_neg (by simp[he])]
   have hl:=zt he;refine⟨trivial,trivial,_,View.o1 5 [0,1,2,3,4] [] ?_,wy k1 p c (aP k1 p j c.bc).1 j (by rw[hl];exact km) _ _ rfl⟩
   .exact .pt rfl rfl (.eq rfl (bL _ _)) (.pt rfl rfl (.eq rfl (cI _)) (.pt rfl rfl (.eq rfl (by simp[cf])) (.pe rfl rfl rfl (.pn rfl rfl rfl))))
theorem Ao(a b:CV)(k:Int)(t:ByteArray):kN [a,b,.rv (.agg [.aa (.val (.int .i64 k)),.aI,.aI,.aa (.val (.string t)),.aa (.val (.int .i64 0)),.aI,.aa (.val (.int .i64 0)),.aa (.val (.int .i64 0)),.aa (.val (.int .i64 0))])] [a,b,Obj.cv ⟨k,[],[],t,0,[],0,0,0⟩]:=
 .dn _ (.dn _ (.agg (.cons (.dn _) (.cons (.aI 1) (.cons (.aI 2) (.cons (.dn _) (.cons (.dn _) (.cons (.aI 4) (.cons (.dn _) (.cons (.dn _) (.cons (.dn _) .nil))))))))) .nil))
structure E4(k:Kr)(p:Nat)(c:Cl)(f:R4):Prop where
 fi:f.js=0->f.bD<(k.l.length:Int)
 x:(cW k c f).2.2=0->dF (cW k c f).1.l (cW k c f).1.ops (cW k c f).1.ps/\p<(cW k c f).1.ps.length/\∃j:Nat,(cW k c f).2.1=j/\j<(cW k c f).1.l.length
theorem I4(k:Kr)(p:Nat)(hw:KW k p)(c:Cl)(f:R4)(hf:E4 k p c f):
  aw Tryz.prog 2 G29 (QC c62.kD (jE p c (cW k c f)).1 p c (jE p c (cW k c f)).2)
   ⟨iL 117 [(0,.rv (.one (.ptr 0 0))),(1,.rv (.one (.ptr 1 0))),(8,.rv (.one (.ptr 2 0))),(9,.rv (.one (.ptr 3 0))),(10,an .i64 f.js)],[xB k p,cB c,cf,.var ((Uf f).map .aa)]⟩:=by
 have J5:=I3 p c (cW k c f) hf.x;have TW:=hf.fi;clear hf;obtain⟨bD,cT,name,js⟩:=f;refine bG (fun he=>?_) (fun he=>?_)
 .have he:js≠0:=he;have e1:cW k c ⟨bD,cT,name,js⟩=(k,bD,js):=by rw[cW,if_pos he]
  rw[e1]at J5⊢;refine⟨_,View.o1 4 [0,1,2] [] ?_,J5⟩
  .exact .pt rfl rfl (.eq rfl (bL _ _)) (.pt rfl rfl (.eq rfl (cI _)) (.pt rfl rfl (.eq rfl (by simp[cf])) (.nil _)))
 have he:js=0:=he;subst he;have TW:bD<(k.l.length:Int):=TW rfl;refine ay (fun h1=>?_) (fun h1=>?_)
 .have h1:bD<0:=h1;refine bI (fun h2=>?_) (fun h2=>?_)
  .have h2:lj c.bF 1=0:=h2;have e1:cW k c ⟨bD,cT,name,0⟩=(k,bD,6):=by rw[cW,if_neg aG,if_pos h1,if_pos h2]
   rw[e1]at J5⊢;refine⟨_,View.o1 4 [0,1,2] [] ?_,J5⟩
   .exact .pt rfl rfl (.eq rfl (bL _ _)) (.pt rfl rfl (.eq rfl (cI _)) (.pt rfl rfl (.eq rfl (by simp[cf])) (.nil _)))
  .have h2:¬lj c.bF 1=0:=h2;have e1:cW k c ⟨bD,cT,name,0⟩=c7 k ⟨bD,cT,name,0⟩ oy:=by rw[cW,if_neg aG,if_pos h1,if_neg h2]
   rw[e1]at J5⊢;refine bY (decide_eq_true h1) ?_;refine mw (Ao _ _ _ _) (sR k p hw ⟨bD,cT,name,0⟩ oy yG 0 rfl ?_);refine⟨_,View.o1 4 [0,1,2] [] ?_,J5⟩
   .exact .pt rfl rfl (.eq rfl (bL _ _)) (.pt rfl rfl (.eq rfl (cI _)) (.pt rfl rfl (.eq rfl (by simp[cf])) (.nil _)))
 .have h1:¬bD<0:=h1;obtain⟨j,rfl⟩:∃j:Nat,bD=j:=⟨bD.toNat,om⟩;have hj:j<k.l.length:=om;have N3:E0 k.l (j:Int)=k.l[j].ah:=by rw[E0,Z3,IE hj]
  refine bG (fun h2=>?_) (fun h2=>?_)
  .have h2:lj c.bF 2≠0:=h2;refine ag (iz hj) ?_;refine bI (fun h3=>?_) (fun h3=>?_)
   .have h3:k.l[j].ah=2:=h3;have e1:cW k c ⟨(j:Nat),cT,name,0⟩=(k,(j:Int),12):=by rw[cW,if_neg aG,if_neg h1,if_pos ⟨h2,by rw[<-h3,<-N3]⟩]
    rw[e1]at J5⊢;refine⟨_,View.o1 4 [0,1,2] [] ?_,J5⟩
    .exact .pt rfl rfl (.eq rfl (bL _ _)) (.pt rfl rfl (.eq rfl (cI _)) (.pt rfl rfl (.eq rfl (by simp[cf])) (.nil _)))
   .have h3:¬k.l[j].ah=2:=h3;have e1:cW k c ⟨(j:Nat),cT,name,0⟩=(k,(j:Int),0):=by rw[cW,if_neg aG,if_neg h1,if_neg (by rw[N3];exact fun h=>h3 h.2)]
    rw[e1]at J5⊢;refine⟨_,View.o1 4 [0,1,2] [] ?_,J5⟩
    .exact .pt rfl rfl (.eq rfl (bL _ _)) (.pt rfl rfl (.eq rfl (cI _)) (.pt rfl rfl (.eq rfl (by simp[cf])) (.nil _)))
  .have h2:¬lj c.bF 2≠0:=fun h=>h h2
   have e1:cW k c ⟨(j:Nat),cT,name,0⟩=(k,(j:Int),0):=by rw[cW,if_neg aG,if_neg h1,if_neg (fun h=>h2 h.1)]
   rw[e1]at J5⊢;refine⟨_,View.o1 4 [0,1,2] [] ?_,J5⟩
   .exact .pt rfl rfl (.eq rfl (bL _ _)) (.pt rfl rfl (.eq rfl (cI _)) (.pt rfl rfl (.eq rfl (by simp[cf])) (.nil _)))
theorem E5(k:Kr)(p:Nat)(hw:KW k p)(c:Cl)(aA:Int)(aE:Bool)(hf:E4 k p c (jx k aA c.cN aE true)):
  body Tryz.prog c62 [.rv (.one (.ptr 0 0)),.rv (.one (.ptr 1 0)),an .i64 aA,ax aE] [xB k p,cB c] (TC (i7 k p c aA aE).1 p c (i7 k p c aA aE).2):=by
 have hs:=I4 k p hw c _ hf;show body Tryz.prog c62 _ _ (TC (jE p c (cW k c (jx k aA c.cN aE true))).1 p c (jE p c (cW k c (jx k aA c.cN aE true))).2);refine⟨?_,?_⟩
 .refine rG k p hw aA c.cN aE true ?_;refine⟨trivial,⟨rfl,rfl,trivial⟩,trivial,_,View.o1 4 [0,1,2,3] [] ?_,hs⟩
  .exact .pt rfl rfl (.eq rfl (bL _ _)) (.pt rfl rfl (.eq rfl (cI _)) (.pt rfl rfl (.eq rfl (by simp[cf])) (.pm rfl rfl rfl)))
 .refine⟨⟨rfl,rfl,trivial⟩,?_⟩;refine rG k p hw aA c.cN aE true ?_;refine⟨trivial,trivial,_,View.o1 4 [0,1,2,3] [] ?_,hs⟩
  .exact .pt rfl rfl (.eq rfl (bL _ _)) (.pt rfl rfl (.eq rfl (cI _)) (.pt rfl rfl (.eq rfl (by simp[cf])) (.pm rfl rfl rfl)))
theorem Cu(k:Kr)(p:Nat)(hw:KW k p)(c:Cl)(aA:Int)(aE:Bool)(hf:E4 k p c (jx k aA c.cN aE true)){m:Mem}(i j:Nat)(qy:gu [i,j]=true)(aB:eO m.length [i,j]=true)(hi:dd m i=some (xB k p))(hj:dd m j=some (cB c)){K:CV->Mem->Prop}(hK:K (i7 k p c aA aE).2.cv (dp m [i,j] [xB (i7 k p c aA aE).1 p,cB c])):
  au Tryz.prog 62 [.rv (.one (.ptr i 0)),.rv (.one (.ptr j 0)),an .i64 aA,ax aE] m K:=
 Re (args:=[an .i64 aA,ax aE]) (fun _=>rfl) (fun _=>rfl)
  (bJ (cg Tryz.func62 l62 (E5 k p hw c aA aE hf)) fun r m1⟨r',m',hv,hq⟩=>⟨r',m',hv,hq⟩) i j qy aB hi hj hK
end Kn
def c37:LF:= ⟨78,[.cell true 4 4],(.seq (.ai [qu 4 (.alloc [qd 0,qd 0,qd 0,.aI])]) (.seq (.seq (.ai [qm 9 1,qu 10 (.aY 9),qf 11 6 10,ql 12 11,qu 13 (qc 61 [12]),qu 14 (.un .not 13),qm 15 14,qg 16 (.aH 1) 15 false,qg 17 (.aY 16) 15 false,qg 18 (.br 5 17) 15 false,qg 19 (.load false 1 18) 15 false,qg 20 (.aF .lss 19 (qi 0)) 15 false,qu 21 (.pick 15 (qb true) 20),qm 22 21,qg 23 (.aH 1) 22 false,qg 24 (.aY 23) 22 false,qg 25 (.br 5 24) 22 false,qg 26 (.load false 1 25) 22 false,qg 27 (.aF .gtr 26 (qi 3)) 22 false,qu 28 (.pick 22 (qb true) 27)]) (.cond 28 (.seq (.ai [qu 29 (.build [qd 0,qd 0,qd 0,.aI] [(0,1,qi 3)]),qw (.store 4 4 29)]) .ret) .skip)) (.seq (.seq (.ai [qm 30 1,qu 31 (.aY 30),qf 32 1 31,ql 33 32,qu 34 (.aF .eql 33 (qi 2))]) (.cond 34 (.seq (.ai [qm 35 0,qm 36 1,qu 37 (qc 62 [35,36,qi 0,qb false]),qw (.store 4 4 37)]) .ret) .skip)) (.seq (.ai [qm 38 1,qu 39 (.aY 38),qf 40 6 39,ql 41 40,qu 42 (.aF .or (qi 8) 41),qm 5 42]) (.seq (.seq (.ai [qm 43 1,qu 44 (.aY 43),qf 45 5 44,ql 46 45,qu 47 (.aF .and 46 (qi 1)),qu 48 (.aF .neq 47 (qi 0))]) (.cond 48 (.ai [qm 49 5,qu 50 (.aF .or 49 (qi 16)),qm 5 50]) .skip)) (.seq (.seq (.ai [qm 51 1,qu 52 (.aY 51),qf 53 5 52,ql 54 53,qu 55 (.aF .and 54 (qi 2)),qu 56 (.aF .neq 55 (qi 0))]) (.cond 56 (.ai [qm 57 5,qu 58 (.aF .or 57 (qi 2)),qm 5 58]) .skip)) (.cu (.seq (.ai [qm 60 0,qm 61 1,qu 62 (.aY 61),qf 63 2 62,ql 64 63,qm 65 5,qu 66 (qc 63 [60,64,65]),qm 59 66,qu 67 (.ext 59 0),qu 68 (.ext 59 1),qu 69 (.ext 59 2),qu 6 (.alloc [qd 0,qd 0]),qw (.store 2 6 67),qm 7 68,qm 8 69]) (.seq (.seq (.ai [qm 70 8,qu 71 (.aF .neq 70 (qi 0))]) (.cond 71 (.seq (.ai [qm 72 8,qu 73 (.build [qd 0,qd 0,qd 0,.aI] [(0,1,72)]),qw (.store 4 4 73)]) .ret) .skip)) (.seq (.ai [qm 74 0,qm 75 1,qm 76 7,qu 77 (qc 62 [74,75,76,qb true]),qw (.store 4 4 77)]) .ret))))))))))⟩
namespace Kn
def lO(c:Cl):Int:=if lj c.bF 2≠0 then S4 (if lj c.bF 1≠0 then S4 (S4 8 c.bc) 16 else S4 8 c.bc) 2 else(if lj c.bF 1≠0 then S4 (S4 8 c.bc) 16 else S4 8 c.bc)
def iO(k:Kr)(p:Nat)(c:Cl):Kr×An:=
 if Tb.eU c.bc=false\/c.bF<0\/c.bF>3 then(k,An.no 3)
 else if c.ah=2 then i7 k p c 0 false
 else if(bH k p c.fd (lO c)).2.2≠0 then(k,An.no (bH k p c.fd (lO c)).2.2)
 else i7 k p c (bH k p c.fd (lO c)).2.1 true
theorem E6{k:Kr}{p:Nat}{c:Cl}{X:Mem}{a:An}:TC k p c a a.cv (xB k p::cB c::X):=
 ⟨_,_,View.of (X.length+2) [0,1] [] rfl rfl rfl rfl rfl (by simp[eO,Nat.blt]) (.eq rfl .nil) (.pt rfl rfl (.eq rfl (bL _ _)) (.pt rfl rfl (.eq rfl (cI _)) (.nil _))),rfl,rfl⟩
theorem l37:bx Tryz.prog Tryz.f37=some c37.er:=by kernel_rfl
def aaj:LC:=bv (bv (bv (bv (bv (bv c37.code)))))
def Wz:LC:=lX aaj
theorem MS(k:Kr)(p:Nat)(hw:KW k p)(c:Cl)(need:Int)(hf:∀aA,E4 k p c (jx k aA c.cN true true))(R:Kr×An)(hR:R=if(bH k p c.fd need).2.2≠0 then(k,An.no (bH k p c.fd need).2.2)else i7 k p c (bH k p c.fd need).2.1 true):
  aw Tryz.prog 2 Wz (QC c37.kD R.1 p c R.2) ⟨iL 78 [(0,.rv (.one (.ptr 0 0))),(1,.rv (.one (.ptr 1 0))),(4,.rv (.one (.ptr 2 0))),(5,an .i64 need)],[xB k p,cB c,cf]⟩:=by
 refine j7 k p hw c.fd need 0 rfl ?_;generalize bH k p c.fd need=w at hR⊢;obtain⟨⟨o,r⟩,b,e⟩:=w;refine bG (fun he=>?_) (fun he=>?_)
 .have he:e≠0:=he;rw[if_pos he]at hR;subst hR;exact dg (X:=[_,_])
 .have he:e=0:=he;subst he;rw[if_neg aG]at hR;subst hR;refine Cu k p hw c b true (hf b) 0 1 rfl rfl rfl rfl ?_;exact E6 (X:=[_,_])
theorem I5(k:Kr)(p:Nat)(hw:KW k p)(c:Cl)(hf:∀aA aE,E4 k p c (jx k aA c.cN aE true)):
  body Tryz.prog c37 [.rv (.one (.ptr 0 0)),.rv (.one (.ptr 1 0))] [xB k p,cB c] (TC (iO k p c).1 p c (iO k p c).2):=by
 have hv:∀need R,R=(if(bH k p c.fd need).2.2≠0 then(k,An.no (bH k p c.fd need).2.2)else i7 k p c (bH k p c.fd need).2.1 true)->
  aw Tryz.prog 2 Wz (QC c37.kD R.1 p c R.2) ⟨iL 78 [(0,.rv (.one (.ptr 0 0))),(1,.rv (.one (.ptr 1 0))),(4,.rv (.one (.ptr 2 0))),(5,an .i64 need)],[xB k p,cB c,cf]⟩:=fun need R hR=>MS k p hw c need (fun b=>hf b true) R hR
 refine Tb.vV c.bc ?_;cases hr:Tb.eU c.bc with
 |false=>
  have e1:iO k p c=(k,An.no 3):=by rw[iO,if_pos (.inl hr)]
  rw[e1];exact dg (X:=[_])
 |true=>
  refine ay (fun h1=>?_) (fun h1=>?_)
  .have h1:c.bF<0:=h1;have e1:iO k p c=(k,An.no 3):=by rw[iO,if_pos (.inr (.inl h1))]
   rw[e1];exact dg (X:=[_])
  have h1:¬c.bF<0:=h1;refine ay (fun h2=>?_) (fun h2=>?_)
  .have h2:c.bF>3:=h2;have e1:iO k p c=(k,An.no 3):=by rw[iO,if_pos (.inr (.inr h2))]
   rw[e1];exact dg (X:=[_])
  have h2:¬c.bF>3:=h2;have e0:iO k p c=if c.ah=2 then i7 k p c 0 false
   else if(bH k p c.fd (lO c)).2.2≠0 then(k,An.no (bH k p c.fd (lO c)).2.2)
   else i7 k p c (bH k p c.fd (lO c)).2.1 true:=by rw[iO,if_neg (by simp[hr,h1,h2])]
  rw[e0];refine bI (fun h3=>?_) (fun h3=>?_)
  .have h3:c.ah=2:=h3;rw[if_pos h3];refine Cu k p hw c 0 false (hf 0 false) 0 1 rfl rfl rfl rfl ?_;exact E6 (X:=[_])
  have h3:¬c.ah=2:=h3;rw[if_neg h3];refine bG (fun h4=>?_) (fun h4=>?_)
  .have h4:lj c.bF 1≠0:=h4;refine bG (fun h5=>?_) (fun h5=>?_)
   .have h5:lj c.bF 2≠0:=h5;refine⟨_,View.o 3 [0,1,2] [] ?_ ?_,hv (lO c) _ rfl⟩
    .rw[lO,if_pos h4,if_pos h5];repeat(first|exact .nil|refine .aq ?_|refine .eq rfl ?_)
    .exact .pt rfl rfl (.eq rfl (bL _ _)) (.pt rfl rfl (.eq rfl (cI _)) (.pt rfl rfl (.eq rfl (by simp[cf])) (.nil _)))
   .have h5:¬lj c.bF 2≠0:=fun h=>h h5
    refine⟨_,View.o 3 [0,1,2] [] ?_ ?_,hv (lO c) _ rfl⟩
    .rw[lO,if_pos h4,if_neg h5];repeat(first|exact .nil|refine .aq ?_|refine .eq rfl ?_)
    .exact .pt rfl rfl (.eq rfl (bL _ _)) (.pt rfl rfl (.eq rfl (cI _)) (.pt rfl rfl (.eq rfl (by simp[cf])) (.nil _)))
  .have h4:¬lj c.bF 1≠0:=fun h=>h h4
   refine bG (fun h5=>?_) (fun h5=>?_)
   .have h5:lj c.bF 2≠0:=h5;refine⟨_,View.o 3 [0,1,2] [] ?_ ?_,hv (lO c) _ rfl⟩
    .rw[lO,if_neg h4,if_pos h5];repeat(first|exact .nil|refine .aq ?_|refine .eq rfl ?_)
    .exact .pt rfl rfl (.eq rfl (bL _ _)) (.pt rfl rfl (.eq rfl (cI _)) (.pt rfl rfl (.eq rfl (by simp[cf])) (.nil _)))
   .have h5:¬lj c.bF 2≠0:=fun h=>h h5
    refine⟨_,View.o 3 [0,1,2] [] ?_ ?_,hv (lO c) _ rfl⟩
    .rw[lO,if_neg h4,if_neg h5];repeat(first|exact .nil|refine .aq ?_|refine .eq rfl ?_)
    .exact .pt rfl rfl (.eq rfl (bL _ _)) (.pt rfl rfl (.eq rfl (cI _)) (.pt rfl rfl (.eq rfl (by simp[cf])) (.nil _)))
theorem dM{f:Nat}{k k':Kr}{p:Nat}{c:Cl}{a:An}(hc:au Tryz.prog f [.rv (.one (.ptr 0 0)),.rv (.one (.ptr 1 0))] [xB k p,cB c] (TC k' p c a)){m:Mem}(i j:Nat)(qy:gu [i,j]=true)(aB:eO m.length [i,j]=true)(hi:dd m i=some (xB k p))(hj:dd m j=some (cB c)){K:CV->Mem->Prop}(hK:K a.cv (dp m [i,j] [xB k' p,cB c])):au Tryz.prog f [.rv (.one (.ptr i 0)),.rv (.one (.ptr j 0))] m K:=
 Re (args:=[]) (fun _=>rfl) (fun _=>rfl) (bJ hc fun r m1⟨r',m',hv,hq⟩=>⟨r',m',hv,hq⟩) i j qy aB hi hj hK
theorem yH(k:Kr)(p:Nat)(hw:KW k p)(c:Cl)(hf:∀aA aE,E4 k p c (jx k aA c.cN aE true)):au Tryz.prog 37 [.rv (.one (.ptr 0 0)),.rv (.one (.ptr 1 0))] [xB k p,cB c] (TC (iO k p c).1 p c (iO k p c).2):=
 cg Tryz.func37 l37 (I5 k p hw c hf)
end Kn
def c38:LF:= ⟨172,[.cell true 4 4],(.seq (.ai [qu 4 (.alloc [qd 0,qd 0,qd 0,.aI])]) (.seq (.ai [qu 15 (.pk),qw (.rS (.i .i64) 15 (qi 4) (qi 1)),qw (.rS (.i .i64) 15 (qi 5) (qi 2)),qw (.rS (.i .i64) 15 (qi 6) (qi 4)),qm 16 15,qm 17 1,qu 18 (.aY 17),qf 19 1 18,ql 20 19,qu 21 (.rR (.one (qd 0)) (.i .i64) 16 20 false),qm 5 21]) (.cu (.seq (.ai [qm 23 0,qm 24 1,qu 25 (.aY 24),qf 26 2 25,ql 27 26,qm 28 5,qu 29 (qc 63 [23,27,28]),qm 22 29,qu 30 (.ext 22 0),qu 31 (.ext 22 1),qu 32 (.ext 22 2),qu 6 (.alloc [qd 0,qd 0]),qw (.store 2 6 30),qm 7 31,qm 8 32]) (.seq (.seq (.ai [qm 33 8,qu 34 (.aF .neq 33 (qi 0))]) (.cond 34 (.seq (.ai [qm 35 8,qu 36 (.build [qd 0,qd 0,qd 0,.aI] [(0,1,35)]),qw (.store 4 4 36)]) .ret) .skip)) (.seq (.bX [qm 37 0,qu 38 (.aY 37),qf 39 0 38,qf 40 1 39,ql 41 40,qf 42 0 6,ql 43 42,qu 44 (.bW 2 41 43),qf 45 1 44,ql 46 45,qm 9 46] [(.cons 0 none (.cons 1 none (.cons 2 none (.cons 3 none (.cons 4 none (.cons 5 none (.cons 6 none (.cons 7 none (.cons 8 none (.cons 9 none (.cons 10 none .nil)))))))))))]) (.seq (.ai [qu 47 (.build [qd 0,qd 0,qd 0,.aI] []),qu 10 (.alloc [qd 0,qd 0,qd 0,.aI]),qw (.store 4 10 47)]) (.seq (.seq (.ai [qm 48 1,qu 49 (.aY 48),qf 50 1 49,ql 51 50]) (.block 0 (.seq (.ai [qu 70 (.aF .eql 51 (qi 4)),qm 69 70]) (.cond 69 (.seq (.bX [qm 72 0,qu 73 (.aY 72),qf 74 0 73,qf 75 0 74,ql 76 75,qm 77 7,qu 78 (.bW 9 76 77),qL 79 9 78,qm 80 9,qm 81 1,qu 82 (.aY 81),qf 83 4 82,ql 84 83,qu 85 (qc 64 [79,80,84]),qm 71 85,qu 86 (.ext 71 0),qu 87 (.ext 71 1),qm 11 86,qm 12 87] [(.cons 0 none (.cons 1 none (.cons 2 none (.cons 3 none (.cons 4 none (.cons 5 none (.cons 6 none (.cons 7 none (.cons 8 none (.cons 9 none (.cons 10 none (.cons 11 none (.cons 12 none (.cons 13 (some []) (.cons 14 none (.cons 15 none (.cons 16 none (.cons 17 none (.cons 18 none .nil)))))))))))))))))))]) (.seq (.seq (.ai [qm 88 12,qu 89 (.aF .neq 88 (qi 0))]) (.cond 89 (.seq (.ai [qm 90 12,qu 91 (.build [qd 0,qd 0,qd 0,.aI] [(0,1,90)]),qw (.store 4 4 91)]) .ret) .skip)) (.seq (.ai [qm 92 9,qm 93 11,qu 94 (.len 1 93),qu 95 (.aF .add 92 94),qm 9 95]) (.ai [qm 96 11,qu 97 (.len 1 96),qm 98 11,qf 99 1 10,qw (.store 1 99 97),qf 100 3 10,qw (.store 1 100 98)])))) (.seq (.ai [qu 102 (.aF .eql 51 (qi 5)),qm 101 102]) (.cond 101 (.seq (.bX [qm 104 0,qu 105 (.aY 104),qf 106 0 105,qf 107 0 106,ql 108 107,qm 109 7,qu 110 (.bW 9 108 109),qL 111 9 110,qm 112 9,qm 113 1,qu 114 (.aY 113),qf 115 8 114,ql 116 115,qu 117 (qc 65 [111,112,116]),qm 103 117,qu 118 (.ext 103 0),qu 119 (.ext 103 1),qu 13 (.alloc [qd 0,.aI,.aI,(.aa (.val (.string ⟨#[]⟩))),qd 0,.aI,qd 0,qd 0,qd 0]),qw (.store 9 13 118),qm 14 119] [(.cons 0 none (.cons 1 none (.cons 2 none (.cons 3 none (.cons 4 none (.cons 5 none (.cons 6 none (.cons 7 none (.cons 8 none (.cons 9 none (.cons 10 none (.cons 11 none (.cons 12 none (.xJ (.cons 13 (some []) (.cons 14 none (.cons 15 none (.cons 16 none (.cons 17 (some [12,7,6,4]) (.cons 18 (some []) (.cons 19 none .nil))))))) (.cons 17 (some [12,7,6,4]) (.cons 13 (some []) (.cons 14 none (.cons 15 none (.cons 16 none (.cons 18 (some []) (.cons 19 none .nil)))))))))))))))))))))]) (.cu (.seq (.seq (.ai [qm 120 14,qu 121 (.aF .neq 120 (qi 0))]) (.cond 121 (.seq (.ai [qm 122 14,qu 123 (.build [qd 0,qd 0,qd 0,.aI] [(0,1,122)]),qw (.store 4 4 123)]) .ret) .skip)) (.seq (.ai [qm 124 0,qm 125 0,qu 126 (.aY 125),qf 127 0 126,qL 128 3 127,qu 129 (qc 66 [128]),qu 130 (.aY 124),qf 131 0 130,qw (.store 3 131 129)]) (.seq (.bX [qm 132 0,qu 133 (.aY 132),qf 134 0 133,qf 135 0 134,ql 136 135,qm 137 7,qL 138 9 13,qu 139 (.bW 9 136 137),qw (.store 9 139 138)] [(.cons 0 none (.cons 1 none (.cons 2 none (.cons 3 none (.cons 4 none (.cons 5 none (.cons 6 none (.cons 7 none (.cons 8 (some []) .nil)))))))))]) (.seq (.ai [qm 140 9,qm 141 1,qu 142 (.aY 141),qf 143 8 142,ql 144 143,qu 145 (.len 1 144),qu 146 (.aF .add 140 145),qm 9 146]) (.ai [qm 147 1,qu 148 (.aY 147),qf 149 8 148,ql 150 149,qu 151 (.len 1 150),qf 152 1 10,qw (.store 1 152 151)]))))))) (.seq (.seq (.ai [qm 52 1,qu 53 (.aY 52),qf 54 4 53,ql 55 54,qu 56 (.aF .lss 55 (qi 0)),qm 57 56,qg 58 (.aH 1) 57 false,qg 59 (.aY 58) 57 false,qg 60 (.br 4 59) 57 false,qg 61 (.load false 1 60) 57 false,qg 62 (.aF .gtr 61 (qi 60)) 57 false,qu 63 (.pick 57 (qb true) 62)]) (.cond 63 (.seq (.ai [qu 64 (.build [qd 0,qd 0,qd 0,.aI] [(0,1,qi 3)]),qw (.store 4 4 64)]) .ret) .skip)) (.ai [qm 65 1,qu 66 (.aY 65),qf 67 4 66,ql 68 67,qm 9 68])))))))) (.cu (.seq (.ai [qm 153 0,qm 154 0,qu 155 (.aY 154),qf 156 0 155,qL 157 3 156,qu 158 (qc 66 [157]),qu 159 (.aY 153),qf 160 0 159,qw (.store 3 160 158)]) (.seq (.bX [qm 161 0,qu 162 (.aY 161),qf 163 0 162,qf 164 1 163,ql 165 164,qf 166 0 6,ql 167 166,qm 168 9,qu 169 (.bW 2 165 167),qf 170 1 169,qw (.store 1 170 168)] [(.cons 0 none (.cons 1 none (.cons 2 none (.cons 3 none (.cons 4 none (.cons 5 none (.cons 6 none (.cons 7 none (.cons 8 none (.cons 9 none (.cons 10 (some []) .nil)))))))))))]) (.seq (.ai [qL 171 4 10,qw (.store 4 4 171)]) .ret))))))))))))⟩
namespace Kn
def m9(l:List Obj)(z:Int):Obj:=(l[z.toNat]?).getD eQ
def tW(k:Kr)(z a:Int):Kr:=⟨k.l,(match k.ops[z.toNat]? with|some o=>k.ops.set z.toNat {o with dh:=a}|none=>k.ops),k.ps⟩
def setObj(k:Kr)(z:Int)(o:Obj):Kr:=⟨k.l.set z.toNat o,k.ops,k.ps⟩
def Ap(a b:Int):Int:=IntKind.i64.wrap (a+b)
def oA(ah:Int):Int:=if ah=4 then 1 else if ah=5 then 2 else 4
def wz(k:Kr)(n:Int)(dh:Int)(r:List (List Dt)×Int):Kr×An:=
 if r.2≠0 then(k,An.no r.2)else(tW k n (Ap dh r.1.length),⟨0,r.1.length,0,r.1⟩)
def qa(k:Kr)(n:Int)(bD:Int)(dh:Int)(len:Nat)(r:Obj×Int):Kr×An:=
 if r.2≠0 then(k,An.no r.2)else(tW (setObj k bD r.1) n (Ap dh len),⟨0,len,0,[]⟩)
def sS(k:Kr)(n:Int)(dh:Int):Kr×An:=
 if dh<0\/dh>60 then(k,An.no 3)else(tW k n dh,⟨0,0,0,[]⟩)
def na(k:Kr)(c:Cl)(w:(Int×Int)×Int×Int):Kr×An:=
 if w.2.2≠0 then(k,An.no w.2.2)
 else if c.ah=4 then wz k w.1.1 (ox k.ops w.1.1) (ju (m9 k.l w.2.1).ah (m9 k.l w.2.1).data (ox k.ops w.1.1) c.n)
 else if c.ah=5 then qa k w.1.1 w.2.1 (ox k.ops w.1.1) c.data.length (eV (m9 k.l w.2.1) (ox k.ops w.1.1) (gM c.data))
 else sS k w.1.1 c.n
def jF(k:Kr)(p:Nat)(c:Cl):Kr×An:=na k c (bH k p c.fd (oA c.ah))
theorem sU{l:List Obj}{n:Nat}(h:n<l.length):m9 l (n:Int)=l[n]:=by rw[m9,Z3,IE h];rfl
def Uk(d:List Int)(A:Nat)(b:List Int):List Int:=if b.length=0 then d else cV (d++List.replicate (A+b.length-d.length) 0) A b
theorem E7(d b:List Int)(A:Nat):pC (gM d) A (gM b)=gM (Uk d A b):=by
 have hl:∀x:List Int,(gM x).length=x.length:=fun x=>by simp[gM]
 have hz:∀n,List.replicate n zb=gM (List.replicate n 0):=fun n=>by simp[gM,zb]
 unfold pC Uk;rw[hl];split
 .rfl
 .unfold SI cV;rw[hl,hz,hl];simp only[gM,abn,acu,ade]
theorem G0(d b:List Int)(A:Nat)(hb:b.length<=60)(hA:A+b.length<=60):(Uk d A b).length<=60\/(Uk d A b).length<=d.length:=by
 unfold Uk;split
 .exact .inr (SS _)
 .unfold cV;simp only[abO,Z4,abK,List.length_replicate];omega
theorem wA{o:Obj}(ho:o.sm){dh:Int}{b:List Int}(h:(eV o dh (gM b)).2=0):(eV o dh (gM b)).1.sm/\o.ah=1/\0<=dh/\dh<=60/\(b.length:Int)<=60-dh/\(eV o dh (gM b)).1={o with data:=pC o.data dh.toNat (gM b)}:=by
 have hl:(gM b).length=b.length:=by simp[gM]
 unfold eV at h⊢;split at h
 .simp at h
 .rename_i h1;split at h
  .simp at h
  .rename_i h2;split at h
   .simp at h
   .rename_i h3;split at h
    .simp at h
    .rename_i h4;rw[if_neg h1,if_neg h2,if_neg h3,if_neg h4];rw[hl]at h4;obtain⟨⟨⟨d,hd⟩,u7,ht3⟩,lH,he,hq,hqd⟩:=ho;refine⟨⟨⟨⟨Uk d dh.toNat b,?_⟩,u7,ht3⟩,?_,he,hq,hqd⟩,om,om,om,om,rfl⟩
     .show pC o.data dh.toNat (gM b)=_;rw[hd,E7]
     .show(pC o.data dh.toNat (gM b)).length<=64;rw[hd,E7,show ∀x:List Int,(gM x).length=x.length from fun x=>by simp[gM]]
      have afa:d.length<=64:=by rw[hd]at lH;simpa[gM]using lH
      have:=G0 d b dh.toNat om om;omega
theorem dF.I6{k:Kr}(h:dF k.l k.ops k.ps){z:Int}{o:Obj}(ho:o.sm):dF (setObj k z o).l (setObj k z o).ops (setObj k z o).ps:=by
 refine⟨fun x hx=>?_,by simpa[setObj]using h.ll,h.lo,h.lp,h.sl,h.ne⟩
 rcases aaX hx with hx|rfl
 .exact h.sm x hx
 .exact ho
theorem l38:bx Tryz.prog Tryz.f38=some c38.er:=by kernel_rfl
def aak:LC:=bv (bv c38.code)
def S7:LC:=lX aak
def WA:LC:=bv (bv (bv (bv (bv S7))))
def aal:LC:=lX WA
theorem qj(k:Kr)(hk:dF k.l k.ops k.ps)(p:Nat)(c:Cl)(n:Nat)(hn:n<k.ops.length)(r dh:Int)(a:An):
  aw Tryz.prog 2 aal (QC c38.kD (tW k n dh) p c a)
   ⟨iL 172 [(0,.rv (.one (.ptr 0 0))),(1,.rv (.one (.ptr 1 0))),(4,.rv (.one (.ptr 2 0))),(6,.rv (.one (.ptr 3 0))),(9,an .i64 dh),(10,.rv (.one (.ptr 4 0)))],
    [xB k p,cB c,cf,.var [.aa (.val (.int .i64 (n:Nat))),.aa (.val (.int .i64 r))],.var (a.enc.map .aa)]⟩:=by
 refine iv k.l k.ops k.ps ⟨hk.ll,fun o ho=>(hk.sm o ho).mL⟩ hk.lo hk.lp hk.sl hk.ne ?_
 refine ag (zM hn) ?_;have ho:=bA bi.enc k.ops hn;have hs:tW k n dh=⟨k.l,k.ops.set n {k.ops[n]with dh:=dh},k.ps⟩:=by rw[tW,Z3,IE hn]
 rw[hs];generalize k.ops[n]=x at ho;obtain⟨xo,xa⟩:=x;refine ag ho ?_;refine⟨trivial,_,_,View.o 8 [0,1] [5,6,7] (.eq rfl .nil) (.pt rfl rfl (S6 (k:=⟨k.l,k.ops.set n ⟨xo,dh⟩,k.ps⟩) (ia rfl rfl) (ia rfl (congrArg (fun x=>some (Bk.row 2 x)) ?_)) (ia rfl rfl)) (.pt rfl rfl (.eq rfl (cI _)) (.nil _))),rfl,rfl⟩
 show bb (af (k.ops.map bi.enc)) n ((bi.enc ⟨xo,dh⟩).map .aa)=_;rw[bj,af,af,abJ,abJ]
def unB:LC->LC
 | .block _ b=>b
 |x=>x
def aam:LC:=match unB (bv (pY (bv (bv (bv (bv S7))))))with
 | .seq _ (.cond _ _ (.seq _ (.cond _ (.seq _ g) _)))=>g
 |x=>x
def aan:LC:=lX aam
def E8(a b d:Int)(x:Int):Prop:=x=a\/x=b\/x=d
theorem Rf{σ:Nat->Nat}{m:Mem}{Z:Nat->Prop}{id:Nat}{e n x:Int}:mK σ m Z id (.var [.aa (.val (.int .i64 e)),.aa (.val (.int .i64 n)),.aa (.val (.int .i64 x)),.aI]) (.var ((An.enc ⟨e,n,x,[]⟩).map .aa)):=
 eP.var (.cons (.aO (.aa _)) (.cons (.aO (.aa _)) (.cons (.aO (.aa _)) (.cons (.e8 (.aI 1)) .nil))))
theorem E9(k:Kr)(p:Nat)(hw:KW k p)(c:Cl)(n j:Nat)(hn:n<k.ops.length)(hj:j<k.l.length)(r dh:Int)(o':Obj)(e:Int)(ho:e=0->o'.sm):
  aw Tryz.prog 2 aan (Dq 0 (pM (aw Tryz.prog 2 WA) (QC c38.kD (qa k n j dh c.data.length (o',e)).1 p c (qa k n j dh c.data.length (o',e)).2)))
   ⟨iL 172 [(0,.rv (.one (.ptr 0 0))),(1,.rv (.one (.ptr 1 0))),(4,.rv (.one (.ptr 2 0))),(6,.rv (.one (.ptr 3 0))),(7,an .i64 (j:Nat)),(9,an .i64 dh),(10,.rv (.one (.ptr 4 0))),(13,.rv (.one (.ptr 5 0))),(14,an .i64 e)],
    [xB k p,cB c,cf,.var [.aa (.val (.int .i64 (n:Nat))),.aa (.val (.int .i64 r))],.var [.aa (.val (.int .i64 0)),.aa (.val (.int .i64 0)),.aa (.val (.int .i64 0)),.aI],.var (o'.enc.map .aa)]⟩:=by
 refine bG (fun he=>?_) (fun he=>?_)
 .have he:e≠0:=he;rw[qa,if_pos he];exact dg (X:=[_,_,_,_])
 have he:e=0:=he;subst he;have ho:=ho rfl;rw[qa,if_neg aG];refine iv k.l k.ops k.ps hw.mL hw.kr.lo hw.kr.lp hw.kr.sl hw.kr.ne ?_;refine ag (MR hj) ?_;refine ag (bA Obj.enc k.l hj) ?_;refine⟨trivial,?_⟩;have hx:bb (af (k.l.map Obj.enc)) j (o'.enc.map .aa)=af ((setObj k j o').l.map Obj.enc):=mV Obj.enc k.l j o';refine⟨_,View.o 9 [0,1,2,3,4] [6,7,8] ?_ ?_,qj (setObj k j o') (dF.I6 hw.kr ho) p c n hn r (Ap dh c.data.length) ⟨0,c.data.length,0,[]⟩⟩
 .have hl:∀x:List Int,(gM x).length=x.length:=fun x=>by simp[gM]
  have h9:an .i64 (IntKind.i64.wrap (dh+((gM c.data).length:Nat)))=an .i64 (Ap dh c.data.length):=by rw[hl];rfl
  repeat(first|exact .nil|refine .aq ?_|refine .eq rfl ?_|refine .eq h9.symm ?_)
 .have h9:((gM c.data).length:Int)=(c.data.length:Int):=by simp[gM]
  refine .pt rfl rfl (S6 (k:=setObj k j o') (ia rfl (congrArg (fun x=>some (Bk.row 9 x)) hx)) (ia rfl rfl) (ia rfl rfl)) (.pt rfl rfl (.eq rfl (cI _)) (.pt rfl rfl (.eq rfl (by simp[cf])) (.pe rfl rfl rfl (.pt rfl rfl ?_ (.nil _)))))
  rw[<-h9];exact Rf
theorem Ps{ops:List bi}{n:Nat}(h:n<ops.length):ox ops (n:Int)=ops[n].dh:=by rw[ox,Z3,IE h]
theorem I7(k:Kr)(p:Nat)(hw:KW k p)(c:Cl)(need:Int)(x4:E8 4 5 6 c.ah)(hd:c.data.length<=4194304):
  aw Tryz.prog 2 S7 (QC c38.kD (na k c (bH k p c.fd need)).1 p c (na k c (bH k p c.fd need)).2)
   ⟨iL 172 [(0,.rv (.one (.ptr 0 0))),(1,.rv (.one (.ptr 1 0))),(4,.rv (.one (.ptr 2 0))),(5,an .i64 need)],[xB k p,cB c,cf]⟩:=by
 refine j7 k p hw c.fd need 0 rfl ?_;have hh:= @KW.held k p hw c.fd need;generalize bH k p c.fd need=w at hh⊢;obtain⟨⟨o,r⟩,b,e⟩:=w;refine bG (fun he=>?_) (fun he=>?_)
 .have he:e≠0:=he;have e1:na k c ((o,r),b,e)=(k,An.no e):=by rw[na,if_pos he]
  rw[e1];exact dg (X:=[_,_])
 have he:e=0:=he;subst he;obtain⟨n,j,h1,h2,h3,h4,h5⟩:=hh rfl;have h1:o=n:=h1;have h3:b=j:=h3;subst h1 h3;have jk:=(hw.kr.sm _ (Z0 h4)).mL;have u9:=hw.kr.sm _ (Z0 h4);have QW:=sU h4;refine ag (lM h2) ?_;have hS:na k c ((((n:Nat):Int),r),((j:Nat):Int),0)=if c.ah=4 then wz k n k.ops[n].dh (ju k.l[j].ah k.l[j].data k.ops[n].dh c.n)
  else if c.ah=5 then qa k n j k.ops[n].dh c.data.length (eV k.l[j] k.ops[n].dh (gM c.data))else sS k n c.n:=by
  rw[na,if_neg aG,QW,Ps h2]
 rw[hS];refine bI (fun k4=>?_) (fun k4=>?_)
 .have k4:c.ah=4:=k4;rw[if_pos k4];refine ag (iz h4) ?_;refine MK k.l[j] jk.1 k.ops[n].dh c.n ?_;generalize ju k.l[j].ah k.l[j].data k.ops[n].dh c.n=R;obtain⟨d,e⟩:=R;refine⟨trivial,?_⟩;refine bG (fun he=>?_) (fun he=>?_)
  .have he:e≠0:=he;rw[wz,if_pos he];exact dg (X:=[_,_,_])
  .have he:e=0:=he;subst he;rw[wz,if_neg aG];refine⟨_,View.o1 5 [0,1,2,3,4] [] ?_,qj k hw.kr p c n h2 r (Ap k.ops[n].dh d.length) ⟨0,d.length,0,d⟩⟩
   .exact .pt rfl rfl (.eq rfl (bL _ _)) (.pt rfl rfl (.eq rfl (cI _)) (.pt rfl rfl (.eq rfl (by simp[cf])) (.pe rfl rfl rfl (.pm rfl rfl rfl))))
 have k4:¬c.ah=4:=k4;rw[if_neg k4];refine bI (fun k5=>?_) (fun k5=>?_)
 .have k5:c.ah=5:=k5;rw[if_pos k5];have hb:(gM c.data).length<=4194304:=by simpa[gM]using hd
  have AR:=fun(h:(eV k.l[j] k.ops[n].dh (gM c.data)).2=0)=>(wA u9 h).1
  have hg:=iz h4;have WB:=fun o' e(h:e=0->Obj.sm o')=>E9 k p hw c n j h2 h4 r k.ops[n].dh o' e h
  refine ag hg ?_;refine⟨?_,?_⟩
  .refine Cd k.l[j] jk k.ops[n].dh (gM c.data) hb ?_;generalize eV k.l[j] k.ops[n].dh (gM c.data)=R at AR⊢;obtain⟨o',e⟩:=R;refine⟨trivial,⟨rfl,rfl,ag hg rfl,rfl,trivial⟩,trivial,_,View.o1 6 [0,1,2,3,4,5] [] ?_,WB o' e AR⟩
   .exact .pt rfl rfl (.eq rfl (bL _ _)) (.pt rfl rfl (.eq rfl (cI _)) (.pt rfl rfl (.eq rfl (by simp[cf])) (.pe rfl rfl rfl (.pe rfl rfl rfl (.pm rfl rfl rfl)))))
  .refine⟨⟨rfl,rfl,ag hg rfl,rfl,trivial⟩,?_⟩;refine Cd k.l[j] jk k.ops[n].dh (gM c.data) hb ?_;generalize eV k.l[j] k.ops[n].dh (gM c.data)=R at AR⊢;obtain⟨o',e⟩:=R;refine⟨trivial,trivial,_,View.o1 6 [0,1,2,3,4,5] [] ?_,WB o' e AR⟩
   .exact .pt rfl rfl (.eq rfl (bL _ _)) (.pt rfl rfl (.eq rfl (cI _)) (.pt rfl rfl (.eq rfl (by simp[cf])) (.pe rfl rfl rfl (.pe rfl rfl rfl (.pm rfl rfl rfl)))))
 .have k5:¬c.ah=5:=k5;rw[if_neg k5];refine ay (fun h6=>?_) (fun h6=>?_)
  .have h6:c.n<0:=h6;rw[sS,if_pos (.inl h6)];exact dg (X:=[_,_,_])
  have h6:¬c.n<0:=h6;refine ay (fun h7=>?_) (fun h7=>?_)
  .have h7:c.n>60:=h7;rw[sS,if_pos (.inr h7)];exact dg (X:=[_,_,_])
  have h7:¬c.n>60:=h7;rw[sS,if_neg om];refine⟨_,View.o1 5 [0,1,2,3,4] [] ?_,qj k hw.kr p c n h2 r c.n ⟨0,0,0,[]⟩⟩
  .exact .pt rfl rfl (.eq rfl (bL _ _)) (.pt rfl rfl (.eq rfl (cI _)) (.pt rfl rfl (.eq rfl (by simp[cf])) (.pe rfl rfl rfl (.pt rfl rfl Rf (.nil _)))))
theorem Fa(k:Kr)(p:Nat)(hw:KW k p)(c:Cl)(x4:E8 4 5 6 c.ah)(hd:c.data.length<=4194304):
  body Tryz.prog c38 [.rv (.one (.ptr 0 0)),.rv (.one (.ptr 1 0))] [xB k p,cB c] (TC (jF k p c).1 p c (jF k p c).2):=by
 have hs:=fun need=>I7 k p hw c need x4 hd
 have Rg:jF k p c=na k c (bH k p c.fd (oA c.ah)):=rfl;rw[Rg];clear Rg;obtain⟨aM,ah,fd,gA,n,bF,bc,cN,data⟩:=c;rcases x4 with h|h|h
 .have h:ah=4:=h;subst h;refine⟨_,View.o1 4 [0,1,2] [] ?_,hs 1⟩
  .exact .pt rfl rfl (.eq rfl (bL _ _)) (.pt rfl rfl (.eq rfl (cI _)) (.pt rfl rfl (.eq rfl (by simp[cf])) (.nil _)))
 .have h:ah=5:=h;subst h;refine⟨_,View.o1 4 [0,1,2] [] ?_,hs 2⟩
  .exact .pt rfl rfl (.eq rfl (bL _ _)) (.pt rfl rfl (.eq rfl (cI _)) (.pt rfl rfl (.eq rfl (by simp[cf])) (.nil _)))
 .have h:ah=6:=h;subst h;refine⟨_,View.o1 4 [0,1,2] [] ?_,hs 4⟩
  .exact .pt rfl rfl (.eq rfl (bL _ _)) (.pt rfl rfl (.eq rfl (cI _)) (.pt rfl rfl (.eq rfl (by simp[cf])) (.nil _)))
theorem qk(k:Kr)(p:Nat)(hw:KW k p)(c:Cl)(x4:E8 4 5 6 c.ah)(hd:c.data.length<=4194304):au Tryz.prog 38 [.rv (.one (.ptr 0 0)),.rv (.one (.ptr 1 0))] [xB k p,cB c] (TC (jF k p c).1 p c (jF k p c).2):=
 cg Tryz.func38 l38 (Fa k p hw c x4 hd)
end Kn
def c39:LF:= ⟨66,[.cell true 4 4],(.seq (.ai [qu 4 (.alloc [qd 0,qd 0,qd 0,.aI])]) (.seq (.bX [qm 8 0,qu 9 (.aY 8),qf 10 0 9,qf 11 2 10,ql 12 11,qm 13 0,qu 14 (.aY 13),qf 15 3 14,ql 16 15,qu 17 (.bW 4 12 16),qf 18 3 17,ql 19 18,qm 5 19] [(.cons 0 none (.cons 1 none (.cons 2 none (.cons 3 none (.cons 4 none (.cons 5 none (.cons 6 none (.cons 7 none (.cons 8 none (.cons 9 none (.cons 10 none (.cons 11 none (.cons 12 none .nil)))))))))))))]) (.seq (.ai [qu 6 (.aH (qi 0))]) (.seq (.ai [qu 7 (.aH (qi 0))]) (.seq (.seq (.ai [qm 20 1,qu 21 (.aY 20),qf 22 1 21,ql 23 22]) (.block 0 (.seq (.ai [qu 38 (.aF .eql 23 (qi 7)),qm 37 38]) (.cond 37 (.ai [qm 40 5,qm 41 1,qu 42 (.aY 41),qf 43 2 42,ql 44 43,qu 45 (qc 67 [40,44]),qm 39 45,qu 46 (.ext 39 0),qu 47 (.ext 39 1),qm 5 46,qm 7 47]) (.seq (.ai [qu 49 (.aF .eql 23 (qi 8)),qm 48 49]) (.cond 48 (.ai [qm 51 5,qm 52 1,qu 53 (.aY 52),qf 54 2 53,ql 55 54,qu 56 (qc 68 [51,55]),qm 50 56,qu 57 (.ext 50 0),qu 58 (.ext 50 1),qu 59 (.ext 50 2),qm 5 57,qm 6 58,qm 7 59]) (.bX [qm 25 5,qm 26 1,qu 27 (.aY 26),qf 28 2 27,ql 29 28,qm 30 1,qu 31 (.aY 30),qf 32 6 31,ql 33 32,qu 34 (qc 69 [25,29,33]),qm 24 34,qu 35 (.ext 24 0),qu 36 (.ext 24 1),qm 5 35,qm 7 36] [(.cons 0 none (.cons 1 none (.cons 2 none (.cons 3 none (.cons 4 none (.cons 5 none (.cons 6 none (.cons 7 none (.cons 8 none (.cons 9 (some []) (.cons 10 none (.cons 11 none (.cons 12 none (.cons 13 none (.cons 14 none .nil)))))))))))))))]))))))) (.cu (.seq (.ai [qm 60 0,qm 61 5,qm 62 7,qu 63 (qc 70 [60,61,62]),qm 64 6,qu 65 (.build [qd 0,qd 0,qd 0,.aI] [(0,1,63),(1,1,64)]),qw (.store 4 4 65)]) .ret)))))))⟩
namespace Kn
def G1(k:Kr)(p:Nat)(x:List fz×Int×Int):Kr×An:=(jD k p x.1 x.2.2,⟨x.2.2,x.2.1,0,[]⟩)
def nt(l:List fz)(c:Cl):List fz×Int×Int:=
 if c.ah=7 then((wt l c.fd).1,0,(wt l c.fd).2)else if c.ah=8 then ML l c.fd else((MM l c.fd c.bc).1,0,(MM l c.fd c.bc).2)
def oB(k:Kr)(p:Nat)(c:Cl):Kr×An:=G1 k p (nt (ba k.ps p) c)
theorem l39:bx Tryz.prog Tryz.f39=some c39.er:=by kernel_rfl
def aao:LC:=bv (bv (bv (bv (bv c39.code))))
def aap:LC:=lX aao
theorem MT(k:Kr)(p:Nat)(hw:KW k p)(c:Cl)(x:List fz×Int×Int):
  aw Tryz.prog 2 aap (QC c39.kD (G1 k p x).1 p c (G1 k p x).2)
   ⟨iL 66 [(0,.rv (.one (.ptr 0 0))),(1,.rv (.one (.ptr 1 0))),(4,.rv (.one (.ptr 2 0))),(5,kP x.1),(6,an .i64 x.2.1),(7,an .i64 x.2.2)],[xB k p,cB c,cf]⟩:=by
 refine Cr k p hw.kr hw.hp x.1 x.2.2 0 rfl ?_;exact dg (X:=[_])
theorem I8(k:Kr)(p:Nat)(hw:KW k p)(c:Cl):
  body Tryz.prog c39 [.rv (.one (.ptr 0 0)),.rv (.one (.ptr 1 0))] [xB k p,cB c] (TC (oB k p c).1 p c (oB k p c).2):=by
 have hs:=MT k p hw c (nt (ba k.ps p) c);have hg:=dW hw.hp;rw[<-i5 hw.hp]at hg;have hl:(ba k.ps p).length<=2097152:=by rw[i5 hw.hp];have:=hw.kr.sl _ (Z0 hw.hp);omega
 have hS:oB k p c=G1 k p (nt (ba k.ps p) c):=rfl;rw[hS];clear hS;refine ag hg ?_;generalize ba k.ps p=S at hl hs⊢;refine bI (fun h7=>?_) (fun h7=>?_)
 .have h7:c.ah=7:=h7;rw[nt,if_pos h7]at hs⊢;refine I0 S hl c.fd ?_;refine⟨_,View.o1 3 [0,1,2] [] ?_,hs⟩
  .exact .pt rfl rfl (.eq rfl (bL _ _)) (.pt rfl rfl (.eq rfl (cI _)) (.pt rfl rfl (.eq rfl (by simp[cf])) (.nil _)))
 have h7:¬c.ah=7:=h7;rw[nt,if_neg h7]at hs⊢;refine bI (fun h8=>?_) (fun h8=>?_)
 .have h8:c.ah=8:=h8;rw[if_pos h8]at hs⊢;refine Po S hl c.fd ?_;refine⟨_,View.o1 3 [0,1,2] [] ?_,hs⟩
  .exact .pt rfl rfl (.eq rfl (bL _ _)) (.pt rfl rfl (.eq rfl (cI _)) (.pt rfl rfl (.eq rfl (by simp[cf])) (.nil _)))
 have h8:¬c.ah=8:=h8;rw[if_neg h8]at hs⊢;refine I1 S hl c.fd c.bc ?_;refine⟨trivial,_,View.o1 3 [0,1,2] [] ?_,hs⟩
 .exact .pt rfl rfl (.eq rfl (bL _ _)) (.pt rfl rfl (.eq rfl (cI _)) (.pt rfl rfl (.eq rfl (by simp[cf])) (.nil _)))
theorem sV(k:Kr)(p:Nat)(hw:KW k p)(c:Cl):au Tryz.prog 39 [.rv (.one (.ptr 0 0)),.rv (.one (.ptr 1 0))] [xB k p,cB c] (TC (oB k p c).1 p c (oB k p c).2):=
 cg Tryz.func39 l39 (I8 k p hw c)
end Kn
def c40:LF:= ⟨85,[.cell true 4 4],(.seq (.ai [qu 4 (.alloc [qd 0,qd 0,qd 0,.aI])]) (.seq (.ai [qu 5 (.aH (qi 128))]) (.seq (.seq (.ai [qm 12 1,qu 13 (.aY 12),qf 14 1 13,ql 15 14,qu 16 (.aF .eql 15 (qi 11))]) (.cond 16 (.ai [qu 5 (.aH (qi 64))]) .skip)) (.cu (.seq (.ai [qm 18 0,qm 19 1,qu 20 (.aY 19),qf 21 2 20,ql 22 21,qm 23 5,qu 24 (qc 63 [18,22,23]),qm 17 24,qu 25 (.ext 17 0),qu 26 (.ext 17 1),qu 27 (.ext 17 2),qu 6 (.alloc [qd 0,qd 0]),qw (.store 2 6 25),qm 7 26,qm 8 27]) (.seq (.seq (.ai [qm 28 8,qu 29 (.aF .neq 28 (qi 0))]) (.cond 29 (.seq (.ai [qm 30 8,qu 31 (.build [qd 0,qd 0,qd 0,.aI] [(0,1,30)]),qw (.store 4 4 31)]) .ret) .skip)) (.seq (.ai [qm 32 0,qu 33 (.aY 32),qf 34 0 33,qf 35 0 34,ql 36 35,qm 37 7,qu 38 (.bW 9 36 37),qL 39 9 38,qu 9 (.alloc [qd 0,.aI,.aI,(.aa (.val (.string ⟨#[]⟩))),qd 0,.aI,qd 0,qd 0,qd 0]),qw (.store 9 9 39)]) (.seq (.seq (.ai [qm 40 1,qu 41 (.aY 40),qf 42 1 41,ql 43 42,qu 44 (.aF .eql 43 (qi 11))]) (.cond 44 (.seq (.seq (.ai [qf 45 0 9,ql 46 45,qu 47 (.aF .neq 46 (qi 2))]) (.cond 47 (.seq (.ai [qu 48 (.build [qd 0,qd 0,qd 0,.aI] [(0,1,qi 11)]),qw (.store 4 4 48)]) .ret) .skip)) (.seq (.ai [qL 49 9 9,qu 50 (qc 72 [49]),qu 51 (qc 71 [50,(.c (.rv (.one (.aa (.val (.string ⟨#[10]⟩))))))]),qm 10 51]) (.seq (.ai [qf 52 2 9,ql 53 52,qu 54 (.len 1 53),qm 55 10,qu 56 (.Uq 55),qu 57 (.build [qd 0,qd 0,qd 0,.aI] [(1,1,54),(3,1,56)]),qw (.store 4 4 57)]) .ret))) .skip)) (.seq (.ai [qf 58 1 9,ql 59 58,qu 60 (.len 1 59),qf 61 2 9,ql 62 61,qu 63 (.len 1 62),qu 64 (.aF .add 60 63),qf 65 5 9,ql 66 65,qu 67 (.len 1 66),qu 68 (.aF .add 64 67),qm 11 68]) (.seq (.seq (.bX [qf 69 0 9,ql 70 69,qu 71 (.aF .eql 70 (qi 5)),qm 72 71,qg 73 (.aH 0) 72 true,qg 74 (.aY 73) 72 true,qg 75 (.br 0 74) 72 true,qg 76 (.load true 3 75) 72 true,qg 77 (.br 6 9) 72 true,qg 78 (.load false 1 77) 72 true,qg 79 (qc 35 [76,78]) 72 true,qu 80 (.pick 72 79 (qb false))] [(.cons 0 none (.cons 1 none (.cons 2 none (.cons 3 none (.cons 4 none (.cons 5 none (.cons 6 none (.cons 7 none (.cons 8 none (.cons 9 none (.cons 10 (some []) (.cons 11 none .nil))))))))))))]) (.cond 80 (.ai [qu 11 (.aH (qi 1))]) .skip)) (.seq (.ai [qf 81 0 9,ql 82 81,qm 83 11,qu 84 (.build [qd 0,qd 0,qd 0,.aI] [(1,1,82),(2,1,83)]),qw (.store 4 4 84)]) .ret)))))))))))⟩
namespace bP
def kZ(sep:dG)(l:List dG):dG:=Lib.join l sep
theorem Cv(l:List dG):(l.map cK).map (·.data.toList)=l:=by rw[abW];exact List.map_id'' (fun _=>rfl) l
theorem Pu(l:List dG)(sep:dG)(hN:l.length<=4194304)(hlen:(kZ sep l).length<=140737488355328){m:Mem}{K:CV->Mem->Prop}(h:K (vT (kZ sep l)) m):au Tryz.prog 71 [txV l,vT sep] m K:=by
 refine⟨⟨Tryz.f71,Tryz.func71,rfl,by decide⟩,fun ρ w vs hM hl hd=>?_⟩
 obtain⟨v0,h0,d0⟩:=hd 0 _ rfl;obtain⟨v1,h1,d1⟩:=hd 1 _ rfl;have DI:v1= .string (cK sep):=(bS d1).1;have C7:vs=[v0,v1]:=by
  match vs,hl with
  | [a,b],_=>simp at h0 h1;rw[h0,h1]
 have iC:∀(W':World)(v:Value),v= .string (cK (kZ sep l))->Below w.heap.size w W'->∃Vu r m' ρ',Ending.returned v= .returned Vu/\K r m'/\aL ρ' m' W'/\cm ρ' W' r Vu/\Ext ρ m w ρ' m' W':=by
  rintro W' v rfl hb;refine⟨_,_,m,ρ,rfl,h,hM.uh ⟨hb.size,fun b hS=>hb.block b (hM.S b hS),fun k hk=>hb.block _ (hM.aQ k hk).1⟩,dv.val _ rfl,?_⟩
  exact⟨SS _,fun _ _=>rfl,fun _ h=>h,fun _ h=>.inl h,fun k h=>.inr ⟨k,h,rfl⟩,fun b r9 _=>hb.block b r9,hb.size,hb.os,hb.tape,hb.output⟩
 have hD:dv ρ.S w (.sl 1 (l.map tD)) v0:=d0;rw[C7,DI];generalize JU:l.map tD=elems at hD;cases hD with
 |nil _ a cap hc=>
  have:l=[]:=by simpa using JU
  subst this;refine(ID a cap (cK sep) w).mono fun e W'⟨he,hw⟩=>?_
  subst he;exact iC W' _ rfl (hw▸Below.refl _ _)
 |sl _ _ b off cap u hS rP bq dN hc cw=>
  have aaq:elems.length=(l.map cK).length:=by rw[<-JU];simp
  rw[aaq]at rP⊢;refine(O7 b off cap (l.map cK) (cK sep) w (fun j x hj=>?_) (hM.S b hS) (by rw[Nq];omega) rP (by rw[Cv];exact hlen)).mono fun e W'⟨he,hw⟩=>?_
  .rw[Q8]at hj;cases hlj:l[j]? with
   |none=>rw[hlj]at hj;cases hj
   |some t=>
    rw[hlj]at hj;simp only[aaG,aag]at hj;subst hj;have e1:elems[j]? =some [.val (.string (cK t))]:=by rw[<-JU,Q8,hlj];rfl
    have e2:=hc j _ 0 _ e1 rfl;have e3:=cw j _ 0 _ e1 rfl;have e4:u j 0= .string (cK t):=by
     generalize u j 0=x at e3;cases e3 with
     |val _ _=>rfl
    rw[e4]at e2;simpa using e2
  .subst he;refine iC W' _ ?_ hw;rw[Cv];rfl
end bP
namespace Kn
def rH(e:NE):bP.dG:=e.1.data.toList
def tB(t:bP.dG):List (List Dt):=gM (t.map fun b=>((b.toNat:Nat):Int))
def Fb(o:Obj):bP.dG:=bP.kZ [10] ((o.ak.map nq).map rH)
def G2(k:Kr)(o:Obj):Int:=if o.ah=5/\fu k.ps o.aM=true then 1 else Ap (Ap o.data.length o.ak.length) o.aj.length
def Aq(k:Kr)(c:Cl)(o:Obj):An:=
 if c.ah=11 then(if o.ah≠2 then An.no 11 else⟨0,o.ak.length,0,tB (Fb o)⟩)else⟨0,o.ah,G2 k o,[]⟩
def oC(k:Kr)(c:Cl)(w:(Int×Int)×Int×Int):An:=if w.2.2≠0 then An.no w.2.2 else Aq k c (m9 k.l w.2.1)
def MU(c:Cl):Int:=if c.ah=11 then 64 else 128
def k6(k:Kr)(p:Nat)(c:Cl):Kr×An:=(k,oC k c (bH k p c.fd (MU c)))
theorem WC(es:List NE):es.map X2=(es.map rH).map bP.tD:=by
 rw[abW];refine ach fun e _=>?_
 obtain⟨t,ht⟩:=bP.z6 e.1;show [Dt.val (.string e.1)]=[Dt.val (.string (bP.cK e.1.data.toList))];rw[ht];rfl
theorem Cw:∀(l:List bP.dG)(n:Nat),(∀t,t∈l->t.length<=n)->(bP.kZ [10] l).length<=l.length*(n+1)
 | [],_,_=>by simp[bP.kZ,Lib.join]
 | [t],n,h=>by have:=h t aG;simp[bP.kZ,Lib.join];omega
 |t::u::r,n,h=>by
  have h1:=h t aG;have h2:=Cw (u::r) n fun x hx=>h x (by simp[hx])
  have e:(bP.kZ [10] (t::u::r)).length=t.length+1+(bP.kZ [10] (u::r)).length:=by simp[bP.kZ,Lib.join];omega
  rw[e];simp only[aar]at h2⊢;have e2:(r.length+1+1)*(n+1)=(r.length+1)*(n+1)+(n+1):=by rw[abE (r.length+1) 1 (n+1),ab3]
  rw[e2];omega
theorem I9(t:bP.dG):pL (bP.cK t)=af (tB t):=by show t.map _=_;rw[af,tB,gM,abW,abW];rfl
theorem l40:bx Tryz.prog Tryz.f40=some c40.er:=by kernel_rfl
def C18:LC:=bv (bv (bv c40.code))
def G18:LC:=lX C18
theorem aas{m:Mem}{e n x:Int}{id:Nat}{d:List (List Dt)}{Z:Nat->Prop}{σ:Nat->Nat}(hz:Z id)(hm:m[id]? =some (.row 1 (af d))):
  pW σ m Z (.rv (.agg [.aa (.val (.int .i64 e)),.aa (.val (.int .i64 n)),.aa (.val (.int .i64 x)),.row id 1 0 none])) (An.cv ⟨e,n,x,d⟩):=
 .rv (.agg rfl fun i c c' h1 h2=>by
  match i,h1,h2 with
  |0,h1,h2=>cases h1;cases h2;exact .aO (.aa _)
  |1,h1,h2=>cases h1;cases h2;exact .aO (.aa _)
  |2,h1,h2=>cases h1;cases h2;exact .aO (.aa _)
  |3,h1,h2=>cases h1;cases h2;exact .e8 (ia hz hm)
  |n+4,h1,h2=>simp at h1)
theorem Ja(k:Kr)(p:Nat)(hw:KW k p)(c:Cl)(need:Int):
  aw Tryz.prog 2 G18 (QC c40.kD k p c (oC k c (bH k p c.fd need)))
   ⟨iL 85 [(0,.rv (.one (.ptr 0 0))),(1,.rv (.one (.ptr 1 0))),(4,.rv (.one (.ptr 2 0))),(5,an .i64 need)],[xB k p,cB c,cf]⟩:=by
 refine j7 k p hw c.fd need 0 rfl ?_;have hh:= @KW.held k p hw c.fd need;generalize bH k p c.fd need=w at hh⊢;obtain⟨⟨o,r⟩,b,e⟩:=w;refine bG (fun he=>?_) (fun he=>?_)
 .have he:e≠0:=he;have e1:oC k c ((o,r),b,e)=An.no e:=by rw[oC,if_pos he]
  rw[e1];exact dg (X:=[_,_])
 have he:e=0:=he;subst he;obtain⟨n,j,h1,h2,h3,h4,h5⟩:=hh rfl;have h3:b=j:=h3;subst h3;have u9:=hw.kr.sm _ (Z0 h4);have Qz:=hw.nm _ (Z0 h4);have e1:oC k c ((o,r),((j:Nat):Int),0)=Aq k c k.l[j]:=by rw[oC,if_neg aG,sU h4]
 rw[e1];refine ag (iz h4) ?_;generalize k.l[j]=ob at u9 Qz⊢;refine bI (fun J6=>?_) (fun J6=>?_)
 .have J6:c.ah=11:=J6;rw[Aq,if_pos J6];refine bG (fun F7=>?_) (fun F7=>?_)
  .have F7:ob.ah≠2:=F7;rw[if_pos F7];exact dg (X:=[_,_,_])
  have F7:¬ob.ah≠2:=fun h=>h F7
  rw[if_neg F7];obtain⟨es,nV⟩:=u9.t.2.1;have JU:es.length<=8:=by have:=u9.e;rw[nV]at this;simpa using this
  have Rc:ob.ak.map nq=es:=by rw[nV,mW]
  rw[Rc]at Qz;have hN:Fb ob=bP.kZ [10] (es.map rH):=by rw[Fb,Rc]
  rw[hN];have hJ:(bP.kZ [10] (es.map rH)).length<=200:=by
   have:=Cw (es.map rH) 12 fun t ht=>by obtain⟨e,he,rfl⟩:=aaQ.1 ht;have:=Qz e he;show e.1.data.toList.length<=12;rwa [ab9]
   rw[Nq]at this;omega
  refine Mv ob es nV om ?_;rw[WC];refine bP.Pu (es.map rH) [10] (by rw[Nq];omega) om ?_
  have dN:(bP.cK (bP.kZ [10] (es.map rH))).size<=140737488355328:=by rw[bP.mF];omega
  have hR:=I9 (bP.kZ [10] (es.map rH));generalize bP.kZ [10] (es.map rH)=T at dN hR;refine⟨dN,?_⟩;refine⟨_,_,View.o 6 [0,1] [5] (.put (aas rfl (congrArg (fun x=>some (Bk.row 1 x)) hR)) .nil) (.pt rfl rfl (.eq rfl (bL _ _)) (.pt rfl rfl (.eq rfl (cI _)) (.nil _))),rfl,rfl⟩
 have J6:¬c.ah=11:=J6;rw[Aq,if_neg J6];have hq:(ob.aj.length:Int)=((ob.aj.map bw.enc).length:Int):=by rw[Nq]
 refine bI (fun h5=>?_) (fun h5=>?_)
 .have h5:ob.ah=5:=h5;refine ol k.l k.ops k.ps ob.aM ?_;refine⟨trivial,?_⟩;cases hl:fu k.ps ob.aM with
  |true=>
   rw[G2,if_pos ⟨h5,hl⟩];exact dg (X:=[_,_,_])
  |false=>
   rw[G2,if_neg (by simp[hl]),hq]
   exact dg (X:=[_,_,_])
 .have h5:¬ob.ah=5:=h5;rw[G2,if_neg (fun h=>h5 h.1),hq]
  refine⟨trivial,?_⟩;exact dg (X:=[_,_,_])
theorem Fc(k:Kr)(p:Nat)(hw:KW k p)(c:Cl):
  body Tryz.prog c40 [.rv (.one (.ptr 0 0)),.rv (.one (.ptr 1 0))] [xB k p,cB c] (TC (k6 k p c).1 p c (k6 k p c).2):=by
 have hs:=fun need=>Ja k p hw c need
 refine bI (fun h=>?_) (fun h=>?_)
 .have h:c.ah=11:=h;have e:k6 k p c=(k,oC k c (bH k p c.fd 64)):=by rw[k6,MU,if_pos h]
  rw[e];refine⟨_,View.o1 3 [0,1,2] [] ?_,hs 64⟩
  .exact .pt rfl rfl (.eq rfl (bL _ _)) (.pt rfl rfl (.eq rfl (cI _)) (.pt rfl rfl (.eq rfl (by simp[cf])) (.nil _)))
 .have h:¬c.ah=11:=h;have e:k6 k p c=(k,oC k c (bH k p c.fd 128)):=by rw[k6,MU,if_neg h]
  rw[e];refine⟨_,View.o1 3 [0,1,2] [] ?_,hs 128⟩
  .exact .pt rfl rfl (.eq rfl (bL _ _)) (.pt rfl rfl (.eq rfl (cI _)) (.pt rfl rfl (.eq rfl (by simp[cf])) (.nil _)))
theorem wB(k:Kr)(p:Nat)(hw:KW k p)(c:Cl):au Tryz.prog 40 [.rv (.one (.ptr 0 0)),.rv (.one (.ptr 1 0))] [xB k p,cB c] (TC (k6 k p c).1 p c (k6 k p c).2):=
 cg Tryz.func40 l40 (Fc k p hw c)
end Kn
def c41:LF:= ⟨142,[.cell true 4 4],(.seq (.ai [qu 4 (.alloc [qd 0,qd 0,qd 0,.aI])]) (.seq (.ai [qu 5 (.aH (qi 24))]) (.seq (.seq (.ai [qm 16 1,qu 17 (.aY 16),qf 18 1 17,ql 19 18,qu 20 (.aF .eql 19 (qi 14))]) (.cond 20 (.ai [qu 5 (.aH (qi 40))]) .skip)) (.cu (.seq (.ai [qm 22 0,qm 23 1,qu 24 (.aY 23),qf 25 2 24,ql 26 25,qm 27 5,qu 28 (qc 63 [22,26,27]),qm 21 28,qu 29 (.ext 21 0),qu 30 (.ext 21 1),qu 31 (.ext 21 2),qu 6 (.alloc [qd 0,qd 0]),qw (.store 2 6 29),qm 7 30,qm 8 31]) (.seq (.seq (.ai [qm 32 8,qu 33 (.aF .neq 32 (qi 0))]) (.cond 33 (.seq (.ai [qm 34 8,qu 35 (.build [qd 0,qd 0,qd 0,.aI] [(0,1,34)]),qw (.store 4 4 35)]) .ret) .skip)) (.seq (.seq (.ai [qm 36 1,qu 37 (.aY 36),qf 38 1 37,ql 39 38,qu 40 (.aF .eql 39 (qi 13))]) (.cond 40 (.seq (.ai [qm 42 1,qu 43 (.aY 42),qf 44 8 43,ql 45 44,qu 46 (.J8 45),qu 47 (qc 73 [46]),qm 41 47,qu 48 (.ext 41 0),qu 49 (.ext 41 1),qu 50 (.ext 41 2),qm 9 48,qm 10 49,qm 11 50]) (.seq (.ai [qm 51 11,qu 52 (.aF .neq 51 (qi 0))]) (.cond 52 (.seq (.ai [qm 53 11,qu 54 (.build [qd 0,qd 0,qd 0,.aI] [(0,1,53)]),qw (.store 4 4 54)]) .ret) .skip))) .skip)) (.cu (.seq (.bX [qm 56 0,qu 57 (.aY 56),qf 58 0 57,qf 59 0 58,ql 60 59,qm 61 7,qm 62 1,qu 63 (.aY 62),qf 64 7 63,ql 65 64,qu 66 (qc 74 [60,61,65,qb true,qb false]),qm 55 66,qu 67 (.ext 55 0),qu 68 (.ext 55 1),qu 12 (.alloc [qd 0,qd 0,(.aa (.val (.string ⟨#[]⟩)))]),qw (.store 3 12 67),qm 8 68] [(.cons 0 none (.cons 1 none (.cons 2 none (.cons 3 none (.cons 4 none (.cons 5 none (.cons 6 none (.cons 7 none (.cons 8 none (.cons 9 none (.xJ (.cons 10 (some []) (.cons 11 none (.cons 12 none (.cons 13 none (.cons 14 (some [9,4]) (.cons 15 (some []) (.cons 16 none .nil))))))) (.cons 14 (some [9,4]) (.cons 10 (some []) (.cons 11 none (.cons 12 none (.cons 13 none (.cons 15 (some []) (.cons 16 none .nil))))))))))))))))))]) (.cu (.seq (.block 0 (.seq (.ai [qm 77 8,qu 78 (.aF .neq 77 (qi 0)),qm 76 78]) (.cond 76 .skip (.seq (.ai [qf 80 2 12,ql 81 80,qu 82 (.aF .eql 81 (.c (.rv (.one (.aa (.val (.string ⟨#[]⟩))))))),qm 79 82]) (.cond 79 (.ai [qu 8 (.aH (qi 8))]) (.seq (.ai [qm 84 1,qu 85 (.aY 84),qf 86 1 85,ql 87 86,qu 88 (.aF .eql 87 (qi 14)),qm 89 88,qg 90 (.br 0 12) 89 true,qg 91 (.load false 1 90) 89 true,qg 92 (.aF .lss 91 (qi 0)) 89 true,qu 93 (.pick 89 92 (qb false)),qm 83 93]) (.cond 83 (.ai [qu 8 (.aH (qi 6))]) (.seq (.ai [qm 95 1,qu 96 (.aY 95),qf 97 1 96,ql 98 97,qu 99 (.aF .eql 98 (qi 14)),qm 94 99]) (.cond 94 (.seq (.bX [qm 101 0,qu 102 (.aY 101),qf 103 0 102,qf 104 0 103,ql 105 104,qf 106 1 12,ql 107 106,qf 108 2 12,ql 109 108,qu 110 (qc 75 [105,107,109]),qm 100 110,qu 111 (.ext 100 0),qu 112 (.ext 100 1),qu 113 (.ext 100 2),qm 13 111,qm 14 112,qm 15 113] [(.cons 0 none (.cons 1 none (.cons 2 none (.cons 3 none (.cons 4 none (.cons 5 none (.cons 6 none (.cons 7 none (.cons 8 none (.cons 9 (some []) (.cons 10 none (.cons 11 none (.cons 12 none (.cons 13 none (.cons 14 none (.cons 15 none (.cons 16 none .nil)))))))))))))))))]) (.ai [qm 114 0,qm 115 13,qm 116 15,qu 117 (qc 76 [114,115,116]),qm 8 117])) (.seq (.ai [qf 119 0 12,ql 120 119,qu 121 (.aF .geq 120 (qi 0)),qm 118 121]) (.cond 118 (.ai [qu 8 (.aH (qi 7))]) (.seq (.ai [qm 123 1,qu 124 (.aY 123),qf 125 1 124,ql 126 125,qu 127 (.aF .eql 126 (qi 13)),qm 122 127]) (.cond 122 (.bX [qm 129 0,qL 130 3 12,qm 131 1,qu 132 (.aY 131),qf 133 8 132,ql 134 133,qu 135 (.J8 134),qu 136 (.build [qd 0,.aI,.aI,(.aa (.val (.string ⟨#[]⟩))),qd 0,.aI,qd 0,qd 0,qd 0] [(0,1,qi 3),(3,1,135)]),qu 137 (qc 77 [129,130,136]),qm 128 137,qu 138 (.ext 128 0),qu 139 (.ext 128 1),qm 8 139] [(.cons 0 none (.cons 1 none (.cons 2 none (.cons 3 none (.cons 4 none (.cons 5 none (.cons 6 (some [1]) (.cons 7 none (.cons 8 (some []) (.cons 9 none (.cons 10 none (.cons 11 none (.cons 12 none .nil)))))))))))))]) (.ai [qm 70 0,qL 71 3 12,qu 72 (.build [qd 0,.aI,.aI,(.aa (.val (.string ⟨#[]⟩))),qd 0,.aI,qd 0,qd 0,qd 0] [(0,1,qi 2)]),qu 73 (qc 77 [70,71,72]),qm 69 73,qu 74 (.ext 69 0),qu 75 (.ext 69 1),qm 8 75])))))))))))))) (.cu (.seq (.ai [qm 140 8,qu 141 (.build [qd 0,qd 0,qd 0,.aI] [(0,1,140)]),qw (.store 4 4 141)]) .ret)))))))))))))⟩
namespace Kn
def wC(d:List Int):bP.dG:=d.map fun n=>UInt8.ofNat n.toNat
def wD(d:List Int):Obj:=⟨3,[],[],bP.cK (wC d),0,[],0,0,0⟩
def Fd:Obj:=⟨2,[],[],⟨#[]⟩,0,[],0,0,0⟩
theorem Ar(k:Int)(t:ByteArray):Pq ⟨k,[],[],t,0,[],0,0,0⟩:=⟨⟨⟨⟨[],rfl⟩,⟨[],rfl⟩,aG⟩,aG,aG,aG,aG⟩,rfl⟩
def Fe(k:Kr)(f:R4):List Obj×Int×Int:=df k.l f.cT (bP.cK f.name)
def oD(k:Kr)(c:Cl)(f:R4):Kr×Int:=
 if f.js≠0 then(k,f.js)
 else if f.name=[]then(k,8)
 else if c.ah=14 then(if f.bD<0 then(k,6)else(dt k (Fe k f).1 (Fe k f).2.2,(Fe k f).2.2))
 else if f.bD>=0 then(k,7)
 else if c.ah=13 then((c7 k f (wD c.data)).1,(c7 k f (wD c.data)).2.2)
 else((c7 k f Fd).1,(c7 k f Fd).2.2)
def yI(c:Cl):Int:=if c.ah=14 then 40 else 24
def jO(k:Kr)(c:Cl)(w:(Int×Int)×Int×Int):Kr×Int:=
 if w.2.2≠0 then(k,w.2.2)
 else if c.ah=13/\(bP.cM (wC c.data)).2.2≠0 then(k,(bP.cM (wC c.data)).2.2)
 else oD k c (jx k w.2.1 c.cN true false)
def Pv(x:Kr×Int):Kr×An:=(x.1,An.no x.2)
def lP(k:Kr)(p:Nat)(c:Cl):Kr×An:=Pv (jO k c (bH k p c.fd (yI c)))
theorem l41:bx Tryz.prog Tryz.f41=some c41.er:=by kernel_rfl
def aat:LC:=bv (bv (bv c41.code))
def WD:LC:=lX aat
def aau:LC:=bv (bv (bv WD))
def WE:LC:=lX aau
def aav:LC:=bv WE
def WG:LC:=lX aav
def WH:LC:=bv WG
def WI:LC:=lX WH
theorem Jb(k:Kr)(p:Nat)(c:Cl)(e:Int):
  aw Tryz.prog 2 WI (QC c41.kD k p c (An.no e)) ⟨iL 142 [(0,.rv (.one (.ptr 0 0))),(1,.rv (.one (.ptr 1 0))),(4,.rv (.one (.ptr 2 0))),(8,an .i64 e)],[xB k p,cB c,cf]⟩:=dg (X:=[_])
theorem aaw(t:bP.dG){A B:Prop}(ha:t=[]->A)(hb:t≠[]->B): @Bool.rec (fun _=>Prop) B A ((bP.cK t).toList==(⟨#[]⟩:ByteArray).toList):=bP.kW (b:=[]) ha hb
theorem m3{σ:Nat->Nat}(hσ:σ 0=0/\σ 1=1/\σ 2=2){Z:Nat->Prop}(hZ:¬Z 0/\¬Z 1/\¬Z 2){k:Kr}{p:Nat}{c:Cl}{X:Mem}:dV σ (xB k p::cB c::cf::X) Z 0 [xB k p,cB c,cf]:=by
 obtain⟨h0,h1,h2⟩:=hσ;obtain⟨z0,z1,z2⟩:=hZ;exact .put (by rw[h0];exact z0) (by rw[h0];rfl) (.eq rfl (bL _ _)) (.put (by rw[h1];exact z1) (by rw[h1];rfl) (.eq rfl (cI _)) (.put (by rw[h2];exact z2) (by rw[h2];rfl) (.eq rfl (by simp[cf])) (.nil _)))
theorem MV(k:Kr)(p:Nat)(hw:KW k p)(c:Cl)(f:R4):
  aw Tryz.prog 2 WG (QC c41.kD (Pv (oD k c f)).1 p c (Pv (oD k c f)).2)
   ⟨iL 142 [(0,.rv (.one (.ptr 0 0))),(1,.rv (.one (.ptr 1 0))),(4,.rv (.one (.ptr 2 0))),(8,an .i64 f.js),(12,.rv (.one (.ptr 3 0)))],[xB k p,cB c,cf,.var ((Uf f).map .aa)]⟩:=by
 have Ff:=fun k e=>Jb k p c e
 obtain⟨bD,cT,name,js⟩:=f;refine bG (fun he=>?_) (fun he=>?_)
 .have he:js≠0:=he;have e1:oD k c ⟨bD,cT,name,js⟩=(k,js):=by rw[oD,if_pos he]
  rw[e1];refine⟨_,View.o 4 [0,1,2] [] ?_ (m3 ⟨rfl,rfl,rfl⟩ ⟨e9 rfl,e9 rfl,e9 rfl⟩),Ff k js⟩;repeat(first|exact .nil|refine .aq ?_|refine .eq rfl ?_)
 have he:js=0:=he;subst he;refine aaw name (fun h1=>?_) (fun h1=>?_)
 .have e1:oD k c ⟨bD,cT,name,0⟩=(k,8):=by rw[oD,if_neg aG,if_pos h1]
  rw[e1];refine⟨_,View.o 4 [0,1,2] [] ?_ (m3 ⟨rfl,rfl,rfl⟩ ⟨e9 rfl,e9 rfl,e9 rfl⟩),Ff k 8⟩;repeat(first|exact .nil|refine .aq ?_|refine .eq rfl ?_)
 have e0:oD k c ⟨bD,cT,name,0⟩=if c.ah=14 then(if bD<0 then(k,6)else(dt k (Fe k ⟨bD,cT,name,0⟩).1 (Fe k ⟨bD,cT,name,0⟩).2.2,(Fe k ⟨bD,cT,name,0⟩).2.2))
   else if bD>=0 then(k,7)
   else if c.ah=13 then((c7 k ⟨bD,cT,name,0⟩ (wD c.data)).1,(c7 k ⟨bD,cT,name,0⟩ (wD c.data)).2.2)
   else((c7 k ⟨bD,cT,name,0⟩ Fd).1,(c7 k ⟨bD,cT,name,0⟩ Fd).2.2):=by rw[oD,if_neg aG,if_neg h1]
 rw[e0];refine bI (fun MW=>?_) (fun MW=>?_)
 .have MW:c.ah=14:=MW;rw[if_pos MW];refine ay (fun ho=>?_) (fun ho=>?_)
  .have ho:bD<0:=ho;rw[if_pos ho];refine⟨_,View.o 4 [0,1,2] [] ?_ (m3 ⟨rfl,rfl,rfl⟩ ⟨e9 rfl,e9 rfl,e9 rfl⟩),Ff k 6⟩;repeat(first|exact .nil|refine .aq ?_|refine .eq rfl ?_)
  have ho:¬bD<0:=ho;rw[if_neg ho];refine bY (beq_iff_eq.2 MW) ?_;refine EV k.l hw.Df cT (bP.cK name) ?_;refine⟨trivial,?_⟩;refine m8 k p hw.kr _ _ 0 rfl ?_;refine⟨_,View.o 4 [0,1,2] [] ?_ (m3 ⟨rfl,rfl,rfl⟩ ⟨e9 rfl,e9 rfl,e9 rfl⟩),Ff _ _⟩;repeat(first|exact .nil|refine .aq ?_|refine .eq rfl ?_)
 have MW:¬c.ah=14:=MW;rw[if_neg MW];refine dU (beq_eq_false_iff_ne.2 MW) ?_;refine ay (fun ho=>?_) (fun ho=>?_)
 .have ho:bD>=0:=ho;rw[if_pos ho];refine⟨_,View.o 4 [0,1,2] [] ?_ (m3 ⟨rfl,rfl,rfl⟩ ⟨e9 rfl,e9 rfl,e9 rfl⟩),Ff k 7⟩;repeat(first|exact .nil|refine .aq ?_|refine .eq rfl ?_)
 have ho:¬bD>=0:=ho;rw[if_neg ho];refine bI (fun Dg=>?_) (fun Dg=>?_)
 .have Dg:c.ah=13:=Dg;rw[if_pos Dg];refine ag (gj c.data) ?_;refine⟨⟨rfl,trivial⟩,?_⟩;refine mw (Ao _ _ _ _) (sR k p hw ⟨bD,cT,name,0⟩ (wD c.data) (Ar _ _) 0 rfl ?_);refine⟨trivial,?_⟩;refine⟨_,View.o 4 [0,1,2] [] ?_ (m3 ⟨rfl,rfl,rfl⟩ ⟨e9 rfl,e9 rfl,e9 rfl⟩),Ff _ _⟩;repeat(first|exact .nil|refine .aq ?_|refine .eq rfl ?_)
 have Dg:¬c.ah=13:=Dg;rw[if_neg Dg];refine mw (Ao _ _ _ _) (sR k p hw ⟨bD,cT,name,0⟩ Fd (Ar _ _) 0 rfl ?_);refine⟨_,View.o 4 [0,1,2] [] ?_ (m3 ⟨rfl,rfl,rfl⟩ ⟨e9 rfl,e9 rfl,e9 rfl⟩),Ff _ _⟩;repeat(first|exact .nil|refine .aq ?_|refine .eq rfl ?_)
theorem Cx(k:Kr)(p:Nat)(hw:KW k p)(c:Cl)(aA:Int)(R:Kr×Int)(hR:R=oD k c (jx k aA c.cN true false)):
  aw Tryz.prog 2 WE (QC c41.kD (Pv R).1 p c (Pv R).2)
   ⟨iL 142 [(0,.rv (.one (.ptr 0 0))),(1,.rv (.one (.ptr 1 0))),(4,.rv (.one (.ptr 2 0))),(7,an .i64 aA)],[xB k p,cB c,cf]⟩:=by
 have hs:=MV k p hw c (jx k aA c.cN true false);rw[<-hR]at hs;refine⟨?_,?_⟩
 .refine rG k p hw aA c.cN true false ?_;refine⟨trivial,⟨rfl,rfl,trivial⟩,trivial,_,View.o1 4 [0,1,2,3] [] ?_,hs⟩
  .exact .pt rfl rfl (.eq rfl (bL _ _)) (.pt rfl rfl (.eq rfl (cI _)) (.pt rfl rfl (.eq rfl (by simp[cf])) (.pm rfl rfl rfl)))
 .refine⟨⟨rfl,rfl,trivial⟩,?_⟩;refine rG k p hw aA c.cN true false ?_;refine⟨trivial,trivial,_,View.o1 4 [0,1,2,3] [] ?_,hs⟩
  .exact .pt rfl rfl (.eq rfl (bL _ _)) (.pt rfl rfl (.eq rfl (cI _)) (.pt rfl rfl (.eq rfl (by simp[cf])) (.pm rfl rfl rfl)))
theorem MX(k:Kr)(p:Nat)(hw:KW k p)(c:Cl)(need:Int):
  aw Tryz.prog 2 WD (QC c41.kD (Pv (jO k c (bH k p c.fd need))).1 p c (Pv (jO k c (bH k p c.fd need))).2)
   ⟨iL 142 [(0,.rv (.one (.ptr 0 0))),(1,.rv (.one (.ptr 1 0))),(4,.rv (.one (.ptr 2 0))),(5,an .i64 need)],[xB k p,cB c,cf]⟩:=by
 refine j7 k p hw c.fd need 0 rfl ?_;generalize bH k p c.fd need=w;obtain⟨⟨o,r⟩,b,e⟩:=w;refine bG (fun he=>?_) (fun he=>?_)
 .have he:e≠0:=he;have e1:jO k c ((o,r),b,e)=(k,e):=by rw[jO,if_pos he]
  rw[e1];exact dg (X:=[_,_])
 have he:e=0:=he;subst he;refine bI (fun Dg=>?_) (fun Dg=>?_)
 .have Dg:c.ah=13:=Dg;refine ag (gj c.data) ?_;refine bP.v7 (wC c.data) ?_;refine bG (fun hs=>?_) (fun hs=>?_)
  .have hs:(bP.cM (wC c.data)).2.2≠0:=hs;have e1:jO k c ((o,r),b,0)=(k,(bP.cM (wC c.data)).2.2):=by rw[jO,if_neg aG,if_pos ⟨Dg,hs⟩]
   rw[e1];exact dg (X:=[_,_])
  .have hs:¬(bP.cM (wC c.data)).2.2≠0:=fun h=>h hs
   refine⟨_,View.o 4 [0,1,2] [] ?_ (m3 ⟨rfl,rfl,rfl⟩ ⟨e9 rfl,e9 rfl,e9 rfl⟩),Cx k p hw c b (jO k c ((o,r),b,0)) (by rw[jO,if_neg aG,if_neg (fun h=>hs h.2)])⟩
   repeat(first|exact .nil|refine .aq ?_|refine .eq rfl ?_)
 .have Dg:¬c.ah=13:=Dg;refine⟨_,View.o 4 [0,1,2] [] ?_ (m3 ⟨rfl,rfl,rfl⟩ ⟨e9 rfl,e9 rfl,e9 rfl⟩),Cx k p hw c b (jO k c ((o,r),b,0)) (by rw[jO,if_neg aG,if_neg (fun h=>Dg h.1)])⟩
  repeat(first|exact .nil|refine .aq ?_|refine .eq rfl ?_)
theorem sM(k:Kr)(p:Nat)(hw:KW k p)(c:Cl):
  body Tryz.prog c41 [.rv (.one (.ptr 0 0)),.rv (.one (.ptr 1 0))] [xB k p,cB c] (TC (lP k p c).1 p c (lP k p c).2):=by
 have hs:=fun need=>MX k p hw c need
 refine bI (fun h=>?_) (fun h=>?_)
 .have h:c.ah=14:=h;have e:lP k p c=Pv (jO k c (bH k p c.fd 40)):=by rw[lP,yI,if_pos h]
  rw[e];refine⟨_,View.o 3 [0,1,2] [] ?_ (m3 ⟨rfl,rfl,rfl⟩ ⟨e9 rfl,e9 rfl,e9 rfl⟩),hs 40⟩;repeat(first|exact .nil|refine .aq ?_|refine .eq rfl ?_)
 .have h:¬c.ah=14:=h;have e:lP k p c=Pv (jO k c (bH k p c.fd 24)):=by rw[lP,yI,if_neg h]
  rw[e];refine⟨_,View.o 3 [0,1,2] [] ?_ (m3 ⟨rfl,rfl,rfl⟩ ⟨e9 rfl,e9 rfl,e9 rfl⟩),hs 24⟩;repeat(first|exact .nil|refine .aq ?_|refine .eq rfl ?_)
theorem sW(k:Kr)(p:Nat)(hw:KW k p)(c:Cl):au Tryz.prog 41 [.rv (.one (.ptr 0 0)),.rv (.one (.ptr 1 0))] [xB k p,cB c] (TC (lP k p c).1 p c (lP k p c).2):=
 cg Tryz.func41 l41 (sM k p hw c)
end Kn
def c43:LF:= ⟨85,[.cell true 4 4],(.seq (.ai [qu 4 (.alloc [qd 0,qd 0,qd 0,.aI])]) (.seq (.ai [qm 11 0,qm 12 1,qu 13 (.aY 12),qf 14 2 13,ql 15 14,qu 16 (qc 63 [11,15,qi 256]),qm 10 16,qu 17 (.ext 10 0),qu 18 (.ext 10 1),qu 19 (.ext 10 2),qu 5 (.alloc [qd 0,qd 0]),qw (.store 2 5 17),qm 6 18,qm 7 19]) (.seq (.seq (.ai [qm 20 7,qu 21 (.aF .neq 20 (qi 0))]) (.cond 21 (.seq (.ai [qm 22 7,qu 23 (.build [qd 0,qd 0,qd 0,.aI] [(0,1,22)]),qw (.store 4 4 23)]) .ret) .skip)) (.seq (.ai [qm 24 1,qu 25 (.aY 24),qf 26 8 25,ql 27 26,qu 28 (.build [.aI,(.aa (.val (.bool false))),qd 0,qd 0] [(0,1,27)]),qu 8 (.alloc [.aI,(.aa (.val (.bool false))),qd 0,qd 0]),qw (.store 4 8 28)]) (.seq (.seq (.ai [qm 29 1,qu 30 (.aY 29),qf 31 3 30,ql 32 31,qu 33 (.aF .geq 32 (qi 0))]) (.cond 33 (.seq (.seq (.bX [qm 35 0,qu 36 (.aY 35),qf 37 0 36,qf 38 2 37,ql 39 38,qm 40 0,qu 41 (.aY 40),qf 42 3 41,ql 43 42,qu 44 (.bW 4 39 43),qf 45 3 44,ql 46 45,qm 47 1,qu 48 (.aY 47),qf 49 3 48,ql 50 49,qu 51 (qc 80 [46,50]),qm 34 51,qu 52 (.ext 34 0),qu 53 (.ext 34 1),qf 54 2 8,qw (.store 2 54 52),qm 7 53] [(.cons 0 none (.cons 1 none (.cons 2 none (.cons 3 none (.cons 4 none (.cons 5 none (.cons 6 none (.cons 7 none (.cons 8 none (.cons 9 none (.cons 10 none (.cons 11 none (.cons 12 none (.cons 13 none (.cons 14 none (.cons 15 none (.cons 16 (some []) (.cons 17 none (.cons 18 none (.cons 19 none (.cons 20 none (.cons 21 (some []) (.cons 22 none .nil)))))))))))))))))))))))]) (.seq (.ai [qm 55 7,qu 56 (.aF .neq 55 (qi 0))]) (.cond 56 (.seq (.ai [qm 57 7,qu 58 (.build [qd 0,qd 0,qd 0,.aI] [(0,1,57)]),qw (.store 4 4 58)]) .ret) .skip))) (.ai [qf 59 1 8,qw (.store 1 59 (qb true))])) .skip)) (.cu (.seq (.bX [qm 61 0,qu 62 (.aY 61),qf 63 0 62,qf 64 0 63,ql 65 64,qm 66 6,qL 67 4 8,qu 68 (qc 81 [65,66,67]),qm 60 68,qu 69 (.ext 60 0),qu 70 (.ext 60 1),qm 9 69,qm 7 70] [(.cons 0 none (.cons 1 none (.cons 2 none (.cons 3 none (.cons 4 none (.cons 5 none (.cons 6 none (.cons 7 (some []) (.cons 8 none (.cons 9 none (.cons 10 none (.cons 11 none (.cons 12 none .nil)))))))))))))]) (.seq (.seq (.ai [qm 71 0,qm 72 9,qm 73 7,qu 74 (qc 76 [71,72,73]),qm 7 74]) (.seq (.ai [qm 75 7,qu 76 (.aF .neq 75 (qi 0))]) (.cond 76 (.seq (.ai [qm 77 7,qu 78 (.build [qd 0,qd 0,qd 0,.aI] [(0,1,77)]),qw (.store 4 4 78)]) .ret) .skip))) (.seq (.ai [qm 79 1,qu 80 (.aY 79),qf 81 8 80,ql 82 81,qu 83 (.len 1 82),qu 84 (.build [qd 0,qd 0,qd 0,.aI] [(1,1,83)]),qw (.store 4 4 84)]) .ret)))))))))⟩
def c44:LF:= ⟨82,[.cell true 4 4],(.seq (.ai [qu 4 (.alloc [qd 0,qd 0,qd 0,.aI])]) (.seq (.ai [qm 15 0,qm 16 1,qu 17 (.aY 16),qf 18 2 17,ql 19 18,qu 20 (qc 63 [15,19,qi 512]),qm 14 20,qu 21 (.ext 14 0),qu 22 (.ext 14 1),qu 23 (.ext 14 2),qu 5 (.alloc [qd 0,qd 0]),qw (.store 2 5 21),qm 6 22,qm 7 23]) (.seq (.seq (.ai [qm 24 7,qu 25 (.aF .neq 24 (qi 0))]) (.cond 25 (.seq (.ai [qm 26 7,qu 27 (.build [qd 0,qd 0,qd 0,.aI] [(0,1,26)]),qw (.store 4 4 27)]) .ret) .skip)) (.seq (.ai [qm 29 0,qu 30 (.aY 29),qf 31 0 30,qf 32 0 31,ql 33 32,qm 34 6,qu 35 (qc 82 [33,34]),qm 28 35,qu 36 (.ext 28 0),qu 37 (.ext 28 1),qu 38 (.ext 28 2),qu 9 (.alloc [.aI,(.aa (.val (.bool false))),qd 0,qd 0]),qm 8 36,qw (.store 4 9 37),qm 7 38]) (.seq (.seq (.ai [qm 39 7,qu 40 (.aF .neq 39 (qi 0))]) (.cond 40 (.seq (.ai [qm 41 7,qu 42 (.build [qd 0,qd 0,qd 0,.aI] [(0,1,41)]),qw (.store 4 4 42)]) .ret) .skip)) (.seq (.ai [qu 10 (.aH (qi (-1)))]) (.seq (.seq (.ai [qf 43 1 9,ql 44 43]) (.cond 44 (.seq (.bX [qm 46 0,qu 47 (.aY 46),qf 48 0 47,qf 49 2 48,ql 50 49,qm 51 0,qu 52 (.aY 51),qf 53 3 52,ql 54 53,qu 55 (.bW 4 50 54),qf 56 3 55,ql 57 56,qf 58 2 9,qL 59 2 58,qu 60 (qc 83 [57,59]),qm 45 60,qu 61 (.ext 45 0),qu 62 (.ext 45 1),qu 63 (.ext 45 2),qm 11 61,qm 12 62,qm 13 63] [(.cons 0 none (.cons 1 none (.cons 2 none (.cons 3 none (.cons 4 none (.cons 5 none (.cons 6 none (.cons 7 none (.cons 8 none (.cons 9 none (.cons 10 none (.cons 11 none (.cons 12 none (.cons 13 none (.cons 14 (some []) (.cons 15 none (.cons 16 none (.cons 17 none (.cons 18 none (.cons 19 none (.cons 20 none (.cons 21 none .nil))))))))))))))))))))))]) (.seq (.seq (.ai [qm 64 13,qu 65 (.aF .neq 64 (qi 0))]) (.cond 65 (.seq (.ai [qm 66 13,qu 67 (.build [qd 0,qd 0,qd 0,.aI] [(0,1,66)]),qw (.store 4 4 67)]) .ret) .skip)) (.seq (.ai [qm 68 0,qm 69 11,qu 70 (qc 70 [68,69,qi 0])]) (.ai [qm 71 12,qm 10 71])))) .skip)) (.cu (.seq (.ai [qm 72 0,qm 73 8,qu 74 (qc 76 [72,73,qi 0])]) (.seq (.ai [qf 75 0 9,ql 76 75,qu 77 (.len 1 76),qm 78 10,qf 79 0 9,ql 80 79,qu 81 (.build [qd 0,qd 0,qd 0,.aI] [(1,1,77),(2,1,78),(3,1,80)]),qw (.store 4 4 81)]) .ret))))))))))⟩
namespace Kn
def yJ(d:List Int)(g:(Int×Int)×Bool):bw:=⟨gM d,g.2,g.1.1,g.1.2⟩
def nu(k:Kr)(c:Cl)(r:List Obj×Int):Kr×An:=(dt k r.1 r.2,if r.2≠0 then An.no r.2 else⟨0,c.data.length,0,[]⟩)
def yK(k:Kr)(p:Nat)(c:Cl)(bD:Int):Kr×An:=
 if c.gA>=0 then
  (if(rF (ba k.ps p) c.gA).2≠0 then(k,An.no (rF (ba k.ps p) c.gA).2)else nu k c (fk k.l bD (yJ c.data ((rF (ba k.ps p) c.gA).1,true))))
 else nu k c (fk k.l bD (yJ c.data ((0,0),false)))
def Cy(k:Kr)(p:Nat)(c:Cl)(w:(Int×Int)×Int×Int):Kr×An:=if w.2.2≠0 then(k,An.no w.2.2)else yK k p c w.2.1
def nv(k:Kr)(p:Nat)(c:Cl):Kr×An:=Cy k p c (bH k p c.fd 256)
theorem l43:bx Tryz.prog Tryz.f43=some c43.er:=by kernel_rfl
def aax:LC:=bv (bv (bv (bv (bv c43.code))))
def aay:LC:=lX aax
theorem MY(k:Kr)(p:Nat)(hw:KW k p)(c:Cl)(bD:Int)(m:bw)(hm:m.data.length<=4194304):
  aw Tryz.prog 2 aay (QC c43.kD (nu k c (fk k.l bD m)).1 p c (nu k c (fk k.l bD m)).2)
   ⟨iL 85 [(0,.rv (.one (.ptr 0 0))),(1,.rv (.one (.ptr 1 0))),(4,.rv (.one (.ptr 2 0))),(6,an .i64 bD),(8,.rv (.one (.ptr 3 0)))],[xB k p,cB c,cf,.var (m.enc.map .aa)]⟩:=by
 refine OI k.l hw.mL bD m hm ?_;generalize fk k.l bD m=r;obtain⟨l,e⟩:=r;refine⟨trivial,?_⟩;refine m8 k p hw.kr l e 0 rfl ?_;refine bG (fun he=>?_) (fun he=>?_)
 .have he:e≠0:=he;rw[nu,if_pos he];exact dg (X:=[_,_])
 .have he:¬e≠0:=fun h=>h he
  have hq:(c.data.length:Int)=((gM c.data).length:Int):=by simp[gM]
  rw[nu,if_neg he,hq];exact dg (X:=[_,_])
theorem su(k:Kr)(p:Nat)(hw:KW k p)(c:Cl)(hd:c.data.length<=4194304):
  body Tryz.prog c43 [.rv (.one (.ptr 0 0)),.rv (.one (.ptr 1 0))] [xB k p,cB c] (TC (nv k p c).1 p c (nv k p c).2):=by
 have hs:=fun bD m hm=>MY k p hw c bD m hm
 have lH:(gM c.data).length<=4194304:=by simpa[gM]using hd
 refine j7 k p hw c.fd 256 0 rfl ?_;have hS:nv k p c=Cy k p c (bH k p c.fd 256):=rfl;rw[hS];clear hS;generalize bH k p c.fd 256=w;obtain⟨⟨o,r⟩,b,e⟩:=w;refine bG (fun he=>?_) (fun he=>?_)
 .have he:e≠0:=he;rw[Cy,if_pos he];exact dg (X:=[_,_])
 have he:e=0:=he;subst he;rw[Cy,if_neg aG];refine ay (fun h2=>?_) (fun h2=>?_)
 .have h2:c.gA>=0:=h2;have hg:=dW hw.hp;rw[<-i5 hw.hp]at hg;refine ag hg ?_;have e1:yK k p c b=if(rF (ba k.ps p) c.gA).2≠0 then(k,An.no (rF (ba k.ps p) c.gA).2)else nu k c (fk k.l b (yJ c.data ((rF (ba k.ps p) c.gA).1,true))):=by rw[yK,if_pos h2]
  rw[e1];refine Pn (ba k.ps p) c.gA ?_;generalize rF (ba k.ps p) c.gA=g;obtain⟨⟨go,gr⟩,e⟩:=g;refine⟨trivial,trivial,?_⟩;refine bG (fun he=>?_) (fun he=>?_)
  .have he:e≠0:=he;rw[if_pos he];exact dg (X:=[_,_,_])
  have he:¬e≠0:=fun h=>h he
  rw[if_neg he];refine⟨_,View.o1 5 [0,1,2,4] [] ?_,hs b (yJ c.data ((go,gr),true)) lH⟩
  .exact .pt rfl rfl (.eq rfl (bL _ _)) (.pt rfl rfl (.eq rfl (cI _)) (.pt rfl rfl (.eq rfl (by simp[cf])) (.pm rfl rfl rfl)))
 .have h2:¬c.gA>=0:=h2;have e1:yK k p c b=nu k c (fk k.l b (yJ c.data ((0,0),false))):=by rw[yK,if_neg h2]
  rw[e1];refine⟨_,View.o1 5 [0,1,2,4] [] ?_,hs b (yJ c.data ((0,0),false)) lH⟩
  .exact .pt rfl rfl (.eq rfl (bL _ _)) (.pt rfl rfl (.eq rfl (cI _)) (.pt rfl rfl (.eq rfl (by simp[cf])) (.pm rfl rfl rfl)))
theorem Jc(k:Kr)(p:Nat)(hw:KW k p)(c:Cl)(hd:c.data.length<=4194304):au Tryz.prog 43 [.rv (.one (.ptr 0 0)),.rv (.one (.ptr 1 0))] [xB k p,cB c] (TC (nv k p c).1 p c (nv k p c).2):=
 cg Tryz.func43 l43 (su k p hw c hd)
def yL(k:Kr)(l:List Obj)(m:bw)(fd:Int):Kr×An:=(dt k l 0,⟨0,m.data.length,fd,m.data⟩)
def Cz(k:Kr)(p:Nat)(r:List Obj×bw×Int):Kr×An:=
 if r.2.2≠0 then(k,An.no r.2.2)
 else if r.2.1.has=true then
  (if(gH (ba k.ps p) r.2.1.dk r.2.1.bZ).2.2≠0 then(k,An.no (gH (ba k.ps p) r.2.1.dk r.2.1.bZ).2.2)
   else yL (jD k p (gH (ba k.ps p) r.2.1.dk r.2.1.bZ).1 0) r.1 r.2.1 (gH (ba k.ps p) r.2.1.dk r.2.1.bZ).2.1)
 else yL k r.1 r.2.1 (-1)
def CA(k:Kr)(p:Nat)(w:(Int×Int)×Int×Int):Kr×An:=if w.2.2≠0 then(k,An.no w.2.2)else Cz k p (fD k.l w.2.1)
def nw(k:Kr)(p:Nat)(c:Cl):Kr×An:=CA k p (bH k p c.fd 512)
theorem rI{l:List fz}{o r:Int}(hl:l.length<=10):(gH l o r).1.length<=10:=by
 unfold gH Tb.iH;split
 .simp
 .split
  .simpa using hl
  .split
   .simp
   .rename_i h;simp only[Nq,abO,aar,aby]at h⊢;omega
theorem MZ{k:Kr}(hk:dF k.l k.ops k.ps){p:Nat}(hp:p<k.ps.length){l:List fz}(hl:l.length<=10):dF k.l k.ops (fv k.ps p l):=by
 have e:fv k.ps p l=k.ps.set p {k.ps[p]with aJ:=l}:=by rw[fv,IE hp]
 rw[e];refine⟨hk.sm,hk.ll,hk.lo,by simpa using hk.lp,fun x hx=>?_,fun h=>hk.ne (by simpa using h)⟩
 rcases aaX hx with hx|rfl
 .exact hk.sl x hx
 .exact hl
theorem l44:bx Tryz.prog Tryz.f44=some c44.er:=by kernel_rfl
def aaz:LC:=bv (bv (bv (bv (bv (bv (bv c44.code))))))
def aaA:LC:=lX aaz
theorem CB(k:Kr)(p:Nat)(hk:dF k.l k.ops k.ps)(c:Cl)(l:List Obj)(m:bw)(fd:Int):
  aw Tryz.prog 2 aaA (QC c44.kD (yL k l m fd).1 p c (yL k l m fd).2)
   ⟨iL 82 [(0,.rv (.one (.ptr 0 0))),(1,.rv (.one (.ptr 1 0))),(4,.rv (.one (.ptr 2 0))),(8,b8 l),(9,.rv (.one (.ptr 3 0))),(10,an .i64 fd)],[xB k p,cB c,cf,.var (m.enc.map .aa)]⟩:=by
 refine m8 k p hk l 0 0 rfl ?_;exact E6 (k:=dt k l 0) (a:=⟨0,m.data.length,fd,m.data⟩) (X:=[_,_])
theorem sx(k:Kr)(p:Nat)(hw:KW k p)(c:Cl):
  body Tryz.prog c44 [.rv (.one (.ptr 0 0)),.rv (.one (.ptr 1 0))] [xB k p,cB c] (TC (nw k p c).1 p c (nw k p c).2):=by
 refine j7 k p hw c.fd 512 0 rfl ?_;have hS:nw k p c=CA k p (bH k p c.fd 512):=rfl;rw[hS];clear hS;generalize bH k p c.fd 512=w;obtain⟨⟨o,r⟩,b,e⟩:=w;refine bG (fun he=>?_) (fun he=>?_)
 .have he:e≠0:=he;rw[CA,if_pos he];exact dg (X:=[_,_])
 have he:e=0:=he;subst he;rw[CA,if_neg aG];refine OJ k.l hw.mL b ?_;generalize fD k.l b=R;obtain⟨l,m,e⟩:=R;refine bG (fun he=>?_) (fun he=>?_)
 .have he:e≠0:=he;rw[Cz,if_pos he];exact dg (X:=[_,_,_])
 have he:e=0:=he;subst he;have hR:Cz k p (l,m,0)=if m.has=true then
   (if(gH (ba k.ps p) m.dk m.bZ).2.2≠0 then(k,An.no (gH (ba k.ps p) m.dk m.bZ).2.2)
    else yL (jD k p (gH (ba k.ps p) m.dk m.bZ).1 0) l m (gH (ba k.ps p) m.dk m.bZ).2.1)
  else yL k l m (-1):=by rw[Cz,if_neg aG]
 rw[hR];clear hR;obtain⟨data,has,dk,bZ⟩:=m;cases has with
 |false=>
  rw[if_neg aG];refine⟨_,View.o1 5 [0,1,2,4] [] ?_,CB k p hw.kr c l ⟨data,false,dk,bZ⟩ (-1)⟩
  .exact .pt rfl rfl (.eq rfl (bL _ _)) (.pt rfl rfl (.eq rfl (cI _)) (.pt rfl rfl (.eq rfl (by simp[cf])) (.pm rfl rfl rfl)))
 |true=>
  rw[if_pos rfl];have hg:=dW hw.hp;rw[<-i5 hw.hp]at hg;have hl:(ba k.ps p).length<=10:=by rw[i5 hw.hp];exact hw.kr.sl _ (Z0 hw.hp)
  refine ag hg ?_;have fW:= @rI (ba k.ps p) dk bZ hl;refine zV (ba k.ps p) om dk bZ ?_;have hkr:= @MZ k hw.kr p hw.hp;generalize gH (ba k.ps p) dk bZ=T at fW⊢;obtain⟨t,fd,e⟩:=T;refine⟨trivial,?_⟩;refine bG (fun he=>?_) (fun he=>?_)
  .have he:e≠0:=he;rw[if_pos he];exact dg (X:=[_,_,_])
  have he:e=0:=he;subst he;rw[if_neg aG];refine Cr k p hw.kr hw.hp t 0 0 rfl ?_;refine⟨_,View.o1 5 [0,1,2,4] [] ?_,CB (jD k p t 0) p (hkr fW) c l ⟨data,true,dk,bZ⟩ fd⟩
  .exact .pt rfl rfl (.eq rfl (bL _ _)) (.pt rfl rfl (.eq rfl (cI _)) (.pt rfl rfl (.eq rfl (by simp[cf])) (.pm rfl rfl rfl)))
theorem Jd(k:Kr)(p:Nat)(hw:KW k p)(c:Cl):au Tryz.prog 44 [.rv (.one (.ptr 0 0)),.rv (.one (.ptr 1 0))] [xB k p,cB c] (TC (nw k p c).1 p c (nw k p c).2):=
 cg Tryz.func44 l44 (sx k p hw c)
end Kn
def c42:LF:= ⟨69,[.cell true 4 2],(.seq (.ai [qu 2 (.alloc [qd 0,qd 0,qd 0,.aI])]) (.seq (.ai [qm 10 0,qu 11 (.aY 10),qf 12 0 11,qf 13 0 12,ql 14 13,qu 15 (qc 78 [14]),qm 9 15,qu 16 (.ext 9 0),qu 17 (.ext 9 1),qu 18 (.ext 9 2),qu 4 (.alloc [qd 0,qd 0]),qm 3 16,qw (.store 2 4 17),qm 5 18]) (.seq (.seq (.ai [qm 19 5,qu 20 (.aF .neq 19 (qi 0))]) (.cond 20 (.seq (.ai [qm 21 5,qu 22 (.build [qd 0,qd 0,qd 0,.aI] [(0,1,21)]),qw (.store 4 2 22)]) .ret) .skip)) (.seq (.ai [qm 23 0,qu 24 (.aY 23),qf 25 0 24,qL 26 3 25,qu 27 (qc 66 [26]),qu 6 (.alloc [.aI,.aI,.aI]),qw (.store 3 6 27)]) (.seq (.ai [qm 28 3,qf 29 0 6,qw (.store 1 29 28)]) (.cu (.seq (.bX [qL 31 3 6,qm 32 0,qu 33 (.aY 32),qf 34 3 33,ql 35 34,qu 36 (.w9 2 1 4 (qi 0)),ql 37 36,qu 38 (qc 79 [31,35,37,qi 896]),qm 30 38,qu 39 (.ext 30 0),qu 40 (.ext 30 1),qu 41 (.ext 30 2),qw (.store 3 6 39),qm 7 40,qm 5 41] [(.cons 0 none (.cons 1 none (.cons 2 none (.cons 3 none (.cons 4 none (.cons 5 none (.cons 6 none (.cons 7 (some []) (.cons 8 none (.cons 9 none (.cons 10 none (.cons 11 none (.cons 12 (some []) (.cons 13 none (.cons 14 none .nil)))))))))))))))]) (.seq (.seq (.ai [qm 42 5,qu 43 (.aF .neq 42 (qi 0))]) (.cond 43 (.seq (.ai [qm 44 5,qu 45 (.build [qd 0,qd 0,qd 0,.aI] [(0,1,44)]),qw (.store 4 2 45)]) .ret) .skip)) (.seq (.bX [qL 47 3 6,qm 48 0,qu 49 (.aY 48),qf 50 3 49,ql 51 50,qu 52 (.w9 2 1 4 (qi 1)),ql 53 52,qu 54 (qc 79 [47,51,53,qi 896]),qm 46 54,qu 55 (.ext 46 0),qu 56 (.ext 46 1),qu 57 (.ext 46 2),qw (.store 3 6 55),qm 8 56,qm 5 57] [(.cons 0 none (.cons 1 none (.cons 2 none (.cons 3 none (.cons 4 none (.cons 5 none (.cons 6 none (.cons 7 (some []) (.cons 8 none (.cons 9 none (.cons 10 none (.cons 11 none (.cons 12 (some []) (.cons 13 none (.cons 14 none .nil)))))))))))))))]) (.seq (.seq (.ai [qm 58 5,qu 59 (.aF .neq 58 (qi 0))]) (.cond 59 (.seq (.ai [qm 60 5,qu 61 (.build [qd 0,qd 0,qd 0,.aI] [(0,1,60)]),qw (.store 4 2 61)]) .ret) .skip)) (.seq (.ai [qm 62 0,qL 63 3 6,qu 64 (.aY 62),qf 65 0 64,qw (.store 3 65 63)]) (.seq (.ai [qm 66 7,qm 67 8,qu 68 (.build [qd 0,qd 0,qd 0,.aI] [(1,1,66),(2,1,67)]),qw (.store 4 2 68)]) .ret))))))))))))⟩
namespace Kn
def wE(p:Nat)(a:Kr×Int×Int)(e1:Int)(k:Kr):Kr×An:=
 if a.2.2≠0 then(k,An.no a.2.2)
 else if(aP a.1 p e1 896).2.2≠0 then(k,An.no (aP a.1 p e1 896).2.2)
 else((aP a.1 p e1 896).1,⟨0,a.2.1,(aP a.1 p e1 896).2.1,[]⟩)
def CD(k:Kr)(p:Nat)(P:List Obj×(Int×Int)×Int):Kr×An:=
 if P.2.2≠0 then(k,An.no P.2.2)else wE p (aP ⟨P.1,k.ops,k.ps⟩ p P.2.1.1 896) P.2.1.2 k
def ny(k:Kr)(p:Nat):Kr×An:=CD k p (fC k.l)
structure S8(k:Kr)(p:Nat)(P:List Obj×(Int×Int)×Int):Prop where
 a:P.2.2=0->dF P.1 k.ops k.ps
 b:P.2.2=0->(aP ⟨P.1,k.ops,k.ps⟩ p P.2.1.1 896).2.2=0->dF (aP ⟨P.1,k.ops,k.ps⟩ p P.2.1.1 896).1.l (aP ⟨P.1,k.ops,k.ps⟩ p P.2.1.1 896).1.ops (aP ⟨P.1,k.ops,k.ps⟩ p P.2.1.1 896).1.ps/\p<(aP ⟨P.1,k.ops,k.ps⟩ p P.2.1.1 896).1.ps.length
theorem l42:bx Tryz.prog Tryz.f42=some c42.er:=by kernel_rfl
def aaB:LC:=bv (bv (bv (bv (bv c42.code))))
def aaC:LC:=lX aaB
def kB(k:Kr):Bk:= .var ((kC k.l k.ops k.ps).map .aa)
theorem fa(k:Kr):kB k≠.aW:=by intro h;cases h
def TP(k:Kr)(p:Nat)(a:An)(r:CV)(m:Mem):Prop:=∃r' m',View 1 ⟨[r],m⟩ ⟨[r'],m'⟩/\r'=a.cv/\m'=[xB k p]
theorem G3{k:Kr}{p:Nat}{X:Mem}{e n x:Int}:TP k p ⟨e,n,x,[]⟩ (.rv (.agg [.aa (.val (.int .i64 e)),.aa (.val (.int .i64 n)),.aa (.val (.int .i64 x)),.aI])) (xB k p::X):=
 ⟨_,_,View.of (X.length+1) [0] [] rfl rfl rfl rfl rfl (by simp[eO,Nat.blt]) (.put MQ .nil) (.pt rfl rfl (.eq rfl (bL _ _)) (.nil _)),rfl,rfl⟩
theorem M0(k:Kr)(p:Nat)(k1:Kr)(hp:p<k1.ps.length)(hk:dF k1.l k1.ops k1.ps)(e0 e1:Int)(hb:(aP k1 p e0 896).2.2=0->dF (aP k1 p e0 896).1.l (aP k1 p e0 896).1.ops (aP k1 p e0 896).1.ps/\p<(aP k1 p e0 896).1.ps.length):
  aw Tryz.prog 1 aaC (mg Tryz.prog c42.kD (TP (wE p (aP k1 p e0 896) e1 k).1 p (wE p (aP k1 p e0 896) e1 k).2))
   ⟨iL 69 [(0,.rv (.one (.ptr 0 0))),(2,.rv (.one (.ptr 1 0))),(4,.rv (.one (.ptr 2 0))),(6,.rv (.one (.ptr 3 0)))],[xB k p,cf,.var [.aa (.val (.int .i64 e0)),.aa (.val (.int .i64 e1))],kB k1]⟩:=by
 refine sK k1 hk p hp e0 896 ?_;generalize aP k1 p e0 896=A at hb⊢;obtain⟨k2,fd,e⟩:=A;refine⟨trivial,trivial,?_⟩;refine bG (fun he=>?_) (fun he=>?_)
 .have he:e≠0:=he;rw[wE,if_pos he];exact G3 (X:=[_,_,_])
 have he:e=0:=he;subst he;obtain⟨pd,G4⟩:=hb rfl;have e2:wE p (k2,fd,0) e1 k=if(aP k2 p e1 896).2.2≠0 then(k,An.no (aP k2 p e1 896).2.2)else((aP k2 p e1 896).1,⟨0,fd,(aP k2 p e1 896).2.1,[]⟩):=by rw[wE,if_neg aG]
 rw[e2];refine sK k2 pd p G4 e1 896 ?_;generalize aP k2 p e1 896=B;obtain⟨k3,gA,e⟩:=B;refine⟨trivial,trivial,?_⟩;refine bG (fun he=>?_) (fun he=>?_)
 .have he:e≠0:=he;rw[if_pos he];exact G3 (X:=[_,_,_])
 have he:¬e≠0:=fun h=>h he
 rw[if_neg he];exact G3 (k:=k3) (X:=[_,_,_])
theorem Fg(k:Kr)(p:Nat)(hw:KW k p)(hi:S8 k p (fC k.l)):
  body Tryz.prog c42 [.rv (.one (.ptr 0 0))] [xB k p] (TP (ny k p).1 p (ny k p).2):=by
 refine OH k.l hw.mL ?_;have hS:ny k p=CD k p (fC k.l):=rfl;rw[hS];clear hS;generalize fC k.l=P at hi⊢;obtain⟨l,⟨e0,e1⟩,e⟩:=P;refine bG (fun he=>?_) (fun he=>?_)
 .have he:e≠0:=he;rw[CD,if_pos he];exact G3 (X:=[_,_])
 have he:e=0:=he;subst he;rw[CD,if_neg aG];refine iv k.l k.ops k.ps hw.mL hw.kr.lo hw.kr.lp hw.kr.sl hw.kr.ne ?_;refine⟨_,View.o1 7 [0,1,2,6] [3,4,5] ?_,M0 k p ⟨l,k.ops,k.ps⟩ hw.hp (hi.a rfl) e0 e1 (hi.b rfl)⟩
 .exact .pt rfl rfl (.eq rfl (bL _ _)) (.pt rfl rfl (.eq rfl (by simp[cf])) (.pe rfl rfl rfl (.pt rfl rfl (eP.var (.cons (.aO (.aa _)) (.cons (.e8 (ia rfl rfl)) (.cons (.e8 (ia rfl rfl)) .nil)))) (.nil _))))
theorem M1(k:Kr)(p:Nat)(hw:KW k p)(hi:S8 k p (fC k.l)){m:Mem}(id:Nat)(hb:dd m id=some (xB k p)){K:CV->Mem->Prop}(hK:K (ny k p).2.cv (bb m id (xB (ny k p).1 p))):
  au Tryz.prog 42 [.rv (.one (.ptr id 0))] m K:=
 GZ (args:=[]) (fun _=>rfl) (fun _=>rfl)
  (bJ (cg Tryz.func42 l42 (Fg k p hw hi)) fun r m1⟨r',m',hv,hq⟩=>⟨r',m',hv,hq⟩) id hb hK
end Kn
def c45:LF:= ⟨195,[.cell true 4 4],(.seq (.ai [qu 4 (.alloc [qd 0,qd 0,qd 0,.aI])]) (.seq (.seq (.ai [qm 17 1,qu 18 (.aY 17),qf 19 1 18,ql 20 19]) (.block 0 (.seq (.ai [qu 22 (.aF .eql 20 (qi 1)),qm 21 22]) (.cond 21 (.seq (.ai [qm 23 0,qm 24 0,qu 25 (.aY 24),qf 26 0 25,qL 27 3 26,qu 28 (qc 66 [27]),qu 29 (.aY 23),qf 30 0 29,qw (.store 3 30 28)]) (.seq (.bX [qm 31 0,qu 32 (.aY 31),qf 33 0 32,qf 34 2 33,ql 35 34,qm 36 0,qu 37 (.aY 36),qf 38 3 37,ql 39 38,qu 40 (.bW 4 35 39),qf 41 1 40,qw (.store 1 41 (qb true))] [(.cons 0 none (.cons 1 none (.cons 2 none (.cons 3 none (.cons 4 none (.cons 5 none (.cons 6 none (.cons 7 none (.cons 8 none (.cons 9 none (.cons 10 none (.cons 11 (some []) .nil))))))))))))]) (.seq (.ai [qu 42 (.build [qd 0,qd 0,qd 0,.aI] []),qw (.store 4 4 42)]) .ret))) (.seq (.ai [qu 44 (.aF .eql 20 (qi 22)),qm 43 44]) (.cond 43 (.seq (.seq (.bX [qm 45 0,qu 46 (.aY 45),qf 47 0 46,qf 48 2 47,ql 49 48,qm 50 0,qu 51 (.aY 50),qf 52 3 51,ql 53 52,qu 54 (.bW 4 49 53),qf 55 1 54,ql 56 55] [(.cons 0 none (.cons 1 none (.cons 2 none (.cons 3 none (.cons 4 none (.cons 5 none (.cons 6 none (.cons 7 none (.cons 8 none (.cons 9 none (.cons 10 none (.cons 11 none .nil))))))))))))]) (.cond 56 (.seq (.ai [qu 57 (.build [qd 0,qd 0,qd 0,.aI] [(1,1,qi 1)]),qw (.store 4 4 57)]) .ret) .skip)) (.seq (.ai [qu 58 (.build [qd 0,qd 0,qd 0,.aI] []),qw (.store 4 4 58)]) .ret)) (.seq (.ai [qu 60 (.aF .eql 20 (qi 18)),qm 59 60]) (.cond 59 (.seq (.bX [qm 62 0,qu 63 (.aY 62),qf 64 0 63,qL 65 3 64,qm 66 0,qu 67 (.aY 66),qf 68 3 67,ql 69 68,qu 70 (qc 84 [65,69]),qm 61 70,qu 71 (.ext 61 0),qu 72 (.ext 61 1),qu 73 (.ext 61 2),qu 74 (.ext 61 3),qu 5 (.alloc [.aI,.aI,.aI]),qw (.store 3 5 71),qm 6 72,qm 7 73,qm 8 74] [(.cons 0 none (.cons 1 none (.cons 2 none (.cons 3 none (.cons 4 none (.cons 5 none (.cons 6 none (.cons 7 none (.xJ (.cons 8 (some []) (.cons 9 none (.cons 10 none (.cons 11 none (.cons 12 none (.cons 13 none (.cons 14 (some [7,3]) (.cons 15 (some []) (.cons 16 none (.cons 17 none (.cons 18 none .nil))))))))))) (.cons 14 (some [7,3]) (.cons 8 (some []) (.cons 9 none (.cons 10 none (.cons 11 none (.cons 12 none (.cons 13 none (.cons 15 (some []) (.cons 16 none (.cons 17 none (.cons 18 none .nil))))))))))))))))))))]) (.seq (.seq (.ai [qm 75 8,qu 76 (.aF .neq 75 (qi 0))]) (.cond 76 (.seq (.ai [qm 77 8,qu 78 (.build [qd 0,qd 0,qd 0,.aI] [(0,1,77)]),qw (.store 4 4 78)]) .ret) .skip)) (.seq (.ai [qm 79 0,qL 80 3 5,qu 81 (.aY 79),qf 82 0 81,qw (.store 3 82 80)]) (.seq (.ai [qm 83 6,qm 84 7,qu 85 (.build [qd 0,qd 0,qd 0,.aI] [(1,1,83),(2,1,84)]),qw (.store 4 4 85)]) .ret)))) (.seq (.ai [qu 87 (.aF .eql 20 (qi 19)),qm 86 87]) (.cond 86 (.seq (.bX [qm 89 0,qu 90 (.aY 89),qf 91 0 90,qL 92 3 91,qm 93 0,qu 94 (.aY 93),qf 95 3 94,ql 96 95,qm 97 1,qu 98 (.aY 97),qf 99 4 98,ql 100 99,qu 101 (qc 85 [92,96,100]),qm 88 101,qu 102 (.ext 88 0),qu 103 (.ext 88 1),qu 9 (.alloc [.aI,.aI,.aI]),qw (.store 3 9 102),qm 10 103] [(.cons 0 none (.cons 1 none (.cons 2 none (.cons 3 none (.cons 4 none (.cons 5 none (.cons 6 none (.cons 7 none (.cons 8 none (.cons 9 none (.cons 10 none (.cons 11 none (.xJ (.cons 12 (some []) (.cons 13 none (.cons 14 none (.cons 15 none (.cons 16 (some [11,7,3]) (.cons 17 (some []) (.cons 18 none .nil))))))) (.cons 16 (some [11,7,3]) (.cons 12 (some []) (.cons 13 none (.cons 14 none (.cons 15 none (.cons 17 (some []) (.cons 18 none .nil))))))))))))))))))))]) (.seq (.seq (.ai [qm 104 10,qu 105 (.aF .eql 104 (qi 0))]) (.cond 105 (.ai [qm 106 0,qL 107 3 9,qu 108 (.aY 106),qf 109 0 108,qw (.store 3 109 107)]) .skip)) (.seq (.ai [qm 110 10,qu 111 (.build [qd 0,qd 0,qd 0,.aI] [(0,1,110)]),qw (.store 4 4 111)]) .ret))) .skip)))))))))) (.seq (.ai [qu 112 (.pk),qw (.rS (.i .i64) 112 (qi 20) (qi 2048)),qw (.rS (.i .i64) 112 (qi 21) (qi 1024)),qm 113 112,qm 114 1,qu 115 (.aY 114),qf 116 1 115,ql 117 116,qu 118 (.rR (.one (qd 0)) (.i .i64) 113 117 false),qm 11 118]) (.cu (.seq (.ai [qm 120 0,qm 121 1,qu 122 (.aY 121),qf 123 2 122,ql 124 123,qm 125 11,qu 126 (qc 63 [120,124,125]),qm 119 126,qu 127 (.ext 119 0),qu 128 (.ext 119 1),qu 129 (.ext 119 2),qu 12 (.alloc [qd 0,qd 0]),qw (.store 2 12 127),qm 13 128,qm 14 129]) (.seq (.block 1 (.seq (.ai [qm 131 14,qu 132 (.aF .neq 131 (qi 0)),qm 130 132]) (.cond 130 (.seq (.ai [qm 133 14,qu 134 (.build [qd 0,qd 0,qd 0,.aI] [(0,1,133)]),qw (.store 4 4 134)]) .ret) (.seq (.ai [qm 136 0,qu 137 (.aY 136),qf 138 0 137,qf 139 0 138,ql 140 139,qm 141 13,qu 142 (.bW 9 140 141),qf 143 0 142,ql 144 143,qu 145 (.aF .neq 144 (qi 5)),qm 135 145]) (.cond 135 (.seq (.ai [qu 146 (.build [qd 0,qd 0,qd 0,.aI] [(0,1,qi 8)]),qw (.store 4 4 146)]) .ret) .skip))))) (.seq (.ai [qm 147 0,qu 148 (.aY 147),qf 149 0 148,qf 150 0 149,ql 151 150,qm 152 13,qu 153 (.bW 9 151 152),qf 154 6 153,ql 155 154,qm 15 155]) (.seq (.seq (.ai [qm 156 1,qu 157 (.aY 156),qf 158 1 157,ql 159 158,qu 160 (.aF .eql 159 (qi 21))]) (.cond 160 (.seq (.seq (.ai [qm 161 0,qu 162 (.aY 161),qf 163 0 162,qL 164 3 163,qm 165 15,qu 166 (qc 35 [164,165])]) (.cond 166 (.seq (.ai [qu 167 (.build [qd 0,qd 0,qd 0,.aI] [(0,1,qi 16)]),qw (.store 4 4 167)]) .ret) .skip)) (.seq (.ai [qm 168 0,qu 169 (.aY 168),qf 170 0 169,qf 171 2 170,ql 172 171,qm 173 15,qu 174 (.bW 4 172 173),qf 175 2 174,ql 176 175,qu 177 (.build [qd 0,qd 0,qd 0,.aI] [(1,1,176)]),qw (.store 4 4 177)]) .ret)) .skip)) (.seq (.ai [qm 179 0,qu 180 (.aY 179),qf 181 0 180,qL 182 3 181,qm 183 15,qu 184 (qc 85 [182,183,qi 255]),qm 178 184,qu 185 (.ext 178 0),qu 186 (.ext 178 1),qu 16 (.alloc [.aI,.aI,.aI]),qw (.store 3 16 185),qm 14 186]) (.seq (.seq (.ai [qm 187 14,qu 188 (.aF .eql 187 (qi 0))]) (.cond 188 (.ai [qm 189 0,qL 190 3 16,qu 191 (.aY 189),qf 192 0 191,qw (.store 3 192 190)]) .skip)) (.seq (.ai [qm 193 14,qu 194 (.build [qd 0,qd 0,qd 0,.aI] [(0,1,193)]),qw (.store 4 4 194)]) .ret)))))))))))⟩
namespace Kn
def ke(ps:List aT)(p:Nat):Bool:=match ps[p]? with|some x=>x.fenced|none=>false
def oG(ps:List aT)(p:Nat):List aT:=match ps[p]? with|some x=>ps.set p {x with fenced:=true}|none=>ps
def Fh(ps:List aT)(z:Int):Int:=match ps[z.toNat]? with|some x=>x.code|none=>0
def lQ(k:Kr)(e:Kr×Int):Kr×An:=(if e.2=0 then e.1 else k,An.no e.2)
def tX(k:Kr)(f:Kr×Int×Int×Int):Kr×An:=if f.2.2.2≠0 then(k,An.no f.2.2.2)else(f.1,⟨0,f.2.1,f.2.2.1,[]⟩)
def wF(k:Kr)(c:Cl)(o:Obj):Kr×An:=
 if o.ah≠5 then(k,An.no 8)
 else if c.ah=21 then(if fu k.ps o.aM=true then(k,An.no 16)else(k,⟨0,Fh k.ps o.aM,0,[]⟩))
 else lQ k (iN k o.aM 255)
def nb(k:Kr)(c:Cl)(w:(Int×Int)×Int×Int):Kr×An:=if w.2.2≠0 then(k,An.no w.2.2)else wF k c (m9 k.l w.2.1)
def fP(k:Kr)(p:Nat)(c:Cl):Kr×An:=
 if c.ah=1 then(⟨k.l,k.ops,oG k.ps p⟩,⟨0,0,0,[]⟩)
 else if c.ah=22 then(k,⟨0,if ke k.ps p=true then 1 else 0,0,[]⟩)
 else if c.ah=18 then tX k (jN k p)
 else if c.ah=19 then lQ k (iN k p c.n)
 else nb k c (bH k p c.fd (if c.ah=20 then 2048 else 1024))
def qn(x:Int):Prop:=x=1\/x=22\/x=18\/x=19\/x=20\/x=21
theorem l45:bx Tryz.prog Tryz.f45=some c45.er:=by kernel_rfl
def WJ:LC:=bv (bv (bv c45.code))
def WK:LC:=lX WJ
theorem Fi(k:Kr)(p:Nat)(hw:KW k p)(c:Cl)(need:Int)(hq:∀o,o∈k.l->o.ah=5->∃n:Nat,o.aM=n/\n<k.ps.length):
  aw Tryz.prog 2 WK (QC c45.kD (nb k c (bH k p c.fd need)).1 p c (nb k c (bH k p c.fd need)).2)
   ⟨iL 195 [(0,.rv (.one (.ptr 0 0))),(1,.rv (.one (.ptr 1 0))),(4,.rv (.one (.ptr 2 0))),(11,an .i64 need)],[xB k p,cB c,cf]⟩:=by
 refine j7 k p hw c.fd need 0 rfl ?_;have hh:= @KW.held k p hw c.fd need;generalize bH k p c.fd need=w at hh⊢;obtain⟨⟨o,r⟩,b,e⟩:=w;refine bG (fun he=>?_) (fun he=>?_)
 .have he:e≠0:=he;rw[nb,if_pos he];exact dg (X:=[_,_])
 have he:e=0:=he;subst he;obtain⟨n,j,h1,h2,h3,h4,h5⟩:=hh rfl;have h3:b=j:=h3;subst h3;have e1:nb k c ((o,r),((j:Nat):Int),0)=wF k c k.l[j]:=by rw[nb,if_neg aG,sU h4]
 rw[e1];have R0:=hq _ (Z0 h4);have hg:=iz h4;generalize k.l[j]=ob at R0 hg⊢;refine ag hg ?_;refine bG (fun h6=>?_) (fun h6=>?_)
 .have h6:ob.ah≠5:=h6;rw[wF,if_pos h6];exact dg (X:=[_,_])
 have h6:ob.ah=5:=h6;rw[wF,if_neg (fun h=>h h6)]
 obtain⟨q,Gx,N5⟩:=R0 h6;refine ag hg ?_;refine bI (fun h7=>?_) (fun h7=>?_)
 .have h7:c.ah=21:=h7;rw[if_pos h7];refine ol k.l k.ops k.ps ob.aM ?_;cases hl:fu k.ps ob.aM with
  |true=>
   rw[if_pos rfl];exact dg (X:=[_,_])
  |false=>
   rw[if_neg aG];have hc:Fh k.ps ob.aM=k.ps[q].code:=by rw[Fh,Gx,Z3,IE N5]
   rw[hc];refine ag (x:=[.val (.bool k.ps[q].aQ),.val (.bool k.ps[q].fenced),.val (.int .i64 k.ps[q].code),iu k.ps[q].aJ]) (by rw[Gx];exact dW N5) ?_
   exact dg (X:=[_,_])
 .have h7:¬c.ah=21:=h7;rw[if_neg h7];refine zU k hw.kr ob.aM 255 ?_;generalize iN k ob.aM 255=E;obtain⟨k2,e⟩:=E;refine bI (fun he=>?_) (fun he=>?_)
  .have he:e=0:=he;subst he;rw[lQ,if_pos rfl];exact dg (X:=[_,_,_])
  .have he:¬e=0:=he;rw[lQ,if_neg he];exact dg (X:=[_,_,_])
theorem CE{ps:List aT}{n:Nat}(hn:n<ps.length):bb (af (ps.map aT.enc)) n ((aT.enc ⟨ps[n].aQ,true,ps[n].code,ps[n].aJ⟩).map .aa)=af ((oG ps n).map aT.enc):=by
 have:oG ps n=ps.set n {ps[n]with fenced:=true}:=by rw[oG,IE hn]
 rw[this,bj,af,af,abJ,abJ]
theorem CF(k:Kr)(p:Nat)(hw:KW k p)(c:Cl)(hc:c.ah=1):
  body Tryz.prog c45 [.rv (.one (.ptr 0 0)),.rv (.one (.ptr 1 0))] [xB k p,cB c] (TC ⟨k.l,k.ops,oG k.ps p⟩ p c ⟨0,0,0,[]⟩):=by
 obtain⟨aM,ah,fd,gA,n,bF,bc,cN,data⟩:=c;have hc:ah=1:=hc;subst hc;refine iv k.l k.ops k.ps hw.mL hw.kr.lo hw.kr.lp hw.kr.sl hw.kr.ne ?_;refine ag (lY hw.hp) ?_;refine ag (bA aT.enc k.ps hw.hp) ?_;refine⟨trivial,_,_,View.o 6 [0,1] [3,4,5] (.put MQ .nil) (.pt rfl rfl (S6 (k:=⟨k.l,k.ops,oG k.ps p⟩) (ia rfl rfl) (ia rfl rfl) (ia rfl (congrArg (fun x=>some (Bk.row 4 x)) (CE hw.hp)))) (.pt rfl rfl (.eq rfl (cI _)) (.nil _))),rfl,rfl⟩
theorem Fj(k:Kr)(p:Nat)(hw:KW k p)(c:Cl)(hc:c.ah=22):
  body Tryz.prog c45 [.rv (.one (.ptr 0 0)),.rv (.one (.ptr 1 0))] [xB k p,cB c] (TC k p c ⟨0,if ke k.ps p=true then 1 else 0,0,[]⟩):=by
 obtain⟨aM,ah,fd,gA,n,bF,bc,cN,data⟩:=c;have hc:ah=22:=hc;subst hc;have hp:=hw.hp;have hf:ke k.ps p=k.ps[p].fenced:=by rw[ke,IE hp]
 rw[hf];refine ag (dW hp) ?_;cases k.ps[p].fenced with
 |true=>exact dg (X:=[_])
 |false=>exact dg (X:=[_])
theorem Fk(k:Kr)(p:Nat)(hw:KW k p)(c:Cl)(hc:c.ah=18):
  body Tryz.prog c45 [.rv (.one (.ptr 0 0)),.rv (.one (.ptr 1 0))] [xB k p,cB c] (TC (tX k (jN k p)).1 p c (tX k (jN k p)).2):=by
 obtain⟨aM,ah,fd,gA,n,bF,bc,cN,data⟩:=c;have hc:ah=18:=hc;subst hc;have WL:k.l.length<=4194303:=by have:=hw.l40;omega
 refine⟨?_,?_⟩
 .refine GO k hw.kr WL p ?_;generalize jN k p=F;obtain⟨k2,ch,fd,e⟩:=F;refine⟨trivial,⟨rfl,rfl,trivial⟩,trivial,?_⟩;refine bG (fun he=>?_) (fun he=>?_)
  .have he:e≠0:=he;rw[tX,if_pos he];exact dg (X:=[_,_])
  .have he:¬e≠0:=fun h=>h he
   rw[tX,if_neg he];exact dg (k:=k2) (X:=[_,_])
 .refine⟨⟨rfl,rfl,trivial⟩,?_⟩;refine GO k hw.kr WL p ?_;generalize jN k p=F;obtain⟨k2,ch,fd,e⟩:=F;refine⟨trivial,trivial,?_⟩;refine bG (fun he=>?_) (fun he=>?_)
  .have he:e≠0:=he;rw[tX,if_pos he];exact dg (X:=[_,_])
  .have he:¬e≠0:=fun h=>h he
   rw[tX,if_neg he];exact dg (k:=k2) (X:=[_,_])
theorem Fl(k:Kr)(p:Nat)(hw:KW k p)(c:Cl)(hc:c.ah=19):
  body Tryz.prog c45 [.rv (.one (.ptr 0 0)),.rv (.one (.ptr 1 0))] [xB k p,cB c] (TC (lQ k (iN k p c.n)).1 p c (lQ k (iN k p c.n)).2):=by
 obtain⟨aM,ah,fd,gA,n,bF,bc,cN,data⟩:=c;have hc:ah=19:=hc;subst hc;show body Tryz.prog c45 _ _ (TC (lQ k (iN k p n)).1 p _ (lQ k (iN k p n)).2);refine⟨?_,?_⟩
 .refine zU k hw.kr p n ?_;generalize iN k p n=F;obtain⟨k2,e⟩:=F;refine⟨trivial,⟨rfl,rfl,rfl,trivial⟩,trivial,?_⟩;refine bI (fun he=>?_) (fun he=>?_)
  .have he:e=0:=he;rw[lQ,if_pos he];exact dg (k:=k2) (X:=[_,_])
  .have he:¬e=0:=he;rw[lQ,if_neg he];exact dg (X:=[_,_])
 .refine⟨⟨rfl,rfl,rfl,trivial⟩,?_⟩;refine zU k hw.kr p n ?_;generalize iN k p n=F;obtain⟨k2,e⟩:=F;refine⟨trivial,trivial,?_⟩;refine bI (fun he=>?_) (fun he=>?_)
  .have he:e=0:=he;rw[lQ,if_pos he];exact dg (k:=k2) (X:=[_,_])
  .have he:¬e=0:=he;rw[lQ,if_neg he];exact dg (X:=[_,_])
theorem wG(k:Kr)(p:Nat)(hw:KW k p)(c:Cl)(hc:c.ah=20\/c.ah=21)(hq:∀o,o∈k.l->o.ah=5->∃n:Nat,o.aM=n/\n<k.ps.length):
  body Tryz.prog c45 [.rv (.one (.ptr 0 0)),.rv (.one (.ptr 1 0))] [xB k p,cB c] (TC (nb k c (bH k p c.fd (if c.ah=20 then 2048 else 1024))).1 p c (nb k c (bH k p c.fd (if c.ah=20 then 2048 else 1024))).2):=by
 have hs:=fun need=>Fi k p hw c need hq
 obtain⟨aM,ah,fd,gA,n,bF,bc,cN,data⟩:=c;rcases hc with hc|hc
 .have hc:ah=20:=hc;subst hc;refine⟨_,View.o1 4 [0,1,2] [] ?_,hs 2048⟩
  .exact .pt rfl rfl (.eq rfl (bL _ _)) (.pt rfl rfl (.eq rfl (cI _)) (.pt rfl rfl (.eq rfl (by simp[cf])) (.nil _)))
 .have hc:ah=21:=hc;subst hc;refine⟨_,View.o1 4 [0,1,2] [] ?_,hs 1024⟩
  .exact .pt rfl rfl (.eq rfl (bL _ _)) (.pt rfl rfl (.eq rfl (cI _)) (.pt rfl rfl (.eq rfl (by simp[cf])) (.nil _)))
theorem i9(k:Kr)(p:Nat)(hw:KW k p)(c:Cl)(hc:qn c.ah)(hq:∀o,o∈k.l->o.ah=5->∃n:Nat,o.aM=n/\n<k.ps.length):
  au Tryz.prog 45 [.rv (.one (.ptr 0 0)),.rv (.one (.ptr 1 0))] [xB k p,cB c] (TC (fP k p c).1 p c (fP k p c).2):=by
 refine cg Tryz.func45 l45 ?_;rcases hc with hc|hc|hc|hc|hc|hc
 .rw[fP,if_pos hc];exact CF k p hw c hc
 .rw[fP,if_neg om,if_pos hc];exact Fj k p hw c hc
 .rw[fP,if_neg om,if_neg om,if_pos hc];exact Fk k p hw c hc
 .rw[fP,if_neg om,if_neg om,if_neg om,if_pos hc];exact Fl k p hw c hc
 .rw[fP,if_neg om,if_neg om,if_neg om,if_neg om];exact wG k p hw c (.inl hc) hq
 .rw[fP,if_neg om,if_neg om,if_neg om,if_neg om];exact wG k p hw c (.inr hc) hq
end Kn
def c102:LF:= ⟨74,[.tmp 6],(.seq (.ai [qu 3 (.box 0),qu 6 (.aH (qi 0))]) (.seq (.seq (.ai [qf 7 0 3,ql 8 7]) (.block 0 (.seq (.ai [qu 10 (.aF .eql 8 (qi 1)),qm 9 10]) (.cond 9 (.seq (.ai [qf 11 3 3,ql 12 11,qu 13 (.aF .lss 12 (qi 0)),qm 14 13,qg 15 (.br 3 3) 14 false,qg 16 (.load false 1 15) 14 false,qg 17 (.aF .geq 16 (qi 6)) 14 false,qu 18 (.pick 14 (qb true) 17)]) (.cond 18 (.seq (.ai [qu 6 (.aH (qi 3))]) .ret) .skip)) (.seq (.seq (.ai [qu 20 (.aF .eql 8 (qi 2)),qm 19 20]) (.cond 19 .skip (.seq (.ai [qu 21 (.aF .eql 8 (qi 3)),qm 19 21]) (.cond 19 .skip (.ai [qu 22 (.aF .eql 8 (qi 4)),qm 19 22]))))) (.cond 19 (.seq (.seq (.ai [qf 23 3 3,ql 24 23,qu 25 (.aF .lss 24 (qi 0)),qm 26 25,qg 27 (.br 3 3) 26 false,qg 28 (.load false 1 27) 26 false,qg 29 (.aF .geq 28 (qi 2147483648)) 26 false,qu 30 (.pick 26 (qb true) 29),qm 31 30,qg 32 (.aH 1) 31 false,qg 33 (.br 1 3) 31 false,qg 34 (.load false 1 33) 31 false,qg 35 (.aH 2) 31 false,qg 36 (qc 134 [32,34,qi 40,35]) 31 false,qg 37 (.un .not 36) 31 false,qu 38 (.pick 31 (qb true) 37),qm 39 38,qg 40 (.aH 1) 39 false,qg 41 (.br 2 3) 39 false,qg 42 (.load false 1 41) 39 false,qg 43 (.aH 2) 39 false,qg 44 (qc 134 [40,42,qi 40,43]) 39 false,qg 45 (.un .not 44) 39 false,qu 46 (.pick 39 (qb true) 45)]) (.cond 46 (.seq (.ai [qu 6 (.aH (qi 3))]) .ret) .skip)) (.seq (.ai [qu 6 (.aH (qi 0))]) .ret)) (.seq (.ai [qu 48 (.aF .eql 8 (qi 5)),qm 47 48]) (.cond 47 (.seq (.ai [qm 49 1,qf 50 3 3,ql 51 50,qm 52 2,qm 53 2,qu 54 (qc 134 [49,51,52,53]),qu 55 (.un .not 54)]) (.cond 55 (.seq (.ai [qu 6 (.aH (qi 3))]) .ret) .skip)) (.seq (.ai [qu 57 (.aF .eql 8 (qi 6)),qm 56 57]) (.cond 56 (.seq (.ai [qf 58 3 3,ql 59 58,qu 60 (.aF .neq 59 (qi 1)),qm 61 60,qg 62 (.br 3 3) 61 true,qg 63 (.load false 1 62) 61 true,qg 64 (.aF .neq 63 (qi 0)) 61 true,qu 65 (.pick 61 64 (qb false))]) (.cond 65 (.seq (.ai [qu 6 (.aH (qi 3))]) .ret) .skip)) (.seq (.ai [qu 6 (.aH (qi 1))]) .ret))))))))))) (.seq (.seq (.ai [qf 66 1 3,ql 67 66,qu 68 (.aF .neq 67 (qi 0)),qm 69 68,qg 70 (.br 2 3) 69 false,qg 71 (.load false 1 70) 69 false,qg 72 (.aF .neq 71 (qi 0)) 69 false,qu 73 (.pick 69 (qb true) 72)]) (.cond 73 (.seq (.ai [qu 6 (.aH (qi 2))]) .ret) .skip)) (.seq (.ai [qu 6 (.aH (qi 0))]) .ret))))⟩
def c134:LF:= ⟨24,[.tmp 8],(.seq (.ai [qu 8 (.aH (qb false))]) (.seq (.ai [qm 9 1,qu 10 (.aF .geq 9 (qi 0)),qm 11 10,qg 12 (.aH 1) 11 true,qg 13 (.aH 2) 11 true,qg 14 (.aF .leq 12 13) 11 true,qu 15 (.pick 11 14 (qb false)),qm 16 15,qg 17 (.aH 0) 16 true,qg 18 (.aF .add 17 (qi 1)) 16 true,qg 19 (.aH 1) 16 true,qg 20 (.aF .add 18 19) 16 true,qg 21 (.aH 3) 16 true,qg 22 (.aF .lss 20 21) 16 true,qu 23 (.pick 16 22 (qb false)),qm 8 23]) .ret))⟩
structure dX where
 op:Int
 jt:Int
 jf:Int
 k:Int
 deriving DecidableEq
def dX.enc(i:dX):List Dt:=[.val (.int .i64 i.op),.val (.int .i64 i.jt),.val (.int .i64 i.jf),.val (.int .i64 i.k)]
def dX.cv(i:dX):CV:= .rv (.agg (i.enc.map .aa))
def WM(l:List dX):Dt:= .sl 4 (l.map dX.enc)
def rJ(l:List dX):CV:= .rv (.one (.aa (WM l)))
def nH(f:Int×Int):CV:= .rv (.agg [.aa (.val (.int .i64 f.1)),.aa (.val (.int .i64 f.2))])
def nz(a n wH s:Int):Bool:=decide (n>=0)&&decide (n<=wH)&&decide (a+1+n<s)
theorem l134:bx Tryz.prog Tryz.f134=some c134:=by kernel_rfl
theorem Je(a n wH s:Int)(ha:0<=a)(Ul:a<=4194304)(hm:wH<=4194304):body Tryz.prog c134 [an .i64 a,an .i64 n,an .i64 wH,an .i64 s] [] (fun r m=>r=ax (nz a n wH s)):=by
 refine aC (fun h=>?_) (fun h=>?_)
 .refine aC (fun h2=>?_) (fun h2=>?_)
  .have e1:n>=0:=of_decide_eq_true h;have e2:n<=wH:=of_decide_eq_true h2;show ax _=ax _;rw[nz,h,h2,gY (n:=a+1) om om,gY om om];rfl
  .show ax _=ax _;rw[nz,h,h2];rfl
 .show ax _=ax _;rw[nz,h];rfl
theorem Pw(a n wH s:Int)(ha:0<=a)(Ul:a<=4194304)(hm:wH<=4194304){m:Mem}{K:CV->Mem->Prop}(h:K (ax (nz a n wH s)) m):au Tryz.prog 134 [an .i64 a,an .i64 n,an .i64 wH,an .i64 s] m K:=
 bs Tryz.func134 l134 rfl (X5 rfl) (Je a n wH s ha Ul hm) rfl rfl h
def wI(i:dX):Int:=if(i.jt !=0)||(i.jf !=0)then 2 else 0
def ii(i:dX)(a s:Int):Int:=
 if(i.op==1)then(if(decide (i.k<0)||decide (i.k>=6))then 3 else wI i)
 else if(i.op==2)||(i.op==3)||(i.op==4)then(if(decide (i.k<0)||decide (i.k>=2147483648)|| !nz a i.jt 40 s|| !nz a i.jf 40 s)then 3 else 0)
 else if(i.op==5)then(if !nz a i.k s s then 3 else wI i)
 else if(i.op==6)then(if(i.k !=1)&&(i.k !=0)then 3 else wI i)
 else 1
theorem l102:bx Tryz.prog Tryz.f102=some c102:=by kernel_rfl
theorem Fm(i:dX)(a s:Int)(ha:0<=a)(Ul:a<=4194304)(hs:s<=4194304):body Tryz.prog c102 [i.cv,an .i64 a,an .i64 s] [] (fun r m=>r=an .i64 (ii i a s)):=by
 repeat' (first
  |(refine aC (fun h=>?_) (fun h=>?_))
  |(refine Pw _ _ _ _ ha Ul om ?_))
 all_goals(show an .i64 _=an .i64 _;refine congrArg _ ?_;simp only[ii,wI, *];try(first|rfl|simp[*]))
theorem M2(i:dX)(a s:Int)(ha:0<=a)(Ul:a<=4194304)(hs:s<=4194304){m:Mem}{K:CV->Mem->Prop}(h:K (an .i64 (ii i a s)) m):au Tryz.prog 102 [i.cv,an .i64 a,an .i64 s] m K:=
 bs Tryz.func102 l102 rfl (X5 rfl) (Fm i a s ha Ul hs) rfl rfl h
def c60:LF:= ⟨46,[.cell true 2 2],(.seq (.ai [qu 2 (.alloc [qd 0,qd 0])]) (.seq (.seq (.ai [qm 6 0,qu 7 (.len 1 6),qu 8 (.aF .lss 7 (qi 1)),qm 9 8,qg 10 (.aH 0) 9 false,qg 11 (.len 1 10) 9 false,qg 12 (.aF .gtr 11 (qi 400)) 9 false,qu 13 (.pick 9 (qb true) 12)]) (.cond 13 (.seq (.ai [qu 14 (.build [qd 0,qd 0] [(0,1,qi 5)]),qw (.store 2 2 14)]) .ret) .skip)) (.seq (.seq (.ai [qm 15 0,qu 16 (.len 1 15),qu 17 (.aH (qi 0))]) (.block 0 (.loop (.seq (.ai [qu 18 (.aF .lss 17 16)]) (.seq (.cond 18 .skip (.exit 0)) (.seq (.block 1 (.seq (.ai [qm 19 17,qu 20 (.bW 4 15 17),qL 21 4 20,qu 4 (.alloc [qd 0,qd 0,qd 0,qd 0]),qm 3 19,qw (.store 4 4 21)]) (.seq (.ai [qL 22 4 4,qm 23 3,qm 24 0,qu 25 (.len 1 24),qu 26 (qc 102 [22,23,25]),qm 5 26]) (.seq (.ai [qm 27 5,qu 28 (.aF .neq 27 (qi 0))]) (.cond 28 (.seq (.ai [qm 29 5,qm 30 3,qu 31 (.build [qd 0,qd 0] [(0,1,29),(1,1,30)]),qw (.store 2 2 31)]) .ret) .skip))))) (.ai [qu 32 (.aF .add 17 (qi 1)),qm 17 32]))))))) (.seq (.seq (.ai [qm 33 0,qm 34 0,qu 35 (.len 1 34),qu 36 (.aF .sub 35 (qi 1)),qu 37 (.bW 4 33 36),qf 38 0 37,ql 39 38,qu 40 (.aF .neq 39 (qi 6))]) (.cond 40 (.seq (.ai [qm 41 0,qu 42 (.len 1 41),qu 43 (.aF .sub 42 (qi 1)),qu 44 (.build [qd 0,qd 0] [(0,1,qi 2),(1,1,43)]),qw (.store 2 2 44)]) .ret) .skip)) (.seq (.ai [qu 45 (.build [qd 0,qd 0] []),qw (.store 2 2 45)]) .ret)))))⟩
def uq(s:Int):Nat->List dX->Int×Int
 |_,[]=>(0,0)
 |k,i::r=>if ii i (k:Int) s=0 then uq s (k+1) r else(ii i (k:Int) s,(k:Int))
theorem G5(s:Int):∀(l:List dX)(k:Nat),(∀(j:Nat)i,l[j]? =some i->ii i ((k+j:Nat):Int) s=0)->uq s k l=(0,0)
 | [],_,_=>rfl
 |i::r,k,h=>by
  rw[uq,if_pos (by simpa using h 0 i rfl)]
  exact G5 s r (k+1) fun j x hx=>by
   have:=h (j+1) x (by simpa using hx)
   rwa [show k+(j+1)=k+1+j by omega]at this
theorem CG(s:Int):∀(l:List dX)(k j:Nat)(i:dX),l[j]? =some i->(∀(j':Nat)i,j'<j->l[j']? =some i->ii i ((k+j':Nat):Int) s=0)->ii i ((k+j:Nat):Int) s≠0->uq s k l=(ii i ((k+j:Nat):Int) s,((k+j:Nat):Int))
 | [],_,j,i,h,_,_=>by simp at h
 |x::r,k,0,i,h,_,hb=>by
  simp at h;subst h;rw[uq,if_neg (by simpa using hb)];rfl
 |x::r,k,j+1,i,h,hg,hb=>by
  rw[uq,if_pos (by simpa using hg 0 x om rfl)]
  rw[show k+(j+1)=k+1+j by omega]at hb⊢
  exact CG s r (k+1) j i (by simpa using h) (fun j' y hj hy=>by
   have:=hg (j'+1) y om (by simpa using hy)
   rwa [show k+(j'+1)=k+1+j' by omega]at this) hb
def l5(p:List dX):Int×Int:=
 if p.length<1\/p.length>400 then(5,0)
 else if(uq p.length 0 p).1≠0 then uq p.length 0 p
 else match p[p.length-1]? with
  |some i=>if i.op=6 then(0,0)else(2,((p.length-1:Nat):Int))
  |none=>(0,0)
theorem l60:bx Tryz.prog Tryz.f60=some c60:=by kernel_rfl
theorem Fo(p:List dX):body Tryz.prog c60 [rJ p] [] (fun r m=>r=nH (l5 p)):=by
 refine aC (fun h=>?_) (fun h0=>?_)
 .have h:p.length<1:=by have h:(((p.map dX.enc).length:Nat):Int)<1:=of_decide_eq_true h;rw[Nq]at h;omega
  rw[l5,if_pos (.inl h)];exact rfl
 .refine aC (fun h=>?_) (fun h1=>?_)
  .have h:p.length>400:=by have h:(((p.map dX.enc).length:Nat):Int)>400:=of_decide_eq_true h;simp at h;omega
   rw[l5,if_pos (.inr h)];exact rfl
  .have h0:¬p.length<1:=by have h:¬(((p.map dX.enc).length:Nat):Int)<1:=of_decide_eq_false h0;rw[Nq]at h;omega
   have h1:¬p.length>400:=by have h:¬(((p.map dX.enc).length:Nat):Int)>400:=of_decide_eq_false h1;rw[Nq]at h;omega
   have hc:l5 p=if(uq p.length 0 p).1≠0 then uq p.length 0 p else match p[p.length-1]? with
     |some i=>if i.op=6 then(0,0)else(2,((p.length-1:Nat):Int))
     |none=>(0,0):=by rw[l5,if_neg om]
   refine vA (fun k=>k<=p.length/\∀(j:Nat)i,j<k->p[j]? =some i->ii i (j:Int) p.length=0) (fun k=>[(17,an .i64 (k:Nat)),(3,.aq),(4,.aq),(5,.aq),(18,.aq),(19,.aq),(20,.aq),(21,.aq),(22,.aq),(23,.aq),(24,.aq),(25,.aq),(26,.aq),(27,.aq),(28,.aq),(32,.aq)])
    (fun k=>[.var [.aa (.val (.int .i64 0)),.aa (.val (.int .i64 0))]]) (fun k=>p.length-k) 0 ⟨Wi _,fun j i h=>absurd h (abb j)⟩ ?_ (fun k hk=>?_)
   .refine View.o1 1 [0] [] ?_
    .exact .put (by simp[bz]) rfl (.eq rfl aG) (.nil _)
   .refine aC (fun h=>?_) (fun h=>?_)
    .have aB:k<p.length:=by have h:(k:Int)<((p.map dX.enc).length:Int):=of_decide_eq_true h;rw[Nq]at h;omega
     have hg:cR (p.map dX.enc) (k:Nat)=some (p[k].enc):=by rw[bn,Q8,IE aB];rfl
     have hlen:(((p.map dX.enc).length:Nat):Int)=(p.length:Int):=by rw[Nq]
     refine ag hg ?_;have tF:∀{m:Mem}{K:CV->Mem->Prop},K (an .i64 (ii p[k] k p.length)) m->au Tryz.prog 102 [p[k].cv,an .i64 k,an .i64 (((p.map dX.enc).length:Nat):Int)] m K:=by intro m K h;rw[hlen];exact M2 _ _ _ om om om h
     refine tF ?_;refine aC (fun h3=>?_) (fun h3=>?_)
     .have h3:ii p[k] k p.length≠0:=by simpa using h3
      have:=CG p.length p 0 k p[k] (IE aB) (fun j i hj hi=>by simpa using hk.2 j i hj hi) (by simpa using h3)
      rw[abx]at this;rw[hc,this,if_pos h3];exact rfl
     .have h3:ii p[k] k p.length=0:=by simpa using h3
      refine⟨k+1,⟨aB,fun j i hj hi=>?_⟩,?_,View.o 2 [0] [] ?_ ?_⟩
      .rcases ZX j k with h5|h5
       .exact hk.2 j i h5 hi
       .have:j=k:=om;subst this;rw[IE aB]at hi;cases hi;exact h3
      .show p.length-(k+1)<p.length-k;omega
      .repeat(first|exact .nil|refine .aq ?_|refine .put (.aO (ap om).symm) ?_|refine .eq rfl ?_)
      .exact .put (by simp[bz]) rfl (.eq rfl aG) (.nil _)
    .have ew:¬(k:Int)<((p.map dX.enc).length:Int):=of_decide_eq_false h;rw[Nq]at ew;have fN:=G5 p.length p 0 fun j i hi=>by have:=(Mh.1 hi).1;simpa using hk.2 j i om hi
     rw[hc,fN,if_neg aG];have nr:p.length-1<p.length:=om;rw[IE nr];have hw:IntKind.i64.wrap ((((p.map dX.enc).length:Nat):Int)-1)=((p.length-1:Nat):Int):=by rw[Nq,gY om om];omega
     have hg:cR (p.map dX.enc) (IntKind.i64.wrap ((((p.map dX.enc).length:Nat):Int)-1))=some (p[p.length-1].enc):=by rw[hw,bn,Q8,IE nr];rfl
     refine ag hg ?_;refine aC (fun h3=>?_) (fun h3=>?_)
     .have h3:p[p.length-1].op≠6:=by simpa using h3
      show nH (2,IntKind.i64.wrap ((((p.map dX.enc).length:Nat):Int)-1))=_;rw[hw];simp only;rw[if_neg h3]
     .have h3:p[p.length-1].op=6:=by simpa using h3
      simp only;rw[if_pos h3];exact rfl
theorem M3(p:List dX){m:Mem}{K:CV->Mem->Prop}(h:K (nH (l5 p)) m):au Tryz.prog 60 [rJ p] m K:=
 bs Tryz.func60 l60 rfl (X5 rfl) (Fo p) rfl rfl h
theorem S9(jt jf k a s:Int):ii ⟨1,jt,jf,k⟩ a s=if k<0\/k>=6 then 3 else if jt≠0\/jf≠0 then 2 else 0:=by simp[ii,wI,<-Bool.decide_or]
theorem Fp(o jt jf k a s:Int)(ho:o=2\/o=3\/o=4):ii ⟨o,jt,jf,k⟩ a s=if k<0\/k>=2147483648\/jt<0\/jf<0\/jt>40\/jf>40\/jt>s-a-2\/jf>s-a-2 then 3 else 0:=by
 have h1:(o==1)=false:=by rcases ho with rfl|rfl|rfl<;>rfl
 have h2:((o==2)||(o==3)||(o==4))=true:=by rcases ho with rfl|rfl|rfl<;>rfl
 simp only[ii,h1,h2,abV,if_false,if_true];by_cases hc:k<0\/k>=2147483648\/jt<0\/jf<0\/jt>40\/jf>40\/jt>s-a-2\/jf>s-a-2
 .rw[if_pos hc,if_pos];simp only[nz,abZ,abX,acX,decide_eq_true_eq,decide_eq_false_iff_not];omega
 .rw[if_neg hc,if_neg];simp only[nz,abZ,abX,acX,decide_eq_true_eq,decide_eq_false_iff_not];omega
theorem Ta(jt jf k a s:Int)(ha:0<=a):ii ⟨5,jt,jf,k⟩ a s=if k<0\/k>s-a-2 then 3 else if jt≠0\/jf≠0 then 2 else 0:=by
 have e:(!nz a k s s)=decide (k<0\/k>s-a-2):=by rw[ac2];simp only[nz,abX,acX,decide_eq_true_eq,decide_eq_false_iff_not];omega
 simp[ii,e,wI,<-Bool.decide_or]
theorem Tc(jt jf k a s:Int):ii ⟨6,jt,jf,k⟩ a s=if k≠0/\k≠1 then 3 else if jt≠0\/jf≠0 then 2 else 0:=by simp[ii,wI,<-Bool.decide_or,<-Bool.decide_and];simp only[and_comm]
theorem Td(o jt jf k a s:Int)(ho:o<1\/o>6):ii ⟨o,jt,jf,k⟩ a s=1:=by
 have h:∀c:Int,1<=c->c<=6->(o==c)=false:=fun c h1 h2=>by rw[beq_eq_false_iff_ne];omega
 simp[ii,h 1 om om,h 2 om om,h 3 om om,h 4 om om,h 5 om om,h 6 om om]
def c36:LF:= ⟨75,[.tmp 4,.tmp 5],(.seq (.ai [qu 3 (.box 1),qu 4 (.aH (qi 0)),qu 5 (.aH (qi 0))]) (.seq (.seq (.ai [qm 11 0,qu 12 (qc 60 [11]),qu 6 (.alloc [qd 0,qd 0]),qw (.store 2 6 12)]) (.seq (.ai [qf 13 0 6,ql 14 13,qu 15 (.aF .neq 14 (qi 0))]) (.cond 15 (.seq (.ai [qu 4 (.aH (qi 0)),qu 5 (.aH (qi 0))]) .ret) .skip))) (.seq (.ai [qu 7 (.aH (qi 0))]) (.seq (.ai [qu 8 (.aH (qi 0))]) (.block 0 (.loop (.seq (.block 1 (.seq (.ai [qm 18 0,qm 19 8,qu 20 (.bW 4 18 19),qL 21 4 20,qu 9 (.alloc [qd 0,qd 0,qd 0,qd 0]),qw (.store 4 9 21)]) (.seq (.ai [qu 10 (.aH (qb false))]) (.seq (.seq (.ai [qf 22 0 9,ql 23 22]) (.block 2 (.seq (.ai [qu 25 (.aF .eql 23 (qi 1)),qm 24 25]) (.cond 24 (.seq (.ai [qf 26 3 9,ql 27 26,qu 28 (.w9 6 1 3 27),ql 29 28,qm 7 29]) (.seq (.ai [qm 30 8,qu 31 (.aF .add 30 (qi 1)),qm 8 31]) (.exit 1))) (.seq (.ai [qu 33 (.aF .eql 23 (qi 5)),qm 32 33]) (.cond 32 (.seq (.ai [qm 34 8,qf 35 3 9,ql 36 35,qu 37 (.aF .add (qi 1) 36),qu 38 (.aF .add 34 37),qm 8 38]) (.exit 1)) (.seq (.ai [qu 40 (.aF .eql 23 (qi 6)),qm 39 40]) (.cond 39 (.seq (.ai [qf 41 3 9,ql 42 41,qm 43 5,qu 44 (.aF .add 43 (qi 1)),qm 4 42,qm 5 44]) .ret) (.seq (.ai [qu 46 (.aF .eql 23 (qi 2)),qm 45 46]) (.cond 45 (.ai [qm 47 7,qf 48 3 9,ql 49 48,qu 50 (.aF .eql 47 49),qm 10 50]) (.seq (.ai [qu 52 (.aF .eql 23 (qi 3)),qm 51 52]) (.cond 51 (.ai [qm 53 7,qf 54 3 9,ql 55 54,qu 56 (.aF .geq 53 55),qm 10 56]) (.seq (.ai [qu 58 (.aF .eql 23 (qi 4)),qm 57 58]) (.cond 57 (.ai [qm 59 7,qf 60 3 9,ql 61 60,qu 62 (.aF .and 59 61),qu 63 (.aF .neq 62 (qi 0)),qm 10 63]) .skip)))))))))))))) (.seq (.ai [qm 64 10]) (.cond 64 (.ai [qm 65 8,qf 66 1 9,ql 67 66,qu 68 (.aF .add (qi 1) 67),qu 69 (.aF .add 65 68),qm 8 69]) (.ai [qm 70 8,qf 71 2 9,ql 72 71,qu 73 (.aF .add (qi 1) 72),qu 74 (.aF .add 70 73),qm 8 74]))))))) (.ai [qm 16 5,qu 17 (.aF .add 16 (qi 1)),qm 5 17]))))))))⟩
structure yM where
 r0:Int
 r1:Int
 r2:Int
 r3:Int
 r4:Int
 r5:Int
def yM.enc(r:yM):List Dt:=[.val (.int .i64 r.r0),.val (.int .i64 r.r1),.val (.int .i64 r.r2),.val (.int .i64 r.r3),.val (.int .i64 r.r4),.val (.int .i64 r.r5)]
def yM.cv(r:yM):CV:= .rv (.agg (r.enc.map .aa))
def yM.get(r:yM):Nat->Int
 |0=>r.r0
 |1=>r.r1
 |2=>r.r2
 |3=>r.r3
 |4=>r.r4
 |_=>r.r5
theorem yM.aaD(r:yM){k:Nat}(h:k<6):iJ (r.enc.map .aa) (0+k*1) 1=some [.aa (.val (.int .i64 (r.get k)))]:=by
 rw[show 0+k*1=k by omega]
 apply yh
 match k,h with
 |0,_=>rfl
 |1,_=>rfl
 |2,_=>rfl
 |3,_=>rfl
 |4,_=>rfl
 |5,_=>rfl
def Te(a b:Int):Int:=IntKind.i64.wrap ((BitVec.ofInt 64 a&&&BitVec.ofInt 64 b).toNat:Int)
def th(i:dX)(eB:Int)(r:yM):Nat×Int:=
 if i.op=1 then(1,r.get i.k.toNat)
 else if i.op=5 then(1+i.k.toNat,eB)
 else if(if i.op=2 then eB==i.k else if i.op=3 then decide (eB>=i.k)else if i.op=4 then Te eB i.k !=0 else false)=true then(1+i.jt.toNat,eB)
 else(1+i.jf.toNat,eB)
theorem Rh(x y:Nat)(k eB:Int)(r:yM):(eB=k->th ⟨2,x,y,k⟩ eB r=(1+x,eB))/\(eB≠k->th ⟨2,x,y,k⟩ eB r=(1+y,eB)):=
 ⟨fun h=>by subst h;simp[th],fun h=>by simp[th,h]⟩
theorem Ri(x y:Nat)(k eB:Int)(r:yM):(eB>=k->th ⟨3,x,y,k⟩ eB r=(1+x,eB))/\(¬eB>=k->th ⟨3,x,y,k⟩ eB r=(1+y,eB)):=
 ⟨fun h=>by simp[th];omega,fun h=>by simp[th];omega⟩
theorem Rj(x y:Nat)(k eB:Int)(r:yM):(Te eB k≠0->th ⟨4,x,y,k⟩ eB r=(1+x,eB))/\(Te eB k=0->th ⟨4,x,y,k⟩ eB r=(1+y,eB)):=
 ⟨fun h=>by simp[th,h],fun h=>by simp[th,h]⟩
theorem Px(i:dX)(eB:Int)(r:yM):1<=(th i eB r).1:=by
 unfold th;repeat' split
 all_goals simp
def ja(p:List dX)(r:yM)(a:Nat)(eB:Int):Int×Int:=
 if h:a<p.length then
  if p[a].op=6 then(p[a].k,1)
  else((ja p r (a+(th p[a] eB r).1) (th p[a] eB r).2).1,(ja p r (a+(th p[a] eB r).1) (th p[a] eB r).2).2+1)
 else(0,0)
 termination_by p.length-a
 decreasing_by
 all_goals
  have:=Px p[a] eB r;omega
theorem Jf{p:List dX}{r:yM}{a:Nat}{eB:Int}{i:dX}(h:p[a]? =some i)(ho:i.op=6):ja p r a eB=(i.k,1):=by obtain⟨aB,rfl⟩:=Mh.1 h;rw[ja,dif_pos aB,if_pos ho]
theorem lR{p:List dX}{r:yM}{a:Nat}{eB:Int}{i:dX}(h:p[a]? =some i)(ho:i.op≠6){d:Nat}{As:Int}(hn:th i eB r=(d,As)):ja p r a eB=((ja p r (a+d) As).1,(ja p r (a+d) As).2+1):=by obtain⟨aB,rfl⟩:=Mh.1 h;rw[ja,dif_pos aB,if_neg ho,hn]
theorem CH(s:Int):∀(l:List dX)(k:Nat),(uq s k l).1=0->∀(j:Nat)i,l[j]? =some i->ii i ((k+j:Nat):Int) s=0
 | [],_,_,j,i,h=>by simp at h
 |x::r,k,h,j,i,hi=>by
  simp only[uq]at h;split at h
  .rename_i h0;cases j with
   |zero=>simp at hi;subst hi;simpa using h0
   |succ j=>
    have:=CH s r (k+1) h j i (by simpa using hi)
    rwa [show k+1+j=k+(j+1) by omega]at this
  .rename_i h0;exact absurd h h0
theorem yN{p:List dX}(h:(l5 p).1=0):1<=p.length/\p.length<=400/\(∀(j:Nat)i,p[j]? =some i->ii i (j:Int) p.length=0)/\∃i,p[p.length-1]? =some i/\i.op=6:=by
 unfold l5 at h;split at h
 .simp at h
 .rename_i hl;split at h
  .rename_i hc;exact absurd h hc
  .rename_i hc;have fN:=CH p.length p 0 (by simpa using hc)
   refine⟨om,om,fun j i hi=>by simpa using fN j i hi,?_⟩
   have aB:p.length-1<p.length:=om;rw[IE aB]at h⊢;simp only at h;split at h
   .rename_i h6;exact⟨_,rfl,h6⟩
   .simp at h
theorem Py{i:dX}{a s:Int}(h:ii i a s=0):i.op=1\/i.op=2\/i.op=3\/i.op=4\/i.op=5\/i.op=6:=by
 by_cases ho:i.op<1\/i.op>6
 .have:=Td i.op i.jt i.jf i.k a s ho;have e:ii ⟨i.op,i.jt,i.jf,i.k⟩ a s=ii i a s:=rfl;omega
 .omega
theorem Jg{p:List dX}(h:(l5 p).1=0){a:Nat}{o jt jf k:Int}(hi:p[a]? =some ⟨o,jt,jf,k⟩):
  (o=1/\0<=k/\k<6/\a+1<p.length)\/((o=2\/o=3\/o=4)/\0<=jt/\0<=jf/\a+1+jt.toNat<p.length/\a+1+jf.toNat<p.length/\jt<=40/\jf<=40)\/(o=5/\0<=k/\a+1+k.toNat<p.length)\/(o=6/\(k=0\/k=1)):=by
 obtain⟨h1,h2,h3,i6,h4,h5⟩:=yN h;have he:=h3 a _ hi;have aB:=(Mh.1 hi).1;rcases Py he with ho|ho|ho|ho|ho|ho<;>simp only at ho<;>subst ho
 .rw[S9]at he;have fc:a≠p.length-1:=fun e=>by rw[<-e,hi]at h4;cases h4;simp at h5
  split at he
  .simp at he
  .exact .inl ⟨rfl,om,om,om⟩
 .rw[Fp _ _ _ _ _ _ om]at he;split at he
  .simp at he
  .exact .inr (.inl ⟨om,om,om,om,om,om,om⟩)
 .rw[Fp _ _ _ _ _ _ om]at he;split at he
  .simp at he
  .exact .inr (.inl ⟨om,om,om,om,om,om,om⟩)
 .rw[Fp _ _ _ _ _ _ om]at he;split at he
  .simp at he
  .exact .inr (.inl ⟨om,om,om,om,om,om,om⟩)
 .rw[Ta _ _ _ _ _ om]at he;split at he
  .simp at he
  .exact .inr (.inr (.inl ⟨rfl,om,om⟩))
 .rw[Tc]at he;split at he
  .simp at he
  .exact .inr (.inr (.inr ⟨rfl,om⟩))
def xy(p:List dX)(r:yM):Int×Int:=if(l5 p).1=0 then ja p r 0 0 else(0,0)
theorem l36:bx Tryz.prog Tryz.f36=some c36:=by kernel_rfl
def Rk(x:Int×Int):CV:= .bK [cS x.1,cS x.2]
theorem Tf{s:Nat}(h:s<9223372036854775807):((s+1:Nat):Int)=IntKind.i64.wrap ((s:Int)+1):=by
 rw[show(s:Int)+1=((s+1:Nat):Int) by omega,np om]
theorem wJ(p:List dX)(r:yM):body Tryz.prog c36 [rJ p,r.cv] [] (fun x m=>x=Rk (xy p r)):=by
 refine M3 p ?_;refine bG (fun h=>?_) (fun h=>?_)
 .have e:xy p r=(0,0):=by rw[xy,if_neg h]
  rw[e];exact rfl
 .have e:xy p r=ja p r 0 0:=by rw[xy,if_pos h]
  rw[e];obtain⟨g1,g2,g3,_⟩:=yN h;refine vA (α:=Nat×Int×Nat) (fun x=>x.1<p.length/\x.2.2<=x.1/\(ja p r x.1 x.2.1).1=(ja p r 0 0).1/\(ja p r x.1 x.2.1).2+x.2.2=(ja p r 0 0).2)
   (fun x=>[(8,an .i64 (x.1:Nat)),(7,an .i64 x.2.1),(5,an .i64 (x.2.2:Nat)),(6,.aq),(9,.aq),(10,.aq),(11,.aq),(12,.aq),(13,.aq),(14,.aq),(15,.aq),(16,.aq),(17,.aq),(18,.aq),(19,.aq),(20,.aq),(21,.aq),(22,.aq),(23,.aq),(24,.aq),(25,.aq),(26,.aq),(27,.aq),(28,.aq),(29,.aq),(30,.aq),(31,.aq),(32,.aq),(33,.aq),(34,.aq),(35,.aq),(36,.aq),(37,.aq),(38,.aq),(39,.aq),(40,.aq),(41,.aq),(42,.aq),(43,.aq),(44,.aq),(45,.aq),(46,.aq),(47,.aq),(48,.aq),(49,.aq),(50,.aq),(51,.aq),(52,.aq),(53,.aq),(54,.aq),(55,.aq),(56,.aq),(57,.aq),(58,.aq),(59,.aq),(60,.aq),(61,.aq),(62,.aq),(63,.aq),(64,.aq),(65,.aq),(66,.aq),(67,.aq),(68,.aq),(69,.aq),(70,.aq),(71,.aq),(72,.aq),(73,.aq),(74,.aq)])
   (fun x=>[.var (r.enc.map .aa)]) (fun x=>p.length-x.1) (0,0,0) ⟨by show 0<p.length;omega,SS 0,rfl,aG⟩ ?_ (fun x hJ=>?_)
  .refine View.o1 2 [0] [] ?_
   .exact .put (by simp[bz]) rfl (.eq rfl aG) (.nil _)
  .obtain⟨a,eB,s⟩:=x;obtain⟨aB,GM,AW,uo⟩:=hJ;have aB:a<p.length:=aB;have GM:s<=a:=GM;have AW:(ja p r a eB).1=(ja p r 0 0).1:=AW;have uo:(ja p r a eB).2+s=(ja p r 0 0).2:=uo;have hi:=IE aB;generalize p[a]=i at hi;obtain⟨o,jt,jf,k⟩:=i;have hg:cR (p.map dX.enc) (a:Nat)=some [.val (.int .i64 o),.val (.int .i64 jt),.val (.int .i64 jf),.val (.int .i64 k)]:=by rw[bn,Q8,hi];rfl
   have next:∀(d:Nat)(As:Int),ja p r a eB=((ja p r (a+d) As).1,(ja p r (a+d) As).2+1)->(1<=d/\a+d<p.length)->∀{G:Prop},
     (((a+d<p.length)/\s+1<=a+d/\(ja p r (a+d) As).1=(ja p r 0 0).1/\(ja p r (a+d) As).2+((s+1:Nat):Int)=(ja p r 0 0).2)->(p.length-(a+d)<p.length-a)->G)->G:=by
    intro d As hw hd G hG;refine hG ⟨hd.2,om,?_,?_⟩ om
    .rw[<-AW,hw]
    .rw[<-uo,hw];simp only;omega
   refine ag hg ?_;rcases Jg h hi with⟨rfl,k1,k2,k3⟩|⟨ho,j1,j2,j3,j4,j5,j6⟩|⟨rfl,k1,k2⟩|⟨rfl,k1⟩
   .obtain⟨n,rfl⟩:∃n:Nat,k=n:=⟨k.toNat,om⟩;refine ag (cn om) ?_;refine ag (r.aaD om) ?_;refine next 1 (r.get n) (lR hi aG (by simp[th])) om (fun hJ hm=>?_)
    exact⟨(a+1,r.get n,s+1),hJ,hm,View.o 2 [0] [] (by
     repeat(first|exact .nil|refine .aq ?_|refine .put (.aO (ap om).symm) ?_|refine .eq rfl ?_|refine .eq (congrArg (fun x=>an .i64 x) ((by rw[np (n:=a+1) om]:((a+1:Nat):Int)=_))) ?_)) (.put (by simp[bz]) rfl (.eq rfl aG) (.nil _))⟩
   .obtain⟨x,rfl⟩:∃n:Nat,jt=n:=⟨jt.toNat,om⟩;obtain⟨y,rfl⟩:∃n:Nat,jf=n:=⟨jf.toNat,om⟩;have ex:IntKind.i64.wrap ((a:Int)+IntKind.i64.wrap (1+(x:Int)))=((a+(1+x):Nat):Int):=by rw[gY (n:=1+(x:Int)) om om,gY om om];omega
    have ey:IntKind.i64.wrap ((a:Int)+IntKind.i64.wrap (1+(y:Int)))=((a+(1+y):Nat):Int):=by rw[gY (n:=1+(y:Int)) om om,gY om om];omega
    rcases ho with rfl|rfl|rfl
    .refine bI (fun hy=>?_) (fun hy=>?_)
     .skip
      refine next (1+x) eB (lR hi aG ((Rh x y k eB r).1 hy)) om (fun hJ hm=>?_)
      exact⟨(a+(1+x),eB,s+1),hJ,hm,View.o 2 [0] [] (by
       repeat(first|exact .nil|refine .aq ?_|refine .put (.aO (ap om).symm) ?_|refine .eq rfl ?_|refine .eq (congrArg (fun x=>an .i64 x) (ex.symm)) ?_)) (.put (by simp[bz]) rfl (.eq rfl aG) (.nil _))⟩
     .skip
      refine next (1+y) eB (lR hi aG ((Rh x y k eB r).2 hy)) om (fun hJ hm=>?_)
      exact⟨(a+(1+y),eB,s+1),hJ,hm,View.o 2 [0] [] (by
       repeat(first|exact .nil|refine .aq ?_|refine .put (.aO (ap om).symm) ?_|refine .eq rfl ?_|refine .eq (congrArg (fun x=>an .i64 x) (ey.symm)) ?_)) (.put (by simp[bz]) rfl (.eq rfl aG) (.nil _))⟩
    .refine ay (fun hy=>?_) (fun hy=>?_)
     .skip
      refine next (1+x) eB (lR hi aG ((Ri x y k eB r).1 hy)) om (fun hJ hm=>?_)
      exact⟨(a+(1+x),eB,s+1),hJ,hm,View.o 2 [0] [] (by
       repeat(first|exact .nil|refine .aq ?_|refine .put (.aO (ap om).symm) ?_|refine .eq rfl ?_|refine .eq (congrArg (fun x=>an .i64 x) (ex.symm)) ?_)) (.put (by simp[bz]) rfl (.eq rfl aG) (.nil _))⟩
     .skip
      refine next (1+y) eB (lR hi aG ((Ri x y k eB r).2 hy)) om (fun hJ hm=>?_)
      exact⟨(a+(1+y),eB,s+1),hJ,hm,View.o 2 [0] [] (by
       repeat(first|exact .nil|refine .aq ?_|refine .put (.aO (ap om).symm) ?_|refine .eq rfl ?_|refine .eq (congrArg (fun x=>an .i64 x) (ey.symm)) ?_)) (.put (by simp[bz]) rfl (.eq rfl aG) (.nil _))⟩
    .refine bG (fun hy=>?_) (fun hy=>?_)
     .skip
      refine next (1+x) eB (lR hi aG ((Rj x y k eB r).1 hy)) om (fun hJ hm=>?_)
      exact⟨(a+(1+x),eB,s+1),hJ,hm,View.o 2 [0] [] (by
       repeat(first|exact .nil|refine .aq ?_|refine .put (.aO (ap om).symm) ?_|refine .eq rfl ?_|refine .eq (congrArg (fun x=>an .i64 x) (ex.symm)) ?_)) (.put (by simp[bz]) rfl (.eq rfl aG) (.nil _))⟩
     .skip
      refine next (1+y) eB (lR hi aG ((Rj x y k eB r).2 hy)) om (fun hJ hm=>?_)
      exact⟨(a+(1+y),eB,s+1),hJ,hm,View.o 2 [0] [] (by
       repeat(first|exact .nil|refine .aq ?_|refine .put (.aO (ap om).symm) ?_|refine .eq rfl ?_|refine .eq (congrArg (fun x=>an .i64 x) (ey.symm)) ?_)) (.put (by simp[bz]) rfl (.eq rfl aG) (.nil _))⟩
   .obtain⟨n,rfl⟩:∃n:Nat,k=n:=⟨k.toNat,om⟩;have ex:IntKind.i64.wrap ((a:Int)+IntKind.i64.wrap (1+(n:Int)))=((a+(1+n):Nat):Int):=by rw[gY (n:=1+(n:Int)) om om,gY om om];omega
    refine next (1+n) eB (lR hi aG (by simp[th])) om (fun hJ hm=>?_)
    exact⟨(a+(1+n),eB,s+1),hJ,hm,View.o 2 [0] [] (by
     repeat(first|exact .nil|refine .aq ?_|refine .put (.aO (ap om).symm) ?_|refine .eq rfl ?_|refine .eq (congrArg (fun x=>an .i64 x) (ex.symm)) ?_)) (.put (by simp[bz]) rfl (.eq rfl aG) (.nil _))⟩
   .have hb:ja p r a eB=(k,1):=Jf hi rfl;rw[hb]at AW uo;show CV.bK [cS k,cS (IntKind.i64.wrap ((s:Int)+1))]=_;rw[<-Tf (s:=s) om];have e2:ja p r 0 0=(k,((s+1:Nat):Int)):=Prod.ext AW.symm (by rw[<-uo];simp only;omega)
    rw[e2];rfl
theorem Fq(p:List dX)(r:yM){m:Mem}{K:CV->Mem->Prop}(h:K (Rk (xy p r)) m):au Tryz.prog 36 [rJ p,r.cv] m K:=
 bs Tryz.func36 l36 rfl (X5 rfl) (wJ p r) rfl rfl h
def c14:LF:= ⟨22,[.cell true 6 2],(.seq (.ai [qu 1 (.box 0),qu 2 (.alloc [qd 0,qd 0,qd 0,qd 0,qd 0,qd 0])]) (.seq (.ai [qf 3 1 1,ql 4 3,qu 5 (.aF .and 4 (qi 2147483647)),qf 6 2 1,ql 7 6,qu 8 (.aF .and 7 (qi 2147483647)),qf 9 3 1,ql 10 9,qu 11 (.aF .and 10 (qi 2147483647)),qf 12 4 1,ql 13 12,qu 14 (.aF .and 13 (qi 2147483647)),qf 15 5 1,ql 16 15,qu 17 (.aF .and 16 (qi 2147483647)),qf 18 6 1,ql 19 18,qu 20 (.aF .and 19 (qi 2147483647)),qu 21 (.build [qd 0,qd 0,qd 0,qd 0,qd 0,qd 0] [(0,1,5),(1,1,8),(2,1,11),(3,1,14),(4,1,17),(5,1,20)]),qw (.store 6 2 21)]) .ret))⟩
def c21:LF:= ⟨116,[.cell true 3 6,.cell true 4 7],(.seq (.ai [qu 4 (.box 1),qu 5 (.box 2),qu 6 (.alloc [.aI,.aI,.aI]),qu 7 (.alloc [qd 0,qd 0,qd 0,.aI])]) (.seq (.block 0 (.seq (.ai [qL 13 3 4,qf 14 0 5,ql 15 14,qu 16 (qc 35 [13,15]),qu 17 (.un .not 16),qm 12 17]) (.cond 12 (.seq (.ai [qL 18 3 4,qu 19 (.build [qd 0,qd 0,qd 0,.aI] [(0,1,qi 6)]),qw (.store 3 6 18),qw (.store 4 7 19)]) .ret) (.seq (.ai [qf 21 1 5,ql 22 21,qu 23 (.aF .lss 22 (qi 1)),qm 24 23,qg 25 (.br 1 5) 24 false,qg 26 (.load false 1 25) 24 false,qg 27 (.aF .gtr 26 (qi 22)) 24 false,qu 28 (.pick 24 (qb true) 27),qm 20 28]) (.cond 20 (.seq (.ai [qL 29 3 4,qu 30 (.build [qd 0,qd 0,qd 0,.aI] [(0,1,qi 1)]),qw (.store 3 6 29),qw (.store 4 7 30)]) .ret) .skip))))) (.cu (.seq (.seq (.ai [qf 31 2 4,ql 32 31,qf 33 0 5,ql 34 33,qu 35 (.bW 4 32 34),qf 36 1 35,ql 37 36]) (.cond 37 (.seq (.ai [qm 39 0,qL 40 9 5,qu 41 (qc 14 [40]),qu 42 (qc 36 [39,41]),qm 38 42,qu 43 (.ext 38 0),qu 44 (.ext 38 1),qm 8 43,qm 9 44]) (.seq (.ai [qm 45 8,qu 46 (.aF .neq 45 (qi 1)),qm 47 46,qg 48 (.br 1 5) 47 false,qg 49 (.load false 1 48) 47 false,qg 50 (.aF .eql 49 (qi 2)) 47 false,qu 51 (.pick 47 (qb true) 50)]) (.cond 51 (.seq (.ai [qL 52 3 4,qu 53 (.build [qd 0,qd 0,qd 0,.aI] [(0,1,qi 9)]),qw (.store 3 6 52),qw (.store 4 7 53)]) .ret) .skip))) .skip)) (.cu (.seq (.ai [qL 54 3 4,qf 55 0 5,ql 56 55,qu 57 (.build [.aI,.aI,.aI,qd 0] [(0,3,54),(3,1,56)]),qu 58 (.box 57),qm 10 58]) (.seq (.ai [qu 11 (.alloc [qd 0,qd 0,qd 0,.aI])]) (.seq (.seq (.ai [qf 59 1 5,ql 60 59]) (.block 1 (.seq (.seq (.ai [qu 64 (.aF .eql 60 (qi 2)),qm 63 64]) (.cond 63 .skip (.ai [qu 65 (.aF .eql 60 (qi 3)),qm 63 65]))) (.cond 63 (.ai [qm 66 10,qu 67 (qc 37 [66,5]),qw (.store 4 11 67)]) (.seq (.seq (.ai [qu 69 (.aF .eql 60 (qi 4)),qm 68 69]) (.cond 68 .skip (.seq (.ai [qu 70 (.aF .eql 60 (qi 5)),qm 68 70]) (.cond 68 .skip (.ai [qu 71 (.aF .eql 60 (qi 6)),qm 68 71]))))) (.cond 68 (.ai [qm 72 10,qu 73 (qc 38 [72,5]),qw (.store 4 11 73)]) (.seq (.seq (.ai [qu 75 (.aF .eql 60 (qi 7)),qm 74 75]) (.cond 74 .skip (.seq (.ai [qu 76 (.aF .eql 60 (qi 8)),qm 74 76]) (.cond 74 .skip (.ai [qu 77 (.aF .eql 60 (qi 9)),qm 74 77]))))) (.cond 74 (.ai [qm 78 10,qu 79 (qc 39 [78,5]),qw (.store 4 11 79)]) (.seq (.seq (.ai [qu 81 (.aF .eql 60 (qi 10)),qm 80 81]) (.cond 80 .skip (.ai [qu 82 (.aF .eql 60 (qi 11)),qm 80 82]))) (.cond 80 (.ai [qm 83 10,qu 84 (qc 40 [83,5]),qw (.store 4 11 84)]) (.seq (.seq (.ai [qu 86 (.aF .eql 60 (qi 12)),qm 85 86]) (.cond 85 .skip (.seq (.ai [qu 87 (.aF .eql 60 (qi 13)),qm 85 87]) (.cond 85 .skip (.ai [qu 88 (.aF .eql 60 (qi 14)),qm 85 88]))))) (.cond 85 (.ai [qm 89 10,qu 90 (qc 41 [89,5]),qw (.store 4 11 90)]) (.seq (.ai [qu 92 (.aF .eql 60 (qi 15)),qm 91 92]) (.cond 91 (.ai [qm 93 10,qu 94 (qc 42 [93]),qw (.store 4 11 94)]) (.seq (.ai [qu 96 (.aF .eql 60 (qi 16)),qm 95 96]) (.cond 95 (.ai [qm 97 10,qu 98 (qc 43 [97,5]),qw (.store 4 11 98)]) (.seq (.ai [qu 100 (.aF .eql 60 (qi 17)),qm 99 100]) (.cond 99 (.ai [qm 101 10,qu 102 (qc 44 [101,5]),qw (.store 4 11 102)]) (.ai [qm 61 10,qu 62 (qc 45 [61,5]),qw (.store 4 11 62)]))))))))))))))))))) (.cu (.seq (.seq (.ai [qf 103 0 11,ql 104 103,qu 105 (.aF .neq 104 (qi 0))]) (.cond 105 (.seq (.bX [qL 106 3 4,qf 107 0 11,ql 108 107,qu 109 (.build [qd 0,qd 0,qd 0,.aI] [(0,1,108)]),qw (.store 3 6 106),qw (.store 4 7 109)] [(.cons 0 none (.cons 1 none (.cons 2 none (.cons 3 none (.cons 4 (some [2]) (.cons 5 (some []) .nil))))))]) .ret) .skip)) (.seq (.bX [qm 110 10,qu 111 (.aY 110),qf 112 0 111,qL 113 3 112,qu 114 (qc 46 [113]),qL 115 4 11,qw (.store 3 6 114),qw (.store 4 7 115)] [(.cons 0 none (.cons 1 none (.cons 2 none (.cons 3 none (.cons 5 none (.cons 4 (some [5]) (.cons 6 (some [5]) (.cons 7 (some []) .nil))))))))]) .ret)))))))))))⟩
namespace Kn
def rT(a:Int):Int:=lj a 2147483647
def nc(c:Cl):yM:=⟨rT c.ah,rT c.fd,rT c.gA,rT c.n,rT c.bF,rT c.bc⟩
def iB(k:Kr)(p:Nat)(c:Cl):Kr×An:=
 if c.ah=2\/c.ah=3 then iO k p c
 else if c.ah=4\/c.ah=5\/c.ah=6 then jF k p c
 else if c.ah=7\/c.ah=8\/c.ah=9 then oB k p c
 else if c.ah=10\/c.ah=11 then k6 k p c
 else if c.ah=12\/c.ah=13\/c.ah=14 then lP k p c
 else if c.ah=15 then ny k p
 else if c.ah=16 then nv k p c
 else if c.ah=17 then nw k p c
 else fP k p c
def N7(k:Kr)(x:Kr×An):Kr×An:=if x.2.js≠0 then(k,An.no x.2.js)else(kU x.1,x.2)
def o9(prog:List dX)(k:Kr)(c:Cl):Kr×An:=
 if fu k.ps c.aM=false then(k,An.no 6)
 else if c.ah<1\/c.ah>22 then(k,An.no 1)
 else if ke k.ps c.aM.toNat=true/\((xy prog (nc c)).1≠1\/c.ah=2)then(k,An.no 9)
 else N7 k (iB k c.aM.toNat c)
structure M4(k:Kr)(p:Nat)(c:Cl):Prop where
 w:KW k p
 op:∀aA aE,E4 k p c (jx k aA c.cN aE true)
 pr:S8 k p (fC k.l)
 q:∀o,o∈k.l->o.ah=5->∃n:Nat,o.aM=n/\n<k.ps.length
 iC:(iB k p c).2.js=0->dF (iB k p c).1.l (iB k p c).1.ops (iB k p c).1.ps
theorem l14:bx Tryz.prog Tryz.f14=some c14:=by kernel_rfl
theorem yO(c:Cl){m:Mem}{K:CV->Mem->Prop}(h:K (nc c).cv m):au Tryz.prog 14 [c.cv] m K:=
 bs Tryz.func14 l14 rfl (X5 rfl) (show body Tryz.prog c14 [c.cv] [] (fun r m=>r=(nc c).cv)from rfl) rfl rfl h
theorem l21:bx Tryz.prog Tryz.f21=some c21.er:=by kernel_rfl
def aaE:LC:=bv (bv c21.code)
def WN:LC:=lX aaE
def aaF:LC:=bv WN
def WO:LC:=lX aaF
def WQ:LC:=bv (bv (bv WO))
def WR:LC:=lX WQ
def WS(x:Kr×An):CV:= .bK [iM x.1,x.2.rv]
def QD(x:Kr×An):Ex->St->Prop:=mg Tryz.prog c21.kD (fun r m=>cJ m r (WS x))
def rQ:Bk:= .var [.aI,.aI,.aI]
theorem yP{m:Mem}{k:Kr}{e n x:Int}:cJ m (.bK [iM k,.agg [.aa (.val (.int .i64 e)),.aa (.val (.int .i64 n)),.aa (.val (.int .i64 x)),.aI]]) (WS (k,⟨e,n,x,[]⟩)):=by
 refine .bK rfl fun i r r' h1 h2=>?_
 match i,h1,h2 with
 |0,h1,h2=>cases h1;cases h2;exact eT.self rfl
 |1,h1,h2=>
  cases h1;cases h2;refine .agg rfl fun i c c' h1 h2=>?_
  match i,h1,h2 with
  |0,h1,h2=>cases h1;cases h2;exact .self rfl
  |1,h1,h2=>cases h1;cases h2;exact .self rfl
  |2,h1,h2=>cases h1;cases h2;exact .self rfl
  |3,h1,h2=>cases h1;cases h2;exact .aI 1
  |n+4,h1,h2=>simp at h1
 |n+2,h1,h2=>simp at h1
theorem Pz(k:Kr)(p:Nat)(c:Cl)(x:Kr×An)(hx:x.2.js=0->dF x.1.l x.1.ops x.1.ps):
  aw Tryz.prog 0 WR (QD (N7 k x))
   ⟨iL 116 [(4,.rv (.one (.ptr 0 0))),(6,.rv (.one (.ptr 1 0))),(7,.rv (.one (.ptr 2 0))),(10,.rv (.one (.ptr 3 0))),(11,.rv (.one (.ptr 4 0)))],[kB k,rQ,cf,xB x.1 p,.var (x.2.enc.map .aa)]⟩:=by
 obtain⟨k',⟨js,n,mm,data⟩⟩:=x;refine bG (fun he=>?_) (fun he=>?_)
 .have he:js≠0:=he;rw[N7,if_pos he];refine⟨⟨rfl,trivial⟩,trivial,?_⟩;exact yP
 .have he:js=0:=he;subst he;rw[N7,if_neg aG];refine Iw k' (hx rfl) ?_;refine⟨⟨rfl,trivial⟩,⟨rfl,trivial⟩,trivial,?_⟩;exact cJ.self rfl
theorem Tg(k:Kr)(p:Nat)(cG:p<k.ps.length)(c:Cl)(hc:c.aM=p)(hk:¬(c.ah<1\/c.ah>22))(hi:M4 k p c)(hd:c.data.length<=4194304):
  aw Tryz.prog 0 WO (QD (N7 k (iB k p c)))
   ⟨iL 116 [(4,.rv (.one (.ptr 0 0))),(5,.rv (.one (.ptr 1 0))),(6,.rv (.one (.ptr 2 0))),(7,.rv (.one (.ptr 3 0)))],[kB k,cB c,rQ,cf]⟩:=by
 have hs:=fun(x:Kr×An)(h:iB k p c=x)=>Pz k p c x (by rw[<-h];exact hi.iC)
 obtain⟨aM,ah,fd,gA,n,bF,bc,cN,data⟩:=c;have hc:aM=(p:Nat):=hc;subst hc;have hr:ah=1\/ah=2\/ah=3\/ah=4\/ah=5\/ah=6\/ah=7\/ah=8\/ah=9\/ah=10\/ah=11\/ah=12\/ah=13\/ah=14\/ah=15\/ah=16\/ah=17\/ah=18\/ah=19\/ah=20\/ah=21\/ah=22:=by have hk:¬(ah<1\/ah>22):=hk;omega
 rcases hr with h|h|h|h|h|h|h|h|h|h|h|h|h|h|h|h|h|h|h|h|h|h
 .subst h;have dR:iB k p ⟨(p:Nat),1,fd,gA,n,bF,bc,cN,data⟩=fP k p ⟨(p:Nat),1,fd,gA,n,bF,bc,cN,data⟩:=by rw[iB,if_neg aG,if_neg aG,if_neg aG,if_neg aG,if_neg aG,if_neg aG,if_neg aG,if_neg aG]
  rw[dR];refine dM (i9 k p hi.w _ (by simp[qn]) hi.q) 4 1 rfl rfl rfl rfl ?_
  refine⟨_,View.o1 6 [0,2,3,4,5] [] ?_,hs _ dR⟩
  .exact .pt rfl rfl (.eq rfl (fa _)) (.pt rfl rfl (.eq rfl (by simp[rQ])) (.pt rfl rfl (.eq rfl (by simp[cf])) (.pt rfl rfl (.eq rfl (bL _ _)) (.pm rfl rfl rfl))))
 .subst h;have dR:iB k p ⟨(p:Nat),2,fd,gA,n,bF,bc,cN,data⟩=iO k p ⟨(p:Nat),2,fd,gA,n,bF,bc,cN,data⟩:=by rw[iB,if_pos aG]
  rw[dR];refine dM (yH k p hi.w _ hi.op) 4 1 rfl rfl rfl rfl ?_;refine⟨_,View.o1 6 [0,2,3,4,5] [] ?_,hs _ dR⟩
  .exact .pt rfl rfl (.eq rfl (fa _)) (.pt rfl rfl (.eq rfl (by simp[rQ])) (.pt rfl rfl (.eq rfl (by simp[cf])) (.pt rfl rfl (.eq rfl (bL _ _)) (.pm rfl rfl rfl))))
 .subst h;have dR:iB k p ⟨(p:Nat),3,fd,gA,n,bF,bc,cN,data⟩=iO k p ⟨(p:Nat),3,fd,gA,n,bF,bc,cN,data⟩:=by rw[iB,if_pos aG]
  rw[dR];refine dM (yH k p hi.w _ hi.op) 4 1 rfl rfl rfl rfl ?_;refine⟨_,View.o1 6 [0,2,3,4,5] [] ?_,hs _ dR⟩
  .exact .pt rfl rfl (.eq rfl (fa _)) (.pt rfl rfl (.eq rfl (by simp[rQ])) (.pt rfl rfl (.eq rfl (by simp[cf])) (.pt rfl rfl (.eq rfl (bL _ _)) (.pm rfl rfl rfl))))
 .subst h;have dR:iB k p ⟨(p:Nat),4,fd,gA,n,bF,bc,cN,data⟩=jF k p ⟨(p:Nat),4,fd,gA,n,bF,bc,cN,data⟩:=by rw[iB,if_neg aG,if_pos aG]
  rw[dR];refine dM (qk k p hi.w _ (.inl rfl) hd) 4 1 rfl rfl rfl rfl ?_;refine⟨_,View.o1 6 [0,2,3,4,5] [] ?_,hs _ dR⟩
  .exact .pt rfl rfl (.eq rfl (fa _)) (.pt rfl rfl (.eq rfl (by simp[rQ])) (.pt rfl rfl (.eq rfl (by simp[cf])) (.pt rfl rfl (.eq rfl (bL _ _)) (.pm rfl rfl rfl))))
 .subst h;have dR:iB k p ⟨(p:Nat),5,fd,gA,n,bF,bc,cN,data⟩=jF k p ⟨(p:Nat),5,fd,gA,n,bF,bc,cN,data⟩:=by rw[iB,if_neg aG,if_pos aG]
  rw[dR];refine dM (qk k p hi.w _ (.inr (.inl rfl)) hd) 4 1 rfl rfl rfl rfl ?_;refine⟨_,View.o1 6 [0,2,3,4,5] [] ?_,hs _ dR⟩
  .exact .pt rfl rfl (.eq rfl (fa _)) (.pt rfl rfl (.eq rfl (by simp[rQ])) (.pt rfl rfl (.eq rfl (by simp[cf])) (.pt rfl rfl (.eq rfl (bL _ _)) (.pm rfl rfl rfl))))
 .subst h;have dR:iB k p ⟨(p:Nat),6,fd,gA,n,bF,bc,cN,data⟩=jF k p ⟨(p:Nat),6,fd,gA,n,bF,bc,cN,data⟩:=by rw[iB,if_neg aG,if_pos aG]
  rw[dR];refine dM (qk k p hi.w _ (.inr (.inr rfl)) hd) 4 1 rfl rfl rfl rfl ?_;refine⟨_,View.o1 6 [0,2,3,4,5] [] ?_,hs _ dR⟩
  .exact .pt rfl rfl (.eq rfl (fa _)) (.pt rfl rfl (.eq rfl (by simp[rQ])) (.pt rfl rfl (.eq rfl (by simp[cf])) (.pt rfl rfl (.eq rfl (bL _ _)) (.pm rfl rfl rfl))))
 .subst h;have dR:iB k p ⟨(p:Nat),7,fd,gA,n,bF,bc,cN,data⟩=oB k p ⟨(p:Nat),7,fd,gA,n,bF,bc,cN,data⟩:=by rw[iB,if_neg aG,if_neg aG,if_pos aG]
  rw[dR];refine dM (sV k p hi.w _) 4 1 rfl rfl rfl rfl ?_;refine⟨_,View.o1 6 [0,2,3,4,5] [] ?_,hs _ dR⟩
  .exact .pt rfl rfl (.eq rfl (fa _)) (.pt rfl rfl (.eq rfl (by simp[rQ])) (.pt rfl rfl (.eq rfl (by simp[cf])) (.pt rfl rfl (.eq rfl (bL _ _)) (.pm rfl rfl rfl))))
 .subst h;have dR:iB k p ⟨(p:Nat),8,fd,gA,n,bF,bc,cN,data⟩=oB k p ⟨(p:Nat),8,fd,gA,n,bF,bc,cN,data⟩:=by rw[iB,if_neg aG,if_neg aG,if_pos aG]
  rw[dR];refine dM (sV k p hi.w _) 4 1 rfl rfl rfl rfl ?_;refine⟨_,View.o1 6 [0,2,3,4,5] [] ?_,hs _ dR⟩
  .exact .pt rfl rfl (.eq rfl (fa _)) (.pt rfl rfl (.eq rfl (by simp[rQ])) (.pt rfl rfl (.eq rfl (by simp[cf])) (.pt rfl rfl (.eq rfl (bL _ _)) (.pm rfl rfl rfl))))
 .subst h;have dR:iB k p ⟨(p:Nat),9,fd,gA,n,bF,bc,cN,data⟩=oB k p ⟨(p:Nat),9,fd,gA,n,bF,bc,cN,data⟩:=by rw[iB,if_neg aG,if_neg aG,if_pos aG]
  rw[dR];refine dM (sV k p hi.w _) 4 1 rfl rfl rfl rfl ?_;refine⟨_,View.o1 6 [0,2,3,4,5] [] ?_,hs _ dR⟩
  .exact .pt rfl rfl (.eq rfl (fa _)) (.pt rfl rfl (.eq rfl (by simp[rQ])) (.pt rfl rfl (.eq rfl (by simp[cf])) (.pt rfl rfl (.eq rfl (bL _ _)) (.pm rfl rfl rfl))))
 .subst h;have dR:iB k p ⟨(p:Nat),10,fd,gA,n,bF,bc,cN,data⟩=k6 k p ⟨(p:Nat),10,fd,gA,n,bF,bc,cN,data⟩:=by rw[iB,if_neg aG,if_neg aG,if_neg aG,if_pos aG]
  rw[dR];refine dM (wB k p hi.w _) 4 1 rfl rfl rfl rfl ?_;refine⟨_,View.o1 6 [0,2,3,4,5] [] ?_,hs _ dR⟩
  .exact .pt rfl rfl (.eq rfl (fa _)) (.pt rfl rfl (.eq rfl (by simp[rQ])) (.pt rfl rfl (.eq rfl (by simp[cf])) (.pt rfl rfl (.eq rfl (bL _ _)) (.pm rfl rfl rfl))))
 .subst h;have dR:iB k p ⟨(p:Nat),11,fd,gA,n,bF,bc,cN,data⟩=k6 k p ⟨(p:Nat),11,fd,gA,n,bF,bc,cN,data⟩:=by rw[iB,if_neg aG,if_neg aG,if_neg aG,if_pos aG]
  rw[dR];refine dM (wB k p hi.w _) 4 1 rfl rfl rfl rfl ?_;refine⟨_,View.o1 6 [0,2,3,4,5] [] ?_,hs _ dR⟩
  .exact .pt rfl rfl (.eq rfl (fa _)) (.pt rfl rfl (.eq rfl (by simp[rQ])) (.pt rfl rfl (.eq rfl (by simp[cf])) (.pt rfl rfl (.eq rfl (bL _ _)) (.pm rfl rfl rfl))))
 .subst h;have dR:iB k p ⟨(p:Nat),12,fd,gA,n,bF,bc,cN,data⟩=lP k p ⟨(p:Nat),12,fd,gA,n,bF,bc,cN,data⟩:=by rw[iB,if_neg aG,if_neg aG,if_neg aG,if_neg aG,if_pos aG]
  rw[dR];refine dM (sW k p hi.w _) 4 1 rfl rfl rfl rfl ?_;refine⟨_,View.o1 6 [0,2,3,4,5] [] ?_,hs _ dR⟩
  .exact .pt rfl rfl (.eq rfl (fa _)) (.pt rfl rfl (.eq rfl (by simp[rQ])) (.pt rfl rfl (.eq rfl (by simp[cf])) (.pt rfl rfl (.eq rfl (bL _ _)) (.pm rfl rfl rfl))))
 .subst h;have dR:iB k p ⟨(p:Nat),13,fd,gA,n,bF,bc,cN,data⟩=lP k p ⟨(p:Nat),13,fd,gA,n,bF,bc,cN,data⟩:=by rw[iB,if_neg aG,if_neg aG,if_neg aG,if_neg aG,if_pos aG]
  rw[dR];refine dM (sW k p hi.w _) 4 1 rfl rfl rfl rfl ?_;refine⟨_,View.o1 6 [0,2,3,4,5] [] ?_,hs _ dR⟩
  .exact .pt rfl rfl (.eq rfl (fa _)) (.pt rfl rfl (.eq rfl (by simp[rQ])) (.pt rfl rfl (.eq rfl (by simp[cf])) (.pt rfl rfl (.eq rfl (bL _ _)) (.pm rfl rfl rfl))))
 .subst h;have dR:iB k p ⟨(p:Nat),14,fd,gA,n,bF,bc,cN,data⟩=lP k p ⟨(p:Nat),14,fd,gA,n,bF,bc,cN,data⟩:=by rw[iB,if_neg aG,if_neg aG,if_neg aG,if_neg aG,if_pos aG]
  rw[dR];refine dM (sW k p hi.w _) 4 1 rfl rfl rfl rfl ?_;refine⟨_,View.o1 6 [0,2,3,4,5] [] ?_,hs _ dR⟩
  .exact .pt rfl rfl (.eq rfl (fa _)) (.pt rfl rfl (.eq rfl (by simp[rQ])) (.pt rfl rfl (.eq rfl (by simp[cf])) (.pt rfl rfl (.eq rfl (bL _ _)) (.pm rfl rfl rfl))))
 .subst h;have dR:iB k p ⟨(p:Nat),15,fd,gA,n,bF,bc,cN,data⟩=ny k p:=by rw[iB,if_neg aG,if_neg aG,if_neg aG,if_neg aG,if_neg aG,if_pos aG]
  rw[dR];refine M1 k p hi.w hi.pr 4 rfl ?_;refine⟨_,View.o1 6 [0,2,3,4,5] [] ?_,hs _ dR⟩
  .exact .pt rfl rfl (.eq rfl (fa _)) (.pt rfl rfl (.eq rfl (by simp[rQ])) (.pt rfl rfl (.eq rfl (by simp[cf])) (.pt rfl rfl (.eq rfl (bL _ _)) (.pm rfl rfl rfl))))
 .subst h;have dR:iB k p ⟨(p:Nat),16,fd,gA,n,bF,bc,cN,data⟩=nv k p ⟨(p:Nat),16,fd,gA,n,bF,bc,cN,data⟩:=by rw[iB,if_neg aG,if_neg aG,if_neg aG,if_neg aG,if_neg aG,if_neg aG,if_pos aG]
  rw[dR];refine dM (Jc k p hi.w _ hd) 4 1 rfl rfl rfl rfl ?_;refine⟨_,View.o1 6 [0,2,3,4,5] [] ?_,hs _ dR⟩
  .exact .pt rfl rfl (.eq rfl (fa _)) (.pt rfl rfl (.eq rfl (by simp[rQ])) (.pt rfl rfl (.eq rfl (by simp[cf])) (.pt rfl rfl (.eq rfl (bL _ _)) (.pm rfl rfl rfl))))
 .subst h;have dR:iB k p ⟨(p:Nat),17,fd,gA,n,bF,bc,cN,data⟩=nw k p ⟨(p:Nat),17,fd,gA,n,bF,bc,cN,data⟩:=by rw[iB,if_neg aG,if_neg aG,if_neg aG,if_neg aG,if_neg aG,if_neg aG,if_neg aG,if_pos aG]
  rw[dR];refine dM (Jd k p hi.w _) 4 1 rfl rfl rfl rfl ?_;refine⟨_,View.o1 6 [0,2,3,4,5] [] ?_,hs _ dR⟩
  .exact .pt rfl rfl (.eq rfl (fa _)) (.pt rfl rfl (.eq rfl (by simp[rQ])) (.pt rfl rfl (.eq rfl (by simp[cf])) (.pt rfl rfl (.eq rfl (bL _ _)) (.pm rfl rfl rfl))))
 .subst h;have dR:iB k p ⟨(p:Nat),18,fd,gA,n,bF,bc,cN,data⟩=fP k p ⟨(p:Nat),18,fd,gA,n,bF,bc,cN,data⟩:=by rw[iB,if_neg aG,if_neg aG,if_neg aG,if_neg aG,if_neg aG,if_neg aG,if_neg aG,if_neg aG]
  rw[dR];refine dM (i9 k p hi.w _ (by simp[qn]) hi.q) 4 1 rfl rfl rfl rfl ?_
  refine⟨_,View.o1 6 [0,2,3,4,5] [] ?_,hs _ dR⟩
  .exact .pt rfl rfl (.eq rfl (fa _)) (.pt rfl rfl (.eq rfl (by simp[rQ])) (.pt rfl rfl (.eq rfl (by simp[cf])) (.pt rfl rfl (.eq rfl (bL _ _)) (.pm rfl rfl rfl))))
 .subst h;have dR:iB k p ⟨(p:Nat),19,fd,gA,n,bF,bc,cN,data⟩=fP k p ⟨(p:Nat),19,fd,gA,n,bF,bc,cN,data⟩:=by rw[iB,if_neg aG,if_neg aG,if_neg aG,if_neg aG,if_neg aG,if_neg aG,if_neg aG,if_neg aG]
  rw[dR];refine dM (i9 k p hi.w _ (by simp[qn]) hi.q) 4 1 rfl rfl rfl rfl ?_
  refine⟨_,View.o1 6 [0,2,3,4,5] [] ?_,hs _ dR⟩
  .exact .pt rfl rfl (.eq rfl (fa _)) (.pt rfl rfl (.eq rfl (by simp[rQ])) (.pt rfl rfl (.eq rfl (by simp[cf])) (.pt rfl rfl (.eq rfl (bL _ _)) (.pm rfl rfl rfl))))
 .subst h;have dR:iB k p ⟨(p:Nat),20,fd,gA,n,bF,bc,cN,data⟩=fP k p ⟨(p:Nat),20,fd,gA,n,bF,bc,cN,data⟩:=by rw[iB,if_neg aG,if_neg aG,if_neg aG,if_neg aG,if_neg aG,if_neg aG,if_neg aG,if_neg aG]
  rw[dR];refine dM (i9 k p hi.w _ (by simp[qn]) hi.q) 4 1 rfl rfl rfl rfl ?_
  refine⟨_,View.o1 6 [0,2,3,4,5] [] ?_,hs _ dR⟩
  .exact .pt rfl rfl (.eq rfl (fa _)) (.pt rfl rfl (.eq rfl (by simp[rQ])) (.pt rfl rfl (.eq rfl (by simp[cf])) (.pt rfl rfl (.eq rfl (bL _ _)) (.pm rfl rfl rfl))))
 .subst h;have dR:iB k p ⟨(p:Nat),21,fd,gA,n,bF,bc,cN,data⟩=fP k p ⟨(p:Nat),21,fd,gA,n,bF,bc,cN,data⟩:=by rw[iB,if_neg aG,if_neg aG,if_neg aG,if_neg aG,if_neg aG,if_neg aG,if_neg aG,if_neg aG]
  rw[dR];refine dM (i9 k p hi.w _ (by simp[qn]) hi.q) 4 1 rfl rfl rfl rfl ?_
  refine⟨_,View.o1 6 [0,2,3,4,5] [] ?_,hs _ dR⟩
  .exact .pt rfl rfl (.eq rfl (fa _)) (.pt rfl rfl (.eq rfl (by simp[rQ])) (.pt rfl rfl (.eq rfl (by simp[cf])) (.pt rfl rfl (.eq rfl (bL _ _)) (.pm rfl rfl rfl))))
 .subst h;have dR:iB k p ⟨(p:Nat),22,fd,gA,n,bF,bc,cN,data⟩=fP k p ⟨(p:Nat),22,fd,gA,n,bF,bc,cN,data⟩:=by rw[iB,if_neg aG,if_neg aG,if_neg aG,if_neg aG,if_neg aG,if_neg aG,if_neg aG,if_neg aG]
  rw[dR];refine dM (i9 k p hi.w _ (by simp[qn]) hi.q) 4 1 rfl rfl rfl rfl ?_
  refine⟨_,View.o1 6 [0,2,3,4,5] [] ?_,hs _ dR⟩
  .exact .pt rfl rfl (.eq rfl (fa _)) (.pt rfl rfl (.eq rfl (by simp[rQ])) (.pt rfl rfl (.eq rfl (by simp[cf])) (.pt rfl rfl (.eq rfl (bL _ _)) (.pm rfl rfl rfl))))
theorem Th(prog:List dX)(k:Kr)(p:Nat)(hp:p<k.ps.length)(c:Cl)(hc:c.aM=p)(hk:¬(c.ah<1\/c.ah>22))(hi:M4 k p c)(hd:c.data.length<=4194304)(R:Kr×An)(hR:R=if ke k.ps p=true/\((xy prog (nc c)).1≠1\/c.ah=2)then(k,An.no 9)else N7 k (iB k p c)):
  aw Tryz.prog 0 WN (QD R)
   ⟨iL 116 [(0,rJ prog),(4,.rv (.one (.ptr 0 0))),(5,.rv (.one (.ptr 1 0))),(6,.rv (.one (.ptr 2 0))),(7,.rv (.one (.ptr 3 0)))],[kB k,cB c,rQ,cf]⟩:=by
 have hs:=Tg k p hp c hc hk hi hd;have hf:ke k.ps p=k.ps[p].fenced:=by rw[ke,IE hp]
 refine ag (x:=[.val (.bool k.ps[p].aQ),.val (.bool k.ps[p].fenced),.val (.int .i64 k.ps[p].code),iu k.ps[p].aJ]) (by rw[hc];exact dW hp) ?_
 rw[hf]at hR;generalize k.ps[p].fenced=fen at hR;cases fen with
 |false=>
  rw[if_neg aG]at hR;subst hR;refine⟨_,View.o1 4 [0,1,2,3] [] ?_,hs⟩
  .exact .pt rfl rfl (.eq rfl (fa _)) (.pt rfl rfl (.eq rfl (cI _)) (.pt rfl rfl (.eq rfl (by simp[rQ])) (.pt rfl rfl (.eq rfl (by simp[cf])) (.nil _))))
 |true=>
  refine yO c ?_;refine Fq prog (nc c) ?_;generalize xy prog (nc c)=rr at hR;obtain⟨n,st⟩:=rr;refine bG (fun hn=>?_) (fun hn=>?_)
  .have hn:n≠1:=hn;rw[if_pos ⟨rfl,.inl hn⟩]at hR;subst hR;exact yP
  have hn:¬n≠1:=fun h=>h hn
  refine bI (fun h2=>?_) (fun h2=>?_)
  .have h2:c.ah=2:=h2;rw[if_pos ⟨rfl,.inr h2⟩]at hR;subst hR;exact yP
  have h2:¬c.ah=2:=h2;rw[if_neg (fun h=>h.2.elim hn h2)]at hR
  subst hR;refine⟨_,View.o1 4 [0,1,2,3] [] ?_,hs⟩
  .exact .pt rfl rfl (.eq rfl (fa _)) (.pt rfl rfl (.eq rfl (cI _)) (.pt rfl rfl (.eq rfl (by simp[rQ])) (.pt rfl rfl (.eq rfl (by simp[cf])) (.nil _))))
theorem PA(prog:List dX)(k:Kr)(c:Cl)(hi:∀(p:Nat)(hp:p<k.ps.length),c.aM=p->k.ps[p].aQ=true->M4 k p c)(hd:c.data.length<=4194304):
  body Tryz.prog c21 [rJ prog,cP k.l k.ops k.ps,c.cv] [] (fun r m=>cJ m r (WS (o9 prog k c))):=by
 refine ol k.l k.ops k.ps c.aM ?_;cases hl:fu k.ps c.aM with
 |false=>
  rw[o9,if_pos hl];exact yP
 |true=>
  obtain⟨p,hc,hp,cX⟩:=oo hl;have e0:o9 prog k c=if c.ah<1\/c.ah>22 then(k,An.no 1)
   else if ke k.ps p=true/\((xy prog (nc c)).1≠1\/c.ah=2)then(k,An.no 9)else N7 k (iB k p c):=by
   rw[o9,if_neg (by rw[hl];simp),hc,Z3]
  rw[e0];refine ay (fun h1=>?_) (fun h1=>?_)
  .have h1:c.ah<1:=h1;rw[if_pos (.inl h1)];exact yP
  have h1:¬c.ah<1:=h1;refine ay (fun h2=>?_) (fun h2=>?_)
  .have h2:c.ah>22:=h2;rw[if_pos (.inr h2)];exact yP
  have h2:¬c.ah>22:=h2;rw[if_neg om];refine⟨_,View.o1 4 [0,1,2,3] [] ?_,Th prog k p hp c hc om (hi p hp hc cX) hd _ rfl⟩
  .exact .pt rfl rfl (.eq rfl (fa _)) (.pt rfl rfl (.eq rfl (cI _)) (.pt rfl rfl (.eq rfl (by simp[rQ])) (.pt rfl rfl (.eq rfl (by simp[cf])) (.nil _))))
theorem WT(prog:List dX)(k:Kr)(c:Cl)(hi:∀(p:Nat)(hp:p<k.ps.length),c.aM=p->k.ps[p].aQ=true->M4 k p c)(hd:c.data.length<=4194304){m:Mem}{K:CV->Mem->Prop}(h:K (WS (o9 prog k c)) m):
  au Tryz.prog 21 [rJ prog,cP k.l k.ops k.ps,c.cv] m K:=
 be (cg Tryz.func21 l21 (PA prog k c hi hd)) (by simp[cP,cU,d5,ff,rJ,Cl.cv,Cl.enc,CV.dm,CC.dm,RV.dm]) fun r m1 hf=>⟨_,hf,h⟩
end Kn
end Go.Proofs.YtojhmadmlnfpcaaGreatDoor
