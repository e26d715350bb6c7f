/- Part 25 of 35. -/
import Derived.Test.YtllkfpggoigbaaaGreatDoorS15
import Derived.Test.YtllkfpggoigbaaaGreatDoorS24
set_option linter.unusedVariables false
set_option linter.unusedSimpArgs false
set_option linter.unnecessarySimpa false
set_option maxRecDepth 100000
set_option maxHeartbeats 0
namespace Go.Proofs.YtllkfpggoigbaaaGreatDoor
open Proofs.Tryz
open Go.AM Go.ChangeShapes Go.WideShapes Go.ChangeAt Go.RowKit
def c64:LF:=Cq prog f64 [[2],[2,2],[2,2,2],[2,2,2,1]] [[(d9 11 0 (.zB (.cons 11 (some []) (d9 3 12 (.cons 15 (some [9,4]) (.cons 16 (some []) (.cons 17 none .nil))))) (.cons 15 (some [9,4]) (.cons 11 (some []) (d9 3 12 (.cons 16 (some []) (.cons 17 none .nil)))))))],[(d9 13 0 (.zB (.cons 13 (some []) (d9 4 14 (.cons 18 (some [12,7,3]) (.cons 19 (some []) (.cons 20 none (.cons 21 none .nil)))))) (.cons 18 (some [12,7,3]) (.cons 13 (some []) (d9 4 14 (.cons 19 (some []) (.cons 20 none (.cons 21 none .nil))))))))]]
namespace Kn
def pY:Obj:=⟨1,[],[],⟨#[]⟩,0,[],0,0,0⟩
theorem A7:SX pY:=⟨⟨⟨⟨[],rfl⟩,⟨[],rfl⟩,by simp[pY]⟩,by simp[pY],by simp[pY],by simp[pY],by simp[pY]⟩,rfl⟩
def fb(k:Kr)(aB:Int)(s:bT.dP)(aC follow:Bool):R4:=ri (k.l.map Obj.ob) aB s aC follow
theorem tG(k:Kr)(p:Nat)(hw:KW k p)(aB:Int)(s:bT.dP)(aC follow:Bool){m:Mem}{K:CV->Mem->Prop}(h:K (Ym (fb k aB s aC follow)) m):
  ap prog 76 [cJ k.l,al .i64 aB,bT.vT s,aq aC,aq follow] m K:=by
 rw[show cJ k.l=fX (k.l.map Obj.ob)from congrArg (λd=>CV.rv (.one (.ai d))) (WO k.l)]
 exact SM _ hw.lk aB s aC follow h
def Hq(l:List Obj)(z:Int):Int:=match l[z.toNat]? with|some o=>o.ah|none=>0
def cz(k:Kr)(c:Cl)(f:R4):Kr×Int×Int:=
 if f.gz≠0 then(k,f.obj,f.gz)
 else if f.obj<0 then(if mH c.bL 1=0 then(k,f.obj,6)else cQ k f pY)
 else if mH c.bL 2≠0/\Hq k.l f.obj=2 then(k,f.obj,12)
 else(k,f.obj,0)
def nj(l:List Obj)(z:Int):List Obj:=match l[z.toNat]? with|some o=>l.set z.toNat {o with data:=[]}|none=>l
def js(p:Nat)(c:Cl)(x:Kr×Int×Int):Kr×An:=
 if x.2.2≠0 then(x.1,An.no x.2.2)
 else if(aI x.1 p x.2.1 c.aZ).2.2≠0 then(x.1,An.no (aI x.1 p x.2.1 c.aZ).2.2)
 else(if mH c.bL 2≠0 then⟨nj (aI x.1 p x.2.1 c.aZ).1.l x.2.1,(aI x.1 p x.2.1 c.aZ).1.ops,(aI x.1 p x.2.1 c.aZ).1.ps⟩else(aI x.1 p x.2.1 c.aZ).1,⟨0,(aI x.1 p x.2.1 c.aZ).2.1,0,[]⟩)
def gD(k:Kr)(p:Nat)(c:Cl)(aB:Int)(aC:Bool):Kr×An:=js p c (cz k c (fb k aB c.cG aC true))
theorem SY{m:Mem}{Z:Nat->Prop}{p:Option Nat}{id:Nat}{l:List Obj}{k:Nat}{c:List CC}{x:Obj}(hc:mb m Z (some id) c x.enc)(hz:Z id)(hm:m[id]? =some (.row 9 (aX (aa (l.map Obj.enc)) k c))):
  cS m Z p (.row id 9 0 none) (cT (l.set k x)):=by
 rw[bh]at hm;refine cS.row id 9 0 none _ _ hz hm (by simp[aa]) (λi cs es h1 h2=>?_) (λi cs es j c' d h1 h2 h3 h4=>?_)
 .rw[abU]at h1;rw[Qu,abU]at h2;by_cases e:k=i
  .subst e;rw[if_pos rfl]at h1 h2;split at h1
   .cases h1;split at h2
    .cases h2;exact hc.len
    .cases h2
   .cases h1
  .rw[if_neg e]at h1 h2;rw[aa,Qu,Qu]at h1;cases hx:l[i]? with
   |none=>rw[hx]at h2;cases h2
   |some y=>
    rw[hx]at h1 h2;cases h1;cases h2;simp
 .rw[abU]at h1;rw[Qu,abU]at h2;by_cases e:k=i
  .subst e;rw[if_pos rfl]at h1 h2;split at h1
   .cases h1;split at h2
    .cases h2;exact hc.get j c' d h3 h4
    .cases h2
   .cases h1
  .rw[if_neg e]at h1 h2;rw[aa,Qu,Qu]at h1;cases hx:l[i]? with
   |none=>rw[hx]at h2;cases h2
   |some y=>
    rw[hx]at h1 h2;cases h1;cases h2;rw[Qu,h4]at h3;cases h3;exact .ai _
theorem l64:bs prog f64=some c64.er:=by kernel_rfl
def C29:LC:=bi (bi c64.code)
def G29:LC:=l5 C29
def C74:LC:=bi (bi G29)
def G74:LC:=l5 C74
def C96:LC:=bi (bi G74)
def G96:LC:=l5 C96
def aeP:LC:=bi G96
def aeQ:LC:=l5 aeP
def ju:Bk:= .var [.ai (.val (.int .i64 0)),.ai (.val (.int .i64 0)),.ai (.val (.int .i64 0)),.bt]
def TC(k:Kr)(p:Nat)(c:Cl)(a:An)(r:CV)(m:Mem):Prop:=∃r' m',View 2 ⟨[r],m⟩ ⟨[r'],m'⟩/\r'=a.cv/\m'=[xB k p,cB c]
def QC(lM:List Rv)(k:Kr)(p:Nat)(c:Cl)(a:An):Ex->St->Prop:=nu prog lM (TC k p c a)
theorem PJ{Y:Nat->Nat}{m:Mem}{Z:Nat->Prop}{e n x:Int}:sq Y m Z (.rv (.agg [.ai (.val (.int .i64 e)),.ai (.val (.int .i64 n)),.ai (.val (.int .i64 x)),.bt])) (An.cv ⟨e,n,x,[]⟩):=
 .rv (.agg rfl λi c c' h1 h2=>by
  match i,h1,h2 with
  |0,h1,h2=>cases h1;cases h2;exact .aN (.ai _)
  |1,h1,h2=>cases h1;cases h2;exact .aN (.ai _)
  |2,h1,h2=>cases h1;cases h2;exact .aN (.ai _)
  |3,h1,h2=>cases h1;cases h2;exact .dG (.bt 1)
  |n+4,h1,h2=>simp at h1)
theorem dp{k:Kr}{p:Nat}{c:Cl}{X:Mem}{e n x:Int}:TC k p c ⟨e,n,x,[]⟩ (.rv (.agg [.ai (.val (.int .i64 e)),.ai (.val (.int .i64 n)),.ai (.val (.int .i64 x)),.bt])) (xB k p::cB c::X):=
 ⟨_,_,View.of (X.length+2) [0,1] [] rfl rfl rfl rfl rfl (by simp[eh,Nat.blt]) (.put PJ .nil) (.pt rfl rfl (.eq rfl (nY _ _)) (.pt rfl rfl (.eq rfl (pX _)) (.nil _))),rfl,rfl⟩
theorem PK{l:List Obj}{n:Nat}(h:n<l.length):dL (n:Int) (lenOf (aa (l.map Obj.enc)).length 0 none)=some n:=bJ (by show n<(aa (l.map Obj.enc)).length;rw[aJ,O9];exact h)
theorem Hr(k1:Kr)(p:Nat)(c:Cl)(O:Kr)(j:Nat)(hj:j<O.l.length)(fd:Int)(kf:Kr)(hk:kf=if mH c.bL 2≠0 then⟨nj O.l j,O.ops,O.ps⟩else O):
  aw prog 2 aeQ (QC c64.lM kf p c ⟨0,fd,0,[]⟩)
   ⟨i5 117 [(0,.rv (.one (.ptr 0 0))),(1,.rv (.one (.ptr 1 0))),(8,.rv (.one (.ptr 2 0))),(11,al .i64 (j:Nat)),(12,.rv (.one (.ptr 3 0))),(13,al .i64 fd)],
    [xB k1 p,cB c,ju,.var [.row 4 9 0 none,.ai (de O.ops),.ai (dZ O.ps)],.row 9 (aa (O.l.map Obj.enc))]⟩:=by
 refine bF (λh2=>?_) (λh2=>?_)
 .have h2:mH c.bL 2≠0:=h2;rw[if_pos h2]at hk;subst hk;refine af (PK hj) ?_;have ho:=bm Obj.enc O.l hj;have ht:nj O.l (j:Nat)=O.l.set j {O.l[j]with data:=[]}:=by rw[nj,aal,wy hj]
  rw[ht];generalize O.l[j]=x at ho;obtain⟨ah,data,ag,target,aG,aj,aQ,ak,up⟩:=x;refine af ho ?_;refine⟨_,_,View.o 5 [0,1] [4] (.put PJ .nil) (.pt rfl rfl (WU (k:=⟨O.l.set j ⟨ah,[],ag,target,aG,aj,aQ,ak,up⟩,O.ops,O.ps⟩) (SY (.cons (.ai _) (.cons (.bt 1) (.cons (.ai _) (.cons (.ai _) (.cons (.ai _) (.cons (.ai _) (.cons (.ai _) (.cons (.ai _) (.cons (.ai _) .nil))))))))) rfl rfl) (.ai _) (.ai _)) (.pt rfl rfl (.eq rfl (pX _)) (.nil _))),rfl,rfl⟩
 .have h2:¬mH c.bL 2≠0:=λh=>h h2
  rw[if_neg h2]at hk;subst hk;exact⟨_,_,View.o 5 [0,1] [4] (.put PJ .nil) (.pt rfl rfl (WU (iW rfl rfl) (.ai _) (.ai _)) (.pt rfl rfl (.eq rfl (pX _)) (.nil _))),rfl,rfl⟩
theorem LX{k:Kr}{n:Nat}{obj rts:Int}(h:(aI k n obj rts).2.2=0):(aI k n obj rts).1.l=k.l:=by
 unfold aI at h|-;split at h
 .simp at h
 .rename_i h1;rw[if_neg h1];split at h
  .rename_i h2;exact absurd h h2
  .rename_i h2;rw[if_neg h2]
theorem yO(k1:Kr)(p:Nat)(c:Cl)(e:Int)(he:e≠0):
  aw prog 2 G96 (QC c64.lM k1 p c (An.no e)) ⟨i5 117 [(0,.rv (.one (.ptr 0 0))),(1,.rv (.one (.ptr 1 0))),(8,.rv (.one (.ptr 2 0))),(10,al .i64 e)],[xB k1 p,cB c,ju]⟩:=by
 refine bF (λh2=>?_) (λh2=>absurd h2 he)
 exact dp (X:=[_])
theorem yP(k1:Kr)(p:Nat)(c:Cl)(O:Kr)(j:Nat)(hj:j<O.l.length)(fd:Int)(kf:Kr)(hk:kf=if mH c.bL 2≠0 then⟨nj O.l j,O.ops,O.ps⟩else O):
  aw prog 2 G96 (QC c64.lM kf p c ⟨0,fd,0,[]⟩)
   ⟨i5 117 [(0,.rv (.one (.ptr 0 0))),(1,.rv (.one (.ptr 1 0))),(8,.rv (.one (.ptr 2 0))),(10,al .i64 0),(11,al .i64 (j:Nat)),(12,.rv (.one (.ptr 3 0))),(13,al .i64 fd)],
    [xB k1 p,cB c,ju,.var [.row 4 9 0 none,.ai (de O.ops),.ai (dZ O.ps)],.row 9 (aa (O.l.map Obj.enc))]⟩:=by
 refine⟨_,View.o1 5 [0,1,2,3,4] [] ?_,Hr k1 p c O j hj fd kf hk⟩
 .exact .au
theorem LY(p:Nat)(c:Cl)(x:Kr×Int×Int)(hx:x.2.2=0->dV x.1.l x.1.ops x.1.ps/\p<x.1.ps.length/\∃j:Nat,x.2.1=j/\j<x.1.l.length):
  aw prog 2 G74 (QC c64.lM (js p c x).1 p c (js p c x).2)
   ⟨i5 117 [(0,.rv (.one (.ptr 0 0))),(1,.rv (.one (.ptr 1 0))),(8,.rv (.one (.ptr 2 0))),(10,al .i64 x.2.2),(11,al .i64 x.2.1)],[xB x.1 p,cB c,ju]⟩:=by
 obtain⟨k1,obj,e⟩:=x;refine bF (λh2=>?_) (λh2=>?_)
 .have h2:e≠0:=h2;have e1:js p c (k1,obj,e)=(k1,An.no e):=by rw[js,if_pos h2]
  rw[e1];exact dp (X:=[_])
 have h2:e=0:=h2;subst h2;obtain⟨hk,hp,j,hj,f4⟩:=hx rfl;have hj:obj=(j:Nat):=hj;subst hj;have hS:js p c (k1,(j:Int),0)=if(aI k1 p j c.aZ).2.2≠0 then(k1,An.no (aI k1 p j c.aZ).2.2)
  else(if mH c.bL 2≠0 then⟨nj (aI k1 p j c.aZ).1.l j,(aI k1 p j c.aZ).1.ops,(aI k1 p j c.aZ).1.ps⟩else(aI k1 p j c.aZ).1,⟨0,(aI k1 p j c.aZ).2.1,0,[]⟩):=by
  rw[js,if_neg aD]
 rw[hS];have i7:= @LX k1 p (j:Int) c.aZ;refine⟨?_,?_⟩
 .refine yN k1 hk p hp (j:Int) c.aZ (λhe=>?_) (λhe=>?_)
  .rw[if_pos he];refine⟨trivial,⟨rfl,rfl,rfl,trivial⟩,trivial,_,View.o1 4 [0,1,2] [] ?_,yO k1 p c _ he⟩
   .exact .au
  .rw[if_neg (by simp[he])]
   have hl:=i7 he;refine⟨trivial,⟨rfl,rfl,rfl,trivial⟩,trivial,_,View.o1 5 [0,1,2,4,3] [] ?_,yP k1 p c (aI k1 p j c.aZ).1 j (by rw[hl];exact f4) _ _ rfl⟩
   .exact .au
 .refine⟨⟨rfl,rfl,rfl,trivial⟩,?_⟩;refine yN k1 hk p hp (j:Int) c.aZ (λhe=>?_) (λhe=>?_)
  .rw[if_pos he];refine⟨trivial,trivial,_,View.o1 4 [0,1,2] [] ?_,yO k1 p c _ he⟩
   .exact .au
  .rw[if_neg (by simp[he])]
   have hl:=i7 he;refine⟨trivial,trivial,_,View.o1 5 [0,1,2,3,4] [] ?_,yP k1 p c (aI k1 p j c.aZ).1 j (by rw[hl];exact f4) _ _ rfl⟩
   .exact .au
theorem CD(a b:CV)(k:Int)(t:ByteArray):kJ [a,b,.rv (.agg [.ai (.val (.int .i64 k)),.bt,.bt,.ai (.val (.string t)),.ai (.val (.int .i64 0)),.bt,.ai (.val (.int .i64 0)),.ai (.val (.int .i64 0)),.ai (.val (.int .i64 0))])] [a,b,Obj.cv ⟨k,[],[],t,0,[],0,0,0⟩]:=
 .cO _ (.cO _ (.agg (.cons (.cO _) (.cons (.bt 1) (.cons (.bt 2) (.cons (.cO _) (.cons (.cO _) (.cons (.bt 4) (.cons (.cO _) (.cons (.cO _) (.cons (.cO _) .nil))))))))) .nil))
structure Hs(k:Kr)(p:Nat)(c:Cl)(f:R4):Prop where
 fi:f.gz=0->f.obj<(k.l.length:Int)
 x:(cz k c f).2.2=0->dV (cz k c f).1.l (cz k c f).1.ops (cz k c f).1.ps/\p<(cz k c f).1.ps.length/\∃j:Nat,(cz k c f).2.1=j/\j<(cz k c f).1.l.length
theorem LZ(k:Kr)(p:Nat)(hw:KW k p)(c:Cl)(f:R4)(hf:Hs k p c f):
  aw prog 2 G29 (QC c64.lM (js p c (cz k c f)).1 p c (js p c (cz k c f)).2)
   ⟨i5 117 [(0,.rv (.one (.ptr 0 0))),(1,.rv (.one (.ptr 1 0))),(8,.rv (.one (.ptr 2 0))),(9,.rv (.one (.ptr 3 0))),(10,al .i64 f.gz)],[xB k p,cB c,ju,.var ((Yl f).map .ai)]⟩:=by
 have M9:=LY p c (cz k c f) hf.x;have X3:=hf.fi;clear hf;obtain⟨obj,dir,name,gz⟩:=f;refine bF (λhe=>?_) (λhe=>?_)
 .have he:gz≠0:=he;have e1:cz k c ⟨obj,dir,name,gz⟩=(k,obj,gz):=by rw[cz,if_pos he]
  rw[e1]at M9|-;refine⟨_,View.o1 4 [0,1,2] [] ?_,M9⟩
  .exact .au
 have he:gz=0:=he;subst he;have X3:obj<(k.l.length:Int):=X3 rfl;refine am (λh1=>?_) (λh1=>?_)
 .have h1:obj<0:=h1;refine ba (λh2=>?_) (λh2=>?_)
  .have h2:mH c.bL 1=0:=h2;have e1:cz k c ⟨obj,dir,name,0⟩=(k,obj,6):=by rw[cz,if_neg aD,if_pos h1,if_pos h2]
   rw[e1]at M9|-;refine⟨_,View.o1 4 [0,1,2] [] ?_,M9⟩
   .exact .au
  .have h2:¬mH c.bL 1=0:=h2;have e1:cz k c ⟨obj,dir,name,0⟩=cQ k ⟨obj,dir,name,0⟩ pY:=by rw[cz,if_neg aD,if_pos h1,if_neg h2]
   rw[e1]at M9|-;refine bV (decide_eq_true h1) ?_;refine jd (CD _ _ _ _) (uQ k p hw ⟨obj,dir,name,0⟩ pY A7 0 rfl ?_);refine⟨_,View.o1 4 [0,1,2] [] ?_,M9⟩
   .exact .au
 .have h1:¬obj<0:=h1;obtain⟨j,rfl⟩:∃j:Nat,obj=j:=⟨obj.toNat,om⟩;have hj:j<k.l.length:=om;have Rc:Hq k.l (j:Int)=k.l[j].ah:=by rw[Hq,aal,wy hj]
  refine bF (λh2=>?_) (λh2=>?_)
  .have h2:mH c.bL 2≠0:=h2;refine af (jr hj) ?_;refine ba (λh3=>?_) (λh3=>?_)
   .have h3:k.l[j].ah=2:=h3;have e1:cz k c ⟨(j:Nat),dir,name,0⟩=(k,(j:Int),12):=by rw[cz,if_neg aD,if_neg h1,if_pos ⟨h2,by rw[<-h3,<-Rc]⟩]
    rw[e1]at M9|-;refine⟨_,View.o1 4 [0,1,2] [] ?_,M9⟩
    .exact .au
   .have h3:¬k.l[j].ah=2:=h3;have e1:cz k c ⟨(j:Nat),dir,name,0⟩=(k,(j:Int),0):=by rw[cz,if_neg aD,if_neg h1,if_neg (by rw[Rc];exact λh=>h3 h.2)]
    rw[e1]at M9|-;refine⟨_,View.o1 4 [0,1,2] [] ?_,M9⟩
    .exact .au
  .have h2:¬mH c.bL 2≠0:=λh=>h h2
   have e1:cz k c ⟨(j:Nat),dir,name,0⟩=(k,(j:Int),0):=by rw[cz,if_neg aD,if_neg h1,if_neg (λh=>h2 h.1)]
   rw[e1]at M9|-;refine⟨_,View.o1 4 [0,1,2] [] ?_,M9⟩
   .exact .au
theorem Ht(k:Kr)(p:Nat)(hw:KW k p)(c:Cl)(aB:Int)(aC:Bool)(hf:Hs k p c (fb k aB c.cG aC true)):
  body prog c64 [.rv (.one (.ptr 0 0)),.rv (.one (.ptr 1 0)),al .i64 aB,aq aC] [xB k p,cB c] (TC (gD k p c aB aC).1 p c (gD k p c aB aC).2):=by
 have hs:=LZ k p hw c _ hf;show body prog c64 _ _ (TC (js p c (cz k c (fb k aB c.cG aC true))).1 p c (js p c (cz k c (fb k aB c.cG aC true))).2);refine⟨?_,?_⟩
 .refine tG k p hw aB c.cG aC true ?_;refine⟨trivial,⟨rfl,rfl,trivial⟩,trivial,_,View.o1 4 [0,1,2,3] [] ?_,hs⟩
  .exact .au
 .refine⟨⟨rfl,rfl,trivial⟩,?_⟩;refine tG k p hw aB c.cG aC true ?_;refine⟨trivial,trivial,_,View.o1 4 [0,1,2,3] [] ?_,hs⟩
  .exact .au
theorem EG(k:Kr)(p:Nat)(hw:KW k p)(c:Cl)(aB:Int)(aC:Bool)(hf:Hs k p c (fb k aB c.cG aC true)){m:Mem}(i j:Nat)(sM:gR [i,j]=true)(ax:eh m.length [i,j]=true)(hi:dh m i=some (xB k p))(hj:dh m j=some (cB c)){K:CV->Mem->Prop}(hK:K (gD k p c aB aC).2.cv (dt m [i,j] [xB (gD k p c aB aC).1 p,cB c])):
  ap prog 64 [.rv (.one (.ptr i 0)),.rv (.one (.ptr j 0)),al .i64 aB,aq aC] m K:=
 Va (args:=[al .i64 aB,aq aC]) (λ_=>rfl) (λ_=>rfl)
  (bK (cE func64 l64 (Ht k p hw c aB aC hf)) λr m1⟨r',m',hv,hq⟩=>⟨r',m',hv,hq⟩) i j sM ax hi hj hK
end Kn
def c38:LF:=Cq prog f38 [[6]] []
namespace Kn
def m5(c:Cl):Int:=if mH c.bL 2≠0 then WR (if mH c.bL 1≠0 then WR (WR 8 c.aZ) 16 else WR 8 c.aZ) 2 else(if mH c.bL 1≠0 then WR (WR 8 c.aZ) 16 else WR 8 c.aZ)
def gX(k:Kr)(p:Nat)(c:Cl):Kr×An:=
 if Tb.fm c.aZ=false\/c.bL<0\/c.bL>3 then(k,An.no 3)
 else if c.ah=2 then gD k p c 0 false
 else if(bC k p c.fd (m5 c)).2.2≠0 then(k,An.no (bC k p c.fd (m5 c)).2.2)
 else gD k p c (bC k p c.fd (m5 c)).2.1 true
theorem Hu{k:Kr}{p:Nat}{c:Cl}{X:Mem}{a:An}:TC k p c a a.cv (xB k p::cB c::X):=
 ⟨_,_,View.of (X.length+2) [0,1] [] rfl rfl rfl rfl rfl (by simp[eh,Nat.blt]) (.eq rfl .nil) (.pt rfl rfl (.eq rfl (nY _ _)) (.pt rfl rfl (.eq rfl (pX _)) (.nil _))),rfl,rfl⟩
theorem l38:bs prog f38=some c38.er:=by kernel_rfl
def aeR:LC:=bi (bi (bi (bi (bi (bi c38.code)))))
def aaA:LC:=l5 aeR
theorem PL(k:Kr)(p:Nat)(hw:KW k p)(c:Cl)(need:Int)(hf:∀aB,Hs k p c (fb k aB c.cG true true))(R:Kr×An)(hR:R=if(bC k p c.fd need).2.2≠0 then(k,An.no (bC k p c.fd need).2.2)else gD k p c (bC k p c.fd need).2.1 true):
  aw prog 2 aaA (QC c38.lM R.1 p c R.2) ⟨i5 78 [(0,.rv (.one (.ptr 0 0))),(1,.rv (.one (.ptr 1 0))),(4,.rv (.one (.ptr 2 0))),(5,al .i64 need)],[xB k p,cB c,ju]⟩:=by
 refine lC k p hw c.fd need 0 rfl ?_;generalize bC k p c.fd need=w at hR|-;obtain⟨⟨o,r⟩,b,e⟩:=w;refine bF (λhe=>?_) (λhe=>?_)
 .have he:e≠0:=he;rw[if_pos he]at hR;subst hR;exact dp (X:=[_,_])
 .have he:e=0:=he;subst he;rw[if_neg aD]at hR;subst hR;refine EG k p hw c b true (hf b) 0 1 rfl rfl rfl rfl ?_;exact Hu (X:=[_,_])
theorem L4(k:Kr)(p:Nat)(hw:KW k p)(c:Cl)(hf:∀aB aC,Hs k p c (fb k aB c.cG aC true)):
  body prog c38 [.rv (.one (.ptr 0 0)),.rv (.one (.ptr 1 0))] [xB k p,cB c] (TC (gX k p c).1 p c (gX k p c).2):=by
 have hv:∀need R,R=(if(bC k p c.fd need).2.2≠0 then(k,An.no (bC k p c.fd need).2.2)else gD k p c (bC k p c.fd need).2.1 true)->
  aw prog 2 aaA (QC c38.lM R.1 p c R.2) ⟨i5 78 [(0,.rv (.one (.ptr 0 0))),(1,.rv (.one (.ptr 1 0))),(4,.rv (.one (.ptr 2 0))),(5,al .i64 need)],[xB k p,cB c,ju]⟩:=λneed R hR=>PL k p hw c need (λb=>hf b true) R hR
 refine Tb.yk c.aZ ?_;cases hr:Tb.fm c.aZ with
 |false=>
  have e1:gX k p c=(k,An.no 3):=by rw[gX,if_pos (.inl hr)]
  rw[e1];exact dp (X:=[_])
 |true=>
  refine am (λh1=>?_) (λh1=>?_)
  .have h1:c.bL<0:=h1;have e1:gX k p c=(k,An.no 3):=by rw[gX,if_pos (.inr (.inl h1))]
   rw[e1];exact dp (X:=[_])
  have h1:¬c.bL<0:=h1;refine am (λh2=>?_) (λh2=>?_)
  .have h2:c.bL>3:=h2;have e1:gX k p c=(k,An.no 3):=by rw[gX,if_pos (.inr (.inr h2))]
   rw[e1];exact dp (X:=[_])
  have h2:¬c.bL>3:=h2;have e0:gX k p c=if c.ah=2 then gD k p c 0 false
   else if(bC k p c.fd (m5 c)).2.2≠0 then(k,An.no (bC k p c.fd (m5 c)).2.2)
   else gD k p c (bC k p c.fd (m5 c)).2.1 true:=by rw[gX,if_neg (by simp[hr,h1,h2])]
  rw[e0];refine ba (λh3=>?_) (λh3=>?_)
  .have h3:c.ah=2:=h3;rw[if_pos h3];refine EG k p hw c 0 false (hf 0 false) 0 1 rfl rfl rfl rfl ?_;exact Hu (X:=[_])
  have h3:¬c.ah=2:=h3;rw[if_neg h3];refine bF (λh4=>?_) (λh4=>?_)
  .have h4:mH c.bL 1≠0:=h4;refine bF (λh5=>?_) (λh5=>?_)
   .have h5:mH c.bL 2≠0:=h5;refine⟨_,View.o 3 [0,1,2] [] ?_ ?_,hv (m5 c) _ rfl⟩
    .rw[m5,if_pos h4,if_pos h5];repeat(first|exact .nil|refine .aH ?_|refine .eq rfl ?_)
    .exact .au
   .have h5:¬mH c.bL 2≠0:=λh=>h h5
    refine⟨_,View.o 3 [0,1,2] [] ?_ ?_,hv (m5 c) _ rfl⟩
    .rw[m5,if_pos h4,if_neg h5];repeat(first|exact .nil|refine .aH ?_|refine .eq rfl ?_)
    .exact .au
  .have h4:¬mH c.bL 1≠0:=λh=>h h4
   refine bF (λh5=>?_) (λh5=>?_)
   .have h5:mH c.bL 2≠0:=h5;refine⟨_,View.o 3 [0,1,2] [] ?_ ?_,hv (m5 c) _ rfl⟩
    .rw[m5,if_neg h4,if_pos h5];repeat(first|exact .nil|refine .aH ?_|refine .eq rfl ?_)
    .exact .au
   .have h5:¬mH c.bL 2≠0:=λh=>h h5
    refine⟨_,View.o 3 [0,1,2] [] ?_ ?_,hv (m5 c) _ rfl⟩
    .rw[m5,if_neg h4,if_neg h5];repeat(first|exact .nil|refine .aH ?_|refine .eq rfl ?_)
    .exact .au
theorem dX{f:Nat}{k k':Kr}{p:Nat}{c:Cl}{a:An}(hc:ap prog f [.rv (.one (.ptr 0 0)),.rv (.one (.ptr 1 0))] [xB k p,cB c] (TC k' p c a)){m:Mem}(i j:Nat)(sM:gR [i,j]=true)(ax:eh m.length [i,j]=true)(hi:dh m i=some (xB k p))(hj:dh m j=some (cB c)){K:CV->Mem->Prop}(hK:K a.cv (dt m [i,j] [xB k' p,cB c])):ap prog f [.rv (.one (.ptr i 0)),.rv (.one (.ptr j 0))] m K:=
 Va (args:=[]) (λ_=>rfl) (λ_=>rfl) (bK hc λr m1⟨r',m',hv,hq⟩=>⟨r',m',hv,hq⟩) i j sM ax hi hj hK
theorem A8(k:Kr)(p:Nat)(hw:KW k p)(c:Cl)(hf:∀aB aC,Hs k p c (fb k aB c.cG aC true)):ap prog 38 [.rv (.one (.ptr 0 0)),.rv (.one (.ptr 1 0))] [xB k p,cB c] (TC (gX k p c).1 p c (gX k p c).2):=
 cE func38 l38 (L4 k p hw c hf)
end Kn
def c39:LF:=Cq prog f39 [[2],[2,4,1,3,1],[2,5]] [[d9 11 0 .nil],[(d9 13 0 (.cons 13 (some []) (d9 5 14 .nil)))],[(d9 13 0 (.zB (.cons 13 (some []) (d9 3 14 (.cons 17 (some [12,7,6,4]) (.cons 18 (some []) (.cons 19 none .nil))))) (.cons 17 (some [12,7,6,4]) (.cons 13 (some []) (d9 3 14 (.cons 18 (some []) (.cons 19 none .nil)))))))],[(d9 8 0 (.cons 8 (some []) .nil))],[(d9 10 0 (.cons 10 (some []) .nil))]]
namespace Kn
def j9(l:List Obj)(z:Int):Obj:=(l[z.toNat]?).getD dS
def rm(k:Kr)(z a:Int):Kr:=⟨k.l,(match k.ops[z.toNat]? with|some o=>k.ops.set z.toNat {o with di:=a}|none=>k.ops),k.ps⟩
def setObj(k:Kr)(z:Int)(o:Obj):Kr:=⟨k.l.set z.toNat o,k.ops,k.ps⟩
def CE(a b:Int):Int:=IntKind.i64.wrap (a+b)
def o7(ah:Int):Int:=if ah=4 then 1 else if ah=5 then 2 else 4
def rV(k:Kr)(n:Int)(di:Int)(r:List (List Dt)×Int):Kr×An:=
 if r.2≠0 then(k,An.no r.2)else(rm k n (CE di r.1.length),⟨0,r.1.length,0,r.1⟩)
def oR(k:Kr)(n:Int)(obj:Int)(di:Int)(len:Nat)(r:Obj×Int):Kr×An:=
 if r.2≠0 then(k,An.no r.2)else(rm (setObj k obj r.1) n (CE di len),⟨0,len,0,[]⟩)
def pZ(k:Kr)(n:Int)(di:Int):Kr×An:=
 if di<0\/di>60 then(k,An.no 3)else(rm k n di,⟨0,0,0,[]⟩)
def mi(k:Kr)(c:Cl)(w:(Int×Int)×Int×Int):Kr×An:=
 if w.2.2≠0 then(k,An.no w.2.2)
 else if c.ah=4 then rV k w.1.1 (pW k.ops w.1.1) (kL (j9 k.l w.2.1).ah (j9 k.l w.2.1).data (pW k.ops w.1.1) c.n)
 else if c.ah=5 then oR k w.1.1 w.2.1 (pW k.ops w.1.1) c.data.length (fo (j9 k.l w.2.1) (pW k.ops w.1.1) (eX c.data))
 else pZ k w.1.1 c.n
def gY(k:Kr)(p:Nat)(c:Cl):Kr×An:=mi k c (bC k p c.fd (o7 c.ah))
theorem uR{l:List Obj}{n:Nat}(h:n<l.length):j9 l (n:Int)=l[n]:=by rw[j9,aal,wy h];rfl
def Yo(d:List Int)(A:Nat)(b:List Int):List Int:=if b.length=0 then d else dd (d++List.replicate (A+b.length-d.length) 0) A b
theorem Hv(d b:List Int)(A:Nat):rk (eX d) A (eX b)=eX (Yo d A b):=by
 have hl:∀x:List Int,(eX x).length=x.length:=λx=>by simp[eX]
 have hz:∀n,List.replicate n zb=eX (List.replicate n 0):=λn=>by simp[eX,zb]
 unfold rk Yo;rw[hl];split
 .rfl
 .unfold Wv dd;rw[hl,hz,hl];simp only[eX,abM,ac7,ad5]
theorem JG(d b:List Int)(A:Nat)(hb:b.length<=60)(hA:A+b.length<=60):(Yo d A b).length<=60\/(Yo d A b).length<=d.length:=by
 unfold Yo;split
 .exact .inr (aai _)
 .unfold dd;simp only[abT,aa8,abZ,List.length_replicate];omega
theorem tH{o:Obj}(ho:o.sm){di:Int}{b:List Int}(h:(fo o di (eX b)).2=0):(fo o di (eX b)).1.sm/\o.ah=1/\0<=di/\di<=60/\(b.length:Int)<=60-di/\(fo o di (eX b)).1={o with data:=rk o.data di.toNat (eX b)}:=by
 have hl:(eX b).length=b.length:=by simp[eX]
 unfold fo at h|-;split at h
 .simp at h
 .rename_i h1;split at h
  .simp at h
  .rename_i h2;split at h
   .simp at h
   .rename_i h3;split at h
    .simp at h
    .rename_i h4;rw[if_neg h1,if_neg h2,if_neg h3,if_neg h4];rw[hl]at h4;obtain⟨⟨⟨d,hd⟩,xt,ht3⟩,lH,he,hq,hqd⟩:=ho;refine⟨⟨⟨⟨Yo d di.toNat b,?_⟩,xt,ht3⟩,?_,he,hq,hqd⟩,om,om,om,om,rfl⟩
     .show rk o.data di.toNat (eX b)=_;rw[hd,Hv]
     .show(rk o.data di.toNat (eX b)).length<=64;rw[hd,Hv,show ∀x:List Int,(eX x).length=x.length from λx=>by simp[eX]]
      have ajJ:d.length<=64:=by rw[hd]at lH;simpa[eX]using lH
      have:=JG d b di.toNat om om;omega
theorem dV.Hw{k:Kr}(h:dV k.l k.ops k.ps){z:Int}{o:Obj}(ho:o.sm):dV (setObj k z o).l (setObj k z o).ops (setObj k z o).ps:=by
 refine⟨λx hx=>?_,by simpa[setObj]using h.ll,h.lo,h.lp,h.sl,h.ne⟩
 rcases abF hx with hx|rfl
 .exact h.sm x hx
 .exact ho
theorem l39:bs prog f39=some c39.er:=by kernel_rfl
def aeS:LC:=bi (bi c39.code)
def WV:LC:=l5 aeS
def aaB:LC:=bi (bi (bi (bi (bi WV))))
def aeT:LC:=l5 aaB
theorem rW(k:Kr)(hk:dV k.l k.ops k.ps)(p:Nat)(c:Cl)(n:Nat)(hn:n<k.ops.length)(r di:Int)(a:An):
  aw prog 2 aeT (QC c39.lM (rm k n di) p c a)
   ⟨i5 172 [(0,.rv (.one (.ptr 0 0))),(1,.rv (.one (.ptr 1 0))),(4,.rv (.one (.ptr 2 0))),(6,.rv (.one (.ptr 3 0))),(9,al .i64 di),(10,.rv (.one (.ptr 4 0)))],
    [xB k p,cB c,ju,.var [.ai (.val (.int .i64 (n:Nat))),.ai (.val (.int .i64 r))],.var (a.enc.map .ai)]⟩:=by
 refine jh k.l k.ops k.ps ⟨hk.ll,λo ho=>(hk.sm o ho).oi⟩ hk.lo hk.lp hk.sl hk.ne ?_
 refine af (B9 hn) ?_;have ho:=bm aT.enc k.ops hn;have hs:rm k n di=⟨k.l,k.ops.set n {k.ops[n]with di:=di},k.ps⟩:=by rw[rm,aal,wy hn]
 rw[hs];generalize k.ops[n]=x at ho;obtain⟨xo,xa⟩:=x;refine af ho ?_;refine⟨trivial,_,_,View.o 8 [0,1] [5,6,7] (.eq rfl .nil) (.pt rfl rfl (WU (k:=⟨k.l,k.ops.set n ⟨xo,di⟩,k.ps⟩) (iW rfl rfl) (iW rfl (congrArg (λx=>some (Bk.row 2 x)) ?_)) (iW rfl rfl)) (.pt rfl rfl (.eq rfl (pX _)) (.nil _))),rfl,rfl⟩
 show aX (aa (k.ops.map aT.enc)) n ((aT.enc ⟨xo,di⟩).map .ai)=_;rw[bh,aa,aa,abW,abW]
def unB:LC->LC
 | .block _ b=>b
 |x=>x
def aeU:LC:=match unB (bi (oK (bi (bi (bi (bi WV))))))with
 | .seq _ (.cond _ _ (.seq _ (.cond _ (.seq _ g) _)))=>g
 |x=>x
def aeV:LC:=l5 aeU
def Hx(a b d:Int)(x:Int):Prop:=x=a\/x=b\/x=d
theorem Vb{Y:Nat->Nat}{m:Mem}{Z:Nat->Prop}{id:Nat}{e n x:Int}:oC Y m Z id (.var [.ai (.val (.int .i64 e)),.ai (.val (.int .i64 n)),.ai (.val (.int .i64 x)),.bt]) (.var ((An.enc ⟨e,n,x,[]⟩).map .ai)):=
 dy.var (.cons (.aN (.ai _)) (.cons (.aN (.ai _)) (.cons (.aN (.ai _)) (.cons (.dG (.bt 1)) .nil))))
theorem Hy(k:Kr)(p:Nat)(hw:KW k p)(c:Cl)(n j:Nat)(hn:n<k.ops.length)(hj:j<k.l.length)(r di:Int)(o':Obj)(e:Int)(ho:e=0->o'.sm):
  aw prog 2 aeV (FM 0 (ow (aw prog 2 aaB) (QC c39.lM (oR k n j di c.data.length (o',e)).1 p c (oR k n j di c.data.length (o',e)).2)))
   ⟨i5 172 [(0,.rv (.one (.ptr 0 0))),(1,.rv (.one (.ptr 1 0))),(4,.rv (.one (.ptr 2 0))),(6,.rv (.one (.ptr 3 0))),(7,al .i64 (j:Nat)),(9,al .i64 di),(10,.rv (.one (.ptr 4 0))),(13,.rv (.one (.ptr 5 0))),(14,al .i64 e)],
    [xB k p,cB c,ju,.var [.ai (.val (.int .i64 (n:Nat))),.ai (.val (.int .i64 r))],.var [.ai (.val (.int .i64 0)),.ai (.val (.int .i64 0)),.ai (.val (.int .i64 0)),.bt],.var (o'.enc.map .ai)]⟩:=by
 refine bF (λhe=>?_) (λhe=>?_)
 .have he:e≠0:=he;rw[oR,if_pos he];exact dp (X:=[_,_,_,_])
 have he:e=0:=he;subst he;have ho:=ho rfl;rw[oR,if_neg aD];refine jh k.l k.ops k.ps hw.oi hw.kr.lo hw.kr.lp hw.kr.sl hw.kr.ne ?_;refine af (PK hj) ?_;refine af (bm Obj.enc k.l hj) ?_;refine⟨trivial,?_⟩;have hx:aX (aa (k.l.map Obj.enc)) j (o'.enc.map .ai)=aa ((setObj k j o').l.map Obj.enc):=lZ Obj.enc k.l j o';refine⟨_,View.o 9 [0,1,2,3,4] [6,7,8] ?_ ?_,rW (setObj k j o') (dV.Hw hw.kr ho) p c n hn r (CE di c.data.length) ⟨0,c.data.length,0,[]⟩⟩
 .have hl:∀x:List Int,(eX x).length=x.length:=λx=>by simp[eX]
  have h9:al .i64 (IntKind.i64.wrap (di+((eX c.data).length:Nat)))=al .i64 (CE di c.data.length):=by rw[hl];rfl
  repeat(first|exact .nil|refine .aH ?_|refine .eq rfl ?_|refine .eq h9.symm ?_)
 .have h9:((eX c.data).length:Int)=(c.data.length:Int):=by simp[eX]
  refine .pt rfl rfl (WU (k:=setObj k j o') (iW rfl (congrArg (λx=>some (Bk.row 9 x)) hx)) (iW rfl rfl) (iW rfl rfl)) (.pt rfl rfl (.eq rfl (pX _)) (.pt rfl rfl (.eq rfl (by simp[ju])) (.pe rfl rfl rfl (.pt rfl rfl ?_ (.nil _)))))
  rw[<-h9];exact Vb
theorem SZ{ops:List aT}{n:Nat}(h:n<ops.length):pW ops (n:Int)=ops[n].di:=by rw[pW,aal,wy h]
theorem L5(k:Kr)(p:Nat)(hw:KW k p)(c:Cl)(need:Int)(Ft:Hx 4 5 6 c.ah)(hd:c.data.length<=4194304):
  aw prog 2 WV (QC c39.lM (mi k c (bC k p c.fd need)).1 p c (mi k c (bC k p c.fd need)).2)
   ⟨i5 172 [(0,.rv (.one (.ptr 0 0))),(1,.rv (.one (.ptr 1 0))),(4,.rv (.one (.ptr 2 0))),(5,al .i64 need)],[xB k p,cB c,ju]⟩:=by
 refine lC k p hw c.fd need 0 rfl ?_;have hh:= @KW.held k p hw c.fd need;generalize bC k p c.fd need=w at hh|-;obtain⟨⟨o,r⟩,b,e⟩:=w;refine bF (λhe=>?_) (λhe=>?_)
 .have he:e≠0:=he;have e1:mi k c ((o,r),b,e)=(k,An.no e):=by rw[mi,if_pos he]
  rw[e1];exact dp (X:=[_,_])
 have he:e=0:=he;subst he;obtain⟨n,j,h1,h2,h3,h4,h5⟩:=hh rfl;have h1:o=n:=h1;have h3:b=j:=h3;subst h1 h3;have lq:=(hw.kr.sm _ (aaR h4)).oi;have qy:=hw.kr.sm _ (aaR h4);have pK:=uR h4;refine af (mZ h2) ?_;have hS:mi k c ((((n:Nat):Int),r),((j:Nat):Int),0)=if c.ah=4 then rV k n k.ops[n].di (kL k.l[j].ah k.l[j].data k.ops[n].di c.n)
  else if c.ah=5 then oR k n j k.ops[n].di c.data.length (fo k.l[j] k.ops[n].di (eX c.data))else pZ k n c.n:=by
  rw[mi,if_neg aD,pK,SZ h2]
 rw[hS];refine ba (λk4=>?_) (λk4=>?_)
 .have k4:c.ah=4:=k4;rw[if_pos k4];refine af (jr h4) ?_;refine PC k.l[j] lq.1 k.ops[n].di c.n ?_;generalize kL k.l[j].ah k.l[j].data k.ops[n].di c.n=R;obtain⟨d,e⟩:=R;refine⟨trivial,?_⟩;refine bF (λhe=>?_) (λhe=>?_)
  .have he:e≠0:=he;rw[rV,if_pos he];exact dp (X:=[_,_,_])
  .have he:e=0:=he;subst he;rw[rV,if_neg aD];refine⟨_,View.o1 5 [0,1,2,3,4] [] ?_,rW k hw.kr p c n h2 r (CE k.ops[n].di d.length) ⟨0,d.length,0,d⟩⟩
   .exact .au
 have k4:¬c.ah=4:=k4;rw[if_neg k4];refine ba (λk5=>?_) (λk5=>?_)
 .have k5:c.ah=5:=k5;rw[if_pos k5];have hb:(eX c.data).length<=4194304:=by simpa[eX]using hd
  have C1:=λ(h:(fo k.l[j] k.ops[n].di (eX c.data)).2=0)=>(tH qy h).1
  have hg:=jr h4;have aaC:=λo' e(h:e=0->Obj.sm o')=>Hy k p hw c n j h2 h4 r k.ops[n].di o' e h
  refine af hg ?_;refine⟨?_,?_⟩
  .refine Em k.l[j] lq k.ops[n].di (eX c.data) hb ?_;generalize fo k.l[j] k.ops[n].di (eX c.data)=R at C1|-;obtain⟨o',e⟩:=R;refine⟨trivial,⟨rfl,rfl,af hg rfl,rfl,trivial⟩,trivial,_,View.o1 6 [0,1,2,3,4,5] [] ?_,aaC o' e C1⟩
   .exact .au
  .refine⟨⟨rfl,rfl,af hg rfl,rfl,trivial⟩,?_⟩;refine Em k.l[j] lq k.ops[n].di (eX c.data) hb ?_;generalize fo k.l[j] k.ops[n].di (eX c.data)=R at C1|-;obtain⟨o',e⟩:=R;refine⟨trivial,trivial,_,View.o1 6 [0,1,2,3,4,5] [] ?_,aaC o' e C1⟩
   .exact .au
 .have k5:¬c.ah=5:=k5;rw[if_neg k5];refine am (λh6=>?_) (λh6=>?_)
  .have h6:c.n<0:=h6;rw[pZ,if_pos (.inl h6)];exact dp (X:=[_,_,_])
  have h6:¬c.n<0:=h6;refine am (λh7=>?_) (λh7=>?_)
  .have h7:c.n>60:=h7;rw[pZ,if_pos (.inr h7)];exact dp (X:=[_,_,_])
  have h7:¬c.n>60:=h7;rw[pZ,if_neg om];refine⟨_,View.o1 5 [0,1,2,3,4] [] ?_,rW k hw.kr p c n h2 r c.n ⟨0,0,0,[]⟩⟩
  .exact .pt rfl rfl (.eq rfl (nY _ _)) (.pt rfl rfl (.eq rfl (pX _)) (.pt rfl rfl (.eq rfl (by simp[ju])) (.pe rfl rfl rfl (.pt rfl rfl Vb (.nil _)))))
theorem HA(k:Kr)(p:Nat)(hw:KW k p)(c:Cl)(Ft:Hx 4 5 6 c.ah)(hd:c.data.length<=4194304):
  body prog c39 [.rv (.one (.ptr 0 0)),.rv (.one (.ptr 1 0))] [xB k p,cB c] (TC (gY k p c).1 p c (gY k p c).2):=by
 have hs:=λneed=>L5 k p hw c need Ft hd
 have Vc:gY k p c=mi k c (bC k p c.fd (o7 c.ah)):=rfl;rw[Vc];clear Vc;obtain⟨aQ,ah,fd,iy,n,bL,aZ,cG,data⟩:=c;rcases Ft with h|h|h
 .have h:ah=4:=h;subst h;refine⟨_,View.o1 4 [0,1,2] [] ?_,hs 1⟩
  .exact .au
 .have h:ah=5:=h;subst h;refine⟨_,View.o1 4 [0,1,2] [] ?_,hs 2⟩
  .exact .au
 .have h:ah=6:=h;subst h;refine⟨_,View.o1 4 [0,1,2] [] ?_,hs 4⟩
  .exact .au
theorem rX(k:Kr)(p:Nat)(hw:KW k p)(c:Cl)(Ft:Hx 4 5 6 c.ah)(hd:c.data.length<=4194304):ap prog 39 [.rv (.one (.ptr 0 0)),.rv (.one (.ptr 1 0))] [xB k p,cB c] (TC (gY k p c).1 p c (gY k p c).2):=
 cE func39 l39 (HA k p hw c Ft hd)
end Kn
def c40:LF:=Cq prog f40 [[5]] [[d9 13 0 .nil],[(d9 9 0 (.cons 9 (some []) (d9 5 10 .nil)))]]
namespace Kn
def JH(k:Kr)(p:Nat)(x:List dJ×Int×Int):Kr×An:=(fR k p x.1 x.2.2,⟨x.2.2,x.2.1,0,[]⟩)
def n8(l:List dJ)(c:Cl):List dJ×Int×Int:=
 if c.ah=7 then((yK l c.fd).1,0,(yK l c.fd).2)else if c.ah=8 then PD l c.fd else((PF l c.fd c.aZ).1,0,(PF l c.fd c.aZ).2)
def n9(k:Kr)(p:Nat)(c:Cl):Kr×An:=JH k p (n8 (aO k.ps p) c)
theorem l40:bs prog f40=some c40.er:=by kernel_rfl
def aeW:LC:=bi (bi (bi (bi (bi c40.code))))
def aeX:LC:=l5 aeW
theorem PM(k:Kr)(p:Nat)(hw:KW k p)(c:Cl)(x:List dJ×Int×Int):
  aw prog 2 aeX (QC c40.lM (JH k p x).1 p c (JH k p x).2)
   ⟨i5 66 [(0,.rv (.one (.ptr 0 0))),(1,.rv (.one (.ptr 1 0))),(4,.rv (.one (.ptr 2 0))),(5,lY x.1),(6,al .i64 x.2.1),(7,al .i64 x.2.2)],[xB k p,cB c,ju]⟩:=by
 refine ED k p hw.kr hw.hp x.1 x.2.2 0 rfl ?_;exact dp (X:=[_])
theorem L6(k:Kr)(p:Nat)(hw:KW k p)(c:Cl):
  body prog c40 [.rv (.one (.ptr 0 0)),.rv (.one (.ptr 1 0))] [xB k p,cB c] (TC (n9 k p c).1 p c (n9 k p c).2):=by
 have hs:=PM k p hw c (n8 (aO k.ps p) c);have hg:=eK hw.hp;rw[<-j8 hw.hp]at hg;have hl:(aO k.ps p).length<=2097152:=by rw[j8 hw.hp];have:=hw.kr.sl _ (aaR hw.hp);omega
 have hS:n9 k p c=JH k p (n8 (aO k.ps p) c):=rfl;rw[hS];clear hS;refine af hg ?_;generalize aO k.ps p=S at hl hs|-;refine ba (λh7=>?_) (λh7=>?_)
 .have h7:c.ah=7:=h7;rw[n8,if_pos h7]at hs|-;refine LV S hl c.fd ?_;refine⟨_,View.o1 3 [0,1,2] [] ?_,hs⟩
  .exact .au
 have h7:¬c.ah=7:=h7;rw[n8,if_neg h7]at hs|-;refine ba (λh8=>?_) (λh8=>?_)
 .have h8:c.ah=8:=h8;rw[if_pos h8]at hs|-;refine SU S hl c.fd ?_;refine⟨_,View.o1 3 [0,1,2] [] ?_,hs⟩
  .exact .au
 have h8:¬c.ah=8:=h8;rw[if_neg h8]at hs|-;refine LW S hl c.fd c.aZ ?_;refine⟨trivial,_,View.o1 3 [0,1,2] [] ?_,hs⟩
 .exact .au
theorem uS(k:Kr)(p:Nat)(hw:KW k p)(c:Cl):ap prog 40 [.rv (.one (.ptr 0 0)),.rv (.one (.ptr 1 0))] [xB k p,cB c] (TC (n9 k p c).1 p c (n9 k p c).2):=
 cE func40 l40 (L6 k p hw c)
end Kn
def c41:LF:=Cq prog f41 [[3]] [[(d9 10 0 (.cons 10 (some []) (.cons 11 none .nil)))]]
namespace bT
def mj(sep:dP)(l:List dP):dP:=Lib.join l sep
theorem EH(l:List dP):(l.map cU).map (·.data.toList)=l:=by rw[acf];exact List.map_id'' (λ_=>rfl) l
theorem S0(l:List dP)(sep:dP)(hN:l.length<=4194304)(hlen:(mj sep l).length<=140737488355328){m:Mem}{K:CV->Mem->Prop}(h:K (vT (mj sep l)) m):ap prog 73 [txV l,vT sep] m K:=by
 refine⟨⟨f73,func73,rfl,by decide⟩,λρ w vs hM hl hd=>?_⟩
 obtain⟨v0,h0,d0⟩:=hd 0 _ rfl;obtain⟨v1,h1,d1⟩:=hd 1 _ rfl;have Dp:v1= .string (cU sep):=(bY d1).1;have Fq:vs=[v0,v1]:=by
  match vs,hl with
  | [a,b],_=>simp at h0 h1;rw[h0,h1]
 have gu:∀(W':World)(v:Value),v= .string (cU (mj sep l))->Below w.heap.size w W'->∃Zq r m' U',Ending.returned v= .returned Zq/\K r m'/\aK U' m' W'/\cw U' W' r Zq/\Ext ρ m w U' m' W':=by
  rintro W' v rfl hb;refine⟨_,_,m,ρ,rfl,h,hM.wt ⟨hb.size,λb hS=>hb.block b (hM.S b hS),λk hk=>hb.block _ (hM.aF k hk).1⟩,dx.val _ rfl,?_⟩
  exact⟨aai _,λ_ _=>rfl,λ_ h=>h,λ_ h=>.inl h,λk h=>.inr ⟨k,h,rfl⟩,λb uj _=>hb.block b uj,hb.size,hb.os,hb.tape,hb.output⟩
 have hD:dx ρ.S w (.sl 1 (l.map tD)) v0:=d0;rw[Fq,Dp];generalize KR:l.map tD=elems at hD;cases hD with
 |nil _ a cap hc=>
  have:l=[]:=by simpa using KR
  subst this;refine(Lv a cap (cU sep) w).mono λe W'⟨he,hw⟩=>?_
  subst he;exact gu W' _ rfl (hw▸Below.refl _ _)
 |sl _ _ b off cap u hS tX bv dQ hc cD=>
  have aeY:elems.length=(l.map cU).length:=by rw[<-KR];simp
  rw[aeY]at tX|-;refine(SA b off cap (l.map cU) (cU sep) w (λj x hj=>?_) (hM.S b hS) (by rw[O9];omega) tX (by rw[EH];exact hlen)).mono λe W'⟨he,hw⟩=>?_
  .rw[Qu]at hj;cases hlj:l[j]? with
   |none=>rw[hlj]at hj;cases hj
   |some t=>
    rw[hlj]at hj;simp only[aa3,abe]at hj;subst hj;have e1:elems[j]? =some [.val (.string (cU t))]:=by rw[<-KR,Qu,hlj];rfl
    have e2:=hc j _ 0 _ e1 rfl;have e3:=cD j _ 0 _ e1 rfl;have e4:u j 0= .string (cU t):=by
     generalize u j 0=x at e3;cases e3 with
     |val _ _=>rfl
    rw[e4]at e2;simpa using e2
  .subst he;refine gu W' _ ?_ hw;rw[EH];rfl
end bT
namespace Kn
def tI(e:NE):bT.dP:=e.1.data.toList
def tB(t:bT.dP):List (List Dt):=eX (t.map λb=>((b.toNat:Nat):Int))
def HB(o:Obj):bT.dP:=bT.mj [10] ((o.ag.map kO).map tI)
def JI(k:Kr)(o:Obj):Int:=if o.ah=5/\fa k.ps o.aQ=true then 1 else CE (CE o.data.length o.ag.length) o.aj.length
def CF(k:Kr)(c:Cl)(o:Obj):An:=
 if c.ah=11 then(if o.ah≠2 then An.no 11 else⟨0,o.ag.length,0,tB (HB o)⟩)else⟨0,o.ah,JI k o,[]⟩
def p4(k:Kr)(c:Cl)(w:(Int×Int)×Int×Int):An:=if w.2.2≠0 then An.no w.2.2 else CF k c (j9 k.l w.2.1)
def PN(c:Cl):Int:=if c.ah=11 then 64 else 128
def ml(k:Kr)(p:Nat)(c:Cl):Kr×An:=(k,p4 k c (bC k p c.fd (PN c)))
theorem aaD(es:List NE):es.map nmW=(es.map tI).map bT.tD:=by
 rw[acf];refine acE λe _=>?_
 obtain⟨t,ht⟩:=bT.Cp e.1;show [Dt.val (.string e.1)]=[Dt.val (.string (bT.cU e.1.data.toList))];rw[ht];rfl
theorem EI:∀(l:List bT.dP)(n:Nat),(∀t,t∈l->t.length<=n)->(bT.mj [10] l).length<=l.length*(n+1)
 | [],_,_=>by simp[bT.mj,Lib.join]
 | [t],n,h=>by have:=h t aD;simp[bT.mj,Lib.join];omega
 |t::u::r,n,h=>by
  have h1:=h t aD;have h2:=EI (u::r) n λx hx=>h x (by simp[hx])
  have e:(bT.mj [10] (t::u::r)).length=t.length+1+(bT.mj [10] (u::r)).length:=by simp[bT.mj,Lib.join];omega
  rw[e];simp only[aa2]at h2|-;have e2:(r.length+1+1)*(n+1)=(r.length+1)*(n+1)+(n+1):=by rw[ab3 (r.length+1) 1 (n+1),acs]
  rw[e2];omega
theorem L7(t:bT.dP):rD (bT.cU t)=aa (tB t):=by show t.map _=_;rw[aa,tB,eX,acf,acf];rfl
theorem l41:bs prog f41=some c41.er:=by kernel_rfl
def C18:LC:=bi (bi (bi c41.code))
def G18:LC:=l5 C18
theorem ae0{m:Mem}{e n x:Int}{id:Nat}{d:List (List Dt)}{Z:Nat->Prop}{Y:Nat->Nat}(hz:Z id)(hm:m[id]? =some (.row 1 (aa d))):
  sq Y m Z (.rv (.agg [.ai (.val (.int .i64 e)),.ai (.val (.int .i64 n)),.ai (.val (.int .i64 x)),.row id 1 0 none])) (An.cv ⟨e,n,x,d⟩):=
 .rv (.agg rfl λi c c' h1 h2=>by
  match i,h1,h2 with
  |0,h1,h2=>cases h1;cases h2;exact .aN (.ai _)
  |1,h1,h2=>cases h1;cases h2;exact .aN (.ai _)
  |2,h1,h2=>cases h1;cases h2;exact .aN (.ai _)
  |3,h1,h2=>cases h1;cases h2;exact .dG (iW hz hm)
  |n+4,h1,h2=>simp at h1)
theorem L8(k:Kr)(p:Nat)(hw:KW k p)(c:Cl)(need:Int):
  aw prog 2 G18 (QC c41.lM k p c (p4 k c (bC k p c.fd need)))
   ⟨i5 85 [(0,.rv (.one (.ptr 0 0))),(1,.rv (.one (.ptr 1 0))),(4,.rv (.one (.ptr 2 0))),(5,al .i64 need)],[xB k p,cB c,ju]⟩:=by
 refine lC k p hw c.fd need 0 rfl ?_;have hh:= @KW.held k p hw c.fd need;generalize bC k p c.fd need=w at hh|-;obtain⟨⟨o,r⟩,b,e⟩:=w;refine bF (λhe=>?_) (λhe=>?_)
 .have he:e≠0:=he;have e1:p4 k c ((o,r),b,e)=An.no e:=by rw[p4,if_pos he]
  rw[e1];exact dp (X:=[_,_])
 have he:e=0:=he;subst he;obtain⟨n,j,h1,h2,h3,h4,h5⟩:=hh rfl;have h3:b=j:=h3;subst h3;have qy:=hw.kr.sm _ (aaR h4);have RM:=hw.nm _ (aaR h4);have e1:p4 k c ((o,r),((j:Nat):Int),0)=CF k c k.l[j]:=by rw[p4,if_neg aD,uR h4]
 rw[e1];refine af (jr h4) ?_;generalize k.l[j]=ob at qy RM|-;refine ba (λNa=>?_) (λNa=>?_)
 .have Na:c.ah=11:=Na;rw[CF,if_pos Na];refine bF (λFo=>?_) (λFo=>?_)
  .have Fo:ob.ah≠2:=Fo;rw[if_pos Fo];exact dp (X:=[_,_,_])
  have Fo:¬ob.ah≠2:=λh=>h Fo
  rw[if_neg Fo];obtain⟨es,oh⟩:=qy.t.2.1;have KR:es.length<=8:=by have:=qy.e;rw[oh]at this;simpa using this
  have U8:ob.ag.map kO=es:=by rw[oh,ib]
  rw[U8]at RM;have hN:HB ob=bT.mj [10] (es.map tI):=by rw[HB,U8]
  rw[hN];have hJ:(bT.mj [10] (es.map tI)).length<=200:=by
   have:=EI (es.map tI) 12 λt ht=>by obtain⟨e,he,rfl⟩:=abl.1 ht;have:=RM e he;show e.1.data.toList.length<=12;rwa [acF]
   rw[O9]at this;omega
  refine Pm ob es oh om ?_;rw[aaD];refine bT.S0 (es.map tI) [10] (by rw[O9];omega) om ?_
  have dQ:(bT.cU (bT.mj [10] (es.map tI))).size<=140737488355328:=by rw[bT.nT];omega
  have hR:=L7 (bT.mj [10] (es.map tI));generalize bT.mj [10] (es.map tI)=T at dQ hR;refine⟨dQ,?_⟩;refine⟨_,_,View.o 6 [0,1] [5] (.put (ae0 rfl (congrArg (λx=>some (Bk.row 1 x)) hR)) .nil) (.pt rfl rfl (.eq rfl (nY _ _)) (.pt rfl rfl (.eq rfl (pX _)) (.nil _))),rfl,rfl⟩
 have Na:¬c.ah=11:=Na;rw[CF,if_neg Na];have hq:(ob.aj.length:Int)=((ob.aj.map cy.enc).length:Int):=by rw[O9]
 refine ba (λh5=>?_) (λh5=>?_)
 .have h5:ob.ah=5:=h5;refine pO k.l k.ops k.ps ob.aQ ?_;refine⟨trivial,?_⟩;cases hl:fa k.ps ob.aQ with
  |true=>
   rw[JI,if_pos ⟨h5,hl⟩];exact dp (X:=[_,_,_])
  |false=>
   rw[JI,if_neg (by simp[hl]),hq]
   exact dp (X:=[_,_,_])
 .have h5:¬ob.ah=5:=h5;rw[JI,if_neg (λh=>h5 h.1),hq]
  refine⟨trivial,?_⟩;exact dp (X:=[_,_,_])
theorem HC(k:Kr)(p:Nat)(hw:KW k p)(c:Cl):
  body prog c41 [.rv (.one (.ptr 0 0)),.rv (.one (.ptr 1 0))] [xB k p,cB c] (TC (ml k p c).1 p c (ml k p c).2):=by
 have hs:=λneed=>L8 k p hw c need
 refine ba (λh=>?_) (λh=>?_)
 .have h:c.ah=11:=h;have e:ml k p c=(k,p4 k c (bC k p c.fd 64)):=by rw[ml,PN,if_pos h]
  rw[e];refine⟨_,View.o1 3 [0,1,2] [] ?_,hs 64⟩
  .exact .au
 .have h:¬c.ah=11:=h;have e:ml k p c=(k,p4 k c (bC k p c.fd 128)):=by rw[ml,PN,if_neg h]
  rw[e];refine⟨_,View.o1 3 [0,1,2] [] ?_,hs 128⟩
  .exact .au
theorem yQ(k:Kr)(p:Nat)(hw:KW k p)(c:Cl):ap prog 41 [.rv (.one (.ptr 0 0)),.rv (.one (.ptr 1 0))] [xB k p,cB c] (TC (ml k p c).1 p c (ml k p c).2):=
 cE func41 l41 (HC k p hw c)
end Kn
def c42:LF:=Cq prog f42 [[3],[3,3],[3,3,1],[3,3,1,1]] [[(d9 10 0 (.zB (.cons 10 (some []) (d9 3 11 (.cons 14 (some [9,4]) (.cons 15 (some []) (.cons 16 none .nil))))) (.cons 14 (some [9,4]) (.cons 10 (some []) (d9 3 11 (.cons 15 (some []) (.cons 16 none .nil)))))))],[(d9 9 0 (.cons 9 (some []) (d9 7 10 .nil)))],[(d9 6 0 (.cons 6 (some [1]) (.cons 7 none (.cons 8 (some []) (d9 4 9 .nil)))))]]
namespace Kn
def yR(d:List Int):bT.dP:=d.map λn=>UInt8.ofNat n.toNat
def yS(d:List Int):Obj:=⟨3,[],[],bT.cU (yR d),0,[],0,0,0⟩
def HD:Obj:=⟨2,[],[],⟨#[]⟩,0,[],0,0,0⟩
theorem CG(k:Int)(t:ByteArray):SX ⟨k,[],[],t,0,[],0,0,0⟩:=⟨⟨⟨⟨[],rfl⟩,⟨[],rfl⟩,aD⟩,aD,aD,aD,aD⟩,rfl⟩
def EJ(k:Kr)(f:R4):List Obj×Int×Int:=db k.l f.dir (bT.cU f.name)
def oc(k:Kr)(c:Cl)(f:R4):Kr×Int:=
 if f.gz≠0 then(k,f.gz)
 else if f.name=[]then(k,8)
 else if c.ah=14 then(if f.obj<0 then(k,6)else(cu k (EJ k f).1 (EJ k f).2.2,(EJ k f).2.2))
 else if f.obj>=0 then(k,7)
 else if c.ah=13 then((cQ k f (yS c.data)).1,(cQ k f (yS c.data)).2.2)
 else((cQ k f HD).1,(cQ k f HD).2.2)
def vY(c:Cl):Int:=if c.ah=14 then 40 else 24
def iX(k:Kr)(c:Cl)(w:(Int×Int)×Int×Int):Kr×Int:=
 if w.2.2≠0 then(k,w.2.2)
 else if c.ah=13/\(bT.cX (yR c.data)).2.2≠0 then(k,(bT.cX (yR c.data)).2.2)
 else oc k c (fb k w.2.1 c.cG true false)
def Rk(x:Kr×Int):Kr×An:=(x.1,An.no x.2)
def jM(k:Kr)(p:Nat)(c:Cl):Kr×An:=Rk (iX k c (bC k p c.fd (vY c)))
theorem l42:bs prog f42=some c42.er:=by kernel_rfl
def ae1:LC:=bi (bi (bi c42.code))
def aaE:LC:=l5 ae1
def ae2:LC:=bi (bi (bi aaE))
def aaF:LC:=l5 ae2
def ae3:LC:=bi aaF
def aaG:LC:=l5 ae3
def aaH:LC:=bi aaG
def aaI:LC:=l5 aaH
theorem L9(k:Kr)(p:Nat)(c:Cl)(e:Int):
  aw prog 2 aaI (QC c42.lM k p c (An.no e)) ⟨i5 142 [(0,.rv (.one (.ptr 0 0))),(1,.rv (.one (.ptr 1 0))),(4,.rv (.one (.ptr 2 0))),(8,al .i64 e)],[xB k p,cB c,ju]⟩:=dp (X:=[_])
theorem ae4(t:bT.dP){A B:Prop}(ha:t=[]->A)(hb:t≠[]->B): @Bool.rec (λ_=>Prop) B A ((bT.cU t).toList==(⟨#[]⟩:ByteArray).toList):=bT.me (b:=[]) ha hb
theorem m3{Y:Nat->Nat}(hσ:Y 0=0/\Y 1=1/\Y 2=2){Z:Nat->Prop}(hZ:¬Z 0/\¬Z 1/\¬Z 2){k:Kr}{p:Nat}{c:Cl}{X:Mem}:bW Y (xB k p::cB c::ju::X) Z 0 [xB k p,cB c,ju]:=by
 obtain⟨h0,h1,h2⟩:=hσ;obtain⟨z0,z1,z2⟩:=hZ;exact .put (by rw[h0];exact z0) (by rw[h0];rfl) (.eq rfl (nY _ _)) (.put (by rw[h1];exact z1) (by rw[h1];rfl) (.eq rfl (pX _)) (.put (by rw[h2];exact z2) (by rw[h2];rfl) (.eq rfl (by simp[ju])) (.nil _)))
theorem PQ(k:Kr)(p:Nat)(hw:KW k p)(c:Cl)(f:R4):
  aw prog 2 aaG (QC c42.lM (Rk (oc k c f)).1 p c (Rk (oc k c f)).2)
   ⟨i5 142 [(0,.rv (.one (.ptr 0 0))),(1,.rv (.one (.ptr 1 0))),(4,.rv (.one (.ptr 2 0))),(8,al .i64 f.gz),(12,.rv (.one (.ptr 3 0)))],[xB k p,cB c,ju,.var ((Yl f).map .ai)]⟩:=by
 have HE:=λk e=>L9 k p c e
 obtain⟨obj,dir,name,gz⟩:=f;refine bF (λhe=>?_) (λhe=>?_)
 .have he:gz≠0:=he;have e1:oc k c ⟨obj,dir,name,gz⟩=(k,gz):=by rw[oc,if_pos he]
  rw[e1];refine⟨_,View.o1 4 [0,1,2] [] (m3 ⟨rfl,rfl,rfl⟩ ⟨fv rfl,fv rfl,fv rfl⟩),HE k gz⟩
 have he:gz=0:=he;subst he;refine ae4 name (λh1=>?_) (λh1=>?_)
 .have e1:oc k c ⟨obj,dir,name,0⟩=(k,8):=by rw[oc,if_neg aD,if_pos h1]
  rw[e1];refine⟨_,View.o1 4 [0,1,2] [] (m3 ⟨rfl,rfl,rfl⟩ ⟨fv rfl,fv rfl,fv rfl⟩),HE k 8⟩
 have e0:oc k c ⟨obj,dir,name,0⟩=if c.ah=14 then(if obj<0 then(k,6)else(cu k (EJ k ⟨obj,dir,name,0⟩).1 (EJ k ⟨obj,dir,name,0⟩).2.2,(EJ k ⟨obj,dir,name,0⟩).2.2))
   else if obj>=0 then(k,7)
   else if c.ah=13 then((cQ k ⟨obj,dir,name,0⟩ (yS c.data)).1,(cQ k ⟨obj,dir,name,0⟩ (yS c.data)).2.2)
   else((cQ k ⟨obj,dir,name,0⟩ HD).1,(cQ k ⟨obj,dir,name,0⟩ HD).2.2):=by rw[oc,if_neg aD,if_neg h1]
 rw[e0];refine ba (λPR=>?_) (λPR=>?_)
 .have PR:c.ah=14:=PR;rw[if_pos PR];refine am (λho=>?_) (λho=>?_)
  .have ho:obj<0:=ho;rw[if_pos ho];refine⟨_,View.o1 4 [0,1,2] [] (m3 ⟨rfl,rfl,rfl⟩ ⟨fv rfl,fv rfl,fv rfl⟩),HE k 6⟩
  have ho:¬obj<0:=ho;rw[if_neg ho];refine bV (beq_iff_eq.2 PR) ?_;refine Hl k.l hw.EB dir (bT.cU name) ?_;refine⟨trivial,?_⟩;refine oQ k p hw.kr _ _ 0 rfl ?_;refine⟨_,View.o1 4 [0,1,2] [] (m3 ⟨rfl,rfl,rfl⟩ ⟨fv rfl,fv rfl,fv rfl⟩),HE _ _⟩
 have PR:¬c.ah=14:=PR;rw[if_neg PR];refine gG (beq_eq_false_iff_ne.2 PR) ?_;refine am (λho=>?_) (λho=>?_)
 .have ho:obj>=0:=ho;rw[if_pos ho];refine⟨_,View.o1 4 [0,1,2] [] (m3 ⟨rfl,rfl,rfl⟩ ⟨fv rfl,fv rfl,fv rfl⟩),HE k 7⟩
 have ho:¬obj>=0:=ho;rw[if_neg ho];refine ba (λFB=>?_) (λFB=>?_)
 .have FB:c.ah=13:=FB;rw[if_pos FB];refine af (hU c.data) ?_;refine⟨⟨rfl,trivial⟩,?_⟩;refine jd (CD _ _ _ _) (uQ k p hw ⟨obj,dir,name,0⟩ (yS c.data) (CG _ _) 0 rfl ?_);refine⟨trivial,?_⟩;refine⟨_,View.o1 4 [0,1,2] [] (m3 ⟨rfl,rfl,rfl⟩ ⟨fv rfl,fv rfl,fv rfl⟩),HE _ _⟩
 have FB:¬c.ah=13:=FB;rw[if_neg FB];refine jd (CD _ _ _ _) (uQ k p hw ⟨obj,dir,name,0⟩ HD (CG _ _) 0 rfl ?_);refine⟨_,View.o1 4 [0,1,2] [] (m3 ⟨rfl,rfl,rfl⟩ ⟨fv rfl,fv rfl,fv rfl⟩),HE _ _⟩
theorem EK(k:Kr)(p:Nat)(hw:KW k p)(c:Cl)(aB:Int)(R:Kr×Int)(hR:R=oc k c (fb k aB c.cG true false)):
  aw prog 2 aaF (QC c42.lM (Rk R).1 p c (Rk R).2)
   ⟨i5 142 [(0,.rv (.one (.ptr 0 0))),(1,.rv (.one (.ptr 1 0))),(4,.rv (.one (.ptr 2 0))),(7,al .i64 aB)],[xB k p,cB c,ju]⟩:=by
 have hs:=PQ k p hw c (fb k aB c.cG true false);rw[<-hR]at hs;refine⟨?_,?_⟩
 .refine tG k p hw aB c.cG true false ?_;refine⟨trivial,⟨rfl,rfl,trivial⟩,trivial,_,View.o1 4 [0,1,2,3] [] ?_,hs⟩
  .exact .au
 .refine⟨⟨rfl,rfl,trivial⟩,?_⟩;refine tG k p hw aB c.cG true false ?_;refine⟨trivial,trivial,_,View.o1 4 [0,1,2,3] [] ?_,hs⟩
  .exact .au
theorem PS(k:Kr)(p:Nat)(hw:KW k p)(c:Cl)(need:Int):
  aw prog 2 aaE (QC c42.lM (Rk (iX k c (bC k p c.fd need))).1 p c (Rk (iX k c (bC k p c.fd need))).2)
   ⟨i5 142 [(0,.rv (.one (.ptr 0 0))),(1,.rv (.one (.ptr 1 0))),(4,.rv (.one (.ptr 2 0))),(5,al .i64 need)],[xB k p,cB c,ju]⟩:=by
 refine lC k p hw c.fd need 0 rfl ?_;generalize bC k p c.fd need=w;obtain⟨⟨o,r⟩,b,e⟩:=w;refine bF (λhe=>?_) (λhe=>?_)
 .have he:e≠0:=he;have e1:iX k c ((o,r),b,e)=(k,e):=by rw[iX,if_pos he]
  rw[e1];exact dp (X:=[_,_])
 have he:e=0:=he;subst he;refine ba (λFB=>?_) (λFB=>?_)
 .have FB:c.ah=13:=FB;refine af (hU c.data) ?_;refine bT.yv (yR c.data) ?_;refine bF (λhs=>?_) (λhs=>?_)
  .have hs:(bT.cX (yR c.data)).2.2≠0:=hs;have e1:iX k c ((o,r),b,0)=(k,(bT.cX (yR c.data)).2.2):=by rw[iX,if_neg aD,if_pos ⟨FB,hs⟩]
   rw[e1];exact dp (X:=[_,_])
  .have hs:¬(bT.cX (yR c.data)).2.2≠0:=λh=>h hs
   refine⟨_,View.o1 4 [0,1,2] [] (m3 ⟨rfl,rfl,rfl⟩ ⟨fv rfl,fv rfl,fv rfl⟩),EK k p hw c b (iX k c ((o,r),b,0)) (by rw[iX,if_neg aD,if_neg (λh=>hs h.2)])⟩
 .have FB:¬c.ah=13:=FB;refine⟨_,View.o1 4 [0,1,2] [] (m3 ⟨rfl,rfl,rfl⟩ ⟨fv rfl,fv rfl,fv rfl⟩),EK k p hw c b (iX k c ((o,r),b,0)) (by rw[iX,if_neg aD,if_neg (λh=>FB h.1)])⟩
theorem nM(k:Kr)(p:Nat)(hw:KW k p)(c:Cl):
  body prog c42 [.rv (.one (.ptr 0 0)),.rv (.one (.ptr 1 0))] [xB k p,cB c] (TC (jM k p c).1 p c (jM k p c).2):=by
 have hs:=λneed=>PS k p hw c need
 refine ba (λh=>?_) (λh=>?_)
 .have h:c.ah=14:=h;have e:jM k p c=Rk (iX k c (bC k p c.fd 40)):=by rw[jM,vY,if_pos h]
  rw[e];refine⟨_,View.o1 3 [0,1,2] [] (m3 ⟨rfl,rfl,rfl⟩ ⟨fv rfl,fv rfl,fv rfl⟩),hs 40⟩
 .have h:¬c.ah=14:=h;have e:jM k p c=Rk (iX k c (bC k p c.fd 24)):=by rw[jM,vY,if_neg h]
  rw[e];refine⟨_,View.o1 3 [0,1,2] [] (m3 ⟨rfl,rfl,rfl⟩ ⟨fv rfl,fv rfl,fv rfl⟩),hs 24⟩
theorem uT(k:Kr)(p:Nat)(hw:KW k p)(c:Cl):ap prog 42 [.rv (.one (.ptr 0 0)),.rv (.one (.ptr 1 0))] [xB k p,cB c] (TC (jM k p c).1 p c (jM k p c).2):=
 cE func42 l42 (nM k p hw c)
end Kn
def c44:LF:=Cq prog f44 [[5]] [[(d9 16 0 (.cons 16 (some []) (d9 4 17 (.cons 21 (some []) (.cons 22 none .nil)))))],[(d9 7 0 (.cons 7 (some []) (d9 5 8 .nil)))]]
def c45:LF:=Cq prog f45 [[7]] [[(d9 14 0 (.cons 14 (some []) (d9 7 15 .nil)))]]
namespace Kn
def A9(d:List Int)(g:(Int×Int)×Bool):cy:=⟨eX d,g.2,g.1.1,g.1.2⟩
def lj(k:Kr)(c:Cl)(r:List Obj×Int):Kr×An:=(cu k r.1 r.2,if r.2≠0 then An.no r.2 else⟨0,c.data.length,0,[]⟩)
def vZ(k:Kr)(p:Nat)(c:Cl)(obj:Int):Kr×An:=
 if c.iy>=0 then
  (if(kT (aO k.ps p) c.iy).2≠0 then(k,An.no (kT (aO k.ps p) c.iy).2)else lj k c (eW k.l obj (A9 c.data ((kT (aO k.ps p) c.iy).1,true))))
 else lj k c (eW k.l obj (A9 c.data ((0,0),false)))
def yT(k:Kr)(p:Nat)(c:Cl)(w:(Int×Int)×Int×Int):Kr×An:=if w.2.2≠0 then(k,An.no w.2.2)else vZ k p c w.2.1
def jv(k:Kr)(p:Nat)(c:Cl):Kr×An:=yT k p c (bC k p c.fd 256)
theorem l44:bs prog f44=some c44.er:=by kernel_rfl
def ae5:LC:=bi (bi (bi (bi (bi c44.code))))
def ae6:LC:=l5 ae5
theorem PT(k:Kr)(p:Nat)(hw:KW k p)(c:Cl)(obj:Int)(m:cy)(hm:m.data.length<=4194304):
  aw prog 2 ae6 (QC c44.lM (lj k c (eW k.l obj m)).1 p c (lj k c (eW k.l obj m)).2)
   ⟨i5 85 [(0,.rv (.one (.ptr 0 0))),(1,.rv (.one (.ptr 1 0))),(4,.rv (.one (.ptr 2 0))),(6,al .i64 obj),(8,.rv (.one (.ptr 3 0)))],[xB k p,cB c,ju,.var (m.enc.map .ai)]⟩:=by
 refine Sb k.l hw.oi obj m hm ?_;generalize eW k.l obj m=r;obtain⟨l,e⟩:=r;refine⟨trivial,?_⟩;refine oQ k p hw.kr l e 0 rfl ?_;refine bF (λhe=>?_) (λhe=>?_)
 .have he:e≠0:=he;rw[lj,if_pos he];exact dp (X:=[_,_])
 .have he:¬e≠0:=λh=>h he
  have hq:(c.data.length:Int)=((eX c.data).length:Int):=by simp[eX]
  rw[lj,if_neg he,hq];exact dp (X:=[_,_])
theorem uB(k:Kr)(p:Nat)(hw:KW k p)(c:Cl)(hd:c.data.length<=4194304):
  body prog c44 [.rv (.one (.ptr 0 0)),.rv (.one (.ptr 1 0))] [xB k p,cB c] (TC (jv k p c).1 p c (jv k p c).2):=by
 have hs:=λobj m hm=>PT k p hw c obj m hm
 have lH:(eX c.data).length<=4194304:=by simpa[eX]using hd
 refine lC k p hw c.fd 256 0 rfl ?_;have hS:jv k p c=yT k p c (bC k p c.fd 256):=rfl;rw[hS];clear hS;generalize bC k p c.fd 256=w;obtain⟨⟨o,r⟩,b,e⟩:=w;refine bF (λhe=>?_) (λhe=>?_)
 .have he:e≠0:=he;rw[yT,if_pos he];exact dp (X:=[_,_])
 have he:e=0:=he;subst he;rw[yT,if_neg aD];refine am (λh2=>?_) (λh2=>?_)
 .have h2:c.iy>=0:=h2;have hg:=eK hw.hp;rw[<-j8 hw.hp]at hg;refine af hg ?_;have e1:vZ k p c b=if(kT (aO k.ps p) c.iy).2≠0 then(k,An.no (kT (aO k.ps p) c.iy).2)else lj k c (eW k.l b (A9 c.data ((kT (aO k.ps p) c.iy).1,true))):=by rw[vZ,if_pos h2]
  rw[e1];refine SS (aO k.ps p) c.iy ?_;generalize kT (aO k.ps p) c.iy=g;obtain⟨⟨go,gr⟩,e⟩:=g;refine⟨trivial,trivial,?_⟩;refine bF (λhe=>?_) (λhe=>?_)
  .have he:e≠0:=he;rw[if_pos he];exact dp (X:=[_,_,_])
  have he:¬e≠0:=λh=>h he
  rw[if_neg he];refine⟨_,View.o1 5 [0,1,2,4] [] ?_,hs b (A9 c.data ((go,gr),true)) lH⟩
  .exact .au
 .have h2:¬c.iy>=0:=h2;have e1:vZ k p c b=lj k c (eW k.l b (A9 c.data ((0,0),false))):=by rw[vZ,if_neg h2]
  rw[e1];refine⟨_,View.o1 5 [0,1,2,4] [] ?_,hs b (A9 c.data ((0,0),false)) lH⟩
  .exact .au
theorem Ma(k:Kr)(p:Nat)(hw:KW k p)(c:Cl)(hd:c.data.length<=4194304):ap prog 44 [.rv (.one (.ptr 0 0)),.rv (.one (.ptr 1 0))] [xB k p,cB c] (TC (jv k p c).1 p c (jv k p c).2):=
 cE func44 l44 (uB k p hw c hd)
def rn(k:Kr)(l:List Obj)(m:cy)(fd:Int):Kr×An:=(cu k l 0,⟨0,m.data.length,fd,m.data⟩)
def yU(k:Kr)(p:Nat)(r:List Obj×cy×Int):Kr×An:=
 if r.2.2≠0 then(k,An.no r.2.2)
 else if r.2.1.has=true then
  (if(gx (aO k.ps p) r.2.1.b8 r.2.1.rts).2.2≠0 then(k,An.no (gx (aO k.ps p) r.2.1.b8 r.2.1.rts).2.2)
   else rn (fR k p (gx (aO k.ps p) r.2.1.b8 r.2.1.rts).1 0) r.1 r.2.1 (gx (aO k.ps p) r.2.1.b8 r.2.1.rts).2.1)
 else rn k r.1 r.2.1 (-1)
def yV(k:Kr)(p:Nat)(w:(Int×Int)×Int×Int):Kr×An:=if w.2.2≠0 then(k,An.no w.2.2)else yU k p (fH k.l w.2.1)
def jw(k:Kr)(p:Nat)(c:Cl):Kr×An:=yV k p (bC k p c.fd 512)
theorem tJ{l:List dJ}{o r:Int}(hl:l.length<=10):(gx l o r).1.length<=10:=by
 unfold gx Tb.jk;split
 .simp
 .split
  .simpa using hl
  .split
   .simp
   .rename_i h;simp only[O9,abT,aa2,abO]at h|-;omega
theorem PU{k:Kr}(hk:dV k.l k.ops k.ps){p:Nat}(hp:p<k.ps.length){l:List dJ}(hl:l.length<=10):dV k.l k.ops (dI k.ps p l):=by
 have e:dI k.ps p l=k.ps.set p {k.ps[p]with an:=l}:=by rw[dI,wy hp]
 rw[e];refine⟨hk.sm,hk.ll,hk.lo,by simpa using hk.lp,λx hx=>?_,λh=>hk.ne (by simpa using h)⟩
 rcases abF hx with hx|rfl
 .exact hk.sl x hx
 .exact hl
theorem l45:bs prog f45=some c45.er:=by kernel_rfl
def ae7:LC:=bi (bi (bi (bi (bi (bi (bi c45.code))))))
def ae8:LC:=l5 ae7
theorem EL(k:Kr)(p:Nat)(hk:dV k.l k.ops k.ps)(c:Cl)(l:List Obj)(m:cy)(fd:Int):
  aw prog 2 ae8 (QC c45.lM (rn k l m fd).1 p c (rn k l m fd).2)
   ⟨i5 82 [(0,.rv (.one (.ptr 0 0))),(1,.rv (.one (.ptr 1 0))),(4,.rv (.one (.ptr 2 0))),(8,cJ l),(9,.rv (.one (.ptr 3 0))),(10,al .i64 fd)],[xB k p,cB c,ju,.var (m.enc.map .ai)]⟩:=by
 refine oQ k p hk l 0 0 rfl ?_;exact Hu (k:=cu k l 0) (a:=⟨0,m.data.length,fd,m.data⟩) (X:=[_,_])
theorem uC(k:Kr)(p:Nat)(hw:KW k p)(c:Cl):
  body prog c45 [.rv (.one (.ptr 0 0)),.rv (.one (.ptr 1 0))] [xB k p,cB c] (TC (jw k p c).1 p c (jw k p c).2):=by
 refine lC k p hw c.fd 512 0 rfl ?_;have hS:jw k p c=yV k p (bC k p c.fd 512):=rfl;rw[hS];clear hS;generalize bC k p c.fd 512=w;obtain⟨⟨o,r⟩,b,e⟩:=w;refine bF (λhe=>?_) (λhe=>?_)
 .have he:e≠0:=he;rw[yV,if_pos he];exact dp (X:=[_,_])
 have he:e=0:=he;subst he;rw[yV,if_neg aD];refine Sc k.l hw.oi b ?_;generalize fH k.l b=R;obtain⟨l,m,e⟩:=R;refine bF (λhe=>?_) (λhe=>?_)
 .have he:e≠0:=he;rw[yU,if_pos he];exact dp (X:=[_,_,_])
 have he:e=0:=he;subst he;have hR:yU k p (l,m,0)=if m.has=true then
   (if(gx (aO k.ps p) m.b8 m.rts).2.2≠0 then(k,An.no (gx (aO k.ps p) m.b8 m.rts).2.2)
    else rn (fR k p (gx (aO k.ps p) m.b8 m.rts).1 0) l m (gx (aO k.ps p) m.b8 m.rts).2.1)
  else rn k l m (-1):=by rw[yU,if_neg aD]
 rw[hR];clear hR;obtain⟨data,has,b8,rts⟩:=m;cases has with
 |false=>
  rw[if_neg aD];refine⟨_,View.o1 5 [0,1,2,4] [] ?_,EL k p hw.kr c l ⟨data,false,b8,rts⟩ (-1)⟩
  .exact .au
 |true=>
  rw[if_pos rfl];have hg:=eK hw.hp;rw[<-j8 hw.hp]at hg;have hl:(aO k.ps p).length<=10:=by rw[j8 hw.hp];exact hw.kr.sl _ (aaR hw.hp)
  refine af hg ?_;have eF:= @tJ (aO k.ps p) b8 rts hl;refine Ch (aO k.ps p) om b8 rts ?_;have hkr:= @PU k hw.kr p hw.hp;generalize gx (aO k.ps p) b8 rts=T at eF|-;obtain⟨t,fd,e⟩:=T;refine⟨trivial,?_⟩;refine bF (λhe=>?_) (λhe=>?_)
  .have he:e≠0:=he;rw[if_pos he];exact dp (X:=[_,_,_])
  have he:e=0:=he;subst he;rw[if_neg aD];refine ED k p hw.kr hw.hp t 0 0 rfl ?_;refine⟨_,View.o1 5 [0,1,2,4] [] ?_,EL (fR k p t 0) p (hkr eF) c l ⟨data,true,b8,rts⟩ fd⟩
  .exact .au
theorem Mb(k:Kr)(p:Nat)(hw:KW k p)(c:Cl):ap prog 45 [.rv (.one (.ptr 0 0)),.rv (.one (.ptr 1 0))] [xB k p,cB c] (TC (jw k p c).1 p c (jw k p c).2):=
 cE func45 l45 (uC k p hw c)
end Kn
def c43:LF:=Cq prog f43 [[5]] [[(d9 7 0 (.cons 7 (some []) (d9 4 8 (.cons 12 (some []) (.cons 13 none (.cons 14 none .nil))))))],[(d9 7 0 (.cons 7 (some []) (d9 4 8 (.cons 12 (some []) (.cons 13 none (.cons 14 none .nil))))))]]
namespace Kn
def tK(p:Nat)(a:Kr×Int×Int)(e1:Int)(k:Kr):Kr×An:=
 if a.2.2≠0 then(k,An.no a.2.2)
 else if(aI a.1 p e1 896).2.2≠0 then(k,An.no (aI a.1 p e1 896).2.2)
 else((aI a.1 p e1 896).1,⟨0,a.2.1,(aI a.1 p e1 896).2.1,[]⟩)
def yW(k:Kr)(p:Nat)(P:List Obj×(Int×Int)×Int):Kr×An:=
 if P.2.2≠0 then(k,An.no P.2.2)else tK p (aI ⟨P.1,k.ops,k.ps⟩ p P.2.1.1 896) P.2.1.2 k
def jx(k:Kr)(p:Nat):Kr×An:=yW k p (eV k.l)
structure WW(k:Kr)(p:Nat)(P:List Obj×(Int×Int)×Int):Prop where
 a:P.2.2=0->dV P.1 k.ops k.ps
 b:P.2.2=0->(aI ⟨P.1,k.ops,k.ps⟩ p P.2.1.1 896).2.2=0->dV (aI ⟨P.1,k.ops,k.ps⟩ p P.2.1.1 896).1.l (aI ⟨P.1,k.ops,k.ps⟩ p P.2.1.1 896).1.ops (aI ⟨P.1,k.ops,k.ps⟩ p P.2.1.1 896).1.ps/\p<(aI ⟨P.1,k.ops,k.ps⟩ p P.2.1.1 896).1.ps.length
theorem l43:bs prog f43=some c43.er:=by kernel_rfl
def ae9:LC:=bi (bi (bi (bi (bi c43.code))))
def afa:LC:=l5 ae9
def kB(k:Kr):Bk:= .var ((kC k.l k.ops k.ps).map .ai)
theorem JJ(k:Kr):kB k≠.aE:=by intro h;cases h
def TP(k:Kr)(p:Nat)(a:An)(r:CV)(m:Mem):Prop:=∃r' m',View 1 ⟨[r],m⟩ ⟨[r'],m'⟩/\r'=a.cv/\m'=[xB k p]
theorem JK{k:Kr}{p:Nat}{X:Mem}{e n x:Int}:TP k p ⟨e,n,x,[]⟩ (.rv (.agg [.ai (.val (.int .i64 e)),.ai (.val (.int .i64 n)),.ai (.val (.int .i64 x)),.bt])) (xB k p::X):=
 ⟨_,_,View.of (X.length+1) [0] [] rfl rfl rfl rfl rfl (by simp[eh,Nat.blt]) (.put PJ .nil) (.pt rfl rfl (.eq rfl (nY _ _)) (.nil _)),rfl,rfl⟩
theorem PV(k:Kr)(p:Nat)(k1:Kr)(hp:p<k1.ps.length)(hk:dV k1.l k1.ops k1.ps)(e0 e1:Int)(hb:(aI k1 p e0 896).2.2=0->dV (aI k1 p e0 896).1.l (aI k1 p e0 896).1.ops (aI k1 p e0 896).1.ps/\p<(aI k1 p e0 896).1.ps.length):
  aw prog 1 afa (nu prog c43.lM (TP (tK p (aI k1 p e0 896) e1 k).1 p (tK p (aI k1 p e0 896) e1 k).2))
   ⟨i5 69 [(0,.rv (.one (.ptr 0 0))),(2,.rv (.one (.ptr 1 0))),(4,.rv (.one (.ptr 2 0))),(6,.rv (.one (.ptr 3 0)))],[xB k p,ju,.var [.ai (.val (.int .i64 e0)),.ai (.val (.int .i64 e1))],kB k1]⟩:=by
 refine uN k1 hk p hp e0 896 ?_;generalize aI k1 p e0 896=A at hb|-;obtain⟨k2,fd,e⟩:=A;refine⟨trivial,trivial,?_⟩;refine bF (λhe=>?_) (λhe=>?_)
 .have he:e≠0:=he;rw[tK,if_pos he];exact JK (X:=[_,_,_])
 have he:e=0:=he;subst he;obtain⟨lS,Mc⟩:=hb rfl;have e2:tK p (k2,fd,0) e1 k=if(aI k2 p e1 896).2.2≠0 then(k,An.no (aI k2 p e1 896).2.2)else((aI k2 p e1 896).1,⟨0,fd,(aI k2 p e1 896).2.1,[]⟩):=by rw[tK,if_neg aD]
 rw[e2];refine uN k2 lS p Mc e1 896 ?_;generalize aI k2 p e1 896=B;obtain⟨k3,iy,e⟩:=B;refine⟨trivial,trivial,?_⟩;refine bF (λhe=>?_) (λhe=>?_)
 .have he:e≠0:=he;rw[if_pos he];exact JK (X:=[_,_,_])
 have he:¬e≠0:=λh=>h he
 rw[if_neg he];exact JK (k:=k3) (X:=[_,_,_])
theorem HF(k:Kr)(p:Nat)(hw:KW k p)(hi:WW k p (eV k.l)):
  body prog c43 [.rv (.one (.ptr 0 0))] [xB k p] (TP (jx k p).1 p (jx k p).2):=by
 refine Sa k.l hw.oi ?_;have hS:jx k p=yW k p (eV k.l):=rfl;rw[hS];clear hS;generalize eV k.l=P at hi|-;obtain⟨l,⟨e0,e1⟩,e⟩:=P;refine bF (λhe=>?_) (λhe=>?_)
 .have he:e≠0:=he;rw[yW,if_pos he];exact JK (X:=[_,_])
 have he:e=0:=he;subst he;rw[yW,if_neg aD];refine jh k.l k.ops k.ps hw.oi hw.kr.lo hw.kr.lp hw.kr.sl hw.kr.ne ?_;refine⟨_,View.o1 7 [0,1,2,6] [3,4,5] ?_,PV k p ⟨l,k.ops,k.ps⟩ hw.hp (hi.a rfl) e0 e1 (hi.b rfl)⟩
 .exact .pt rfl rfl (.eq rfl (nY _ _)) (.pt rfl rfl (.eq rfl (by simp[ju])) (.pe rfl rfl rfl (.pt rfl rfl (dy.var (.cons (.aN (.ai _)) (.cons (.dG (iW rfl rfl)) (.cons (.dG (iW rfl rfl)) .nil)))) (.nil _))))
theorem PW(k:Kr)(p:Nat)(hw:KW k p)(hi:WW k p (eV k.l)){m:Mem}(id:Nat)(hb:dh m id=some (xB k p)){K:CV->Mem->Prop}(hK:K (jx k p).2.cv (aX m id (xB (jx k p).1 p))):
  ap prog 43 [.rv (.one (.ptr id 0))] m K:=
 JF (args:=[]) (λ_=>rfl) (λ_=>rfl)
  (bK (cE func43 l43 (HF k p hw hi)) λr m1⟨r',m',hv,hq⟩=>⟨r',m',hv,hq⟩) id hb hK
end Kn
end Go.Proofs.YtllkfpggoigbaaaGreatDoor
