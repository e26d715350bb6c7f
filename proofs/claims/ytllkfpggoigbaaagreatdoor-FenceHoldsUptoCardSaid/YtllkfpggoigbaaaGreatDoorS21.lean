/- Part 21 of 35. -/
import Derived.Test.YtllkfpggoigbaaaGreatDoorS14
import Derived.Test.YtllkfpggoigbaaaGreatDoorS15
import Derived.Test.YtllkfpggoigbaaaGreatDoorS16
import Derived.Test.YtllkfpggoigbaaaGreatDoorS17
import Derived.Test.YtllkfpggoigbaaaGreatDoorS20
import Derived.Test.YtllkfpggoigbaaaGreatDoorRows
import Derived.Shelf.Strings.Search3
import Derived.Shelf.Strings.OnBuilder
import Derived.RangeFuncNested
import Derived.RangeFuncCalls
import Derived.Shelf.Abstract
import Derived.WalkKit
import Derived.OwnWalkIn
import Derived.TacticsInMore
import Derived.LoopNIn
import Derived.LoopIn
set_option linter.unusedVariables false
set_option linter.unusedSimpArgs false
set_option linter.unnecessarySimpa false
set_option maxRecDepth 100000
set_option maxHeartbeats 0
namespace Go.Proofs.YtllkfpggoigbaaaGreatDoor
open Proofs.Tryz
open Go.AM Go.ChangeShapes Go.WideShapes Go.ChangeAt Go.RowKit
def c86:LF:=Cq prog f86 [[6],[6,1]] [[(d9 15 0 (.cons 15 (some [8,6,4,1]) (.cons 16 none (.cons 17 none (.cons 18 (some []) .nil)))))]]
theorem l86:bs prog f86=some c86.er:=by kernel_rfl
def dN(c:Int):Obj:=⟨5,[],[],⟨#[]⟩,-1,[],c,0,0⟩
theorem Ej(c:Int):(dN c).sm:=⟨⟨⟨[],rfl⟩,⟨[],rfl⟩,λq hq=>by simp[dN]at hq⟩,by simp[dN],by simp[dN],by simp[dN],λq hq=>by simp[dN]at hq⟩
theorem OZ(a:CV)(c:Int):kJ [a,.rv (.agg [.ai (.val (.int .i64 5)),.bt,.bt,.ai (.val (.string ⟨#[]⟩)),.ai (.val (.int .i64 (-1))),.bt,.ai (.val (.int .i64 c)),.ai (.val (.int .i64 0)),.ai (.val (.int .i64 0))])] [a,(dN c).cv]:=
 .cO _ (.agg (.cons (.cO _) (.cons (.bt 1) (.cons (.bt 2) (.cons (.cO _) (.cons (.cO _) (.cons (.bt 4) (.cons (.cO _) (.cons (.cO _) (.cons (.cO _) .nil))))))))) .nil)
theorem A0{l:List Obj}{o x:Obj}(h:x∈(aM l o).1):x∈l\/x=o:=by
 unfold aM at h;split at h
 .exact abF h
 .split at h
  .simp at h
  .simpa using h
theorem Lr(l:List Obj)(o:Obj):(aM l o).1.length<=l.length+1:=by
 unfold aM;split
 .simp
 .split<;>simp
theorem O0{m:Mem}{a b:RV}{x y z:Int}(h:dE m a b):cH m (.bG [a,cK x,cK y,cK z]) (.bG [b,cK x,cK y,cK z]):=by
 refine .bG rfl λi r r' h1 h2=>?_
 match i,h1,h2 with
 |0,h1,h2=>cases h1;cases h2;exact h
 |1,h1,h2=>cases h1;cases h2;exact dE.self rfl
 |2,h1,h2=>cases h1;cases h2;exact dE.self rfl
 |3,h1,h2=>cases h1;cases h2;exact dE.self rfl
 |n+4,h1,h2=>simp at h1
def yn(l:List Obj)(ops:List aT)(P:List aL)(n:Nat)(c:Int):Kr×Int×Int×Int:=
 if(aM l (dN c)).2.2≠0 then(tu,0,0,(aM l (dN c)).2.2)
 else if(aI ⟨(aM l (dN c)).1,ops,P⟩ n (aM l (dN c)).2.1 3200).2.2≠0 then(tu,0,0,(aI ⟨(aM l (dN c)).1,ops,P⟩ n (aM l (dN c)).2.1 3200).2.2)
 else((aI ⟨(aM l (dN c)).1,ops,P⟩ n (aM l (dN c)).2.1 3200).1,c,(aI ⟨(aM l (dN c)).1,ops,P⟩ n (aM l (dN c)).2.1 3200).2.1,0)
def il(ps:List aL)(n c:Nat):List aL:=match ps[n]? with
 |some x=>if c=ps.length then ps++ [⟨true,x.fenced,0,x.an⟩]else ps.set c ⟨true,x.fenced,0,x.an⟩
 |none=>ps
def jm(k:Kr)(p:Int):Kr×Int×Int×Int:=
 if fa k.ps p=false then(tu,0,0,6)else if ir k.l k.ps<0 then(tu,0,0,15)
 else yn k.l k.ops (il k.ps p.toNat (ir k.l k.ps).toNat) p.toNat (ir k.l k.ps)
def Js(a:Kr×Int×Int×Int):CV:= .bG [kK a.1,cK a.2.1,cK a.2.2.1,cK a.2.2.2]
def C36:LC:=bi (bi (bi (bi (bi (bi c86.code)))))
def G36:LC:=l5 C36
def C55:LC:=bi G36
def G55:LC:=l5 C55
theorem Z8(l:List Obj)(ops:List aT)(P:List aL)(hk:dV l ops P)(Cj:l.length<=4194303)(n:Nat)(hn:n<P.length)(c:Int):
  aw prog 0 G55 (nu prog c86.lM (λr m=>cH m r (Js (yn l ops P n c))))
   ⟨i5 84 [(1,al .i64 (n:Nat)),(4,.rv (.one (.ptr 0 0))),(8,al .i64 c),(9,.rv (.one (.ptr 1 0)))],[.var [.bt,.bt,.bt],.var ((kC l ops P).map .ai)]⟩:=by
 have hA1:∀x,x∈(aM l (dN c)).1->x.sm:=λx hx=>by
  rcases A0 hx with hx|rfl
  .exact hk.sm x hx
  .exact Ej c
 have hA2:=Lr l (dN c);refine jd (OZ _ _) (B5 l ⟨hk.ll,λo ho=>(hk.sm o ho).oi⟩ (dN c) ?_)
 unfold yn;generalize aM l (dN c)=A at hA1 hA2;obtain⟨A1,k,e⟩:=A;refine bF (λhe=>?_) (λhe=>?_)
 .rw[if_pos he];exact O0 jl
 have he:e=0:=he;subst he;rw[if_neg aD];refine uN ⟨A1,ops,P⟩ ⟨hA1,by have hA2:A1.length<=l.length+1:=hA2;show A1.length<=4194304;omega,hk.lo,hk.lp,hk.sl,hk.ne⟩ n hn k 3200 ?_
 generalize aI ⟨A1,ops,P⟩ n k 3200=B;obtain⟨B1,fd,e2⟩:=B;refine bF (λpb=>?_) (λpb=>?_)
 .rw[if_pos pb];exact O0 jl
 have pb:e2=0:=pb;subst pb;rw[if_neg aD];exact O0 (dE.self (Jr _))
theorem pS(l:List Obj)(ps:List aL):∀(n p c:Nat),pQ l ps n p=(c:Nat)->p<=ps.length->c<=ps.length/\p<=c/\c<p+n/\(c<ps.length->tt l ps c=true)
 |0,p,c,h,_=>by have h:(-1:Int)=(c:Nat):=h;omega
 |n+1,p,c,h,hp=>by
  rw[pQ]at h;by_cases h1:p=ps.length
  .rw[if_pos h1]at h;have:p=c:=om;subst this;exact⟨om,om,om,λh2=>om⟩
  .rw[if_neg h1]at h;by_cases h2:tt l ps p=true
   .rw[if_pos h2]at h;have:p=c:=om;subst this;exact⟨om,om,om,λ_=>h2⟩
   .rw[if_neg h2]at h;obtain⟨a,b,c1,d⟩:=pS l ps n (p+1) c h om;exact⟨a,om,om,d⟩
theorem UZ(k:Kr)(hk:dV k.l k.ops k.ps)(Cj:k.l.length<=4194303)(P:List aL)(hP:∀p,p∈P->p.an.length<=10)(Z1:P.length<=4194304)(n:Nat)(hn:n<k.ps.length)(hnP:n<P.length)(c:Nat)(hc:c<P.length):
  aw prog 0 G36 (nu prog c86.lM (λr m=>cH m r (Js (yn k.l k.ops (P.set c ⟨true,k.ps[n].fenced,0,k.ps[n].an⟩) n (c:Nat)))))
   ⟨i5 84 [(1,al .i64 (n:Nat)),(2,.rv (.one (.ptr 0 0))),(4,.rv (.one (.ptr 1 0))),(8,al .i64 (c:Nat)),(9,.rv (.one (.ptr 5 0)))],
    [.var ((kC k.l k.ops k.ps).map .ai),.var [.bt,.bt,.bt],.row 9 (aa (k.l.map Obj.enc)),.row 2 (aa (k.ops.map aT.enc)),.row 4 (aa (P.map aL.enc)),.var [.row 2 9 0 none,.row 3 2 0 none,.row 4 4 0 none]]⟩:=by
 have hg:=eK hn;have nf:=hk.sl _ (aaR hn);have hr:=bm aL.enc P hc;generalize k.ps[n]=z at hg nf;obtain⟨aF,fenced,cd,an⟩:=z;have nf:an.length<=10:=nf;generalize P[c]=w at hr;obtain⟨wl,wf,wc,ws⟩:=w;refine af hg ?_;refine af hg ?_;refine jW an om ?_;refine⟨⟨rfl,af hg rfl,rfl,rfl,trivial⟩,?_⟩;refine af (ng hc) ?_;refine af hr ?_;refine⟨trivial,?_⟩;have jE:∀x,x∈P.set c ⟨true,fenced,0,an⟩->x.an.length<=10:=λx hx=>by
  rcases abF hx with hx|rfl
  .exact hP x hx
  .exact nf
 have eE:=Z8 k.l k.ops (P.set c ⟨true,fenced,0,an⟩) ⟨hk.sm,hk.ll,hk.lo,by rw[abt];exact Z1,jE,λh=>by have:=congrArg List.length h;rw[abt,abO]at this;omega⟩ Cj n (by rw[abt];exact hnP) (c:Nat)
 refine⟨_,View.o1 6 [1,5] [2,3,4] ?_,eE⟩
 .refine .pe rfl rfl rfl (.pt rfl rfl (dy.var (.cons (.dG (cS.da (Z:=λk=>bc [2,3,4] k=true) rfl rfl 0 none)) (.cons (.dG (cS.da (Z:=λk=>bc [2,3,4] k=true) rfl rfl 0 none)) (.cons (.dG (OX (Z:=λk=>bc [2,3,4] k=true) (c:=(aL.enc ⟨true,fenced,0,an⟩).map .ai) ?_ rfl rfl)) .nil)))) (.nil _))
  exact .cons (.ai _) (.cons (.ai _) (.cons (.ai _) (.cons (.ai _) .nil)))
theorem Ls(k:Kr)(hk:dV k.l k.ops k.ps)(Cj:k.l.length<=4194303)(p:Int):body prog c86 [cA k.l k.ops k.ps,al .i64 p] [] (λr m=>cH m r (Js (jm k p))):=by
 refine pO k.l k.ops k.ps p ?_;have h2:=hk.lp;refine aA (λh1=>?_) (λh1=>?_)
 .have h1:fa k.ps p=false:=by simpa using h1
  rw[jm,if_pos h1];exact O0 jl
 have h1:fa k.ps p=true:=by simpa using h1
 obtain⟨n,rfl,hn,bO⟩:=pP h1;rw[jm,if_neg (by rw[h1];simp)]
 refine gk (args0:=[.rv (.one (.ptr 0 0))]) (cs:=kC k.l k.ops k.ps) 0 rfl rfl (r0:=al .i64 (ir k.l k.ps)) rfl (λK hK=>Cf k.l hk.ll k.ops k.ps K hK) ?_
 refine am (λh3=>?_) (λh3=>?_)
 .rw[if_pos h3];exact O0 jl
 rw[if_neg h3];obtain⟨c,hc⟩:∃c:Nat,ir k.l k.ps=(c:Int):=⟨(ir k.l k.ps).toNat,om⟩;obtain⟨fA,_,hc8,_⟩:=pS k.l k.ps 8 0 c hc (WG _);rw[hc,show((n:Nat):Int).toNat=n from rfl,show((c:Nat):Int).toNat=c from rfl];refine jh k.l k.ops k.ps ⟨hk.ll,λo ho=>(hk.sm o ho).oi⟩ hk.lo hk.lp hk.sl hk.ne ?_
 refine ba (λiw=>?_) (λiw=>?_)
 .have iw:c=k.ps.length:=by have iw:(c:Int)=((aa (k.ps.map aL.enc)).length:Int):=iw;rw[aJ,O9]at iw;omega
  have hfp:il k.ps n c=(k.ps++ [fl]).set c ⟨true,k.ps[n].fenced,0,k.ps[n].an⟩:=by rw[il,wy hn];simp only[];rw[if_pos iw,iw];simp
  rw[hfp];refine⟨by simp only[bA,aJ,O9,aa2,abO];omega,?_⟩
  have eE:=UZ k hk Cj (k.ps++ [fl]) (λx hx=>by
   rcases abH.1 hx with hx|hx
   .exact hk.sl x hx
   .simp at hx;subst hx;simp[fl]) (by simp;omega) n hn (by simp;omega) c (by simp;omega)
  refine⟨_,View.o1 8 [0,1,2,3,7,5] [] ?_,eE⟩
  .exact .pt rfl rfl (.eq rfl (by simp[kC])) (.pe rfl rfl rfl (.pr rfl rfl rfl (.pr rfl rfl rfl (.pt rfl rfl (Ja k.ps fl (.dG (.bt 3)) (by simp[bA,aa,CC.aN,fl])) (.pm rfl rfl rfl)))))
 .have ax:c<k.ps.length:=by have iw:¬(c:Int)=((aa (k.ps.map aL.enc)).length:Int):=iw;rw[aJ,O9]at iw;omega
  have hfp:il k.ps n c=k.ps.set c ⟨true,k.ps[n].fenced,0,k.ps[n].an⟩:=by rw[il,wy hn];simp only[];rw[if_neg om]
  rw[hfp];have eE:=UZ k hk Cj k.ps hk.sl hk.lp n hn hn c ax;refine⟨_,View.o1 6 [0,1,2,3,4,5] [] ?_,eE⟩
  .exact .au
theorem Jt(k:Kr)(hk:dV k.l k.ops k.ps)(Cj:k.l.length<=4194303)(p:Int){m:Mem}{K:CV->Mem->Prop}(h:K (Js (jm k p)) m):ap prog 86 [cA k.l k.ops k.ps,al .i64 p] m K:=
 aR (cE func86 l86 (Ls k hk Cj p)) (by simp[cA,cT,de,dZ,al,CV.cW,CC.cW,RV.cW]) λr m1 hf=>⟨_,hf,h⟩
def c71:LF:=Cq prog f71 [] []
namespace Tb
theorem l71:bs prog f71=some c71:=by kernel_rfl
def Ck(l:List cC)(fd n:Int):List cC×Int:=
 if(fj l fd).2=0 then
  if fm n=false then([],3)else if iI n (fj l fd).1.rts=false then([],10)else(l.set fd.toNat ⟨true,⟨(fj l fd).1.b8,n⟩⟩,0)
 else([],(fj l fd).2)
theorem G1(l:List cC)(hb:l.length<=2097152)(fd n:Int):body prog c71 [e8 l,al .i64 fd,al .i64 n] [] (λr m=>cH m r (.bG [j0 (Ck l fd n).1,cK (Ck l fd n).2])):=by
 refine yj l fd ?_;refine aA (λh=>?_) (λh=>?_)
 .have h:¬(fj l fd).2=0:=by simpa using h
  rw[Ck,if_neg h];exact gC (.one (.bt 3))
 .have h:(fj l fd).2=0:=by simpa using h
  rw[Ck,if_pos h];refine yk n ?_;refine aA (λh1=>?_) (λh1=>?_)
  .have h1:fm n=false:=by simpa using h1
   rw[if_pos h1];exact gC (.one (.bt 3))
  .have h1:fm n=true:=by simpa using h1
   rw[if_neg (by simp[h1])]
   refine AX _ _ ?_;refine aA (λh2=>?_) (λh2=>?_)
   .have h2:iI n (fj l fd).1.rts=false:=by simpa using h2
    rw[if_pos h2];exact gC (.one (.bt 3))
   .have h2:iI n (fj l fd).1.rts=true:=by simpa using h2
    rw[if_neg (by simp[h2])]
    obtain⟨d,rfl,hd,Z4,bv⟩:=Jp h;rw[show((d:Nat):Int).toNat=d from rfl];refine qF l hb (λhl=>by subst hl;simp at hd) ?_
    refine af (bJ (k:=d) (by simp[ct,lenOf];omega)) ?_
    refine af (x:=(l[d].enc).map .ai) (by simp[aW,ct,fL,hd]) ?_
    refine gC (.one ?_);have e:aX (ct l) d [CC.ai (.val (.bool l[d].has)),CC.ai (.val (.int .i64 l[d].cap.b8)),CC.ai (.val (.int .i64 n))]=aa ((l.set d ⟨true,⟨(fj l d).1.b8,n⟩⟩).map cC.enc):=by rw[bh,Z4,bv];simp[ct,aa,cC.enc]
    exact d7.da (congrArg (λx=>some (Bk.row 3 x)) e) 0 none
theorem O1(l:List cC)(hb:l.length<=2097152)(fd n:Int){m:Mem}{K:CV->Mem->Prop}(h:K (.bG [j0 (Ck l fd n).1,cK (Ck l fd n).2]) m):ap prog 71 [e8 l,al .i64 fd,al .i64 n] m K:=
 aR (aP func71 l71 (G1 l hb fd n)) (by simp[e8,al,CV.cW,CC.cW]) λr m1 hf=>⟨_,hf,h⟩
end Tb
def c144:LF:=Cq prog f144 [] []
def c145:LF:=Cq prog f145 [] []
def c146:LF:=Cq prog f146 [] []
def c160:LF:=Cq prog f160 [] []
theorem l160:bs prog f160=some c160:=by kernel_rfl
theorem l146:bs prog f146=some c146:=by kernel_rfl
theorem l145:bs prog f145=some c145:=by kernel_rfl
theorem l144:bs prog f144=some c144:=by kernel_rfl
def U0(a b:ByteArray):Bool:=Op.bytesLess a.toList b.toList
def Yj(a b:ByteArray):Bool:= !(Op.bytesLess a.toList b.toList||a.toList==b.toList)
def mc(a b:ByteArray):Int:=if U0 a b=true then -1 else if Yj a b=true then 1 else 0
theorem O4(a:ByteArray):body prog c160 [dM a] [] (λr m=>r=aq false):=by show aq (!(a.toList==a.toList))=aq false;simp
theorem O5(a:ByteArray){m:Mem}{K:CV->Mem->Prop}(h:K (aq false) m):ap prog 160 [dM a] m K:=
 bu func160 l160 rfl (aav rfl) (O4 a) rfl rfl h
theorem O6(a b:ByteArray):body prog c146 [dM a,dM b] [] (λr m=>r=al .i64 (mc a b)):=by
 refine O5 a ?_;refine O5 b ?_;refine aA (λh1=>?_) (λh1=>?_)
 .show al _ _=al _ _;rw[mc,if_pos (show U0 a b=true from h1)]
 refine aA (λh2=>?_) (λh2=>?_)
 .show al _ _=al _ _;rw[mc,if_neg (by rw[show U0 a b=false from h1];simp),if_pos (show Yj a b=true from h2)]
 .show al _ _=al _ _;rw[mc,if_neg (by rw[show U0 a b=false from h1];simp),if_neg (by rw[show Yj a b=false from h2];simp)]
theorem O7(a b:ByteArray){m:Mem}{K:CV->Mem->Prop}(h:K (al .i64 (mc a b)) m):ap prog 146 [dM a,dM b] m K:=
 bu func146 l146 rfl (aav rfl) (O6 a b) rfl rfl h
def dn(e:ByteArray×Int):List Dt:=[.val (.string e.1),.val (.int .i64 e.2)]
def yq(e:ByteArray×Int):CV:= .rv (.agg ((dn e).map .ai))
theorem G2(e:ByteArray×Int)(s:ByteArray):body prog c145 [yq e,dM s] [] (λr m=>r=al .i64 (mc e.1 s)):=
 O7 e.1 s rfl
theorem U1(e:ByteArray×Int)(s:ByteArray){m:Mem}{K:CV->Mem->Prop}(h:K (al .i64 (mc e.1 s)) m):ap prog 145 [yq e,dM s] m K:=
 bu func145 l145 rfl (aav rfl) (G2 e s) rfl rfl h
def Lt(es:List (ByteArray×Int))(s:ByteArray):Nat->Nat->Nat->Nat
 |0,i,_=>i
 |n+1,i,j=>if i<j then(match es[(i+j)/2]? with
   |some e=>if mc e.1 s<0 then Lt es s n ((i+j)/2+1) j else Lt es s n i ((i+j)/2)
   |none=>i)else i
def rS(es:List (ByteArray×Int))(s:ByteArray):Nat:=Lt es s es.length 0 es.length
def Cm(es:List (ByteArray×Int))(s:ByteArray):Bool:=match es[rS es s]? with|some e=>mc e.1 s==0|none=>false
structure aeh where
 i:Nat
 j:Nat
theorem pT{es:List (ByteArray×Int)}{k:Nat}(h:k<es.length):cm (es.map dn) (k:Nat)=some [.val (.string es[k].1),.val (.int .i64 es[k].2)]:=by rw[aU,Qu,wy h];rfl
theorem G3{i j:Nat}(h:i+j<=4294967296):IntKind.i64.wrap ((IntKind.u64.wrap (IntKind.i64.wrap ((i:Int)+(j:Int)))).fdiv (2^(min (1:Int).toNat IntKind.u64.bits)))=(((i+j)/2:Nat):Int):=by
 rw[show(i:Int)+(j:Int)=((i+j:Nat):Int) by omega,lW om]
 have hu:IntKind.u64.wrap ((i+j:Nat):Int)=((i+j:Nat):Int):=by simp only[IntKind.wrap,IntKind.bits,IntKind.signed];simp;omega
 rw[hu,show(2:Int)^(min (1:Int).toNat IntKind.u64.bits)=((2:Nat):Int)from rfl];rw[show(((i+j:Nat):Int)).fdiv ((2:Nat):Int)=(((i+j)/2:Nat):Int) by rw[Int.fdiv_eq_ediv_of_nonneg _ om];exact(Int.natCast_ediv _ _).symm]
 rw[lW om]
theorem Sy(es:List (ByteArray×Int))(hl:es.length<=2147483648)(s:ByteArray)(F:Nat)(hF:∀(e:ByteArray×Int)(m:Mem)(K:CV->Mem->Prop),K (al .i64 (mc e.1 s)) m->ap prog F [yq e,dM s] m K):
  body prog c144 [ta 2 (es.map dn),dM s,.rv (.one (.fn F []))] [] (λr m=>r= .bG [.one (.ai (.val (.int .i64 (rS es s:Nat)))),.one (.ai (.val (.bool (Cm es s))))]):=by
 refine ar (λa:aeh=>a.i<=a.j/\a.j<=es.length/\∃n,a.j-a.i<=n/\Lt es s n a.i a.j=rS es s) [0,1,2] (λa=>[(8,al .i64 (es.length:Nat)),(9,al .i64 (a.i:Nat)),(10,al .i64 (a.j:Nat))]) (λ_=>[]) (λa=>a.j-a.i) ⟨0,es.length⟩ ⟨WG _,aai _,es.length,aD,rfl⟩ ?_ (λa ha=>?_)
 .refine View.o 0 [] [] ?_ (.nil _);have hlen:al .i64 (((es.map dn).length:Nat):Int)=al .i64 ((es.length:Nat):Int):=by rw[O9]
  repeat(first|exact .nil|refine .aH ?_|refine .eq rfl ?_|refine .eq hlen.symm ?_)
 obtain⟨i,j⟩:=a;obtain⟨h1,h2,n,h3,h4⟩:=ha;have h1:i<=j:=h1;have h2:j<=es.length:=h2;have h3:j-i<=n:=h3;have h4:Lt es s n i j=rS es s:=h4;refine am (λh=>?_) (λh=>?_)
 .have ax:i<j:=by have h:(i:Int)<(j:Int):=h;omega
  obtain⟨n,rfl⟩:∃n',n=n'+1:=⟨n-1,om⟩;have hh:(i+j)/2<es.length:=om;rw[Lt,if_pos ax,wy hh]at h4;have ef:cm (es.map dn) (IntKind.i64.wrap ((IntKind.u64.wrap (IntKind.i64.wrap ((i:Int)+(j:Int)))).fdiv (2^(min (1:Int).toNat IntKind.u64.bits))))=some [.val (.string es[(i+j)/2].1),.val (.int .i64 es[(i+j)/2].2)]:=by rw[G3 om];exact pT hh
  refine af ef ?_;refine hF es[(i+j)/2] _ _ ?_;refine am (λh5=>?_) (λh5=>?_)
  .have h5:mc es[(i+j)/2].1 s<0:=h5;simp only[]at h4;rw[if_pos h5]at h4;refine⟨⟨(i+j)/2+1,j⟩,⟨by show(i+j)/2+1<=j;omega,h2,n,by show j-((i+j)/2+1)<=n;omega,h4⟩,(show j-((i+j)/2+1)<j-i by omega),View.o 0 [] [] ?_ (.nil _)⟩
   have e1:al .i64 (IntKind.i64.wrap (IntKind.i64.wrap ((IntKind.u64.wrap (IntKind.i64.wrap ((i:Int)+(j:Int)))).fdiv (2^(min (1:Int).toNat IntKind.u64.bits)))+1))=al .i64 (((i+j)/2+1:Nat):Int):=by
    rw[G3 om,show(((i+j)/2:Nat):Int)+1=(((i+j)/2+1:Nat):Int) by omega,lW om]
   repeat(first|exact .nil|refine .aH ?_|refine .eq rfl ?_|refine .eq e1.symm ?_)
  .have h5:¬mc es[(i+j)/2].1 s<0:=h5;simp only[]at h4;rw[if_neg h5]at h4;refine⟨⟨i,(i+j)/2⟩,⟨by show i<=(i+j)/2;omega,by show(i+j)/2<=es.length;omega,n,by show(i+j)/2-i<=n;omega,h4⟩,(show(i+j)/2-i<j-i by omega),View.o 0 [] [] ?_ (.nil _)⟩
   have e1:al .i64 (IntKind.i64.wrap ((IntKind.u64.wrap (IntKind.i64.wrap ((i:Int)+(j:Int)))).fdiv (2^(min (1:Int).toNat IntKind.u64.bits))))=al .i64 (((i+j)/2:Nat):Int):=by rw[G3 om]
   repeat(first|exact .nil|refine .aH ?_|refine .eq rfl ?_|refine .eq e1.symm ?_)
 .have sM:i=j:=by have h:¬(i:Int)<(j:Int):=h;omega
  subst sM;have hI:rS es s=i:=by
   rw[<-h4];cases n with
   |zero=>rfl
   |succ n=>rw[Lt,if_neg (ad1 _)]
  rw[Cm,hI];refine am (λh6=>?_) (λh6=>?_)
  .have ax:i<es.length:=by have h6:(i:Int)<(es.length:Int):=h6;omega
   refine af (pT ax) ?_;refine hF es[i] _ _ ?_;show CV.bG _=CV.bG _;rw[wy ax]
  .have ef:¬i<es.length:=by have h6:¬(i:Int)<(es.length:Int):=h6;omega
   show CV.bG _=CV.bG _;rw[abj om]
def bsR(es:List (ByteArray×Int))(s:ByteArray):CV:= .bG [.one (.ai (.val (.int .i64 (rS es s:Nat)))),.one (.ai (.val (.bool (Cm es s))))]
theorem O8(es:List (ByteArray×Int))(hl:es.length<=2147483648)(s:ByteArray)(F:Nat)(hF:∀(e:ByteArray×Int)(m:Mem)(K:CV->Mem->Prop),K (al .i64 (mc e.1 s)) m->ap prog F [yq e,dM s] m K){m:Mem}{K:CV->Mem->Prop}(h:K (bsR es s) m):ap prog 144 [ta 2 (es.map dn),dM s,.rv (.one (.fn F []))] m K:=by
 refine aR (K0:=λr _=>r=bsR es s) (aP func144 l144 (Sy es hl s F hF)) (by simp[ta,dM,CV.cW,CC.cW,RV.cW]) λr m1 hr=>?_
 subst hr;exact⟨_,cH.self rfl,h⟩
theorem Wp(es:List (ByteArray×Int))(hl:es.length<=2147483648)(s:ByteArray)(F:Nat)(hF:∀(e:ByteArray×Int)(m:Mem)(K:CV->Mem->Prop),K (al .i64 (mc e.1 s)) m->ap prog F [yq e,dM s] m K){m:Mem}{id:Nat}(hb:dh m id=some (.row 2 (aa (es.map dn)))){K:CV->Mem->Prop}(h:K (bsR es s) m):ap prog 144 [.rv (.one (.row id 2 0 none)),dM s,.rv (.one (.fn F []))] m K:=
 xR [id] (args0:=[ta 2 (es.map dn),dM s,.rv (.one (.fn F []))]) (O8 es hl s F hF (K:=λr _=>r=bsR es s) rfl) (.put (sq.dG id (es.map dn) (by simp[bc]) hb) (.eq rfl (.eq rfl .nil))) λr m1 hr=>by subst hr;exact⟨rfl,h⟩
def Tryz.Ek:Go.Shelf.Ren:=⟨λ|143=>159|219=>164|217=>166|225=>167|224=>168|267=>169|266=>171|314=>172|n=>n,λ|9=>9|3=>3|4=>4|5=>5|46=>130|146=>258|51=>188|n=>n,λ|1=>0|n=>n⟩
theorem Tryz.Sz:Go.Proofs.Lays.n143 prog Tryz.Ek:={
 mixed:=by kernel_rfl,
 f143:=func159.trans (congrArg some (by kernel_rfl)),
 f217:=func166.trans (congrArg some (by kernel_rfl)),
 f219:=func164.trans (congrArg some (by kernel_rfl)),
 f224:=func168.trans (congrArg some (by kernel_rfl)),
 f225:=func167.trans (congrArg some (by kernel_rfl)),
 f266:=func171.trans (congrArg some (by kernel_rfl)),
 f267:=func169.trans (congrArg some (by kernel_rfl)),
 f314:=func172.trans (congrArg some (by kernel_rfl)),
 t3:=underlying3,
 a3:=isAgg3,
 z3:=sizeOf3,
 v3:=zeroValue3,
 t4:=underlying4,
 a4:=isAgg4,
 z4:=sizeOf4,
 v4:=zeroValue4,
 t5:=underlying5,
 a5:=isAgg5,
 z5:=sizeOf5,
 v5:=zeroValue5,
 t9:=underlying9,
 a9:=isAgg9,
 z9:=sizeOf9,
 v9:=zeroValue9,
 t46:=underlying130,
 a46:=isAgg130,
 z46:=sizeOf130,
 v46:=zeroValue130,
 t51:=underlying188,
 a51:=isAgg188,
 z51:=sizeOf188,
 v51:=zeroValue188,
 t146:=underlying258,
 a146:=isAgg258,
 z146:=sizeOf258,
 v146:=zeroValue258,
 g1:=by kernel_rfl}
def Tryz.vV:Go.Shelf.Ren:=⟨λ|156=>73|165=>112|166=>113|169=>114|240=>139|241=>140|276=>155|277=>156|n=>n,λ|31=>92|9=>9|3=>3|4=>4|0=>0|20=>20|72=>200|76=>203|70=>198|37=>22|75=>202|127=>235|164=>245|5=>5|80=>205|n=>n,λ|n=>n⟩
theorem Tryz.Ju:Go.Proofs.Lays.n156 prog Tryz.vV:={
 mixed:=by kernel_rfl,
 f156:=func73.trans (congrArg some (by kernel_rfl)),
 f165:=func112.trans (congrArg some (by kernel_rfl)),
 f166:=func113.trans (congrArg some (by kernel_rfl)),
 f169:=func114.trans (congrArg some (by kernel_rfl)),
 f240:=func139.trans (congrArg some (by kernel_rfl)),
 f241:=func140.trans (congrArg some (by kernel_rfl)),
 f276:=func155.trans (congrArg some (by kernel_rfl)),
 f277:=func156.trans (congrArg some (by kernel_rfl)),
 t0:=underlying0,
 a0:=isAgg0,
 z0:=sizeOf0,
 v0:=zeroValue0,
 t3:=underlying3,
 a3:=isAgg3,
 z3:=sizeOf3,
 v3:=zeroValue3,
 t4:=underlying4,
 a4:=isAgg4,
 z4:=sizeOf4,
 v4:=zeroValue4,
 t9:=underlying9,
 a9:=isAgg9,
 z9:=sizeOf9,
 v9:=zeroValue9,
 t20:=underlying20,
 a20:=isAgg20,
 z20:=sizeOf20,
 v20:=zeroValue20,
 t31:=underlying92,
 a31:=isAgg92,
 z31:=sizeOf92,
 v31:=zeroValue92,
 t37:=underlying22,
 a37:=isAgg22,
 z37:=sizeOf22,
 v37:=zeroValue22,
 t70:=underlying198,
 a70:=isAgg198,
 z70:=sizeOf198,
 v70:=zeroValue198,
 t72:=underlying200,
 a72:=isAgg200,
 z72:=sizeOf200,
 v72:=zeroValue200,
 t75:=underlying202,
 a75:=isAgg202,
 z75:=sizeOf202,
 v75:=zeroValue202,
 t76:=underlying203,
 a76:=isAgg203,
 z76:=sizeOf203,
 v76:=zeroValue203,
 t127:=underlying235,
 a127:=isAgg235,
 z127:=sizeOf235,
 v127:=zeroValue235,
 t164:=underlying245,
 a164:=isAgg245,
 z164:=sizeOf245,
 v164:=zeroValue245}
theorem Tryz.Jv:Builder.Extra prog Tryz.vV:={
 sizeBuilder:=by kernel_rfl,
 liesBuilder:=by kernel_rfl,
 t5:=underlying5,
 a5:=isAgg5,
 z5:=sizeOf5,
 v5:=zeroValue5,
 infoByte:=by kernel_rfl,
 cellsByte:=by kernel_rfl,
 sizeByte:=by kernel_rfl,
 neB5:=by decide}
namespace bT
theorem Lu(s:ByteArray)(c:UInt8)(w:World):Calls prog 159 #[.string s,.string ⟨#[c]⟩] w λe w'=>e= .returned (.int .i64 (Lib.indexByte s.data.toList c))/\w'=w:=
 Any.strings_Index_one Tryz.Sz s c w
end bT
theorem Lv(a:Option Addr)(c:Nat)(sep:ByteArray)(w:World):Calls prog 73 #[.slice a 0 c,.string sep] w λe w'=>e= .returned (.string ⟨#[]⟩)/\w'=w:=
 Any.strings_Join_none Tryz.Ju Tryz.Jv a c sep w
theorem SA(bk o c:Nat)(xs:List ByteArray)(sep:ByteArray)(w:World)(eI:∀(j:Nat)x,xs[j]? =some x->w.cell? ⟨bk,o+j,none⟩=some (.string x))(gv:bk<w.heap.size)(hN:xs.length<=140737488355328)(bv:xs.length<=c)(hlen:(Lib.join (xs.map (·.data.toList)) sep.data.toList).length<=140737488355328):
  Calls prog 73 #[.slice (some ⟨bk,o,none⟩) xs.length c,.string sep] w λe w'=>e= .returned (.string ⟨(Lib.join (xs.map (·.data.toList)) sep.data.toList).toArray⟩)/\Below w.heap.size w w':=
 Any.strings_Join Tryz.Ju Tryz.Jv bk o c xs sep w eI gv hN bv hlen
namespace bT
attribute [local go_sem] Oper.semAt_some
def it(c:UInt8):List UInt8->List (List UInt8)
 | []=>[[]]
 |x::r=>if x==c then []::it c r else match it c r with
  | []=>[[x]]
  |p::ps=>(x::p)::ps
theorem uO{c:UInt8}:∀{l:List UInt8},Lib.indexByte l c= -1->it c l=[l]
 | [],_=>rfl
 |x::r,h=>by
  simp only[Lib.indexByte]at h;split at h
  .cases h
  .rename_i hx;split at h
   .rename_i h2;have UH:Lib.indexByte r c= -1:=by simpa using h2
    simp only[it,hx,uO UH,acj,if_false]
   .have:=Lib.indexByte_ge r c;omega
theorem A2{c:UInt8}:∀{l:List UInt8}{i:Nat},Lib.indexByte l c=i->i<l.length/\it c l=l.take i::it c (l.drop (i+1))
 | [],i,h=>by simp[Lib.indexByte]at h
 |x::r,i,h=>by
  simp only[Lib.indexByte]at h;split at h
  .rename_i hx;have:i=0:=om;subst this;simp[it,hx]
  .rename_i hx;split at h
   .omega
   .cases i with
    |zero=>
     have:=Lib.indexByte_ge r c;rename_i h2;have:Lib.indexByte r c= -1:=om;simp[this]at h2
    |succ i=>
     have h3:Lib.indexByte r c=i:=om;obtain⟨h4,h5⟩:=A2 h3;refine⟨by simpa using h4,?_⟩
     simp only[it,hx,h5,acj,if_false];simp
def cU(l:List UInt8):ByteArray:=⟨l.toArray⟩
def iM(c:UInt8)(s:ByteArray):List ByteArray:=(it c s.data.toList).map cU
end bT
namespace bT
attribute [local go_sem] Oper.semAt_some
def Cn(w:World)(b o:Nat):Nat:=match w.cell? ⟨b,o,none⟩with|some (.string s)=>s.size|_=>0
theorem yr{w:World}{b o:Nat}{s:ByteArray}(h:w.cell? ⟨b,o,none⟩=some (.string s)):Cn w b o=s.size:=by simp[Cn,h]
@[simp] theorem qH(r:List UInt8):(cU r).data.toList=r:=rfl
@[simp] theorem nT(r:List UInt8):(cU r).size=r.length:=by simp[cU,ByteArray.size]
theorem tv(r:List UInt8)(a b:Nat)(hb:b<=r.length):(cU r).extract a b=cU ((r.take b).drop a):=by apply ByteArray.ext;simp[cU,ByteArray.data_extract,List.drop_take]
def aei(F:Fence)(n:Nat)(P:Program)(l:Nat)(args:Array Value)(W:World)(R:Ending->World->Prop):Prop:=
 ∃fn tmps assign body,(Instr.yield l args).run P W= .ok (.round l fn tmps assign body) W/\RoundIn F n P l fn tmps assign body W R
theorem G4(F:Fence)(n:Nat)(h49:F.fn 157)(h51:F.fn 159)(hro:F.round=none)(hn:3<=n)(s:ByteArray)(c:UInt8)(l b1 o1 b2 o2 b3 o3:Nat)(W:World)(J:Nat->World->Prop)(Jx:World->Prop)(n12:b1≠b2)(n13:b1≠b3)(n23:b2≠b3)(hix:∀(s:ByteArray)(w:World),CallsIn F (n-1) prog 159 #[.string s,.string ⟨#[c]⟩] w λe w'=>e= .returned (.int .i64 (Lib.indexByte s.data.toList c))/\w'=w)(c1:W.cell? ⟨b1,o1,none⟩=some (.string ⟨#[c]⟩))(c2:W.cell? ⟨b2,o2,none⟩=some (.string s))(f2:W.frozen? ⟨b2,o2,none⟩=false)(c3:W.cell? ⟨b3,o3,none⟩=some (.int .i64 0))(hJ:∀k W v,J k W->J k (W.setCell ⟨b2,o2,none⟩ v))(hY:∀k y W,(iM c s)[k]? =some y->J k W->aei F (n-1) prog l #[.string y] W λe W'=>
   (e= .returned (.bool true)/\J (k+1) W'/\W'.heap[b1]? =W.heap[b1]? /\W'.heap[b2]? =W.heap[b2]? /\W'.heap[b3]? =W.heap[b3]?)\/(e= .returned (.bool false)/\Jx W'))(h0:J 0 W)(dQ:(s.size:Int)<4611686018427387904):
  CallsIn F n prog 157 #[.func (.yield l) #[] #[],.pointer (some ⟨b1,o1,none⟩),.pointer (some ⟨b2,o2,none⟩),.pointer (some ⟨b3,o3,none⟩)] W λe W'=>
   (∃v,e= .returned v)/\(J (iM c s).length W'\/Jx W'):=by
 have h1:1<=n:=om;refine callsIn_of_wp func157 rfl h49 ?_ hro;simp only[ntmps157,List.size_toArray,aa2,abO,Nat.reduceAdd,Nat.reduceSub,Array.replicate_succ,Array.replicate_zero,List.push_toArray,List.append_toArray,aed,ad8]
 gi_wp2
 gi_loopw [] (λwr=>∃(k:Nat)(r:List UInt8),wr.cell? ⟨b2,o2,none⟩=some (.string (cU r))/\wr.frozen? ⟨b2,o2,none⟩=false/\wr.cell? ⟨b1,o1,none⟩=some (.string ⟨#[c]⟩)/\
   wr.cell? ⟨b3,o3,none⟩=some (.int .i64 0)/\(iM c s).drop k=(it c r).map cU/\J k wr/\r.length<=s.size) (λwr=>Cn wr b2 o2)
 case atStart=>
  exact⟨0,s.data.toList,by rw[c2];rfl,f2,c1,c3,rfl,h0,by show s.data.toList.length<=s.data.size;rw[acF];exact aai _⟩
 case round=>
  obtain⟨k,r,d2,g2,d1,d3,hcut,hj,hlen⟩:=hrel;rcases Int.lt_or_le (Lib.indexByte r c) 0 with hneg|hpos
  .have hm1:Lib.indexByte r c= -1:=by have:=Lib.indexByte_ge r c;omega
   have hix:=(hix (cU r) wr).mono (R':=λe w'=>e= .returned (.int .i64 (-1))/\w'=wr) λe w'⟨h1,h2⟩=>⟨by rw[h1,qH,hm1],h2⟩
   have hk:(iM c s)[k]? =some (cU r):=by
    have:=congrArg (λl=>l[0]?) hcut
    simp only[ab5,uO hm1]at this;simpa using this
   have hlen2:(iM c s).length=k+1:=by have h2:=congrArg List.length hcut;have h3:=(Lw.1 hk).1;rw[uO hm1,abZ]at h2;simp only[ab2,aeg,aa2,abO]at h2;omega
   obtain⟨fn,tmps,assign,body,hy,hR⟩:=hY k _ wr hk hj;have hfin:∀W,J (k+1) W->J (iM c s).length W:=λW h=>hlen2▸h
   clear hY hJ hcut hneg hm1 hk c1 c2 f2 c3 h0 hlen2
   gi_wp2_with (gi_at_call 159;refine hix.mono ?_;rintro e w' ⟨rfl,rfl⟩)
   refine hR.mono ?_;rintro e W' (⟨rfl,hJ',_⟩|⟨rfl,hx⟩)
   .gi_wp2
    go_end0
    exact⟨⟨_,rfl⟩,.inl (hfin _ hJ')⟩
   .gi_wp2
    go_end0
    exact⟨⟨_,rfl⟩,.inr hx⟩
  .obtain⟨i,hi⟩:=Int.eq_ofNat_of_zero_le hpos;obtain⟨hlt,hcut2⟩:=A2 hi;have hk:(iM c s)[k]? =some (cU (r.take i)):=by
    have:=congrArg (λl=>l[0]?) hcut
    simp only[ab5,hcut2]at this;simpa using this
   have hnext:(iM c s).drop (k+1)=(it c (r.drop (i+1))).map cU:=by have:=congrArg List.tail hcut;rw[hcut2,List.tail_drop]at this;simpa using this
   obtain⟨fn,tmps,assign,body,hy,hR⟩:=hY k _ wr hk hj;obtain⟨z,hz⟩:∃z:Int,z=(i:Int):=⟨_,rfl⟩;have hix:=(hix (cU r) wr).mono (R':=λe w'=>e= .returned (.int .i64 z)/\w'=wr) λe w'⟨h1,h2⟩=>⟨by rw[h1,qH,hi,hz],h2⟩
   have Hnext:Hid ((iM c s).drop (k+1)=(it c (r.drop (i+1))).map cU):=hnext;have HJ:Hid (∀k W v,J k W->J k (W.setCell ⟨b2,o2,none⟩ v)):=hJ;have Hz:Hid (z=(i:Int)):=hz;have z0:0<=z:=om;have z0':decide (z<0)=false:=decide_eq_false om;have z1:z<r.length:=om;have hw1:wrap64 z=z:=by unfold wrap64;omega
   have hw2:wrap64 (z+1)=z+1:=by unfold wrap64;omega
   have hs1:(0<=z/\z<=(r.length:Int))=True:=by simp;omega
   have hs2:(0<=z+1/\z+1<=(r.length:Int))=True:=by simp;omega
   have hs3:z<=(r.length:Int):=om;have hs4:0<=z+1:=om;have hs5:z+1<=(r.length:Int):=om;have he1:cU (r.take i)=(cU r).extract 0 z.toNat:=by rw[tv r _ _ om,hz];simp
   have he2:(cU r).extract (z+1).toNat r.length=cU (r.drop (i+1)):=by rw[tv r _ _ (aai _),abD,hz];rfl
   have Hend:Hid (i<r.length/\r.length<=s.size/\(cU r).extract (z+1).toNat r.length=cU (r.drop (i+1))):=⟨hlt,hlen,he2⟩;rw[he1]at hy;clear hJ hY hcut hcut2 hi hk c1 c2 f2 c3 h0 hpos hnext hz dQ he1 he2 hlt hlen
   gi_wp2_with (first
    |(gi_at_call 159;refine hix.mono ?_;rintro e w' ⟨rfl,rfl⟩)
    |(refine wpIn_cond_false (by show Value.bool (decide (z<0))=Value.bool false;rw[z0']) ?_))
   refine hR.mono ?_;rintro e W' (⟨rfl,hJ',e1,e2,e3⟩|⟨rfl,hx⟩)
   .have q1:W'.cell? ⟨b1,o1,none⟩=some (.string ⟨#[c]⟩):=(World.cell?_of_block (a:=⟨b1,o1,none⟩) e1).trans d1;have q2:W'.cell? ⟨b2,o2,none⟩=some (.string (cU r)):=(World.cell?_of_block (a:=⟨b2,o2,none⟩) e2).trans d2;have q3:W'.cell? ⟨b3,o3,none⟩=some (.int .i64 0):=(World.cell?_of_block (a:=⟨b3,o3,none⟩) e3).trans d3;have q4:W'.frozen? ⟨b2,o2,none⟩=false:=by rw[<-g2];simp only[World.frozen?,e2]
    gi_wp2
    obtain⟨hlt,hlen,he2⟩:=Hend.out;have hq:(W'.cell? ⟨b2,o2,none⟩).isSome=true:=by rw[q2];rfl
    have hn2:=World.cell?_setCell_same' W' ⟨b2,o2,none⟩ (.string ((cU r).extract (z+1).toNat r.length)) hq;rw[he2]at hn2|-;refine⟨⟨k+1,r.drop (i+1),hn2,by rw[World.frozen?_setCell];exact q4,?_,?_,Hnext.out,HJ.out _ _ _ hJ',by simp;omega⟩,?_⟩
    .exact(World.cell?_setCell_other _ _ _ _ λe=>n12 (congrArg Addr.block e).symm).trans q1
    .exact(World.cell?_setCell_other _ _ _ _ λe=>n23 (congrArg Addr.block e)).trans q3
    .rw[yr hn2,yr d2,nT,nT,abZ];omega
   .gi_wp2
    refine bodyPost_ret (results_none rfl _ _ _) rfl ?_;exact⟨⟨_,rfl⟩,.inr hx⟩
theorem rT(W:World)(a:Addr)(v:Value){b:Nat}(h:b≠a.block):(W.setCell a v).heap[b]? =W.heap[b]? :=by simp only[World.setCell,ace];rw[if_neg (λe=>h e.symm)]
theorem Co{n:Nat}{P:Program}{l:Nat}{f:FuncId}{tmps:Array Value}{assign body:Code}{w:World}{R:Ending->World->Prop}(h:RoundIn Fence.wide 0 P l f tmps assign body w R):
  RoundIn Fence.wide n P l f tmps assign body w R:=⟨h.1,λc cs _=>h.2 c cs (room_wide _)⟩
theorem Lx(s:ByteArray)(c:UInt8)(dQ:(s.size:Int)<4611686018427387904):YB prog 157 [.string ⟨#[c]⟩,.string s,.int .i64 0] (iM c s):=by
 refine⟨⟨f157,func157,rfl,by decide⟩,?_⟩
 intro l az W J Jx hlen hnd hcell hJ hJx hY h0
 match az,hlen with
 | [(b1,o1),(b2,o2),(b3,o3)],_=>
 obtain⟨c1,f1⟩:=hcell 0 _ _ rfl rfl;obtain⟨c2,f2⟩:=hcell 1 _ _ rfl rfl;obtain⟨c3,f3⟩:=hcell 2 _ _ rfl rfl;simp only[ab2,aeg,adO,abI,acm,or_false,not_or,List.nodup_nil]at hnd;obtain⟨⟨n12,n13⟩,n23,_⟩:=hnd;show CallsIn Fence.wide 0 prog 157 #[.func (.yield l) #[] #[],.pointer (some ⟨b1,o1,none⟩),.pointer (some ⟨b2,o2,none⟩),.pointer (some ⟨b3,o3,none⟩)] W _;refine callsIn_wide.2 ((callsIn_wide (n:=5)).1 ?_);refine G4 Fence.wide 5 trivial trivial rfl om s c l b1 o1 b2 o2 b3 o3 W J Jx n12 n13 n23 (λs w=>callsIn_wide.2 (Lu s c w)) c1 c2 f2 c3 ?_ ?_ h0 dQ
 .intro k W v hj;exact hJ k W _ hj aD (λb _ hb=>rT _ _ _ (hb (b2,o2) aD)) rfl rfl rfl
 .intro k y W hk hj;obtain⟨fn,tmps,assign,body,hy,hR⟩:=hY k y W hk hj;refine⟨fn,tmps,assign,body,hy,(Co hR).mono λe W' h=>?_⟩
  rcases h with⟨he,h1,h2,h3⟩|⟨he,h1⟩
  .exact .inl ⟨he,h1,h3 (b1,o1) aD,h3 (b2,o2) aD,h3 (b3,o3) aD⟩
  .exact .inr ⟨he,h1⟩
end bT
def c116:LF:=Cq prog f116 [] []
namespace bT
abbrev dP:=List UInt8
def vT(t:dP):CV:=dM (cU t)
theorem Cp(s:ByteArray):∃t:dP,s=cU t:=⟨s.data.toList,rfl⟩
theorem vW(t:dP):(cU t).toList=t:=ByteArray.toList_mk t
theorem me{a b:dP}{A B:Prop}(ha:a=b->A)(hb:a≠b->B): @Bool.rec (λ_=>Prop) B A ((cU a).toList==(cU b).toList):=by
 rw[vW,vW];cases h:(a==b)
 .exact hb (by simpa using h)
 .exact ha (by simpa using h)
def Pa(n:Nat):Bool:=(decide (97<=n)&&decide (n<=122))||(decide (48<=n)&&decide (n<=57))||decide (n=46)||decide (n=95)
def gn(t:dP):Bool:=decide (1<=t.length)&&decide (t.length<=12)&&decide (t≠[46])&&decide (t≠[46,46])&&t.all λc=>Pa c.toNat
theorem G5{t:dP}{k:Nat}(hk:k<t.length)(h:Pa t[k].toNat=false):gn t=false:=by
 have:(t.all λc=>Pa c.toNat)=false:=by
  rw[List.all_eq_false];exact⟨t[k],aaR hk,by simp[h]⟩
 simp[gn,this]
theorem G6{t:dP}(h1:1<=t.length)(h2:t.length<=12)(h3:t≠[46])(h4:t≠[46,46])(h:∀k(hk:k<t.length),Pa t[k].toNat=true):gn t=true:=by
 have:(t.all λc=>Pa c.toNat)=true:=by rw[ab6];intro c hc;obtain⟨k,hk,rfl⟩:=List.mem_iff_getElem.1 hc;exact h k hk
 simp[gn,this,h1,h2,h3,h4]
theorem Z9{n:Nat}(h1:¬(97<=n/\n<=122))(h2:¬(48<=n/\n<=57))(h3:n≠46)(h4:n≠95):Pa n=false:=by
 have a:¬(97<=n)\/¬(n<=122):=om;have b:¬(48<=n)\/¬(n<=57):=om;unfold Pa;rcases a with a|a<;>rcases b with b|b<;>simp[a,b,h3,h4]
theorem aaa{n:Nat}(h:(97<=n/\n<=122)\/(48<=n/\n<=57)\/n=46\/n=95):Pa n=true:=by
 unfold Pa;rcases h with⟨a,b⟩|⟨a,b⟩|h|h<;>simp_all
theorem l116:bs prog f116=some c116:=by kernel_rfl
theorem aek{t:dP}{k:Nat}(hk:k<t.length):cm (cU t).data.toList (k:Nat)=some t[k]:=by rw[aU,qH,wy hk]
theorem gV(t:dP):(((cU t).size:Nat):Int)=t.length:=by rw[nT]
theorem nM(t:dP):body prog c116 [vT t] [] (λr m=>r=aq (gn t)):=by
 refine am (λh=>?_) (λh=>?_)
 .rw[gV]at h;have:gn t=false:=by simp[gn];omega
  rw[this];rfl
 rw[gV]at h;refine am (λh2=>?_) (λh2=>?_)
 .rw[gV]at h2;have:gn t=false:=by simp[gn];omega
  rw[this];rfl
 rw[gV]at h2;refine me (b:=[46]) (λh3=>?_) (λh3=>?_)
 .subst h3;rfl
 refine me (b:=[46,46]) (λh4=>?_) (λh4=>?_)
 .subst h4;rfl
 refine ar (λk=>k<=t.length/\∀j(hj:j<t.length),j<k->Pa t[j].toNat=true) [0] (λk=>[(22,al .i64 (t.length:Nat)),(23,al .i64 (k:Nat))]) (λ_=>[]) (λk=>t.length-k) 0 ⟨WG _,λj _ h=>absurd h (abE _)⟩ ?_ (λk hk=>?_)
 .refine View.o 0 [] [] ?_ (.nil _);repeat(first|exact .nil|refine .aH ?_|refine .eq rfl ?_|refine .put (.aN (by rw[gV];rfl)) ?_)
 obtain⟨hk,gj⟩:k<=t.length/\∀j(hj:j<t.length),j<k->Pa t[j].toNat=true:=hk;refine am (λh5=>?_) (λh5=>?_)
 .have ax:k<t.length:=by have h5:(k:Int)<(t.length:Int):=h5;omega
  refine af (aek ax) ?_;repeat' first|refine am (λ_=>?_) (λ_=>?_)|refine bF (λ_=>?_) (λ_=>?_)
  all_goals first
   |(show aq false=aq (gn t)
     rw[G5 ax (Z9 om om om om)])
   |(refine⟨k+1,⟨ax,λj hj hjk=>?_⟩,(show t.length-(k+1)<t.length-k by omega),View.o 0 [] [] ?_ (.nil _)⟩
     .rcases aax j k with h|h
      .exact gj j hj h
      .have:j=k:=om;subst this;exact aaa om
     .repeat(first|exact .nil|refine .aH ?_|refine .put (.aN (br om).symm) ?_|refine .eq rfl ?_))
 .show aq true=aq (gn t);have h5:¬(k:Int)<(t.length:Int):=h5;rw[G6 om om h3 h4 λj hj=>gj j hj om]
theorem tf(t:dP){m:Mem}{K:CV->Mem->Prop}(h:K (aq (gn t)) m):ap prog 116 [vT t] m K:=
 bu func116 l116 rfl (aav rfl) (nM t) rfl rfl h
end bT
def c75:LF:= ⟨37,[.cell false 1 2,.cell false 1 3,.cell false 1 4],(.seq (.qU [qu 2 (.alloc [.bt]),qu 3 (.alloc [(.ai (.val (.bool false)))]),qu 4 (.alloc [qd 0])]) (.seq (.seq (.qU [qm 7 0,qu 8 (.wd .eql 7 (.c (.rv (.one (.ai (.val (.string ⟨#[]⟩)))))))]) (.cond 8 (.seq (.qU [qw (.store 1 2 qe),qw (.store 1 3 (qb false)),qw (.store 1 4 (qi 2))]) .ret) .skip)) (.seq (.seq (.qU [qm 9 0,qu 10 (.len 0 9),qu 11 (.wd .gtr 10 (qi 60))]) (.cond 11 (.seq (.qU [qw (.store 1 2 qe),qw (.store 1 3 (qb false)),qw (.store 1 4 (qi 4))]) .ret) .skip)) (.seq (.qU [qu 5 (.alloc [.bt])]) (.seq (.seq (.qU [qm 12 0,qu 13 (qc 115 [12,(.c (.rv (.one (.ai (.val (.string ⟨#[47]⟩))))))])]) (.block 0 (.zC 13 14 (.qU [qm 6 14]) (.block 1 (.block 2 (.seq (.qU [qm 16 6,qu 17 (.wd .eql 16 (.c (.rv (.one (.ai (.val (.string ⟨#[]⟩))))))),qm 18 17,qg 19 (.Iv 6) 18 false,qg 20 (.wd .eql 19 (.c (.rv (.one (.ai (.val (.string ⟨#[46]⟩))))))) 18 false,qu 21 (.pick 18 (qb true) 20),qm 15 21]) (.cond 15 .skip (.seq (.qU [qm 23 6,qu 24 (.wd .eql 23 (.c (.rv (.one (.ai (.val (.string ⟨#[46,46]⟩))))))),qm 25 24,qg 26 (.Iv 6) 25 false,qg 27 (qc 116 [26]) 25 false,qu 28 (.pick 25 (qb true) 27),qm 22 28]) (.cond 22 (.qU [ql 29 5,qm 30 6,qu 31 (.XY 1 [(.ai (.val (.string ⟨#[]⟩)))] 1 [(0,30)]),qu 32 (.Vv 1 16 29 31),qw (.store 1 5 32)]) (.seq (.qU [qw (.store 1 2 qe),qw (.store 1 3 (qb false)),qw (.store 1 4 (qi 7))]) .ret)))))))))) (.seq (.iK [ql 33 5,qm 34 0,qu 35 (.Ki 34 (qi 0)),qu 36 (.wd .eql 35 (.c (.rv (.one (.ai (.val (.int .u8 (47)))))))),qw (.store 1 2 33),qw (.store 1 3 36),qw (.store 1 4 (qi 0))] [(d9 4 0 (.cons 4 (some []) (.cons 5 (some []) (.cons 6 (some []) .nil))))]) .ret))))))⟩
def c115:LF:=Cq prog f115 [] []
def c141:LF:=Cq prog f141 [] []
namespace bT
theorem l141:bs prog f141=some c141:=by kernel_rfl
theorem l115:bs prog f115=some c115:=by kernel_rfl
def aab(s:ByteArray):Bk:= .var [.ai (.val (.string s))]
def sqM(s sep:ByteArray)(b0 b1 b2 b3:Bk):Mem:=[b0,b1,b2,b3,aab s,aab sep,.var [.ai (.val (.int .i64 0))]]
theorem ael(s sep:ByteArray){b0 b1 b2 b3:Bk}{K:CV->Mem->Prop}(h:K (.rv (.one (.fn 157 [5,4,6]))) (sqM s sep b0 b1 b2 b3)):ap prog 141 [dM s,dM sep,al .i64 0] [b0,b1,b2,b3] K:=
 aP func141 l141 h
theorem aem(s sep:ByteArray){b0 b1 b2 b3:Bk}{K:CV->Mem->Prop}(h:K (.rv (.one (.fn 157 [5,4,6]))) (sqM s sep b0 b1 b2 b3)):ap prog 115 [dM s,dM sep] [b0,b1,b2,b3] K:=by refine aP func115 l115 ?_;exact ael s sep h
theorem yu(c:UInt8):∀t:dP,(it c t).length<=t.length+1
 | []=>by simp[it]
 |x::r=>by
  have ih:=yu c r;simp only[it];split
  .simp;exact ih
  .split
   .simp
   .rename_i h;rw[h]at ih;simp at ih|-;omega
theorem bZ(a b:List (List Dt)):aa (a++b)=aa a++aa b:=by simp[aa]
theorem SB(c:UInt8)(r:dP):decide ((c::r)[0]? =some 47)=((c.toNat:Int)==47):=by
 by_cases h:c=47
 .subst h;rfl
 .have h2:(c.toNat:Int)≠47:=by
   intro e;have e2:c.toNat=(47:UInt8).toNat:=by show c.toNat=47;omega
   exact h (UInt8.toNat_inj.1 e2)
  simp[h,h2]
theorem l75:bs prog f75=some c75:=by kernel_rfl
def tD(t:dP):List Dt:=[.val (.string (cU t))]
def txD(l:List dP):Dt:= .sl 1 (l.map tD)
def txV(l:List dP):CV:= .rv (.one (.ai (txD l)))
def tw(w:dP):Bool:= !(decide (w=[])||decide (w=[46]))
def tx(w:dP):Bool:=decide (w=[])||decide (w=[46])||decide (w=[46,46])||gn w
def Cr(t:dP):List dP:=(it 47 t).filter tw
def cX(t:dP):List dP×Bool×Int:=
 if t=[]then([],false,2)else if 60<t.length then([],false,4)else if(it 47 t).all tx then(Cr t,decide (t[0]? =some 47),0)else([],false,7)
def Wr(p:List dP×Bool×Int):CV:= .bG [.one (.ai (txD p.1)),.one (.ai (.val (.bool p.2.1))),.one (.ai (.val (.int .i64 p.2.2)))]
def pt(id:Nat):CV:= .rv (.one (.ptr id 0))
def SC(t:dP):List CV:=vT t:: .aH::pt 0::pt 1::pt 2::pt 3::gP 31 .aH
def Ws:List dP->Mem
 | []=>[.var [.bt],.var [.ai (.val (.bool false))],.var [.ai (.val (.int .i64 0))],.var [.bt]]
 |x::r=>[.var [.bt],.var [.ai (.val (.bool false))],.var [.ai (.val (.int .i64 0))],.var [.row 4 1 0 none],.row 1 (aa ((x::r).map tD))]
theorem G7{c:UInt8}{t:dP}{k:Nat}{y:ByteArray}(h:(iM c (cU t))[k]? =some y):∃w,(it c t)[k]? =some w/\y=cU w:=by
 simp only[iM,qH,Qu]at h;cases hc:(it c t)[k]? with
 |none=>rw[hc]at h;cases h
 |some w=>rw[hc]at h;cases h;exact⟨w,rfl,rfl⟩
theorem jV{m:Mem}{c:CC}{l:List dP}{b:Bool}{e:Int}(h:d7 m c (.ai (txD l))):cH m (.bG [.one c,.one (.ai (.val (.bool b))),.one (.ai (.val (.int .i64 e)))]) (Wr (l,b,e)):=by
 refine .bG rfl λi r r' h1 h2=>?_
 match i with
 |0=>cases h1;cases h2;exact .one h
 |1=>cases h1;cases h2;exact .one (.ai _)
 |2=>cases h1;cases h2;exact .one (.ai _)
 |n+3=>simp at h1
theorem G8(t:dP):body prog c75 [vT t] [] (λr m=>cH m r (Wr (cX t))):=by
 refine me (b:=[]) (λh=>?_) (λh0=>?_)
 .subst h;exact jV (.bt 1)
 refine am (λh=>?_) (λh1=>?_)
 .rw[gV]at h;have:cX t=([],false,4):=by rw[cX,if_neg h0,if_pos om]
  rw[this];exact jV (.bt 1)
 rw[gV]at h1;refine aem (cU t) ⟨#[47]⟩ ?_;refine⟨157,[5,4,6],[.string ⟨#[47]⟩,.string (cU t),.int .i64 0],iM 47 (cU t),List dP,λk out=>out=((it 47 t).take k).filter tw/\((it 47 t).take k).all tx=true,λout=>⟨SC t,Ws out⟩,rfl,
  ⟨⟨rfl,rfl⟩,⟨rfl,rfl⟩,⟨rfl,rfl⟩,trivial⟩,⟨by decide,aD⟩,Lx (cU t) 47 (by rw[gV];omega),⟨[],⟨aD,aD⟩,?_⟩,?_,?_⟩
 .refine View.o1 7 [0,1,2,3] [] ?_
  .repeat(first|exact .nil _|refine .put (by simp[bc]) rfl (.eq rfl aD) ?_)
 .intro k y out hk hJ;obtain⟨w,hw,rfl⟩:=G7 hk;obtain⟨ho,hg⟩:=hJ;have US:(it 47 t).take (k+1)=(it 47 t).take k++ [w]:=by rw[acb,hw];rfl
  have skip:w=[]\/w=[46]->out=((it 47 t).take (k+1)).filter tw/\((it 47 t).take (k+1)).all tx=true:=by
   intro h;rw[US,acx,List.all_append,<-ho,hg];rcases h with rfl|rfl<;>simp[tw,tx]
  have ez:w≠[]->w≠[46]->(w=[46,46]\/gn w=true)->out++ [w]=((it 47 t).take (k+1)).filter tw/\((it 47 t).take (k+1)).all tx=true:=by
   intro h1 h2 h3;rw[US,acx,List.all_append,<-ho,hg];rcases h3 with rfl|h3
   .simp[tw,tx]
   .simp[tw,tx,h1,h2,h3]
  have bad:w≠[]->w≠[46]->w≠[46,46]->gn w=false->cX t=([],false,7):=by
   intro h1 h2 h3 h4;have:(it 47 t).all tx=false:=by
    rw[List.all_eq_false];exact⟨w,Vm hw,by simp[tx,h1,h2,h3,h4]⟩
   rw[cX,if_neg h0,if_neg om,this];rfl
  have hlen:out.length<=61:=by
   rw[ho];have h2:=acn tw ((it 47 t).take k);have h3:=yu 47 t;have h4:((it 47 t).take k).length<=(it 47 t).length:=by rw[aa8];omega
   omega
  clear ho hg US hk;cases out with
  |nil=>
   have cO:View 0 ⟨SC t,Ws []⟩ ⟨SC t,Ws []⟩:=by
    refine View.o1 4 [0,1,2,3] [] ?_
    .repeat(first|exact .nil _|refine .put (by simp[bc]) rfl (.eq rfl aD) ?_)
   have gu:∀m,m=([.var [.bt],.var [.ai (.val (.bool false))],.var [.ai (.val (.int .i64 0))],.var [.row 5 1 0 none],.aE,.row 1 ([]++ [[.ai (.val (.string (cU w)))]])]:Mem)->View 0 ⟨SC t,m⟩ ⟨SC t,Ws ([]++ [w])⟩:=by
    rintro m rfl;refine View.o1 6 [0,1,2,3,5] [] ?_
    .repeat(first|exact .nil _|refine .put (by simp[bc]) rfl (.eq rfl aD) ?_)
   refine me (b:=[]) (λe1=>?_) (λe1=>?_)
   .exact⟨[],skip (.inl e1),cO⟩
   refine me (b:=[46]) (λe2=>?_) (λe2=>?_)
   .exact⟨[],skip (.inr e2),cO⟩
   refine me (b:=[46,46]) (λe3=>?_) (λe3=>?_)
   .exact⟨(show 1*16<=140737488355328 by omega),_,ez e1 e2 (.inl e3),gu _ rfl⟩
   .refine tf w ?_;refine aA (λe4=>?_) (λe4=>?_)
    .exact⟨(show 1*16<=140737488355328 by omega),_,ez e1 e2 (.inr e4),gu _ rfl⟩
    .rw[bad e1 e2 e3 e4];exact jV (.bt 1)
  |cons x r=>
   have cO:View 0 ⟨SC t,Ws (x::r)⟩ ⟨SC t,Ws (x::r)⟩:=by
    refine View.o1 5 [0,1,2,3,4] [] ?_
    .refine .put (by simp[bc]) rfl (.eq rfl aD) (.put (by simp[bc]) rfl (.eq rfl aD) (.put (by simp[bc]) rfl (.eq rfl aD) (.put (by simp[bc]) rfl (.eq rfl aD) (.put (by simp[bc]) rfl (.bn rfl) (.nil _)))))
   have gu:∀m,m=([.var [.bt],.var [.ai (.val (.bool false))],.var [.ai (.val (.int .i64 0))],.var [.row 6 1 0 none],.aE,.aE,.row 1 (aa ((x::r).map tD)++ [[.ai (.val (.string (cU w)))]])]:Mem)->View 0 ⟨SC t,m⟩ ⟨SC t,Ws ((x::r)++ [w])⟩:=by
    rintro m rfl;refine View.o1 7 [0,1,2,3,6] [] ?_
    .refine .put (by simp[bc]) rfl (.eq rfl aD) (.put (by simp[bc]) rfl (.eq rfl aD) (.put (by simp[bc]) rfl (.eq rfl aD) (.put (by simp[bc]) rfl (.eq rfl aD) (.put (by simp[bc]) rfl (.bn ?_) (.nil _)))))
     show _=aa (((x::r)++ [w]).map tD);rw[abM,bZ];rfl
   have mU:((aa ((x::r).map tD)).length+1)*16<=140737488355328:=by simp[aa];simp at hlen;omega
   refine me (b:=[]) (λe1=>?_) (λe1=>?_)
   .exact⟨_,skip (.inl e1),cO⟩
   refine me (b:=[46]) (λe2=>?_) (λe2=>?_)
   .exact⟨_,skip (.inr e2),cO⟩
   refine me (b:=[46,46]) (λe3=>?_) (λe3=>?_)
   .exact⟨mU,_,ez e1 e2 (.inl e3),gu _ rfl⟩
   .refine tf w ?_;refine aA (λe4=>?_) (λe4=>?_)
    .exact⟨mU,_,ez e1 e2 (.inr e4),gu _ rfl⟩
    .rw[bad e1 e2 e3 e4];exact jV (.bt 1)
 .intro out hJ;obtain⟨ho,hg⟩:=hJ;have eF:(iM 47 (cU t)).length=(it 47 t).length:=by simp[iM]
  rw[eF,abD]at ho hg;have hs:cX t=(out,decide (t[0]? =some 47),0):=by rw[cX,if_neg h0,if_neg om,hg];simp[Cr,ho]
  rw[hs];obtain⟨c,r,rfl⟩:∃c r,t=c::r:=by
   cases t with
   |nil=>exact absurd rfl h0
   |cons c r=>exact⟨c,r,rfl⟩
  have hc:decide ((c::r)[0]? =some 47)=((c.toNat:Int)==47):=SB c r;cases out with
  |nil=>
   rw[hc];refine⟨trivial,trivial,trivial,?_⟩;exact jV (l:=[]) (c:= .bt) (.bt 1)
  |cons x r=>
   rw[hc];refine⟨trivial,trivial,trivial,?_⟩;exact jV (l:=x::r) (c:= .row 4 1 0 none) (d7.da (ds:=(x::r).map tD) rfl 0 none)
theorem yv(t:dP){m:Mem}{K:CV->Mem->Prop}(h:K (Wr (cX t)) m):ap prog 75 [vT t] m K:=
 aR (aP func75 l75 (G8 t)) (by simp[vT,dM,CV.cW,CC.cW]) λr m1 hf=>⟨_,hf,h⟩
end bT
namespace bT
theorem aJ(l:List (List Dt)):(aa l).length=l.length:=by simp[aa]
end bT
def obZ:Ob:=⟨0,[],[],⟨#[]⟩,0,noD,0,0,0⟩
def mf(l:List Ob)(n:Nat):Ob:=(l[n]?).getD obZ
theorem uP{l:List Ob}{n:Nat}(h:n<l.length):mf l n=l[n]:=by rw[mf,wy h];rfl
structure R4 where
 obj:Int
 dir:Int
 name:bT.dP
 gz:Int
def R4.no(e:Int):R4:=⟨0,0,[],e⟩
def jn(o:Ob):List NE:=o.ag.map kO
def mG(l:List Ob)(di:Nat)(w:bT.dP):Int:=eY (jn (mf l di)) (bT.cU w)
def A3(l:List Ob)(di:Nat):Nat:=(mf l di).up.toNat
def Jy(l:List Ob)(aB:Nat)(aC follow:Bool)(rec:Nat->List bT.dP->Nat->R4):List bT.dP->Nat->R4
 | [],a=>⟨a,A3 l a,[],0⟩
 |w::rest,a=>
  if(mf l a).ah≠2 then R4.no 11
  else if w=[46,46]then(if aC=true/\a=aB then R4.no 14 else Jy l aB aC follow rec rest (A3 l a))
  else if mG l a w<0 then(if rest≠[]then R4.no 6 else⟨-1,a,w,0⟩)
  else if(mf l (mG l a w).toNat).ah=3/\(follow=true\/rest≠[])then rec a rest (mG l a w).toNat
  else if rest=[]then⟨mG l a w,a,w,0⟩
  else Jy l aB aC follow rec rest (mG l a w).toNat
def Pb(l:List Ob)(k:Nat):bT.dP:=(mf l k).target.data.toList
def SD(l:List Ob)(aC:Bool)(wk:List bT.dP->Nat->R4)(a:Nat)(rest:List bT.dP)(k:Nat):R4:=
 if(bT.cX (Pb l k)).2.2≠0 then R4.no (bT.cX (Pb l k)).2.2
 else if(bT.cX (Pb l k)).2.1=true/\aC=true then R4.no 14
 else wk ((bT.cX (Pb l k)).1++rest) (if(bT.cX (Pb l k)).2.1=true then 0 else a)
def C8(l:List Ob)(aB:Nat)(aC follow:Bool):Nat->List bT.dP->Nat->R4
 |0=>Jy l aB aC follow λ_ _ _=>R4.no 13
 |n+1=>Jy l aB aC follow (SD l aC (C8 l aB aC follow n))
def ri(l:List Ob)(aB:Int)(s:bT.dP)(aC follow:Bool):R4:=
 if gw l aB 0=true then
  if(mf l aB.toNat).ah≠2 then R4.no 11
  else if(bT.cX s).2.2≠0 then R4.no (bT.cX s).2.2
  else if(bT.cX s).2.1=true/\aC=true then R4.no 14
  else C8 l aB.toNat aC follow 6 (bT.cX s).1 (if(bT.cX s).2.1=true then 0 else aB.toNat)
 else R4.no 6
structure oO(l:List Ob):Prop where
 len:l.length<=64
 pos:0<l.length
 en:∀o,o∈l->UP l.length o.ah o.ag
 ne:∀o,o∈l->o.ag.length<=64
 up:∀o,o∈l->0<=o.up/\o.up<l.length
theorem oO.Wt{l:List Ob}(h:oO l)(n:Nat):A3 l n<l.length:=by
 rw[A3,mf];cases hn:l[n]? with
 |none=>show(0:Int).toNat<l.length;have:=h.pos;simpa using this
 |some o=>have:=h.up o (Vm hn);show o.up.toNat<l.length;omega
theorem oO.Pc{l:List Ob}(h:oO l){n:Nat}(hn:n<l.length):l[n].up=(A3 l n:Nat):=by rw[A3,uP hn];have:=h.up _ (aaR hn);omega
theorem oO.df{l:List Ob}(h:oO l)(n:Nat):Gw (jn (mf l n))/\(∀e,e∈jn (mf l n)->0<=e.2/\e.2<(l.length:Int))/\(jn (mf l n)).length<=64/\∀hn:n<l.length,l[n].ag=(jn (mf l n)).map bP:=by
 rw[mf];cases hn:l[n]? with
 |none=>
  refine⟨List.Pairwise.nil,by simp[jn,obZ],by simp[jn,obZ],λh=>?_⟩
  rw[wy h]at hn;cases hn
 |some o=>
  obtain⟨es,h1,h2,h3,h4⟩:=(h.en o (Vm hn)).ex;have h5:jn o=es:=by rw[jn,h1,ib]
  show Gw (jn o)/\(∀e,e∈jn o->_)/\(jn o).length<=64/\∀hn:n<l.length,l[n].ag=(jn o).map bP;rw[h5];refine⟨h2,h3,?_,λh=>?_⟩
  .have:=h.ne o (Vm hn);rw[h1,O9]at this;exact this
  .rw[wy h]at hn;cases hn;exact h1
theorem oO.Wu{l:List Ob}(h:oO l)(n:Nat)(w:bT.dP)(hf:¬mG l n w<0):∃k:Nat,mG l n w=k/\k<l.length:=by
 obtain⟨_,h2,_,_⟩:=h.df n;rcases gS (jn (mf l n)) (bT.cU w)with⟨e,he,_,h3⟩|⟨h3,_⟩
 .obtain⟨h4,h5⟩:=h2 e he;exact⟨e.2.toNat,by rw[mG,h3];omega,om⟩
 .rw[mG,h3]at hf;omega
theorem Pd{a b:ByteArray}:mc a b<0↔B7 a b:=by
 unfold mc B7;by_cases h:U0 a b=true
 .rw[if_pos h];exact⟨λ_=>h,λ_=>om⟩
 .rw[if_neg h];refine⟨λh2=>?_,λh2=>absurd h2 h⟩
  split at h2<;>omega
theorem yw{a b:ByteArray}:mc a b=0↔a.toList=b.toList:=by
 unfold mc;by_cases h:U0 a b=true
 .rw[if_pos h];refine⟨λh2=>om,λh2=>?_⟩
  rw[U0,h2,pI]at h;cases h
 .rw[if_neg h];rw[acL]at h;by_cases h2:Yj a b=true
  .rw[if_pos h2];refine⟨λh3=>om,λh3=>?_⟩
   unfold Yj at h2;rw[h3]at h2;simp at h2
  .rw[if_neg h2];refine⟨λ_=>?_,λ_=>rfl⟩
   unfold Yj at h2;unfold U0 at h;rw[h]at h2;simpa using h2
theorem pU{es:List NE}(hs:Gw es)(s:ByteArray):∀(n i j:Nat),j-i<=n->i<=j->j<=es.length->(∀(k:Nat)e,k<i->es[k]? =some e->B7 e.1 s)->(∀(k:Nat)e,j<=k->es[k]? =some e->¬B7 e.1 s)->
  Lt es s n i j<=es.length/\(∀(k:Nat)e,k<Lt es s n i j->es[k]? =some e->B7 e.1 s)/\∀(k:Nat)e,Lt es s n i j<=k->es[k]? =some e->¬B7 e.1 s
 |0,i,j,hn,sM,hj,h1,h2=>by have:i=j:=om;subst this;exact⟨hj,h1,h2⟩
 |n+1,i,j,hn,sM,hj,h1,h2=>by
  rw[Lt];by_cases ax:i<j
  .rw[if_pos ax];have hh:(i+j)/2<es.length:=om;rw[wy hh];simp only[];have hp:=acw.1 hs;by_cases hc:mc es[(i+j)/2].1 s<0
   .rw[if_pos hc];refine pU hs s n _ _ om om hj (λk e hk he=>?_) h2
    have gF:=Pd.1 hc;obtain⟨dK,rfl⟩:=Lw.1 he;rcases aax k ((i+j)/2)with h3|h3
    .exact tj (hp k _ dK hh h3) gF
    .have:k=(i+j)/2:=om;subst this;exact gF
   .rw[if_neg hc];refine pU hs s n _ _ om om om h1 λk e hk he hl=>?_
    have gF:¬B7 es[(i+j)/2].1 s:=λh=>hc (Pd.2 h)
    obtain⟨dK,rfl⟩:=Lw.1 he;rcases aax ((i+j)/2) k with h3|h3
    .exact gF (tj (hp _ k hh dK h3) hl)
    .have:k=(i+j)/2:=om;subst this;exact gF hl
  .rw[if_neg ax];have:i=j:=om;subst this;exact⟨hj,h1,h2⟩
theorem Jz{es:List NE}(hs:Gw es)(s:ByteArray):oI es s (if Cm es s=true then(match es[rS es s]? with|some e=>e.2|none=>0)else -1):=by
 obtain⟨h0,h1,h2⟩:=pU hs s es.length 0 es.length om om om (λk e hk=>absurd hk (abE k)) (λk e hk he=>by have:=(Lw.1 he).1;omega)
 have hI:Lt es s es.length 0 es.length=rS es s:=rfl;rw[hI]at h0 h1 h2;unfold Cm;cases he:es[rS es s]? with
 |none=>
  simp only[];rw[if_neg aD];refine .inr ⟨rfl,λe hm heq=>?_⟩
  obtain⟨k,hk⟩:=aak hm;have dK:=(Lw.1 hk).1;have:es.length<=rS es s:=acq.1 he;have:=h1 k e om hk;rw[B7,heq,pI]at this;cases this
 |some e=>
  simp only[];by_cases hc:mc e.1 s=0
  .rw[if_pos (by rw[hc];rfl)]
   exact .inl ⟨e,Vm he,yw.1 hc,rfl⟩
  .rw[if_neg (by simpa using hc)]
   refine .inr ⟨rfl,λe' hm heq=>?_⟩
   obtain⟨k,hk⟩:=aak hm;obtain⟨dK,nn⟩:=Lw.1 hk;obtain⟨KR,oD⟩:=Lw.1 he;rcases adZ k (rS es s)with h3|h3|h3
   .have:=h1 k e' h3 hk;rw[B7,heq,pI]at this;cases this
   .subst h3;rw[he]at hk;cases hk;exact hc (yw.2 heq)
   .have hp:=acw.1 hs _ k KR dK h3;rw[oD,nn]at hp;have k8:=h2 _ e (aai _) he;apply k8;rw[B7,<-heq];exact hp
theorem Cs(d:List (List Dt))(hb:d.length<=4194304):body prog c107 [ta 1 d] [] (λr m=>∃r' m',View 0 ⟨[r],m⟩ ⟨[r'],m'⟩/\r'= .rv (.one (.row 0 1 0 none))/\m'=[.row 1 (aa d)]):=by
 have mU:((([]:List (List CC)).length+(d.map λds=>ds.map CC.ai).length)*1)<=140737488355328:=by simp;omega
 have gu:∃r' m',View 0 ⟨[CV.rv (.one (.row 1 1 0 none))],[.aE,.row 1 (bA ([]:List (List CC)) 0 none++d.map λds=>ds.map CC.ai)]⟩ ⟨[r'],m'⟩/\r'=CV.rv (.one (.row 0 1 0 none))/\m'=[Bk.row 1 (aa d)]:=
  ⟨_,_,View.o 2 [1] [] (.eq rfl .nil) (.pn rfl rfl rfl),rfl,rfl⟩
 refine aA (λh=>?_) (λh=>?_)
 .have hd:d=[]:=aaX (by simpa using aa1 h)
  refine⟨?_,mU,gu⟩;subst hd;exact⟨_,_,View.bt 0 1 0 rfl rfl rfl,rfl,rfl⟩
 .exact⟨mU,gu⟩
theorem iN(Y:Nat->Nat)(ds:List (List Dt)):(aa ds).map (λcs=>cs.map (CC.aN Y))=aa ds:=by simp[aa,ade,CC.aN]
theorem Ha(d:List (List Dt))(hb:d.length<=4194304){m:Mem}{K:CV->Mem->Prop}(h:K (.rv (.one (.row m.length 1 0 none))) (m++ [.row 1 (aa d)])):ap prog 107 [ta 1 d] m K:=by
 refine be [] m.length rfl rfl rfl rfl (args0:=[ta 1 d]) rfl (λi b' hi=>by simp at hi) (K0:=λr m=>r= .rv (.one (.row 0 1 0 none))/\m=[.row 1 (aa d)]) (bK (aP func107 l107 (Cs d hb)) λr m1 h=>h) (λr m1 hr=>?_)
 obtain⟨rfl,rfl⟩:=hr;refine⟨WG _,?_⟩;show K (.rv (.one (.row (m.length+(0-0)) 1 0 none))) (fT m [.row 1 ((aa d).map (λcs=>cs.map (CC.aN (sg [] m.length))))])
 rw[iN,cf];exact h
def ph(Q:Nat)(o:Obj):List CC:=[.ai (.val (.int .i64 o.ah)),.row Q 1 0 none,.ai (.sl 2 o.ag),.ai (.val (.string o.target)),.ai (.val (.int .i64 o.aG)),
 .ai (.sl 4 (o.aj.map cy.enc)),.ai (.val (.int .i64 o.aQ)),.ai (.val (.int .i64 o.ak)),.ai (.val (.int .i64 o.up))]
def aeo(o:Obj):Nat->Mem
 |0=>[.row 9 [],.aE]
 |_+1=>[.row 9 [ph 1 o],.row 1 (aa o.data)]
theorem Ly(o:Obj)(hf:o.oi):body prog c108 [cJ [o]] [] (λr m=>r= .rv (.one (.row 0 9 0 none))/\m=[.row 9 [ph 1 o],.row 1 (aa o.data)]):=by
 obtain⟨ah,data,ag,target,aG,aj,aQ,ak,up⟩:=o;obtain⟨Oi,Gt,Rb,MZ⟩:=hf;have Oi:data.length<=4194304:=Oi;have Gt:ag.length<=4194304:=Gt;have Rb:aj.length<=4194304:=Rb;have MZ:∀q,q∈aj->q.data.length<=4194304:=MZ;refine ar (λk=>k<=1) [0,9,10] (λk=>[(11,al .i64 (k:Nat)),(3,.rv (.one (.row 0 9 0 none)))]) (aeo ⟨ah,data,ag,target,aG,aj,aQ,ak,up⟩) (λk=>1-k) 0 (WG _) ?_ (λk hk=>?_)
 .refine View.trans (View.bt 2 4 0 rfl rfl rfl) (View.trans (View.bt 3 9 1 rfl rfl rfl) (View.o1 2 [1,0] [] ?_))
  .exact .put (by simp[bc]) rfl (.eq rfl aD) (.aE (.nil _))
 have hk:k<=1:=hk
 match k,hk with
 |0,_=>
  refine Ha data Oi ?_;refine⟨⟨rfl,trivial⟩,?_⟩;refine uz ag Gt ?_;refine⟨trivial,?_⟩;refine⟨trivial,?_⟩;refine⟨trivial,?_⟩;refine ar (λj=>j<=aj.length) [0,3,5,9,10,11,24,25] (λj=>[(26,al .i64 (j:Nat)),(6,.rv (.one (.row 4 4 0 none)))])
    (λj=>[.row 9 [],.aE,.var (ph 3 ⟨ah,data,ag,target,aG,aj,aQ,ak,up⟩),.row 1 (aa data),.row 4 (aa ((aj.take j).map cy.enc))]) (λj=>aj.length-j) 0 (WG _) ?_ (λj hj=>?_)
  .refine View.trans (View.bt 6 4 4 rfl rfl rfl) (View.o1 5 [0,1,2,3,4] [] ?_)
   .exact .pe rfl rfl rfl (.aE (.pe rfl rfl rfl (.pr rfl rfl rfl (.pn rfl rfl rfl))))
  have hj:j<=aj.length:=hj;refine am (λh=>?_) (λh=>?_)
  .have bQ:j<aj.length:=by have h:(j:Int)<((aj.map cy.enc).length:Int):=h;rw[O9]at h;omega
   have zM:=wy bQ;have K4:=MZ _ (aaR bQ);generalize aj[j]=q at zM K4;obtain⟨qd,qh,qo,qr⟩:=q;have pq:cm (aj.map cy.enc) (j:Nat)=some [.sl 1 qd,.val (.bool qh),.val (.int .i64 qo),.val (.int .i64 qr)]:=by rw[aU,Qu,zM];rfl
   refine af pq ?_;refine iS qd K4 ?_;refine⟨?_,?_⟩
   .show((aa ((aj.take j).map cy.enc)).length+1)*48<=_;simp[aa];omega
   refine⟨j+1,bQ,(show aj.length-(j+1)<aj.length-j by omega),View.o2 8 [0,1,2,3,7] [] ?_⟩
   .refine .pe rfl rfl rfl (.aE (.pe rfl rfl rfl (.pr rfl rfl rfl (.pt rfl rfl (.bn ?_) (.nil _)))));rw[nH zM,abM,bZ];rfl
  .have ef:¬(j:Int)<((aj.map cy.enc).length:Int):=h;rw[O9]at ef;have hq:aj.take j=aj:=ach om;refine⟨by show(0+1)*128<=140737488355328;omega,?_⟩
   refine⟨1,aai 1,(show 1-1<1-0 by omega),View.o2 7 [6,3] [4] ?_⟩
   .refine .pt rfl rfl (oC.uy (R:=[]) (R':=[]) rfl rfl ?_) (.pn rfl rfl rfl);intro j' c c' h1 h2;have e5:ph 1 ⟨ah,data,ag,target,aG,aj,aQ,ak,up⟩=[.ai (.val (.int .i64 ah)),.row 1 1 0 none,.ai (.sl 2 ag),.ai (.val (.string target)),.ai (.val (.int .i64 aG)),.ai (.sl 4 ((aj.take j).map cy.enc)),.ai (.val (.int .i64 aQ)),.ai (.val (.int .i64 ak)),.ai (.val (.int .i64 up))]:=by simp[ph,hq]
    rw[e5]at h2
    match j',h1,h2 with
    |0,h1,h2=>cases h1;cases h2;exact .aN (.ai _)
    |1,h1,h2=>cases h1;cases h2;exact .aN (.row 1 1 0 none)
    |2,h1,h2=>cases h1;cases h2;exact .aN (.ai _)
    |3,h1,h2=>cases h1;cases h2;exact .aN (.ai _)
    |4,h1,h2=>cases h1;cases h2;exact .aN (.ai _)
    |5,h1,h2=>cases h1;cases h2;exact .dG (cS.da (Z:=λk=>bc [4] k=true) rfl (by rw[<-aW];rfl) 0 none)
    |6,h1,h2=>cases h1;cases h2;exact .aN (.ai _)
    |7,h1,h2=>cases h1;cases h2;exact .aN (.ai _)
    |8,h1,h2=>cases h1;cases h2;exact .aN (.ai _)
    |n+9,h1,h2=>simp at h1
 |1,_=>exact⟨rfl,rfl⟩
theorem Pe{Y:Nat->Nat}(Q:Nat)(o:Obj):(ph Q o).map (CC.aN Y)=ph (Y Q) o:=by simp[ph,CC.aN]
theorem SE(o:Obj)(hf:o.oi){m:Mem}{K:CV->Mem->Prop}(h:K (.rv (.one (.row m.length 9 0 none))) (m++ [.row 9 [ph (m.length+1) o],.row 1 (aa o.data)])):ap prog 108 [cJ [o]] m K:=by
 refine be [] m.length rfl rfl rfl rfl rfl (λi b' hi=>by simp at hi) (aP func108 l108 (Ly o hf)) (λr m1 hr=>?_)
 obtain⟨rfl,rfl⟩:=hr;refine⟨WG _,?_⟩;show K (.rv (.one (.row (m.length+(0-0)) 9 0 none))) (fT m [.row 9 [(ph 1 o).map (CC.aN (sg [] m.length))],.row 1 ((aa o.data).map (λcs=>cs.map (CC.aN (sg [] m.length))))])
 rw[Pe,iN,cf];exact h
def c66:LF:=Cq prog f66 [] []
theorem l66:bs prog f66=some c66:=by kernel_rfl
def fD(a b:Nat):Nat:=if b<a then b else a
theorem tz(a b:Nat):(if(b:Int)<(a:Int)then(b:Int)else(a:Int))=((fD a b:Nat):Int):=by unfold fD;split<;>split<;>omega
theorem oP(a b:Nat):fD a b<=a/\fD a b<=b:=by unfold fD;split<;>omega
def Lz(d:List (List Dt))(di n:Nat):List (List Dt):=(d.take (fD di d.length+fD n (d.length-fD di d.length))).drop (fD di d.length)
def kL(ah:Int)(d:List (List Dt))(di n:Int):List (List Dt)×Int:=
 if ah=2 then([],12)else if ah≠1 then([],8)else if di<0\/n<0 then([],3)else(Lz d di.toNat n.toNat,0)
def byR(d:List (List Dt)):RV:= .one (.ai (.sl 1 d))
end Go.Proofs.YtllkfpggoigbaaaGreatDoor
