/- Part 33 of 35. -/
import Derived.Test.YtllkfpggoigbaaaGreatDoorS15
import Derived.Test.YtllkfpggoigbaaaGreatDoorS16
import Derived.Test.YtllkfpggoigbaaaGreatDoorS18
import Derived.Test.YtllkfpggoigbaaaGreatDoorS20
import Derived.Test.YtllkfpggoigbaaaGreatDoorS22
import Derived.Test.YtllkfpggoigbaaaGreatDoorS32
set_option linter.unusedVariables false
set_option linter.unusedSimpArgs false
set_option linter.unnecessarySimpa false
set_option maxRecDepth 100000
set_option maxHeartbeats 0
namespace Go.Proofs.YtllkfpggoigbaaaGreatDoor
open Proofs.Tryz
open Go.AM Go.ChangeShapes Go.WideShapes Go.ChangeAt Go.RowKit
def iZ:Obj:=⟨2,[],[],⟨#[]⟩,-1,[],-1,1,0⟩
theorem TS:GB 0 [iZ]:=by
 have hm:∀o,o∈ [iZ]->o=iZ:=λo ho=>abQ.1 ho
 refine⟨⟨aD,aD,by simp[Te],λo ho=>?_,λx hx=>?_,by simp[Te],λx hx hl=>?_,λx hx s hs hh=>?_,λo ho q hq=>?_,λo ho h5=>?_,λo ho=>?_,λo ho hk=>?_,λi o ho hk=>?_,λo ho=>?_,λo ho=>?_,?_⟩,λo ho=>?_,λo ho=>?_,λo ho h5=>?_⟩
 .rw[hm o ho];exact⟨⟨⟨[],rfl⟩,⟨[],rfl⟩,by simp[iZ]⟩,by simp[iZ],by simp[iZ],by simp[iZ],by simp[iZ]⟩
 .simp[Te]at hx;subst hx;simp
 .simp[Te]at hx;subst hx;cases hl
 .simp[Te]at hx;subst hx;cases hs
 .rw[hm o ho]at hq;cases hq
 .rw[hm o ho]at h5;simp[iZ]at h5
 .rw[hm o ho];exact⟨rfl,List.Pairwise.nil,λ_=>rfl,λe he=>by cases he⟩
 .rw[hm o ho]at hk;simp[iZ]at hk
 .rw[hm o (Vm ho)]at hk;simp[iZ]at hk
 .cases ho
 .rw[hm o ho];simp[iZ]
 .have one:∀(i:Nat)d,([iZ].map Kn.t7)[i]? =some d->i=0/\d=Kn.t7 iZ:=λi d hd=>by
   match i,hd with
   |0,hd=>cases hd;exact⟨rfl,rfl⟩
   |n+1,hd=>simp at hd
  refine⟨λi d hd hz=>?_,⟨Kn.t7 iZ,rfl,rfl,rfl,rfl⟩,λi d e hd he=>?_,λi i' d d' e e' hd BP he=>?_,λi d hd _=>?_,λi d hd hz=>?_,λi d hd=>?_,λi d hd=>?_⟩
  .rw[(one i d hd).2]at hz;simp[Kn.t7,iZ]at hz
  .rw[(one i d hd).2]at he;cases he
  .rw[(one i d hd).2]at he;cases he
  .rw[(one i d hd).1];exact .ay
  .rw[(one i d hd).2]at hz;simp[Kn.t7,iZ]at hz
  .rw[(one i d hd).2];exact .inr rfl
  .rw[(one i d hd).2,(one i d hd).1];exact .inl rfl
 .rw[hm o ho];simp[iZ]
 .rw[hm o ho];rfl
 .rw[hm o ho]at h5;simp[iZ]at h5
theorem abr{α β:Type}{P G:α->β->Prop}{g:Prop}(h:(∀a b,P a b->G a b)->g)(t:∀a b,P a b->G a b):g:=h t
theorem XF{x:Nat}(hx:(x:Int)<3){data:List (List Dt)}{s:ByteArray}(hd:∃b,data=eX b)(hl:data.length<=60):Mn 0 ⟨IntKind.i64.wrap (1+(x:Int)),data,[],s,-1,[],-1,0,0⟩:=by
 have e:IntKind.i64.wrap (1+(x:Int))=((1+x:Nat):Int):=by rw[show(1+(x:Int))=((1+x:Nat):Int) by omega,lW om]
 rw[e];exact⟨λl=>⟨⟨⟨hd,⟨[],rfl⟩,aD⟩,by show data.length<=64;omega,aD,aD,aD⟩,by show((1+x:Nat):Int)≠0;omega,rfl,rfl,hl,rfl,rfl,λ_=>rfl,λh=>by have h:((1+x:Nat):Int)=5:=h;omega⟩,λh=>by have h:((1+x:Nat):Int)=5:=h;omega⟩
theorem MI{n:Nat}{l:List Obj}(g:GB n l)(dir:Int)(name:ByteArray)(hs:name.size<=12)(p:Nat)(tZ:∀q,l[p]? =some q->q.ak=0){m:Mem}{K:CV->Mem->Prop}(h:∀y e,(e=0->∃y',y=bN y'/\GB n y'/\y'.length=l.length)->K (Ox y e) m):
  ap prog 28 [fX (bN l),al .i64 dir,dM name,al .i64 (p:Nat)] m K:=by
 refine aR (K0:=λr m=>∃y e,(∃b',True/\jg b' (bN l) dir name (p:Nat)=(y,e))/\cH m r (Ox y e)) (aP func28 l28 (DZ (bN l) g.toE dir name (λ_=>True) true trivial (λh=>tf name om λb=>h b trivial) (p:Nat))) (by simp[dM,al,fX,CV.cW,CC.cW,RV.cW]) λr m1 hr=>?_
 obtain⟨y,e,⟨b',_,hy⟩,hf⟩:=hr;refine⟨_,hf,h y e λhe=>?_⟩
 rw[HR]at hy;have e1:=congrArg Prod.fst hy;have e2:=congrArg Prod.snd hy;obtain⟨a1,a2⟩:=g.enter (b:=b') (dir:=dir) (obj:=(p:Nat)) hs (λq x hq=>(show p=q by omega)▸tZ x) (by rw[<-he];exact e2)
 exact⟨_,e1.symm,a1,a2⟩
theorem QH{l:List Obj}{o o':Obj}:fC (bN (l++ [o])) (l.length:Nat) o'.zY=bN (l++ [o']):=by
 rw[fC,if_neg (by rw[fp];simp;omega),aal,bN,<-List.map_set,acN _ _ (aai _)]
 simp[bN]
def Vr:Ob:=⟨2,[],[],⟨#[]⟩,-1,noD,-1,1,0⟩
theorem TT{m:Mem}{Z:Nat->Prop}{p:Option Nat}(hz:Z 2)(h:m[2]? =some (.row 9 [[.ai (.val (.int .i64 2)),.bt,.bt,.ai (.val (.string ⟨#[]⟩)),.ai (.val (.int .i64 (-1))),.bt,.ai (.val (.int .i64 (-1))),.ai (.val (.int .i64 1)),.ai (.val (.int .i64 0))]])):
  cS m Z p (.row 2 9 0 none) (ia [Vr]):=by
 refine cS.row 2 9 0 none _ [Vr.enc] hz h rfl (λi cs es h1 h2=>?_) (λi cs es j c d h1 h2 h3 h4=>?_)
 .match i,h1,h2 with
  |0,h1,h2=>cases h1;cases h2;rfl
  |n+1,h1,h2=>simp at h1
 .match i,h1,h2 with
  |0,h1,h2=>
   cases h1;cases h2
   match j,h3,h4 with
   |0,h3,h4=>cases h3;cases h4;exact .ai _
   |1,h3,h4=>cases h3;cases h4;exact .bt 1
   |2,h3,h4=>cases h3;cases h4;exact .bt 2
   |3,h3,h4=>cases h3;cases h4;exact .ai _
   |4,h3,h4=>cases h3;cases h4;exact .ai _
   |5,h3,h4=>cases h3;cases h4;exact .no
   |6,h3,h4=>cases h3;cases h4;exact .ai _
   |7,h3,h4=>cases h3;cases h4;exact .ai _
   |8,h3,h4=>cases h3;cases h4;exact .ai _
   |n+9,h3,h4=>simp at h3
  |n+1,h1,h2=>simp at h1
def Ik:List (List Dt):=[[.val (.string ⟨#[97]⟩)],[.val (.string ⟨#[98]⟩)],[.val (.string ⟨#[99]⟩)],[.val (.string ⟨#[100]⟩)]]
theorem XG(z:Nat)(h:z<4):∃s:ByteArray,cm Ik (z:Nat)=some [.val (.string s)]/\s.size<=1:=by
 match z,h with
 |0,_=>exact⟨_,rfl,by decide⟩
 |1,_=>exact⟨_,rfl,by decide⟩
 |2,_=>exact⟨_,rfl,by decide⟩
 |3,_=>exact⟨_,rfl,by decide⟩
theorem XH(z:Nat)(h:z<6):∃s:ByteArray,dh [[CC.ai (.val (.string ⟨#[97]⟩))],[.ai (.val (.string ⟨#[98,47,99]⟩))],[.ai (.val (.string ⟨#[46,46]⟩))],[.ai (.val (.string ⟨#[47,97]⟩))],[.ai (.val (.string ⟨#[46,46,47,98]⟩))],[.ai (.val (.string ⟨#[]⟩))]] z=some [.ai (.val (.string s))]:=by
 match z,h with
 |0,_=>exact⟨_,rfl⟩
 |1,_=>exact⟨_,rfl⟩
 |2,_=>exact⟨_,rfl⟩
 |3,_=>exact⟨_,rfl⟩
 |4,_=>exact⟨_,rfl⟩
 |5,_=>exact⟨_,rfl⟩
structure XI where
 k:Nat
 ds:List Int
structure afA where
 i:Nat
 b:List Int
 l:List Obj
theorem Fc(b:List Int)(hb:t6 b):body prog c9 [.rv (.one (.ai (.sl 1 (eX b))))] [] KPN:=by
 refine bU b hb 8 1 rfl λq b1 vu hq _ _=>?_
 have hq:=hq om;refine ar (λ(a:afA)=>a.i<=q/\t6 a.b/\GB 0 a.l/\a.l.length<=1+a.i) [2,3,41] (λa=>[(42,al .i64 (a.i:Nat)),(4,fX (bN a.l)),(5,.rv (.one (.ai (.sl 1 Ik))))]) (λa=>[.var z3,qD a.b]) (λa=>q-a.i) ⟨0,b1,[iZ]⟩ ⟨WG _,vu,TS,aD⟩ ?_ (λa ha=>?_)
 .refine View.o 4 [0,1] [2,3] ?_ ?_
  .repeat(first|exact .nil|refine .aH ?_|refine .eq rfl ?_|refine .put (.rv (.one (.dG (TT (Z:=λk=>bc [2,3] k=true) rfl rfl)))) ?_|refine .put (.rv (.one (.dG (cS.da (Z:=λk=>bc [2,3] k=true) (ds:=Ik) rfl rfl 0 none)))) ?_)
  .exact .au
 obtain⟨i,b2,l⟩:=a;obtain⟨hi,kG,g,hl⟩:=ha;have hi:i<=q:=hi;have kG:t6 b2:=kG;have g:GB 0 l:=g;have hl:l.length<=1+i:=hl;refine am (λh=>?_) (λh=>?_)
 .have ax:i<q:=by have h:(i:Int)<(q:Int):=h;omega
  refine bU b2 kG 3 1 rfl λx b3 Rg hx _ _=>?_
  apply abr (P:=λbx o=>t6 bx/\Mn 0 o)
  .intro tail;refine ba (λh1=>?_) (λh1=>?_)
   .refine bU b3 Rg 5 1 rfl λy b4 WH hy _ _=>?_
    have hy:=hy om;refine bV (by simp[abR];omega) ?_
    obtain⟨o,ho⟩:∃o:Obj,o=⟨IntKind.i64.wrap (1+(x:Int)),bA (eX [100,97,116,97]) 0 (some y),[],⟨#[]⟩,-1,[],-1,0,0⟩:=⟨_,rfl⟩;refine cj [2,3,4,5,6,41,42] [] [.var z3,qD b4,.var (o.zY.enc.map .ai)] (View.o1 4 [0,1,2] [3] ?_) ?_
    .subst ho;exact .pe rfl rfl rfl (.pt rfl rfl (.eq rfl (fO _)) (.pt rfl rfl (dy.var (.cons (.aN (.ai _)) (.cons (.dG (cS.da (Z:=λk=>bc [3] k=true) rfl rfl 0 (some y))) (.cons (.dG (.bt 2)) (.cons (.aN (.ai _)) (.cons (.aN (.ai _)) (.cons (.dG .no) (.cons (.aN (.ai _)) (.cons (.aN (.ai _)) (.cons (.aN (.ai _)) .nil)))))))))) (.nil _)))
    exact tail b4 o ⟨WH,by subst ho;exact XF (hx om) ⟨[100,97,116,97].take y,by simp[bA,eX,ac7]⟩ (by simp[bA,eX];omega)⟩
   refine ba (λh3=>?_) (λh3=>?_)
   .refine bU b3 Rg 6 1 rfl λz b4 WH hz _ _=>?_
    have hz:=hz om;refine af (bJ (k:=z) (by simp[lenOf];omega)) ?_
    obtain⟨s,hs⟩:=XH z om;refine af hs ?_;obtain⟨o,ho⟩:∃o:Obj,o=⟨IntKind.i64.wrap (1+(x:Int)),[],[],s,-1,[],-1,0,0⟩:=⟨_,rfl⟩;refine cj [2,3,4,5,6,41,42] [] [.var z3,qD b4,.var (o.zY.enc.map .ai)] (View.o1 4 [0,1,2] [] ?_) ?_
    .subst ho;exact .pe rfl rfl rfl (.pt rfl rfl (.eq rfl (fO _)) (.pt rfl rfl (dy.var (.cons (.aN (.ai _)) (.cons (.dG (.bt 1)) (.cons (.dG (.bt 2)) (.cons (.aN (.ai _)) (.cons (.aN (.ai _)) (.cons (.dG .no) (.cons (.aN (.ai _)) (.cons (.aN (.ai _)) (.cons (.aN (.ai _)) .nil)))))))))) (.nil _)))
    exact tail b4 o ⟨WH,by subst ho;exact XF (hx om) ⟨[],rfl⟩ aD⟩
   .obtain⟨o,ho⟩:∃o:Obj,o=⟨IntKind.i64.wrap (1+(x:Int)),[],[],⟨#[]⟩,-1,[],-1,0,0⟩:=⟨_,rfl⟩;refine cj [2,3,4,5,6,41,42] [] [.var z3,qD b3,.var (o.zY.enc.map .ai)] (View.o1 3 [0,1,2] [] ?_) ?_
    .subst ho;exact .pe rfl rfl rfl (.pt rfl rfl (.eq rfl (fO _)) (.pt rfl rfl (dy.var (.cons (.aN (.ai _)) (.cons (.dG (.bt 1)) (.cons (.dG (.bt 2)) (.cons (.aN (.ai _)) (.cons (.aN (.ai _)) (.cons (.dG .no) (.cons (.aN (.ai _)) (.cons (.aN (.ai _)) (.cons (.aN (.ai _)) .nil)))))))))) (.nil _)))
    exact tail b3 o ⟨Rg,by subst ho;exact XF (hx om) ⟨[],rfl⟩ aD⟩
  intro bx o hbo;obtain⟨hbx,hN⟩:=hbo;have k8:(l++ [o]).length=l.length+1:=aD;refine CK g.nz om o ?_;have g':=g.uy om hN;refine ar (λ(a:XI)=>a.k<=l.length/\a.ds.length<=a.k/\(0<a.k->a.ds≠[])) [2,3,4,5,6,7,8,41,42,75,76] (λa=>[(77,al .i64 (a.k:Nat)),(10,.rv (.one (.row 3 1 0 none)))]) (λa=>[.var z3,qD bx,.var (o.zY.enc.map .ai),.row 1 (aa (a.ds.map λd:Int=>[Dt.val (.int .i64 d)]))]) (λa=>l.length-a.k) ⟨0,[]⟩ ⟨WG _,WG _,λh=>absurd h (ad1 0)⟩ ?_ (λa ha=>?_)
  .refine View.trans (View.bt 10 1 3 rfl rfl rfl) (View.o1 4 [0,1,2,3] [] ?_)
   .exact .au
  obtain⟨j,ds⟩:=a;obtain⟨hj,lH,JM⟩:=ha;have hj:j<=l.length:=hj;have lH:ds.length<=j:=lH;have JM:0<j->ds≠[]:=JM;refine am (λh=>?_) (λh=>?_)
  .have bQ:j<l.length:=by have h:(j:Int)<(((bN l).map Ob.enc).length:Int):=h;rw[O9,fp]at h;omega
   have lS:j=0->l[j].ah=2:=by intro h0;subst h0;obtain⟨r,hr,vX⟩:=g.ki.ay;have hr:l[0]? =some r:=hr;rw[wy bQ]at hr;cases hr;exact vX
   have pK:=eZ (l:=bN l) (k:=j) (by rw[fp];exact bQ)
   rw[JR bQ]at pK;refine af pK ?_;refine ba (λh2=>?_) (λh2=>?_)
   .refine⟨by have e:=aJ (ds.map λd:Int=>[Dt.val (.int .i64 d)]);simp only[O9]at e;simp only[bA,aa2,abO];omega,?_⟩
    refine⟨⟨j+1,ds++ [(j:Int)]⟩,⟨bQ,by simp;omega,λ_=>aD⟩,(show l.length-(j+1)<l.length-j by omega),View.o2 7 [0,1,2,6] [] ?_⟩
    .exact .pe rfl rfl rfl (.pt rfl rfl (.eq rfl (fO _)) (.pe rfl rfl rfl (.pt rfl rfl (.bn (by simp[bA,aa])) (.nil _))))
   .refine⟨⟨j+1,ds⟩,⟨bQ,Nat.le_succ_of_le lH,λ_=>JM (Nat.pos_of_ne_zero λh0=>h2 (lS h0))⟩,(show l.length-(j+1)<l.length-j by omega),View.o2 5 [0,1,2,3] [] ?_⟩
    .exact .au
  .have rJ:j=l.length:=by have h:¬(j:Int)<(((bN l).map Ob.enc).length:Int):=h;rw[O9,fp]at h;omega
   have MX:0<l.length:=by obtain⟨r,hr,_⟩:=g.ki.ay;exact(Lw.1 hr).1
   have Up:0<ds.length:=by
    have:=JM om;cases ds with
    |nil=>exact absurd rfl this
    |cons=>simp
   refine bU bx hbx _ 1 rfl λz1 b5 hb5 Ks _ _=>?_
   have Ks:z1<ds.length:=by
    have e:=aJ (ds.map λd:Int=>[Dt.val (.int .i64 d)])
    simp only[O9]at e;have Ks:(1:Int)<=(((aa (ds.map λd:Int=>[Dt.val (.int .i64 d)])).length:Nat):Int)->(z1:Int)<(((aa (ds.map λd:Int=>[Dt.val (.int .i64 d)])).length:Nat):Int):=Ks
    rw[e]at Ks;have:=Ks om;omega
   refine⟨trivial,?_⟩;have oH:dL (z1:Int) (lenOf (aa (ds.map λd:Int=>[Dt.val (.int .i64 d)])).length 0 none)=some z1:=bJ (by show z1<(aa (ds.map λd:Int=>[Dt.val (.int .i64 d)])).length;rw[aJ,O9];exact Ks)
   have abs:dh (aa (ds.map λd:Int=>[Dt.val (.int .i64 d)])) z1=some [.ai (.val (.int .i64 ds[z1]))]:=bm (λd:Int=>[Dt.val (.int .i64 d)]) ds Ks
   refine af oH ?_;refine af abs ?_;refine bU b5 hb5 4 1 rfl λz2 b6 hb6 Ut _ _=>?_
   have Ut:=Ut om;refine⟨⟨af abs rfl,af oH rfl,trivial⟩,?_⟩;obtain⟨s,hs,hss⟩:=XG z2 om;refine af hs ?_;refine MI g' _ s om l.length (λq hq=>by simp at hq;subst hq;exact(hN.nw l).l) λy e hy=>?_
   refine⟨trivial,?_⟩;refine ba (λhe=>?_) (λhe=>?_)
   .obtain⟨y',rfl,gy,Z3⟩:=hy he;refine⟨⟨i+1,b6,y'⟩,⟨ax,hb6,gy,(show y'.length<=1+(i+1) by omega)⟩,(show q-(i+1)<q-i by omega),View.o2 4 [0,1] [] ?_⟩
    .exact .au
   .refine ba (λqX=>?_) (λqX=>?_)
    .have pK:=eZ (l:=bN (l++ [o])) (k:=l.length) (by rw[fp];omega)
     rw[JR om,List.getElem_append_right (aai _)]at pK;simp only[adv,List.getElem_cons_zero]at pK;refine af pK ?_;refine fw (bN (l++ [o])) (by rw[fp];omega) l.length (by rw[fp];omega) (Obj.zY {o with up:=(l.length:Int)}) ?_
     rw[QH];refine⟨⟨i+1,b6,l++ [{o with up:=(l.length:Int)}]⟩,⟨ax,hb6,g.self om hN,(show(l++ [{o with up:=(l.length:Int)}]).length<=1+(i+1) by simp;omega)⟩,(show q-(i+1)<q-i by omega),View.o2 5 [0,1] [] ?_⟩
     .exact .au
    .refine⟨⟨i+1,b6,l++ [o]⟩,⟨ax,hb6,g',(show(l++ [o]).length<=1+(i+1) by omega)⟩,(show q-(i+1)<q-i by omega),View.o2 4 [0,1] [] ?_⟩
     .exact .au
 .refine cj [2,3,4] [] [.var z3,qD b2] (View.o1 2 [0,1] [] ?_) ?_
  .exact .au
  exact TR b2 kG l g om
theorem MJ(b:List Int)(hb:t6 b){m:Mem}{K:CV->Mem->Prop}(h:∀k:Kr,Kn.KI k->K (cA k.l k.ops k.ps) m):ap prog 9 [.rv (.one (.ai (.sl 1 (eX b))))] m K:=by
 refine aR (K0:=λr m=>(∃k:Kr,Kn.KI k/\r=cA k.l k.ops k.ps)/\m=[]) (bK (cE func9 l9 (Fc b hb)) λr m1⟨r',m',hv,hp,hm⟩=>⟨r',m',hv,hp,hm⟩) (by simp[CV.cW,CC.cW,RV.cW]) λr m1 hr=>?_
 obtain⟨⟨k,hk,rfl⟩,rfl⟩:=hr;exact⟨_,cH.self rfl,h k hk⟩
def c57:LF:=Cq prog Tryz.f57 [] []
def c59:LF:=Cq prog f59 [] [[(d9 8 0 (.cons 8 (some []) .nil))]]
theorem l57:bs prog Tryz.f57=some c57:=by kernel_rfl
theorem l59:bs prog f59=some c59:=by kernel_rfl
def cR(l:List Obj)(z:Int)(L:List Nat):List Nat:=if(ol l z 0&& !m4 L z)=true then L++ [z.toNat]else L
def gK(l:List Obj)(z:Int)(L:List Nat)(bR:Bool):Bool:=if(ol l z 0&& !m4 L z)=true then true else bR
theorem CM{l:List Obj}{z:Int}:ol l z 0=true↔∃n,vO l z n:=by
 unfold ol vO;constructor
 .intro h;by_cases h0:z>=0
  .obtain⟨n,rfl⟩:∃n:Nat,z=n:=⟨z.toNat,om⟩;by_cases hn:n<l.length
   .simp[hn]at h;exact⟨n,rfl,l[n],wy hn,h⟩
   .simp[hn]at h
  .simp[h0]at h
 .rintro⟨n,rfl,o,ho,hk⟩;obtain⟨hn,rfl⟩:=Lw.1 ho;simp[hn,hk]
def kB(l:List Obj)(ops:List aT)(ps:List aL):Bk:= .var [.ai (cT l),.ai (de ops),.ai (dZ ps)]
def gZ:Bk:= .var [.map 1]
def fI(b:Bool):Bk:= .var [.ai (.val (.bool b))]
theorem Il(l:List Obj)(ops:List aT)(ps:List aL)(z:Int)(L:List Nat)(bR:Bool):
  body prog c57 [al .i64 z,.rv (.one (.ptr 0 0)),.rv (.one (.ptr 2 0)),.rv (.one (.ptr 3 0))] [kB l ops ps,.mp (L.map fE),gZ,fI bR]
   (λr m=>r= .bG []/\m=[kB l ops ps,.mp ((cR l z L).map fE),gZ,fI (gK l z L bR)]):=by
 refine ZK l z 0 ?_;cases hI:ol l z 0 with
 |false=>
  have e1:cR l z L=L:=by rw[cR,hI];rfl
  have e2:gK l z L bR=bR:=by rw[gK,hI];rfl
  rw[e1,e2];exact⟨rfl,rfl⟩
 |true=>
  refine af (qI z L) ?_;cases hN:m4 L z with
  |true=>
   have e1:cR l z L=L:=by rw[cR,hI,hN];rfl
   have e2:gK l z L bR=bR:=by rw[gK,hI,hN];rfl
   rw[e1,e2];exact⟨rfl,rfl⟩
  |false=>
   have e1:cR l z L=L++ [z.toNat]:=by rw[cR,hI,hN];rfl
   have e2:gK l z L bR=true:=by rw[gK,hI,hN];rfl
   rw[e1,e2];refine af (Pj z L hN) ?_;obtain⟨n,rfl,_⟩:=CM.1 hI;refine⟨rfl,?_⟩;rw[abM];rfl
theorem Fd(l:List Obj)(ops:List aT)(ps:List aL)(z:Int)(L:List Nat)(bR:Bool)(R:Mem){K:CV->Mem->Prop}(h:K (.bG []) (kB l ops ps:: .mp ((cR l z L).map fE)::gZ::fI (gK l z L bR)::R)):
  ap prog 57 [al .i64 z,.rv (.one (.ptr 0 0)),.rv (.one (.ptr 2 0)),.rv (.one (.ptr 3 0))] (kB l ops ps:: .mp (L.map fE)::gZ::fI bR::R) K:=by
 refine be [0,1,2,3] (R.length+4) rfl rfl rfl (by simp[eh,Nat.blt]) (args0:=[al .i64 z,.rv (.one (.ptr 0 0)),.rv (.one (.ptr 2 0)),.rv (.one (.ptr 3 0))]) rfl (m0:=[kB l ops ps,.mp (L.map fE),gZ,fI bR]) (λi b' hi=>?_)
  (aP func57 l57 (Il l ops ps z L bR)) (λr m1 hr=>?_)
 .match i,hi with
  |0,hi=>cases hi;exact .inr ⟨λh=>h,_,rfl,.eq rfl (by simp[kB])⟩
  |1,hi=>cases hi;exact .inr ⟨λh=>h,_,rfl,.eq (dg L) aD⟩
  |2,hi=>cases hi;exact .inr ⟨λh=>h,_,rfl,.eq rfl (by simp[gZ])⟩
  |3,hi=>cases hi;exact .inr ⟨λh=>h,_,rfl,.eq rfl (by simp[fI])⟩
  |n+4,hi=>simp at hi
 .obtain⟨rfl,rfl⟩:=hr;refine⟨aai _,?_⟩;show K (.bG []) (kB l ops ps::(Bk.mp ((cR l z L).map fE)).aN (sg [0,1,2,3] (R.length+4))::gZ::fI (gK l z L bR)::fT R []);rw[dg,cf,ab9];exact h
def dO(ops:List aT)(z:Int):Int:=if 0<=z then(match ops[z.toNat]? with|some o=>o.obj|none=>-1)else -1
theorem MK(l:List Obj)(L:List Nat)(bR:Bool):cR l (-1) L=L/\gK l (-1) L bR=bR:=by
 have:ol l (-1) 0=false:=by simp[ol]
 constructor
 .rw[cR,this];rfl
 .rw[gK,this];rfl
def Bs:Bk:= .var [.fn 57 [0,2,3]]
theorem ML(l:List Obj)(ops:List aT)(ps:List aL)(z rts:Int)(L:List Nat)(bR:Bool):
  body prog c59 [.rv (.agg [.ai (.val (.int .i64 z)),.ai (.val (.int .i64 rts))]),.rv (.one (.ptr 0 0)),.rv (.one (.ptr 4 0))] [kB l ops ps,.mp (L.map fE),gZ,fI bR,Bs]
   (λr m=>r= .bG []/\∃x,m=[kB l ops ps,.mp ((cR l (dO ops z) L).map fE),gZ,fI (gK l (dO ops z) L bR),Bs,x]):=by
 obtain⟨n1,n2⟩:=MK l L bR;refine am (λh0=>?_) (λh0=>?_)
 .obtain⟨n,rfl⟩:∃n:Nat,z=n:=⟨z.toNat,om⟩;refine am (λh=>?_) (λh=>?_)
  .have ax:n<ops.length:=by have h:(n:Int)<((ops.map aT.enc).length:Int):=h;rw[O9]at h;omega
   have hz:dO ops (n:Int)=ops[n].obj:=by rw[dO,if_pos om,aal,wy ax]
   rw[hz];refine af (mZ ax) ?_;refine Fd l ops ps ops[n].obj L bR [Bs,.var [.ai (.val (.int .i64 (n:Nat))),.ai (.val (.int .i64 rts))]] ?_;exact⟨trivial,rfl,_,rfl⟩
  .have ef:ops.length<=n:=by have h:¬(n:Int)<((ops.map aT.enc).length:Int):=h;rw[O9]at h;omega
   have hz:dO ops (n:Int)= -1:=by rw[dO,if_pos om,aal,abj ef]
   rw[hz,n1,n2];exact⟨rfl,_,rfl⟩
 .have hz:dO ops z= -1:=by rw[dO,if_neg om]
  rw[hz,n1,n2];exact⟨rfl,_,rfl⟩
theorem J7(l:List Obj)(ops:List aT)(ps:List aL)(z rts:Int)(L:List Nat)(bR:Bool)(R:Mem){K:CV->Mem->Prop}(h:K (.bG []) (kB l ops ps:: .mp ((cR l (dO ops z) L).map fE)::gZ::fI (gK l (dO ops z) L bR)::Bs::R)):
  ap prog 59 [.rv (.agg [.ai (.val (.int .i64 z)),.ai (.val (.int .i64 rts))]),.rv (.one (.ptr 0 0)),.rv (.one (.ptr 4 0))] (kB l ops ps:: .mp (L.map fE)::gZ::fI bR::Bs::R) K:=by
 refine be [0,1,2,3,4] (R.length+5) rfl rfl rfl (by simp[eh,Nat.blt]) (args0:=[.rv (.agg [.ai (.val (.int .i64 z)),.ai (.val (.int .i64 rts))]),.rv (.one (.ptr 0 0)),.rv (.one (.ptr 4 0))]) rfl (m0:=[kB l ops ps,.mp (L.map fE),gZ,fI bR,Bs]) (λi b' hi=>?_)
  (K0:=λr m=>r= .bG []/\m=[kB l ops ps,.mp ((cR l (dO ops z) L).map fE),gZ,fI (gK l (dO ops z) L bR),Bs])
  (bK (aP func59 l59 (ML l ops ps z rts L bR)) (λr m1 hr=>?_)) (λr m1 hr=>?_)
 .match i,hi with
  |0,hi=>cases hi;exact .inr ⟨λh=>h,_,rfl,.eq rfl (by simp[kB])⟩
  |1,hi=>cases hi;exact .inr ⟨λh=>h,_,rfl,.eq (dg L) aD⟩
  |2,hi=>cases hi;exact .inr ⟨λh=>h,_,rfl,.eq rfl (by simp[gZ])⟩
  |3,hi=>cases hi;exact .inr ⟨λh=>h,_,rfl,.eq rfl (by simp[fI])⟩
  |4,hi=>cases hi;exact .inr ⟨λh=>h,_,rfl,.eq rfl (by simp[Bs])⟩
  |n+5,hi=>simp at hi
 .obtain⟨rfl,x,rfl⟩:=hr;refine⟨.bG [],[kB l ops ps,.mp ((cR l (dO ops z) L).map fE),gZ,fI (gK l (dO ops z) L bR),Bs],View.o 6 [0,1,2,3,4] [] (.eq rfl .nil) ?_,rfl,rfl⟩;exact .pt rfl rfl (.eq rfl (by simp[kB])) (.pt rfl rfl (.eq (dg _) aD) (.pt rfl rfl (.eq rfl (by simp[gZ])) (.pt rfl rfl (.eq rfl (by simp[fI])) (.pt rfl rfl (.eq rfl (by simp[Bs])) (.nil _)))))
 .obtain⟨rfl,rfl⟩:=hr;refine⟨aai _,?_⟩;show K (.bG []) (kB l ops ps::(Bk.mp ((cR l (dO ops z) L).map fE)).aN (sg [0,1,2,3,4] (R.length+5))::gZ::fI (gK l (dO ops z) L bR)::Bs::fT R []);rw[dg,cf,ab9];exact h
structure Im(l:List Obj)(ops:List aT)(ps:List aL)(L:List Nat):Prop where
 nd:L.Nodup
 val:∀n,n∈L->vO l (n:Int) n
 ay:∀n,vO l 0 n->n∈L
 iC:∀RO RP,Cl l ops RO RP->x7 l ops ps RO RP->∀n,n∈L->RO n
structure ij(l:List Obj)(ops:List aT)(ps:List aL)(L:List Nat):Prop where
 H2:Im l ops ps L
 cp:∀(p:Nat)pr,ps[p]? =some pr->pr.aF=true->∀s,s∈pr.an->s.has=true->∀n,vO l (dO ops s.b8) n->n∈L
 ce:∀(i:Nat)o,i∈L->l[i]? =some o->∀z,sE o z->∀n,vO l z n->n∈L
 cq:∀(i:Nat)o,i∈L->l[i]? =some o->∀q,q∈o.aj->q.has=true->∀n,vO l (dO ops q.b8) n->n∈L
def QJ(N:Nat)(L:List Nat):Nat:=((List.range N).filter λi=>decide (i∉L)).length
theorem QK{N n:Nat}{L:List Nat}(hn:n<N)(h:n∉L):QJ N (L++ [n])<QJ N L:=by
 have e:((List.range N).filter λi=>decide (i∉L++ [n]))=((List.range N).filter λi=>decide (i∉L)).filter λi=>decide (i≠n):=by rw[List.filter_filter];apply aeO;intro x _;simp only[abH,abQ,not_or,Bool.decide_and,ne_eq];rw[Bool.and_comm]
 rw[QJ,e,QJ,List.length_filter_lt_length_iff_exists];exact⟨n,by simp[hn,h],aD⟩
structure u5(l:List Obj)(ops:List aT)(ps:List aL)(L0 L:List Nat)(bR:Bool):Prop where
 H2:Im l ops ps L
 sub:∀n,n∈L0->n∈L
 eq:bR=false->L=L0
 mU:bR=true->QJ l.length L<QJ l.length L0
theorem lL{l:List Obj}{z:Int}{L:List Nat}{n:Nat}(h:n∈L):n∈cR l z L:=by
 rw[cR];split
 .simp[h]
 .exact h
theorem zc{l:List Obj}{z:Int}{L:List Nat}{n:Nat}(h:vO l z n):n∈cR l z L:=by
 have hI:ol l z 0=true:=CM.2 ⟨n,h⟩;have hz:=h.1;rw[cR,hI];cases hN:m4 L z with
 |true=>
  rw[hz]at hN;exact fx.1 hN
 |false=>
  simp[hz]
theorem u5.mark{l:List Obj}{ops:List aT}{ps:List aL}{L0 L:List Nat}{bR:Bool}{z:Int}(h:u5 l ops ps L0 L bR)(hz:∀RO RP,Cl l ops RO RP->x7 l ops ps RO RP->(∀m,m∈L->RO m)->∀n,vO l z n->RO n):u5 l ops ps L0 (cR l z L) (gK l z L bR):=by
 by_cases hc:(ol l z 0&& !m4 L z)=true
 .have e1:cR l z L=L++ [z.toNat]:=if_pos hc;have e2:gK l z L bR=true:=if_pos hc;have hc:ol l z 0=true/\m4 L z=false:=by simpa using hc
  obtain⟨n,hn⟩:=CM.1 hc.1;have Xg:z=n:=hn.1;have hnn:n<l.length:=by obtain⟨_,o,ho,_⟩:=hn;exact(Lw.1 ho).1
  have AE:n∉L:=λhm=>by have:=fx.2 hm;rw[<-Xg,hc.2]at this;cases this
  have e3:z.toNat=n:=om;rw[e1,e2,e3];have WK:QJ l.length (L++ [n])<QJ l.length L:=QK hnn AE;refine⟨⟨?_,λm hm=>?_,λm hm=>by simp[h.H2.ay m hm],λRO RP gF hr m hm=>?_⟩,λm hm=>by simp[h.sub m hm],(λh=>by cases h),λ_=>?_⟩
  .rw[aeC];refine⟨h.H2.nd,aD,λa ha b hb=>?_⟩
   have:b=n:=by simpa using hb
   intro e;rw[e,this]at ha;exact AE ha
  .rcases abH.1 hm with hm|hm
   .exact h.H2.val m hm
   .have:m=n:=by simpa using hm
    subst this;rw[Xg]at hn;exact hn
  .rcases abH.1 hm with hm|hm
   .exact h.H2.iC RO RP gF hr m hm
   .have:m=n:=by simpa using hm
    subst this;exact hz RO RP gF hr (λx hx=>h.H2.iC RO RP gF hr x hx) m hn
  .cases hmr:bR with
   |true=>have:=h.mU hmr;omega
   |false=>rw[<-h.eq hmr];exact WK
 .have e1:cR l z L=L:=if_neg hc;have e2:gK l z L bR=bR:=if_neg hc;rw[e1,e2];exact h
def pj(l:List Obj)(S:Int->Prop)(L:List Nat):Prop:=∀z,S z->∀n,vO l z n->n∈L
theorem pj.mark{l:List Obj}{S S':Int->Prop}{L:List Nat}{z:Int}(h:pj l S L)(hS:∀y,S' y->S y\/y=z):pj l S' (cR l z L):=λy hy n hn=>by
 rcases hS y hy with h1|rfl
 .exact lL (h y h1 n hn)
 .exact zc hn
theorem pj.mono{l:List Obj}{S S':Int->Prop}{L:List Nat}(h:pj l S L)(hS:∀y,S' y->S y):pj l S' L:=λy hy n hn=>h y (hS y hy) n hn
def S1(ops:List aT)(ps:List aL)(p j:Nat)(z:Int):Prop:=∃(i:Nat)(pr:aL)(k:Nat)(s:dJ),ps[i]? =some pr/\pr.aF=true/\pr.an[k]? =some s/\s.has=true/\(i<p\/i=p/\k<j)/\z=dO ops s.b8
def S2(l:List Obj)(ops:List aT)(ps:List aL)(L0:List Nat)(i je jq:Nat)(z:Int):Prop:=
 S1 ops ps ps.length 0 z\/∃(i':Nat)(o:Obj),i'∈L0/\l[i']? =some o/\
  ((∃(k:Nat)(nm:ByteArray),o.ag[k]? =some (bP (nm,z))/\(i'<i\/i'=i/\k<je))\/∃(k:Nat)(q:cy),o.aj[k]? =some q/\q.has=true/\(i'<i\/i'=i/\k<jq)/\z=dO ops q.b8)
theorem zh{l:List Obj}{ops:List aT}{RO RP:Nat->Prop}{z:Int}(gF:Cl l ops RO RP)(h:∀c,vP ops z c->RP c):∀n,vO l (dO ops z) n->RO n:=by
 intro n hn;unfold dO at hn;split at hn
 .rename_i h0;cases ho:ops[z.toNat]? with
  |none=>
   rw[ho]at hn;have:(-1:Int)=n:=hn.1;omega
  |some o=>
   rw[ho]at hn;have ax:=(Lw.1 ho).1;exact gF.p z.toNat o (h z.toNat ⟨om,ax⟩) ho n hn
 .have:=hn.1;omega
theorem Tm(l:List Obj)(ops:List aT)(ps:List aL)(L:List Nat)(b:Bool)(n:Nat)(R:Mem):bW (sg [0,1,2,3,4] n) (kB l ops ps:: .mp (L.map fE)::gZ::fI b::Bs::R) (λk=>bc [] k=true) 0 [kB l ops ps,.mp (L.map fE),gZ,fI b,Bs]:=
 .pt rfl rfl (.eq rfl (by simp[kB])) (.pt rfl rfl (.eq (dg _) aD) (.pt rfl rfl (.eq rfl (by simp[gZ])) (.pt rfl rfl (.eq rfl (by simp[fI])) (.pt rfl rfl (.eq rfl (by simp[Bs])) (.nil _)))))
theorem TU(l:List Obj)(ops:List aT)(ps:List aL)(L:List Nat)(b:Bool)(ds:List Dt)(n:Nat)(R:Mem):bW (sg [0,1,2,3,4,5] n) (kB l ops ps:: .mp (L.map fE)::gZ::fI b::Bs:: .var (ds.map .ai)::R) (λk=>bc [] k=true) 0 [kB l ops ps,.mp (L.map fE),gZ,fI b,Bs,.var (ds.map .ai)]:=
 .pt rfl rfl (.eq rfl (by simp[kB])) (.pt rfl rfl (.eq (dg _) aD) (.pt rfl rfl (.eq rfl (by simp[gZ])) (.pt rfl rfl (.eq rfl (by simp[fI])) (.pt rfl rfl (.eq rfl (by simp[Bs])) (.pt rfl rfl (.k9 rfl) (.nil _))))))
structure Io where
 i:Nat
 L:List Nat
 bR:Bool
def M5(l:List Obj)(ops:List aT)(ps:List aL)(a:Io):Mem:=[kB l ops ps,.mp (a.L.map fE),gZ,fI a.bR,Bs]
def M6(l:List Obj)(ops:List aT)(ps:List aL)(ds:List Dt)(a:Io):Mem:=[kB l ops ps,.mp (a.L.map fE),gZ,fI a.bR,Bs,.var (ds.map .ai)]
def Ip(l:List Obj)(ops:List aT)(ps:List aL)(r:CV)(m:Mem):Prop:=∃L,ij l ops ps L/\r= .rv (.one (.map 0))/\m=[.mp (L.map fE)]
theorem TV{ops:List aT}{ps:List aL}{z:Int}:¬S1 ops ps 0 0 z:=by rintro⟨i,pr,k,s,_,_,_,_,h,_⟩;omega
theorem J8{ops:List aT}{ps:List aL}{p j:Nat}{pr:aL}{s:dJ}(hp:ps[p]? =some pr)(hs:pr.an[j]? =some s){y:Int}(h:S1 ops ps p (j+1) y):S1 ops ps p j y\/(pr.aF=true/\s.has=true/\y=dO ops s.b8):=by
 obtain⟨i,QL,k,s',h1,h2,h3,h4,h5,h6⟩:=h;by_cases hk:i=p/\k=j
 .obtain⟨rfl,rfl⟩:=hk;rw[hp]at h1;cases h1;rw[hs]at h3;cases h3;exact .inr ⟨h2,h4,h6⟩
 .exact .inl ⟨i,QL,k,s',h1,h2,h3,h4,om,h6⟩
theorem TW{ops:List aT}{ps:List aL}{p:Nat}{pr:aL}(hp:ps[p]? =some pr){y:Int}(h:S1 ops ps (p+1) 0 y):S1 ops ps p pr.an.length y:=by
 obtain⟨i,QL,k,s',h1,h2,h3,h4,h5,h6⟩:=h;refine⟨i,QL,k,s',h1,h2,h3,h4,?_,h6⟩;by_cases hi:i=p
 .subst hi;rw[hp]at h1;cases h1;exact .inr ⟨rfl,(Lw.1 h3).1⟩
 .exact .inl om
theorem MM{l:List Obj}{ops:List aT}{ps:List aL}{p j:Nat}{pr:aL}{s:dJ}(hp:ps[p]? =some pr)(hs:pr.an[j]? =some s)(hl:pr.aF=true)(hh:s.has=true)(L:List Nat):
  ∀RO RP,Cl l ops RO RP->x7 l ops ps RO RP->(∀m,m∈L->RO m)->∀n,vO l (dO ops s.b8) n->RO n:=
 λRO RP gF hr _ n hn=>zh gF (λc hc=>hr.2 p pr hp hl s (Vm hs) hh c hc) n hn
theorem TY{l:List Obj}{ops:List aT}{ps:List aL}{L0:List Nat}{z:Int}(h:S2 l ops ps L0 0 0 0 z):S1 ops ps ps.length 0 z:=by
 rcases h with h|⟨i,o,_,_,⟨k,nm,_,h⟩|⟨k,q,_,_,h,_⟩⟩
 .exact h
 .omega
 .omega
theorem TZ{l:List Obj}{ops:List aT}{ps:List aL}{L0:List Nat}{i:Nat}(hi:i∉L0){z:Int}(h:S2 l ops ps L0 (i+1) 0 0 z):S2 l ops ps L0 i 0 0 z:=by
 rcases h with h|⟨i',o,h1,h2,⟨k,nm,h3,h4⟩|⟨k,q,h3,h4,h5,h6⟩⟩
 .exact .inl h
 .refine .inr ⟨i',o,h1,h2,.inl ⟨k,nm,h3,?_⟩⟩;have:i'≠i:=λe=>hi (e▸h1)
  omega
 .refine .inr ⟨i',o,h1,h2,.inr ⟨k,q,h3,h4,?_,h6⟩⟩;have:i'≠i:=λe=>hi (e▸h1)
  omega
theorem XJ{l:List Obj}{ops:List aT}{ps:List aL}{L0:List Nat}{i k:Nat}{o:Obj}{nm:ByteArray}{y:Int}(ho:l[i]? =some o)(he:o.ag[k]? =some (bP (nm,y))){z:Int}(h:S2 l ops ps L0 i (k+1) 0 z):S2 l ops ps L0 i k 0 z\/z=y:=by
 rcases h with h|⟨i',o',h1,h2,⟨k',nm',h3,h4⟩|⟨k',q,h3,h4,h5,h6⟩⟩
 .exact .inl (.inl h)
 .by_cases hk:i'=i/\k'=k
  .obtain⟨rfl,rfl⟩:=hk;rw[ho]at h2;cases h2;rw[he]at h3;simp only[bP,abe,adL,Dt.val.injEq,Value.string.injEq,Value.int.injEq]at h3;exact .inr h3.2.1.2.symm
  .exact .inl (.inr ⟨i',o',h1,h2,.inl ⟨k',nm',h3,om⟩⟩)
 .exact .inl (.inr ⟨i',o',h1,h2,.inr ⟨k',q,h3,h4,h5,h6⟩⟩)
theorem QM{l:List Obj}{ops:List aT}{ps:List aL}{L0:List Nat}{i k e:Nat}{o:Obj}{q:cy}(ho:l[i]? =some o)(he:o.aj[k]? =some q){z:Int}(h:S2 l ops ps L0 i e (k+1) z):S2 l ops ps L0 i e k z\/(q.has=true/\z=dO ops q.b8):=by
 rcases h with h|⟨i',o',h1,h2,⟨k',nm',h3,h4⟩|⟨k',q',h3,h4,h5,h6⟩⟩
 .exact .inl (.inl h)
 .exact .inl (.inr ⟨i',o',h1,h2,.inl ⟨k',nm',h3,h4⟩⟩)
 .by_cases hk:i'=i/\k'=k
  .obtain⟨rfl,rfl⟩:=hk;rw[ho]at h2;cases h2;rw[he]at h3;cases h3;exact .inr ⟨h4,h6⟩
  .exact .inl (.inr ⟨i',o',h1,h2,.inr ⟨k',q',h3,h4,om,h6⟩⟩)
theorem T0{l:List Obj}{ops:List aT}{ps:List aL}{L0:List Nat}{i:Nat}{o:Obj}(ho:l[i]? =some o){z:Int}(h:S2 l ops ps L0 (i+1) 0 0 z):S2 l ops ps L0 i o.ag.length o.aj.length z:=by
 rcases h with h|⟨i',o',h1,h2,⟨k',nm',h3,h4⟩|⟨k',q',h3,h4,h5,h6⟩⟩
 .exact .inl h
 .refine .inr ⟨i',o',h1,h2,.inl ⟨k',nm',h3,?_⟩⟩;by_cases hi:i'=i
  .subst hi;rw[ho]at h2;cases h2;exact .inr ⟨rfl,(Lw.1 h3).1⟩
  .omega
 .refine .inr ⟨i',o',h1,h2,.inr ⟨k',q',h3,h4,?_,h6⟩⟩;by_cases hi:i'=i
  .subst hi;rw[ho]at h2;cases h2;exact .inr ⟨rfl,(Lw.1 h3).1⟩
  .omega
theorem QN{l:List Obj}{ops:List aT}{ps:List aL}{L:List Nat}(h:Im l ops ps L)(hd:pj l (S2 l ops ps L l.length 0 0) L):ij l ops ps L:=by
 refine⟨h,λp pr hp hl s hs hh n hn=>?_,λi o hi ho z hz n hn=>?_,λi o hi ho q hq hh n hn=>?_⟩
 .obtain⟨k,hk⟩:=aak hs;exact hd _ (.inl ⟨p,pr,k,s,hp,hl,hk,hh,.inl (Lw.1 hp).1,rfl⟩) n hn
 .obtain⟨nm,hm⟩:=hz;obtain⟨k,hk⟩:=aak hm;exact hd _ (.inr ⟨i,o,hi,ho,.inl ⟨k,nm,hk,.inl (Lw.1 ho).1⟩⟩) n hn
 .obtain⟨k,hk⟩:=aak hq;exact hd _ (.inr ⟨i,o,hi,ho,.inr ⟨k,q,hk,hh,.inl (Lw.1 ho).1,rfl⟩⟩) n hn
def c23:LF:=Cq prog Tryz.f23 [[3,0]] []
theorem l23:bs prog Tryz.f23=some c23.er:=by kernel_rfl
def R47:LC:=l5 (oK (bi (bi (bi c23.code))))
def F47:LC:=bi (bi (bi (bi c23.code)))
def E47(l:List Obj)(ops:List aT)(ps:List aL):Ex->St->Prop:=nu prog c23.lM λr m=>∃r' m',View 0 ⟨[r],m⟩ ⟨[r'],m'⟩/\Ip l ops ps r' m'
theorem Iq(l:List Obj)(ops:List aT)(ps:List aL)(g:∀o,o∈l->o.sm)(hl:l.length<=4194304)(eF:ps.length<=4194304)(i3:∀p,p∈ps->p.an.length<=4194304)(L0:List Nat)(h0:Im l ops ps L0):
  aw prog 0 R47 (ow (aw prog 0 F47) (E47 l ops ps)) ⟨i5 101 [(1,.rv (.one (.ptr 0 0))),(3,.rv (.one (.ptr 2 0)))],[kB l ops ps,.mp (L0.map fE),gZ]⟩:=by
 refine ar (λa:List Nat×Bool=>Im l ops ps a.1/\(a.2=false->ij l ops ps a.1)) [1,3] (λ_=>[(4,.rv (.one (.ptr 3 0)))]) (λa=>[kB l ops ps,.mp (a.1.map fE),gZ,fI a.2])
  (λa=>2*QJ l.length a.1+(if a.2 then 1 else 0)) (L0,true) ⟨h0,(λh=>by cases h)⟩ ?_ (λa hJ=>?_)
 .refine View.o1 4 [0,1,2,3] [] ?_
  .exact .pt rfl rfl (.eq rfl (by simp[kB])) (.pt rfl rfl (.eq (dg _) aD) (.pt rfl rfl (.eq rfl (by simp[gZ])) (.pt rfl rfl (.eq rfl (by simp[fI])) (.nil _))))
 obtain⟨LA,bR⟩:=a;obtain⟨hI,hC⟩:=hJ;cases bR with
 |false=>
  exact⟨.rv (.one (.map 0)),[.mp (LA.map fE)],View.o 4 [1] [] (.eq rfl .nil) (.pt rfl rfl (.eq (dg _) aD) (.nil _)),LA,hC rfl,rfl,rfl⟩
 |true=>
  have hI:Im l ops ps LA:=hI;clear hC;refine ar (λa:Io=>a.i<=ps.length/\u5 l ops ps LA a.L a.bR/\pj l (S1 ops ps a.i 0) a.L) [1,3,4,5,6,35,36] (λa=>[(37,al .i64 (a.i:Nat))]) (M5 l ops ps) (λa=>ps.length-a.i) ⟨0,LA,false⟩
   ⟨WG _,⟨hI,λ_ h=>h,λ_=>rfl,(λh=>by cases h)⟩,λz hz=>absurd hz TV⟩ ?_ (λa hJ=>?_)
  .refine View.o1 5 [0,1,2,3,4] [] (Tm l ops ps LA false 5 [])
  obtain⟨p,L,bR⟩:=a;obtain⟨hp,hP,hD⟩:=hJ;have hp:p<=ps.length:=hp;have hP:u5 l ops ps LA L bR:=hP;have hD:pj l (S1 ops ps p 0) L:=hD;refine am (λh=>?_) (λh=>?_)
  .have fP:p<ps.length:=by have h:(p:Int)<((ps.map aL.enc).length:Int):=h;rw[O9]at h;omega
   have nS:=wy fP;have nf:=i3 _ (aaR fP);have hg:cm (ps.map aL.enc) (p:Nat)=some (ps[p].enc):=by rw[aU,Qu,nS];rfl
   generalize ps[p]=pr at nS hg nf;obtain⟨aF,fenced,code,an⟩:=pr;have nf:an.length<=4194304:=nf;refine af (x:=[.val (.bool aF),.val (.bool fenced),.val (.int .i64 code),gL an]) hg ?_;refine ar (λa:Io=>a.i<=an.length/\u5 l ops ps LA a.L a.bR/\pj l (S1 ops ps p a.i) a.L) [1,3,4,5,6,8,35,36,37,42,43] (λa=>[(44,al .i64 (a.i:Nat))]) (M6 l ops ps [.val (.bool aF),.val (.bool fenced),.val (.int .i64 code),gL an]) (λa=>an.length-a.i) ⟨0,L,bR⟩
    ⟨WG _,hP,hD⟩ ?_ (λa hJ=>?_)
   .refine View.o1 6 [0,1,2,3,4,5] [] (TU l ops ps L bR [.val (.bool aF),.val (.bool fenced),.val (.int .i64 code),gL an] 6 [])
   clear hP hD;obtain⟨j,L,bR⟩:=a;obtain⟨hj,hP,hD⟩:=hJ;have hj:j<=an.length:=hj;have hP:u5 l ops ps LA L bR:=hP;have hD:pj l (S1 ops ps p j) L:=hD;refine am (λf4=>?_) (λf4=>?_)
   .have bQ:j<an.length:=by have h:(j:Int)<((an.map dJ.enc).length:Int):=f4;rw[O9]at h;omega
    have hs:=wy bQ;have pq:cm (an.map dJ.enc) (j:Nat)=some (an[j].enc):=by rw[aU,Qu,hs];rfl
    generalize an[j]=s at hs pq;obtain⟨has,b8,rts⟩:=s;refine af (x:=[.val (.bool has),.val (.int .i64 b8),.val (.int .i64 rts)]) pq ?_;have skip:¬(aF=true/\has=true)->pj l (S1 ops ps p (j+1)) L:=λhn=>hD.mono λy hy=>by
     rcases J8 nS hs hy with h|⟨h1,h2,_⟩
     .exact h
     .exact absurd ⟨h1,h2⟩ hn
    refine aA (λbO=>?_) (λbO=>?_)
    .refine aA (λhh=>?_) (λhh=>?_)
     .refine J7 l ops ps b8 rts L bR [.var [.ai (.val (.bool aF)),.ai (.val (.bool fenced)),.ai (.val (.int .i64 code)),.ai (gL an)],.var [.ai (.val (.bool has)),.ai (.val (.int .i64 b8)),.ai (.val (.int .i64 rts))]] ?_;refine⟨⟨j+1,cR l (dO ops b8) L,gK l (dO ops b8) L bR⟩,⟨bQ,hP.mark (MM nS hs bO hh L),hD.mark λy hy=>?_⟩,(show an.length-(j+1)<an.length-j by omega),View.o 7 [0,1,2,3,4,5] [] ?_ (TU l ops ps _ _ [.val (.bool aF),.val (.bool fenced),.val (.int .i64 code),gL an] 7 _)⟩
      .rcases J8 nS hs hy with h|⟨_,_,h⟩
       .exact .inl h
       .exact .inr h
      .repeat(first|exact .nil|refine .aH ?_|refine .put (.aN (br om).symm) ?_|refine .eq rfl ?_)
     .refine⟨⟨j+1,L,bR⟩,⟨bQ,hP,skip λh=>by rw[h.2]at hh;cases hh⟩,(show an.length-(j+1)<an.length-j by omega),View.o2 7 [0,1,2,3,4,5] [] (TU l ops ps _ _ [.val (.bool aF),.val (.bool fenced),.val (.int .i64 code),gL an] 7 _)⟩
    .refine⟨⟨j+1,L,bR⟩,⟨bQ,hP,skip λh=>by rw[h.1]at bO;cases bO⟩,(show an.length-(j+1)<an.length-j by omega),View.o2 7 [0,1,2,3,4,5] [] (TU l ops ps _ _ [.val (.bool aF),.val (.bool fenced),.val (.int .i64 code),gL an] 7 _)⟩
   .have rJ:j=an.length:=by have h:¬(j:Int)<((an.map dJ.enc).length:Int):=f4;rw[O9]at h;omega
    subst rJ;refine⟨⟨p+1,L,bR⟩,⟨fP,hP,hD.mono λy hy=>TW nS hy⟩,(show ps.length-(p+1)<ps.length-p by omega),View.o2 6 [0,1,2,3,4] [] (Tm l ops ps L bR 6 _)⟩
  .have vy:p=ps.length:=by have h:¬(p:Int)<((ps.map aL.enc).length:Int):=h;rw[O9]at h;omega
   subst vy;refine ar (λa:Io=>a.i<=l.length/\u5 l ops ps LA a.L a.bR/\pj l (S2 l ops ps LA a.i 0 0) a.L) [1,3,4,5,6,61,62] (λa=>[(63,al .i64 (a.i:Nat))]) (M5 l ops ps) (λa=>l.length-a.i) ⟨0,L,bR⟩
    ⟨WG _,hP,hD.mono λy hy=>TY hy⟩ ?_ (λa hJ=>?_)
   .refine View.o1 5 [0,1,2,3,4] [] (Tm l ops ps L bR 5 [])
   clear hP hD;obtain⟨i,L,bR⟩:=a;obtain⟨hi,hP,hD⟩:=hJ;have hi:i<=l.length:=hi;have hP:u5 l ops ps LA L bR:=hP;have hD:pj l (S2 l ops ps LA i 0 0) L:=hD;refine am (λh=>?_) (λh=>?_)
   .have pG:i<l.length:=by have h:(i:Int)<((l.map Obj.enc).length:Int):=h;rw[O9]at h;omega
    have ho:=wy pG;have qy:=g _ (aaR pG);have hg:=mW pG;generalize l[i]=o at ho qy hg;obtain⟨ah,data,ag,target,aG,aj,aQ,ak,up⟩:=o;refine af hg ?_;refine af (qI (i:Int) L) ?_;obtain⟨es,oh⟩:=qy.t.2.1;have oh:ag=es.map bP:=oh;have KR:ag.length<=8:=qy.e;have I6:aj.length<=8:=qy.q;cases hN:m4 L (i:Int)with
    |false=>
     have AE:i∉LA:=λhm=>by rw[fx.2 (hP.sub i hm)]at hN;cases hN
     refine⟨⟨i+1,L,bR⟩,⟨pG,hP,hD.mono λy hy=>TZ AE hy⟩,(show l.length-(i+1)<l.length-i by omega),View.o2 6 [0,1,2,3,4] [] (Tm l ops ps L bR 6 _)⟩
    |true=>
     have BR:i∈L:=fx.1 hN;have ip:∀{L':List Nat},(∀n,n∈L->n∈L')->i∈L':=λh=>h i BR
     refine ar (λa:Io=>a.i<=ag.length/\(u5 l ops ps LA a.L a.bR/\i∈a.L)/\pj l (S2 l ops ps LA i a.i 0) a.L) [1,3,4,5,6,12,61,62,63,73,74] (λa=>[(75,al .i64 (a.i:Nat))])
      (M6 l ops ps [.val (.int .i64 ah),.sl 1 data,.sl 2 ag,.val (.string target),.val (.int .i64 aG),.sl 4 (aj.map cy.enc),.val (.int .i64 aQ),.val (.int .i64 ak),.val (.int .i64 up)]) (λa=>ag.length-a.i) ⟨0,L,bR⟩
      ⟨WG _,⟨hP,BR⟩,hD⟩ ?_ (λa hJ=>?_)
     .refine View.o1 6 [0,1,2,3,4,5] [] (TU l ops ps L bR [.val (.int .i64 ah),.sl 1 data,.sl 2 ag,.val (.string target),.val (.int .i64 aG),.sl 4 (aj.map cy.enc),.val (.int .i64 aQ),.val (.int .i64 ak),.val (.int .i64 up)] 6 [])
     clear hP hD BR ip hN;obtain⟨k,L,bR⟩:=a;obtain⟨hk,⟨hP,BR⟩,hD⟩:=hJ;have hk:k<=ag.length:=hk;have hP:u5 l ops ps LA L bR:=hP;have BR:i∈L:=BR;have hD:pj l (S2 l ops ps LA i k 0) L:=hD;refine am (λdK=>?_) (λdK=>?_)
     .have eJ:k<ag.length:=by have h:(k:Int)<(ag.length:Int):=dK;omega
      have afC:k<es.length:=by rw[oh]at eJ;simpa using eJ
      have l4:ag[k]? =some (bP es[k]):=by rw[oh,Qu,wy afC];rfl
      have pq:cm ag (k:Nat)=some (bP es[k]):=by rw[aU];exact l4
      generalize es[k]=e at l4 pq;obtain⟨nm,z⟩:=e;refine af (x:=[.val (.string nm),.val (.int .i64 z)]) pq ?_;refine Fd l ops ps z L bR [Bs,.var [.ai (.val (.int .i64 ah)),.ai (.sl 1 data),.ai (.sl 2 ag),.ai (.val (.string target)),.ai (.val (.int .i64 aG)),.ai (.sl 4 (aj.map cy.enc)),.ai (.val (.int .i64 aQ)),.ai (.val (.int .i64 ak)),.ai (.val (.int .i64 up))],.var [.ai (.val (.string nm)),.ai (.val (.int .i64 z))]] ?_;refine⟨⟨k+1,cR l z L,gK l z L bR⟩,⟨eJ,⟨hP.mark λRO RP gF _ hL n hn=>gF.e i _ (hL i BR) ho z n ⟨nm,Vm l4⟩ hn,lL BR⟩,hD.mark λy hy=>XJ ho l4 hy⟩,(show ag.length-(k+1)<ag.length-k by omega),View.o 7 [0,1,2,3,4,5] [] ?_
       (TU l ops ps _ _ [.val (.int .i64 ah),.sl 1 data,.sl 2 ag,.val (.string target),.val (.int .i64 aG),.sl 4 (aj.map cy.enc),.val (.int .i64 aQ),.val (.int .i64 ak),.val (.int .i64 up)] 7 _)⟩
      repeat(first|exact .nil|refine .aH ?_|refine .put (.aN (br om).symm) ?_|refine .eq rfl ?_)
     .have nn:k=ag.length:=by have h:¬(k:Int)<(ag.length:Int):=dK;omega
      refine ar (λa:Io=>a.i<=aj.length/\(u5 l ops ps LA a.L a.bR/\i∈a.L)/\pj l (S2 l ops ps LA i ag.length a.i) a.L) [1,3,4,5,6,12,61,62,63,85,86] (λa=>[(87,al .i64 (a.i:Nat))])
       (M6 l ops ps [.val (.int .i64 ah),.sl 1 data,.sl 2 ag,.val (.string target),.val (.int .i64 aG),.sl 4 (aj.map cy.enc),.val (.int .i64 aQ),.val (.int .i64 ak),.val (.int .i64 up)]) (λa=>aj.length-a.i) ⟨0,L,bR⟩
       ⟨WG _,⟨hP,BR⟩,nn▸hD⟩ ?_ (λa hJ=>?_)
      .refine View.o1 6 [0,1,2,3,4,5] [] (TU l ops ps L bR [.val (.int .i64 ah),.sl 1 data,.sl 2 ag,.val (.string target),.val (.int .i64 aG),.sl 4 (aj.map cy.enc),.val (.int .i64 aQ),.val (.int .i64 ak),.val (.int .i64 up)] 6 [])
      clear hP hD BR;obtain⟨q,L,bR⟩:=a;obtain⟨hq,⟨hP,BR⟩,hD⟩:=hJ;have hq:q<=aj.length:=hq;have hP:u5 l ops ps LA L bR:=hP;have BR:i∈L:=BR;have hD:pj l (S2 l ops ps LA i ag.length q) L:=hD;refine am (λXK=>?_) (λXK=>?_)
      .have XL:q<aj.length:=by have h:(q:Int)<((aj.map cy.enc).length:Int):=XK;rw[O9]at h;omega
       have T3:=wy XL;have EZ:cm (aj.map cy.enc) (q:Nat)=some (aj[q].enc):=by rw[aU,Qu,T3];rfl
       generalize aj[q]=ms at T3 EZ;obtain⟨mdata,has,b8,rts⟩:=ms;refine af (x:=[.sl 1 mdata,.val (.bool has),.val (.int .i64 b8),.val (.int .i64 rts)]) EZ ?_;refine aA (λhh=>?_) (λhh=>?_)
       .refine J7 l ops ps b8 rts L bR [.var [.ai (.val (.int .i64 ah)),.ai (.sl 1 data),.ai (.sl 2 ag),.ai (.val (.string target)),.ai (.val (.int .i64 aG)),.ai (.sl 4 (aj.map cy.enc)),.ai (.val (.int .i64 aQ)),.ai (.val (.int .i64 ak)),.ai (.val (.int .i64 up))],.var [.ai (.sl 1 mdata),.ai (.val (.bool has)),.ai (.val (.int .i64 b8)),.ai (.val (.int .i64 rts))]] ?_;refine⟨⟨q+1,cR l (dO ops b8) L,gK l (dO ops b8) L bR⟩,⟨XL,⟨hP.mark λRO RP gF _ hL n hn=>zh gF (λc hc=>gF.q i _ (hL i BR) ho b8 c ⟨_,Vm T3,hh,rfl⟩ hc) n hn,lL BR⟩,hD.mark λy hy=>?_⟩,(show aj.length-(q+1)<aj.length-q by omega),View.o 7 [0,1,2,3,4,5] [] ?_
         (TU l ops ps _ _ [.val (.int .i64 ah),.sl 1 data,.sl 2 ag,.val (.string target),.val (.int .i64 aG),.sl 4 (aj.map cy.enc),.val (.int .i64 aQ),.val (.int .i64 ak),.val (.int .i64 up)] 7 _)⟩
        .rcases QM ho T3 hy with h|⟨_,h⟩
         .exact .inl h
         .exact .inr h
        .repeat(first|exact .nil|refine .aH ?_|refine .put (.aN (br om).symm) ?_|refine .eq rfl ?_)
       .refine⟨⟨q+1,L,bR⟩,⟨XL,⟨hP,BR⟩,hD.mono λy hy=>?_⟩,(show aj.length-(q+1)<aj.length-q by omega),View.o 7 [0,1,2,3,4,5] [] ?_
         (TU l ops ps _ _ [.val (.int .i64 ah),.sl 1 data,.sl 2 ag,.val (.string target),.val (.int .i64 aG),.sl 4 (aj.map cy.enc),.val (.int .i64 aQ),.val (.int .i64 ak),.val (.int .i64 up)] 7 _)⟩
        .rcases QM ho T3 hy with h|⟨h,_⟩
         .exact h
         .have hh:has=false:=hh;have h:has=true:=h;rw[hh]at h;cases h
        .repeat(first|exact .nil|refine .aH ?_|refine .put (.aN (br om).symm) ?_|refine .eq rfl ?_)
      .have Mh:q=aj.length:=by have h:¬(q:Int)<((aj.map cy.enc).length:Int):=XK;rw[O9]at h;omega
       subst Mh;refine⟨⟨i+1,L,bR⟩,⟨pG,hP,hD.mono λy hy=>T0 ho hy⟩,(show l.length-(i+1)<l.length-i by omega),View.o2 6 [0,1,2,3,4] [] (Tm l ops ps L bR 6 _)⟩
   .have iw:i=l.length:=by have h:¬(i:Int)<((l.map Obj.enc).length:Int):=h;rw[O9]at h;omega
    subst iw;refine⟨(L,bR),⟨hP.H2,λhm=>?_⟩,?_,View.o 6 [0,1,2,5] [] ?_ ?_⟩
    .have hm:bR=false:=hm;have e:=hP.eq hm;rw[<-e]at hD;exact QN hP.H2 hD
    .show 2*QJ l.length L+(if bR then 1 else 0)<2*QJ l.length LA+(if true then 1 else 0)
     cases hm:bR with
     |true=>have:=hP.mU hm;simp;omega
     |false=>
      have e:L=LA:=hP.eq hm;rw[e];simp
    .repeat(first|exact .nil|refine .aH ?_|refine .eq rfl ?_)
    .exact .pt rfl rfl (.eq rfl (by simp[kB])) (.pt rfl rfl (.eq (dg _) aD) (.pt rfl rfl (.eq rfl (by simp[gZ])) (.pt rfl rfl (.eq rfl (by simp[fI])) (.nil _))))
theorem Ff(l:List Obj)(ops:List aT)(ps:List aL)(g:∀o,o∈l->o.sm)(hl:l.length<=4194304)(eF:ps.length<=4194304)(i3:∀p,p∈ps->p.an.length<=4194304):
  body prog c23 [cA l ops ps] [] (λr m=>∃r' m',View 0 ⟨[r],m⟩ ⟨[r'],m'⟩/\Ip l ops ps r' m'):=by
 have none:(∀n,¬vO l 0 n)->Im l ops ps []:=λh=>⟨aD,aD,λn hn=>absurd hn (h n),aD⟩
 refine am (λh=>?_) (λh=>?_)
 .have h0:0<l.length:=by have h:(((l.map Obj.enc).length:Nat):Int)>0:=h;rw[O9]at h;omega
  have ho:=wy h0;have hg:=mW h0;generalize l[0]=o at ho hg;refine af hg ?_;refine bF (λhk=>?_) (λhk=>?_)
  .refine cj [1,3] [] [kB l ops ps,.mp ([0].map fE),gZ] (View.o1 3 [0,1,2] [] ?_) (Iq l ops ps g hl eF i3 [0] ⟨aD,λn hn=>?_,λn hn=>?_,λRO RP _ hr n hn=>?_⟩)
   .exact .pt rfl rfl (.eq rfl (by simp[kB])) (.pt rfl rfl (.eq (dg [0]) aD) (.pt rfl rfl (.eq rfl (by simp[gZ])) (.nil _)))
   .have:n=0:=by simpa using hn
    subst this;exact⟨rfl,o,ho,hk⟩
   .have:=hn.1;have:n=0:=om;simp[this]
   .have:n=0:=by simpa using hn
    subst this;exact hr.1 0 ⟨rfl,o,ho,hk⟩
  .refine cj [1,3] [] [kB l ops ps,.mp (([]:List Nat).map fE),gZ] (View.o1 3 [0,1,2] [] ?_) (Iq l ops ps g hl eF i3 [] (none λn hn=>?_))
   .exact .pt rfl rfl (.eq rfl (by simp[kB])) (.pt rfl rfl (.eq (dg []) aD) (.pt rfl rfl (.eq rfl (by simp[gZ])) (.nil _)))
   .obtain⟨h1,o2,h2,h3⟩:=hn;have:n=0:=om;subst this;rw[ho]at h2;cases h2;exact h3 hk
 .have h0:l.length=0:=by have h:¬(((l.map Obj.enc).length:Nat):Int)>0:=h;rw[O9]at h;omega
  refine cj [1,3] [] [kB l ops ps,.mp (([]:List Nat).map fE),gZ] (View.o1 3 [0,1,2] [] ?_) (Iq l ops ps g hl eF i3 [] (none λn hn=>?_))
  .exact .pt rfl rfl (.eq rfl (by simp[kB])) (.pt rfl rfl (.eq (dg []) aD) (.pt rfl rfl (.eq rfl (by simp[gZ])) (.nil _)))
  .obtain⟨_,o2,h2,_⟩:=hn;have:=(Lw.1 h2).1;omega
theorem MN(l:List Obj)(ops:List aT)(ps:List aL)(g:∀o,o∈l->o.sm)(hl:l.length<=4194304)(eF:ps.length<=4194304)(i3:∀p,p∈ps->p.an.length<=4194304){m:Mem}{K:CV->Mem->Prop}(h:∀L,ij l ops ps L->K (.rv (.one (.map m.length))) (m++ [.mp (L.map fE)])):ap prog 23 [cA l ops ps] m K:=by
 refine be [] m.length rfl rfl rfl rfl (args0:=[cA l ops ps]) rfl (λi b' hi=>by simp at hi) (K0:=Ip l ops ps)
  (bK (cE func23 l23 (Ff l ops ps g hl eF i3)) λr m1 h=>h) (λr m1 hr=>?_)
 obtain⟨L,hL,rfl,rfl⟩:=hr;refine⟨WG _,?_⟩;show K (.rv (.one (.map (m.length+(0-0))))) (fT m [(Bk.mp (L.map fE)).aN _]);rw[cf,dg];exact h L hL
def c24:LF:=Cq prog Tryz.f24 [] []
def c25:LF:=Cq prog Tryz.f25 [] []
theorem l24:bs prog Tryz.f24=some c24:=by kernel_rfl
theorem l25:bs prog Tryz.f25=some c25:=by kernel_rfl
def mI(z:Int):ME:=⟨.int .i64 z,SF⟩
def o9(Q:List Int)(z:Int):Bool:=Q.any λx=>z==x
theorem J9(z:Int):∀Q:List Int,sA (.int .i64 z) (Q.map mI)=some (if o9 Q z=true then some SF else none)
 | []=>rfl
 |n::r=>by
  have ih:=J9 z r;simp only[ab2,sA,mI,ra,decide_true];simp only[o9,ad6]at ih|-;by_cases h:z=n
  .subst h;simp
  .have h1:(z==n)=false:=by simpa using h
   simp only[h1,acz];exact ih
def pk(z:Int)(Q:List Int):List Int:=if o9 Q z=true then Q else Q++ [z]
theorem QO(z:Int):∀Q:List Int,By (.int .i64 z) SF (Q.map mI)=some ((pk z Q).map mI)
 | []=>rfl
 |n::r=>by
  have ih:=QO z r;simp only[ab2,By,mI,ra,decide_true];by_cases h:z=n
  .subst h;have e:pk z (z::r)=z::r:=by simp[pk,o9]
   rw[e];simp[mI]
  .have h1:(z==n)=false:=by simpa using h
   have e:pk z (n::r)=n::pk z r:=by
    have ip:o9 (n::r) z=o9 r z:=by simp only[o9,ad6,h1,acz]
    unfold pk;rw[ip];cases o9 r z<;>rfl
   simp only[h1];rw[e,ih];rfl
theorem T5(x z:Int)(Q:List Int):o9 (pk x Q) z=true↔(o9 Q z=true\/z=x):=by
 rw[pk];split
 .rename_i h;constructor
  .exact .inl
  .rintro(h2|rfl)
   .exact h2
   .exact h
 .simp[o9]
theorem ff{Y:Nat->Nat}(Q:List Int):(Bk.mp (Q.map mI)).aN Y= .mp (Q.map mI):=by simp[Bk.aN,RV.aN,CC.aN,mI,SF,ade]
theorem MO(z rts:Int)(Q:List Int):body prog c24 [.rv (.agg [.ai (.val (.int .i64 z)),.ai (.val (.int .i64 rts))]),.rv (.one (.ptr 1 0))] [.mp (Q.map mI),.var [.map 0]] (λr m=>r= .bG []/\∃x,m=[.mp ((pk z Q).map mI),.var [.map 0],x]):=by refine af (QO z Q) ?_;exact⟨rfl,_,rfl⟩
def fY:Bk:= .var [.bt,.bt,.bt]
def Bt:Bk:= .var [.map 3]
theorem Ka(b0 b1 b2:Bk)(z rts:Int)(Q:List Int)(R:Mem){K:CV->Mem->Prop}(h:K (.bG []) (b0::b1::b2:: .mp ((pk z Q).map mI)::Bt::R)):
  ap prog 24 [.rv (.agg [.ai (.val (.int .i64 z)),.ai (.val (.int .i64 rts))]),.rv (.one (.ptr 4 0))] (b0::b1::b2:: .mp (Q.map mI)::Bt::R) K:=by
 refine be [3,4] (R.length+5) rfl rfl rfl (by simp[eh,Nat.blt]) (args0:=[.rv (.agg [.ai (.val (.int .i64 z)),.ai (.val (.int .i64 rts))]),.rv (.one (.ptr 1 0))]) rfl (m0:=[.mp (Q.map mI),.var [.map 0]]) (λi b' hi=>?_)
  (K0:=λr m=>r= .bG []/\m=[.mp ((pk z Q).map mI),.var [.map 0]])
  (bK (aP func24 l24 (MO z rts Q)) (λr m1 hr=>?_)) (λr m1 hr=>?_)
 .match i,hi with
  |0,hi=>cases hi;exact .inr ⟨λh=>h,_,rfl,.eq (ff Q) aD⟩
  |1,hi=>cases hi;exact .inr ⟨λh=>h,_,rfl,.eq rfl aD⟩
  |n+2,hi=>simp at hi
 .obtain⟨rfl,x,rfl⟩:=hr;exact⟨.bG [],[.mp ((pk z Q).map mI),.var [.map 0]],View.o 3 [0,1] [] (.eq rfl .nil) (.pt rfl rfl (.eq (ff _) aD) (.pm rfl rfl rfl)),rfl,rfl⟩
 .obtain⟨rfl,rfl⟩:=hr;refine⟨aai _,?_⟩;show K (.bG []) (b0::b1::b2::(Bk.mp ((pk z Q).map mI)).aN (sg [3,4] (R.length+5))::Bt::fT R []);rw[ff,cf,ab9];exact h
theorem Ir(l:List Obj)(hl:l.length<=4194304)(p:Int):body prog c25 [cJ l,al .i64 p] [] (λr m=>r=aq (l.any (cN p))):=by
 refine ar (λk=>k<=l.length/\∀(j:Nat)o,j<k->l[j]? =some o->cN p o=false) [0,1,7,8] (λk=>[(9,al .i64 (k:Nat))]) (λ_=>[]) (λk=>l.length-k) 0 ⟨WG _,λj o h=>absurd h (abE j)⟩ ?_ (λk hk=>?_)
 .refine View.o1 0 [] [] (.nil _)
 obtain⟨dK,AR⟩:=hk;have dK:k<=l.length:=dK;refine am (λh=>?_) (λh=>?_)
 .have ax:k<l.length:=by have h:(k:Int)<((l.map Obj.enc).length:Int):=h;rw[O9]at h;omega
  have ho:=wy ax;have hg:=mW ax;have kR:=aaR ax;generalize l[k]=o at ho hg kR;obtain⟨ah,data,ag,target,aG,aj,aQ,ak,up⟩:=o;refine af hg ?_;have next:cN p ⟨ah,data,ag,target,aG,aj,aQ,ak,up⟩=false->∀(j:Nat)o,j<k+1->l[j]? =some o->cN p o=false:=by
   intro hf j o hj VK;rcases aax j k with h5|h5
   .exact AR j o h5 VK
   .have:j=k:=om;subst this;rw[ho]at VK;cases VK;exact hf
  refine ba (λh5=>?_) (λh5=>?_)
  .refine ba (λhp=>?_) (λhp=>?_)
   .show aq true=aq _;have:l.any (cN p)=true:=abP.2 ⟨_,kR,by simp only[cN];rw[show ah=5 from h5,show aQ=p from hp];simp⟩
    rw[this]
   .refine⟨k+1,⟨ax,next (by simp only[cN];rw[beq_eq_false_iff_ne.2 (show aQ≠p from hp)];simp)⟩,(show l.length-(k+1)<l.length-k by omega),View.o2 1 [] [] (.nil _)⟩
  .refine⟨k+1,⟨ax,next (by simp only[cN];rw[beq_eq_false_iff_ne.2 (show ah≠5 from h5)];simp)⟩,(show l.length-(k+1)<l.length-k by omega),View.o2 1 [] [] (.nil _)⟩
 .have nn:k=l.length:=by have h:¬(k:Int)<((l.map Obj.enc).length:Int):=h;rw[O9]at h;omega
  subst nn;show aq false=aq _;have:l.any (cN p)=false:=by rw[aeD];intro o ho;obtain⟨j,hj⟩:=aak ho;simpa using AR j o (Lw.1 hj).1 hj
  rw[this]
theorem QP(l:List Obj)(hl:l.length<=4194304)(p:Int){m:Mem}{K:CV->Mem->Prop}(h:K (aq (l.any (cN p))) m):ap prog 25 [cJ l,al .i64 p] m K:=
 bu func25 l25 rfl (aav rfl) (Ir l hl p) rfl rfl h
theorem u6(l:List Obj)(hl:l.length<=4194304)(p:Int){m:Mem}{id:Nat}(hb:dh m id=some (.row 9 (aa (l.map Obj.enc)))){K:CV->Mem->Prop}(h:K (aq (l.any (cN p))) m):ap prog 25 [.rv (.one (.row id 9 0 none)),al .i64 p] m K:=
 xR [id] (args0:=[cJ l,al .i64 p]) (QP l hl p (K:=λr _=>r=aq (l.any (cN p))) rfl) (.put (sq.dG id (l.map Obj.enc) (by simp[bc]) hb) (.eq rfl .nil)) λr m1 hr=>by subst hr;exact⟨rfl,h⟩
def c8:LF:=Cq prog f8 [[1,1,0,1,4,0],[1,1,0,1,5,0],[1,1,0,1,7,0],[1,1,0,1,8,0],[1,1,0,1,9,0],[2,0],[4,0],[5,0],[6,0],[7]] [[(d9 6 0 (d9 10 8 (.zB (.cons 6 (some [17,16,13,11,9,1]) (.cons 7 none (.cons 18 (some [7,13,11,9,5,4,1]) (.cons 19 none (.cons 20 none (.cons 21 (some []) .nil)))))) (.cons 18 (some [13,11,9,5,4,1]) (.cons 19 none (.cons 6 (some [19,17,16,13,11,9,1]) (.cons 7 none (.cons 20 none (.cons 21 (some []) .nil)))))))))]]
theorem l8:bs prog f8=some c8.er:=by kernel_rfl
def abu:LC->LC
 | .block _ b=>b
 |x=>x
def afD:LC->LC
 | .loop b=>b
 |x=>x
def B21:LC:=abu (bi (afD (abu (bi (oK (bi c8.code))))))
def T33:LC:=bi (bi (bi (bi B21)))
def T59:LC:=bi T33
def T89:LC:=bi T59
def T90:LC:=bi T89
def XM:LC:=bi T90
def XN:LC:=bi XM
def X33:LC:=l5 (oK T33)
def X59:LC:=l5 (oK T59)
def X90:LC:=l5 (oK T90)
def afF:LC:=l5 (oK XM)
def afG:LC:=l5 (oK XN)
def afH:LC:=bi XN
def Bu(L:List Nat)(i:Nat)(o:Obj):Obj:=if m4 L (i:Int)=false then dS else if o.ah=4/\m4 L o.aG=false then {o with aG:= -1}else o
def Is(Q:List Int)(i:Nat)(o:aT):aT:=if o9 Q (i:Int)=false then⟨-1,0⟩else o
def It(l':List Obj)(i:Nat)(p:aL):Bool:=decide (0<i)&&(p.aF&& !(l'.any (cN (i:Nat))))
def QQ(l':List Obj)(i:Nat)(p:aL):aL:=if It l' i p=true then fl else p
def q8(L:List Nat)(l:List Obj):List Obj:=l.mapIdx (Bu L)
def qn(Q:List Int)(ops:List aT):List aT:=ops.mapIdx (Is Q)
def z7(l':List Obj)(ps:List aL):List aL:=ps.mapIdx (QQ l')
def C9(l':List Obj)(ps:List aL):Nat->Bool
 |0=>false
 |k+1=>(match ps[k]? with|some p=>It l' k p|none=>false)||C9 l' ps k
theorem qq{α β:Type}{f:Nat->α->β}{l:List α}{i:Nat}{x:α}(h:l[i]? =some x):(l.mapIdx f).take (i+1)=(l.mapIdx f).take i++ [f i x]:=
 nH (by rw[ab1,h];rfl)
def p0(id:Nat):CV:= .rv (.one (.ptr id 0))
def ua(a b c:CC):Bk:= .var [a,b,c]
def XO(l:List Obj)(ops:List aT)(ps:List aL)(l':List Obj)(kW:List aT)(oy:List aL):Mem:=
 [kB l ops ps,fY,.aE,.aE,.aE,ua (.row 6 9 0 none) (.row 7 2 0 none) (.row 8 4 0 none),.row 9 (aa (l'.map Obj.enc)),.row 2 (aa (kW.map aT.enc)),.row 4 (aa (oy.map aL.enc))]
theorem afI(l:List Obj)(ops:List aT)(ps:List aL)(eF:ps.length<=4194304)(l':List Obj)(Du:l'.length<=4194304)(kW:List aT)(K:Ex->St->Prop)(hK:∀e m,View 0 ⟨e,m⟩ ⟨i5 284 [(1,p0 0),(2,p0 1),(3,aq (C9 l' ps ps.length))],[ua (.row 2 9 0 none) (.row 3 2 0 none) (.row 4 4 0 none),fY,.row 9 (aa (l'.map Obj.enc)),.row 2 (aa (kW.map aT.enc)),.row 4 (aa ((z7 l' ps).map aL.enc))]⟩->K .normal ⟨e,m⟩):
  aw prog 0 afG (ow (aw prog 0 afH) K) ⟨i5 284 [(1,p0 0),(2,p0 1),(3,aq false),(14,p0 5)],XO l ops ps l' kW []⟩:=by
 refine ar (λi=>i<=ps.length) [1,2,14,142,143] (λi=>[(3,aq (C9 l' ps i)),(144,al .i64 (i:Nat))]) (λi=>XO l ops ps l' kW ((z7 l' ps).take i)) (λi=>ps.length-i) 0 (WG _) ?_ (λi hi=>?_)
 .refine View.o1 9 [0,1,2,3,4,5,6,7,8] [] ?_
  .exact .pt rfl rfl (.eq rfl (by simp[kB])) (.pt rfl rfl (.eq rfl (by simp[fY])) (.aE (.aE (.aE (.pt rfl rfl (.eq rfl (by simp[ua])) (.pr rfl rfl rfl (.pr rfl rfl rfl (.pn rfl rfl rfl))))))))
 have hi:i<=ps.length:=hi;refine am (λh=>?_) (λh=>?_)
 .have ax:i<ps.length:=by have h:(i:Int)<((ps.map aL.enc).length:Int):=h;rw[O9]at h;omega
  have hp:=wy ax;have hg:cm (ps.map aL.enc) (i:Nat)=some (ps[i].enc):=by rw[aU,Qu,hp];rfl
  generalize ps[i]=p at hp hg;have hT:(z7 l' ps).take (i+1)=(z7 l' ps).take i++ [QQ l' i p]:=qq hp;have hM:C9 l' ps (i+1)=(It l' i p||C9 l' ps i):=by rw[C9,hp]
  obtain⟨aF,fenced,code,an⟩:=p;refine af (x:=[.val (.bool aF),.val (.bool fenced),.val (.int .i64 code),gL an]) hg ?_;have mU:((aa (((z7 l' ps).take i).map aL.enc)).length+1)*40<=140737488355328:=by rw[aJ,O9,aa8];omega
  have ez:It l' i ⟨aF,fenced,code,an⟩=false->∀e,iB (sg [0,1,2,3,4,5,6,7,11] 12) [kB l ops ps,fY,.aE,.aE,.aE,ua (.row 6 9 0 none) (.row 7 2 0 none) (.row 11 4 0 none),.row 9 (aa (l'.map Obj.enc)),.row 2 (aa (kW.map aT.enc)),.aE,.var [.ai (.val (.bool aF)),.ai (.val (.bool fenced)),.ai (.val (.int .i64 code)),.ai (gL an)],.aE,.row 4 (aa (((z7 l' ps).take i).map aL.enc)++ [[.ai (.val (.bool aF)),.ai (.val (.bool fenced)),.ai (.val (.int .i64 code)),.ai (gL an)]])] (λk=>bc [] k=true) e
     (UJ [1,2,14,142,143] (i5 284 [(1,p0 0),(2,p0 1),(14,p0 5),(142,.rv (.one (.ai (dZ ps)))),(143,al .i64 (ps.map aL.enc).length)]) [(3,aq (C9 l' ps (i+1))),(144,al .i64 ((i+1:Nat):Int))])->
    View 0 ⟨e,[kB l ops ps,fY,.aE,.aE,.aE,ua (.row 6 9 0 none) (.row 7 2 0 none) (.row 11 4 0 none),.row 9 (aa (l'.map Obj.enc)),.row 2 (aa (kW.map aT.enc)),.aE,.var [.ai (.val (.bool aF)),.ai (.val (.bool fenced)),.ai (.val (.int .i64 code)),.ai (gL an)],.aE,.row 4 (aa (((z7 l' ps).take i).map aL.enc)++ [[.ai (.val (.bool aF)),.ai (.val (.bool fenced)),.ai (.val (.int .i64 code)),.ai (gL an)]])]⟩
     ⟨UJ [1,2,14,142,143] (i5 284 [(1,p0 0),(2,p0 1),(14,p0 5),(142,.rv (.one (.ai (dZ ps)))),(143,al .i64 (ps.map aL.enc).length)]) [(3,aq (C9 l' ps (i+1))),(144,al .i64 ((i+1:Nat):Int))],XO l ops ps l' kW ((z7 l' ps).take (i+1))⟩:=by
   intro hb e he;refine View.o 12 [0,1,2,3,4,5,6,7,11] [] he ?_;refine .pt rfl rfl (.eq rfl (by simp[kB])) (.pt rfl rfl (.eq rfl (by simp[fY])) (.aE (.aE (.aE (.pt rfl rfl (.eq rfl (by simp[ua])) (.pr rfl rfl rfl (.pr rfl rfl rfl (.pt rfl rfl (.bn ?_) (.nil _)))))))))
   have e1:QQ l' i ⟨aF,fenced,code,an⟩=⟨aF,fenced,code,an⟩:=by rw[QQ,hb];rfl
   rw[hT,e1,abM,bZ];rfl
  refine am (λh0=>?_) (λh0=>?_)
  .have h0:0<i:=by have h0:(i:Int)>0:=h0;omega
   refine aA (λbO=>?_) (λbO=>?_)
   .refine u6 l' Du (i:Nat) (id:=6) rfl ?_;refine aA (λhh=>?_) (λhh=>?_)
    .have hb:It l' i ⟨aF,fenced,code,an⟩=true:=by simp only[It];rw[decide_eq_true h0,bO];exact hh
     have e1:QQ l' i ⟨aF,fenced,code,an⟩=fl:=by rw[QQ,hb];rfl
     refine⟨mU,i+1,ax,(show ps.length-(i+1)<ps.length-i by omega),View.o 12 [0,1,2,3,4,5,6,7,11] [] ?_ ?_⟩
     .rw[hM,hb,Bool.true_or];repeat(first|exact .nil|refine .aH ?_|refine .put (.aN (br om).symm) ?_|refine .eq rfl ?_)
     .refine .pt rfl rfl (.eq rfl (by simp[kB])) (.pt rfl rfl (.eq rfl (by simp[fY])) (.aE (.aE (.aE (.pt rfl rfl (.eq rfl (by simp[ua])) (.pr rfl rfl rfl (.pr rfl rfl rfl (.pt rfl rfl ?_ (.nil _)))))))))
      rw[hT,e1,abM,bZ];refine .uy (dk _ _) rfl λj c c' h1 h2=>?_
      match j,h1,h2 with
      |0,h1,h2=>cases h1;cases h2;exact .aN (.ai _)
      |1,h1,h2=>cases h1;cases h2;exact .aN (.ai _)
      |2,h1,h2=>cases h1;cases h2;exact .aN (.ai _)
      |3,h1,h2=>cases h1;cases h2;exact .dG (.bt 3)
      |n+4,h1,h2=>simp at h1
    .have hb:It l' i ⟨aF,fenced,code,an⟩=false:=by simp only[It];rw[decide_eq_true h0,bO];exact hh
     refine⟨mU,i+1,ax,(show ps.length-(i+1)<ps.length-i by omega),ez hb _ ?_⟩
     rw[hM,hb,acz];repeat(first|exact .nil|refine .aH ?_|refine .put (.aN (br om).symm) ?_|refine .eq rfl ?_)
   .have hb:It l' i ⟨aF,fenced,code,an⟩=false:=by simp only[It];rw[show aF=false from bO];simp
    refine⟨mU,i+1,ax,(show ps.length-(i+1)<ps.length-i by omega),ez hb _ ?_⟩
    rw[hM,hb,acz];repeat(first|exact .nil|refine .aH ?_|refine .put (.aN (br om).symm) ?_|refine .eq rfl ?_)
  .have h0:¬0<i:=by have h0:¬(i:Int)>0:=h0;omega
   have hb:It l' i ⟨aF,fenced,code,an⟩=false:=by simp only[It];rw[decide_eq_false h0];rfl
   refine⟨mU,i+1,ax,(show ps.length-(i+1)<ps.length-i by omega),ez hb _ ?_⟩
   rw[hM,hb,acz];repeat(first|exact .nil|refine .aH ?_|refine .put (.aN (br om).symm) ?_|refine .eq rfl ?_)
 .have iw:i=ps.length:=by have h:¬(i:Int)<((ps.map aL.enc).length:Int):=h;rw[O9]at h;omega
  subst iw;have hT:(z7 l' ps).take ps.length=z7 l' ps:=ach (by simp[z7])
  refine hK _ _ (View.o1 9 [0,1,6,7,8] [] ?_)
  .exact .pt rfl rfl (.eq rfl (by simp[ua])) (.pt rfl rfl (.eq rfl (by simp[fY])) (.pr rfl rfl rfl (.pr rfl rfl rfl (.pt rfl rfl (.bn (by rw[hT])) (.nil _)))))
end Go.Proofs.YtllkfpggoigbaaaGreatDoor
