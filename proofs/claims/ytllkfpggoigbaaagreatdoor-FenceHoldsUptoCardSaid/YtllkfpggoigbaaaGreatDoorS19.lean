/- Part 19 of 35. -/
import Derived.Test.YtllkfpggoigbaaaGreatDoorS15
import Derived.Test.YtllkfpggoigbaaaGreatDoorS18
set_option linter.unusedVariables false
set_option linter.unusedSimpArgs false
set_option linter.unnecessarySimpa false
set_option maxRecDepth 100000
set_option maxHeartbeats 0
namespace Go.Proofs.YtllkfpggoigbaaaGreatDoor
open Proofs.Tryz
open Go.AM Go.ChangeShapes Go.WideShapes Go.ChangeAt Go.RowKit
def jY(L:List Obj)(t:Nat)(o:aL):Bool:=decide (0<t)&&(o.aF&& !(L.any (cN (t:Int))))
def zT(b:Mk)(k:Nat)(t:Nat)(o:aT):aT:=if(decide (t<k)&& !(b.P[t]? ==some true))=true then⟨-1,0⟩else o
def wM(L:List Obj)(k:Nat)(t:Nat)(o:aL):aL:=if(decide (t<k)&&jY L t o)=true then fl else o
def iT(L:List Obj)(ps:List aL)(k:Nat):Bool:=(List.range k).any λt=>match ps[t]? with
 |some o=>jY L t o
 |none=>false
structure cL(l:List Obj)(ops:List aT)(ps:List aL)(L:List Obj)(L2:List aT)(L3:List aL)(en:Bool):Prop where
 ex:∃b,gm l ops ps b/\Pt l L (cF b l l.length)/\Pt ops L2 (zT b ops.length)
 pr:Pt ps L3 (wM L ps.length)
 en:en=iT L ps ps.length
structure StL where
 i:Nat
 L:List Obj
structure adW where
 i:Nat
 L:List aT
structure St3 where
 i:Nat
 L:List aL
 en:Bool
theorem B9{l:List aT}{n:Nat}(h:n<l.length):dL (n:Int) (lenOf (aa (l.map aT.enc)).length 0 none)=some n:=bJ (by show n<(aa (l.map aT.enc)).length;rw[aJ,O9];exact h)
theorem ng{l:List aL}{n:Nat}(h:n<l.length):dL (n:Int) (lenOf (aa (l.map aL.enc)).length 0 none)=some n:=bJ (by show n<(aa (l.map aL.enc)).length;rw[aJ,O9];exact h)
theorem ya{α:Type}{f:α->List Dt}{l:List α}{k:Nat}(h:(k:Int)<(((aa (l.map f)).length:Nat):Int)):k<l.length:=by rw[aJ,O9]at h;omega
theorem yb{α:Type}{f:α->List Dt}{l:List α}{k:Nat}(h:¬(k:Int)<(((aa (l.map f)).length:Nat):Int)):l.length<=k:=by rw[aJ,O9]at h;omega
theorem GK{L:List Obj}{ps:List aL}{p:Nat}(h:p<ps.length):iT L ps (p+1)=(iT L ps p||jY L p ps[p]):=by
 unfold iT;rw[ads,List.any_append,wy h|>λe=>(by simp[e]:(List.any [p] λt=>match ps[t]? with|some o=>jY L t o|none=>false)=jY L p ps[p])]
theorem GL(L:List Obj)(L2:List aT)(L3:List aL)(b:Mk)(p:Nat)(hl:L.length<=4194304){K:CV->Mem->Prop}(h:K (aq (L.any (cN (p:Int)))) [.var [.row 1 9 0 none,.row 2 2 0 none,.row 3 4 0 none],.row 9 (aa (L.map Obj.enc)),.row 2 (aa (L2.map aT.enc)),.row 4 (aa (L3.map aL.enc)),.var [.ptr 0 0,.row 5 1 0 none,.row 6 1 0 none],.row 1 (aa (b.O.map bE)),.row 1 (aa (b.P.map bE)),.var [.ai (.val (.int .i64 (p:Nat)))]]):ap prog 89 [.rv (.one (.row 1 9 0 none)),.rv (.one (.fn 130 [7]))] [.var [.row 1 9 0 none,.row 2 2 0 none,.row 3 4 0 none],.row 9 (aa (L.map Obj.enc)),.row 2 (aa (L2.map aT.enc)),.row 4 (aa (L3.map aL.enc)),.var [.ptr 0 0,.row 5 1 0 none,.row 6 1 0 none],.row 1 (aa (b.O.map bE)),.row 1 (aa (b.P.map bE)),.var [.ai (.val (.int .i64 (p:Nat)))]] K:=by
 refine be [1,7] 8 rfl rfl rfl rfl (args0:=[.rv (.one (.row 0 9 0 none)),.rv (.one (.fn 130 [1]))]) rfl (λi b' hi=>?_) (OF L hl 130 [.val (.int .i64 (p:Nat))] (cN (p:Int)) (λs K hK=>We s p K hK)) (λr m1 hr=>?_)
 .match i,hi with
  |0,hi=>cases hi;exact .inr ⟨λh=>h,_,rfl,.bn rfl⟩
  |1,hi=>cases hi;exact .inr ⟨λh=>h,_,rfl,.k9 rfl⟩
  |n+2,hi=>simp at hi
 .obtain⟨rfl,rfl⟩:=hr;refine⟨aai _,?_⟩;have e:(Bk.row 9 (aa (L.map Obj.enc))).aN (sg [1,7] 8)= .row 9 (aa (L.map Obj.enc)):=by simp only[Bk.aN,dk]
  show K _ [.var [.row 1 9 0 none,.row 2 2 0 none,.row 3 4 0 none],(Bk.row 9 (aa (L.map Obj.enc))).aN (sg [1,7] 8),.row 2 (aa (L2.map aT.enc)),.row 4 (aa (L3.map aL.enc)),.var [.ptr 0 0,.row 5 1 0 none,.row 6 1 0 none],.row 1 (aa (b.O.map bE)),.row 1 (aa (b.P.map bE)),.var [.ai (.val (.int .i64 (p:Nat)))]];rw[e];exact h
theorem l88:bs prog f88=some c88:=by kernel_rfl
theorem Lh(l:List Obj)(ops:List aT)(ps:List aL)(g:∀o,o∈l->o.sm)(hl:l.length<=4194304)(ho:ops.length<=4194304)(eF:ps.length<=4194304)(i3:∀p,p∈ps->p.an.length<=10):
  body prog c88 [.rv (.one (.ptr 0 0))] [.var [.row 1 9 0 none,.row 2 2 0 none,.row 3 4 0 none],.row 9 (aa (l.map Obj.enc)),.row 2 (aa (ops.map aT.enc)),.row 4 (aa (ps.map aL.enc))]
   (λr m=>∃r' m',View 4 ⟨[r],m⟩ ⟨[r'],m'⟩/\∃L L2 L3 en,cL l ops ps L L2 L3 en/\r'=aq en/\m'=[.var [.row 1 9 0 none,.row 2 2 0 none,.row 3 4 0 none],.row 9 (aa (L.map Obj.enc)),.row 2 (aa (L2.map aT.enc)),.row 4 (aa (L3.map aL.enc))]):=by
 refine(OE l ops ps g hl ho eF i3).mono λr m⟨b,hb,hr,hm⟩=>?_
 subst hr hm;have hbO:=hb.len.1;have hbP:=hb.len.2;refine ar (λ(s:StL)=>s.i<=l.length/\Pt l s.L (cF b l s.i)) [0,3,16] (λs=>[(17,al .i64 (s.i:Nat))]) (λs=>[.var [.row 1 9 0 none,.row 2 2 0 none,.row 3 4 0 none],.row 9 (aa (s.L.map Obj.enc)),.row 2 (aa (ops.map aT.enc)),.row 4 (aa (ps.map aL.enc)),.var [.ptr 0 0,.row 5 1 0 none,.row 6 1 0 none],.row 1 (aa (b.O.map bE)),.row 1 (aa (b.P.map bE))]) (λs=>l.length-s.i) ⟨0,l⟩ ⟨WG _,(Pt.refl l).congr λt o _=>(D7 b l t o).symm⟩ ?_ (λs hs=>?_)
 .refine View.o1 7 [0,1,2,3,4,5,6] [] ?_
  .exact .au
 obtain⟨i,L⟩:=s;obtain⟨hi,AV⟩:=hs;have hi:i<=l.length:=hi;have AV:Pt l L (cF b l i):=AV;refine am (λh=>?_) (λh=>?_)
 .have ax:i<l.length:=ya h;have hiO:i<b.O.length:=om;refine af (tm hiO) ?_;refine af (oL hiO) ?_;have qW:∀(hd:dH b l i=false),Pt l L (cF b l (i+1)):=λhd=>AV.congr λt o _=>Lg hd t o
  refine aA (λh2=>?_) (λh2=>?_)
  .have hd:dH b l i=false:=by unfold dH;rw[wy ax,wy hiO,h2];simp
   refine⟨⟨i+1,L⟩,⟨ax,qW hd⟩,(show l.length-(i+1)<l.length-i by omega),View.o2 7 [0,1,2,3,4,5,6] [] ?_⟩
   .exact .au
  .obtain⟨hL,hLi⟩:=AV.at ax;have UK:L[i].ah=l[i].ah:=by rw[hLi,D8]
   refine af (AU hL) ?_;refine af (bm Obj.enc L hL) ?_;refine ba (λh3=>?_) (λh3=>?_)
   .have h3:L[i].ah=0:=h3;have hd:dH b l i=false:=by unfold dH;rw[wy ax];show(!(b.O[i]? ==some true)&&l[i].ah !=0)=false;rw[<-UK,h3];simp
    refine⟨⟨i+1,L⟩,⟨ax,qW hd⟩,(show l.length-(i+1)<l.length-i by omega),View.o2 7 [0,1,2,3,4,5,6] [] ?_⟩
    .exact .au
   .have h3:L[i].ah≠0:=h3;have hd:dH b l i=true:=by unfold dH;rw[wy ax,wy hiO,h2];simp[<-UK,h3]
    have hLl:=AV.1;refine ar (λ(s:StL)=>s.i<=l.length/\Pt l s.L (λt o=>if t<s.i then jX i (cF b l i t o)else cF b l i t o)) [0,3,4,16,17,42] (λs=>[(43,al .i64 (s.i:Nat))]) (λs=>[.var [.row 1 9 0 none,.row 2 2 0 none,.row 3 4 0 none],.row 9 (aa (s.L.map Obj.enc)),.row 2 (aa (ops.map aT.enc)),.row 4 (aa (ps.map aL.enc)),.var [.ptr 0 0,.row 5 1 0 none,.row 6 1 0 none],.row 1 (aa (b.O.map bE)),.row 1 (aa (b.P.map bE))]) (λs=>l.length-s.i) ⟨0,L⟩ ⟨WG _,AV.congr λt o _=>aD⟩ ?_ (λs hs=>?_)
    .refine View.o1 7 [0,1,2,3,4,5,6] [] ?_
     .exact .au
    clear AV qW;obtain⟨j,M⟩:=s;obtain⟨hj,AV⟩:=hs;have hj:j<=l.length:=hj;have AV:Pt l M (λt o=>if t<j then jX i (cF b l i t o)else cF b l i t o):=AV
    have hMl:=AV.1;refine am (λf4=>?_) (λf4=>?_)
    .have bQ:j<L.length:=ya f4;have Li:j<l.length:=om;obtain⟨hM,Yg⟩:=AV.at Li;simp only[ad1,if_false]at Yg;have jE:=λx=>AV.set (j:=j) (x:=x) (g:=λt o=>if t<j+1 then jX i (cF b l i t o)else cF b l i t o)
     have sO:=λ(hh:jX i M[j]=M[j])=>AV.congr (g:=λt o=>if t<j+1 then jX i (cF b l i t o)else cF b l i t o) λt o ho=>by
      by_cases M2:t=j
      .subst M2;rw[wy Li]at ho;cases ho;simp only[ad1,if_false,acI,if_true];rw[<-Yg,hh]
      .have e1:(t<j+1)↔(t<j):=om;simp only[e1]
     refine af (AU hM) ?_;refine af (bm Obj.enc M hM) ?_;have RN:=bm Obj.enc M hM;generalize hx:M[j]=x at Yg sO RN;refine ba (λh4=>?_) (λh4=>?_)
     .have h4:x.ah=4:=h4;refine af (AU hM) ?_;refine af RN ?_;refine ba (λh5=>?_) (λh5=>?_)
      .have h5:x.aG=(i:Int):=h5;refine af (AU hM) ?_;refine af RN ?_;have hs:=jE {x with aG:= -1} (λo ho=>by
        rw[wy Li]at ho;cases ho;simp only[acI,if_true];rw[<-Yg];simp[jX,h4,h5]) (λt o M2 _=>by
        have e1:(t<j+1)↔(t<j):=om;simp only[e1])
       refine⟨⟨j+1,M.set j {x with aG:= -1}⟩,⟨Li,hs⟩,(show l.length-(j+1)<l.length-j by omega),View.o2 7 [0,1,2,3,4,5,6] [] ?_⟩
       .exact(.pe rfl rfl rfl (.pt rfl rfl (.bn (lZ Obj.enc M j {x with aG:= -1})) (.pr rfl rfl rfl (.pr rfl rfl rfl (.pe rfl rfl rfl (.pr rfl rfl rfl (.pn rfl rfl rfl)))))))
      .have h5:x.aG≠(i:Int):=h5;refine⟨⟨j+1,M⟩,⟨Li,sO (by simp[jX,h5])⟩,(show l.length-(j+1)<l.length-j by omega),View.o2 7 [0,1,2,3,4,5,6] [] ?_⟩
       .exact .au
     .have h4:x.ah≠4:=h4;refine⟨⟨j+1,M⟩,⟨Li,sO (by simp[jX,h4])⟩,(show l.length-(j+1)<l.length-j by omega),View.o2 7 [0,1,2,3,4,5,6] [] ?_⟩
      .exact .au
    .have rJ:L.length<=j:=yb f4;have hM:i<M.length:=om;refine af (AU hM) ?_;refine af (bm Obj.enc M hM) ?_;have hs:=AV.set (j:=i) (x:=dS) (g:=cF b l (i+1)) (λo _=>D6 hd o) (λt o Oc ht=>by
      have:t<j:=by have:=(Lw.1 ht).1;omega
      rw[if_pos this,GJ hd Oc])
     refine⟨⟨i+1,M.set i dS⟩,⟨ax,hs⟩,(show l.length-(i+1)<l.length-i by omega),View.o2 7 [0,1,2,3,4,5,6] [] ?_⟩
     .exact(.pe rfl rfl rfl (.pt rfl rfl (adV M i) (.pr rfl rfl rfl (.pr rfl rfl rfl (.pe rfl rfl rfl (.pr rfl rfl rfl (.pn rfl rfl rfl)))))))
 .have h9:l.length<=i:=yb h;have iw:i=l.length:=om;subst iw;have hLl:=AV.1;refine ar (λ(s:adW)=>s.i<=ops.length/\Pt ops s.L (zT b s.i)) [0,3,87] (λs=>[(88,al .i64 (s.i:Nat))]) (λs=>[.var [.row 1 9 0 none,.row 2 2 0 none,.row 3 4 0 none],.row 9 (aa (L.map Obj.enc)),.row 2 (aa (s.L.map aT.enc)),.row 4 (aa (ps.map aL.enc)),.var [.ptr 0 0,.row 5 1 0 none,.row 6 1 0 none],.row 1 (aa (b.O.map bE)),.row 1 (aa (b.P.map bE))]) (λs=>ops.length-s.i) ⟨0,ops⟩ ⟨WG _,(Pt.refl ops).congr λt o _=>by simp[zT]⟩ ?_ (λs hs=>?_)
  .refine View.o1 7 [0,1,2,3,4,5,6] [] ?_
   .exact .au
  obtain⟨k,L2⟩:=s;obtain⟨hk,AW⟩:=hs;have hk:k<=ops.length:=hk;have AW:Pt ops L2 (zT b k):=AW;have aiJ:=AW.1;refine am (λh=>?_) (λh=>?_)
  .have eJ:k<ops.length:=ya h;have hkP:k<b.P.length:=om;refine af (tm hkP) ?_;refine af (oL hkP) ?_;have kj:∀t,t≠k->decide (t<k+1)=decide (t<k):=λt ht=>decide_eq_decide.2 om
   refine aA (λh2=>?_) (λh2=>?_)
   .have h2:b.P[k]=false:=by simpa using h2
    have Yh:k<L2.length:=om;refine af (B9 Yh) ?_;refine af (bm aT.enc L2 Yh) ?_;have hs:=AW.set (j:=k) (x:=⟨-1,0⟩) (g:=zT b (k+1)) (λo _=>by simp[zT,wy hkP,h2]) (λt o US _=>by unfold zT;rw[kj t US])
    refine⟨⟨k+1,L2.set k ⟨-1,0⟩⟩,⟨eJ,hs⟩,(show ops.length-(k+1)<ops.length-k by omega),View.o2 7 [0,1,2,3,4,5,6] [] ?_⟩
    .exact(.pe rfl rfl rfl (.pr rfl rfl rfl (.pt rfl rfl (.bn (lZ aT.enc L2 k ⟨-1,0⟩)) (.pr rfl rfl rfl (.pe rfl rfl rfl (.pr rfl rfl rfl (.pn rfl rfl rfl)))))))
   .have h2:b.P[k]=true:=by simpa using h2
    have hs:=AW.congr (g:=zT b (k+1)) λt o _=>by
     by_cases US:t=k
     .subst US;simp[zT,wy hkP,h2]
     .unfold zT;rw[kj t US]
    refine⟨⟨k+1,L2⟩,⟨eJ,hs⟩,(show ops.length-(k+1)<ops.length-k by omega),View.o2 7 [0,1,2,3,4,5,6] [] ?_⟩
    .exact .au
  .have h9:ops.length<=k:=yb h;have nn:k=ops.length:=om;subst nn;refine ar (λ(s:St3)=>s.i<=ps.length/\Pt ps s.L (wM L s.i)/\s.en=iT L ps s.i) [0,3,111] (λs=>[(112,al .i64 (s.i:Nat)),(7,aq s.en)]) (λs=>[.var [.row 1 9 0 none,.row 2 2 0 none,.row 3 4 0 none],.row 9 (aa (L.map Obj.enc)),.row 2 (aa (L2.map aT.enc)),.row 4 (aa (s.L.map aL.enc)),.var [.ptr 0 0,.row 5 1 0 none,.row 6 1 0 none],.row 1 (aa (b.O.map bE)),.row 1 (aa (b.P.map bE))]) (λs=>ps.length-s.i) ⟨0,ps,false⟩ ⟨WG _,(Pt.refl ps).congr λt o _=>by simp[wM],rfl⟩ ?_ (λs hs=>?_)
   .refine View.o1 7 [0,1,2,3,4,5,6] [] ?_
    .exact .au
   obtain⟨p,L3,en⟩:=s;obtain⟨hp,Wg,l4⟩:=hs;have hp:p<=ps.length:=hp;have Wg:Pt ps L3 (wM L p):=Wg;have l4:en=iT L ps p:=l4;have aiK:=Wg.1;refine am (λh=>?_) (λh=>?_)
   .have fP:p<ps.length:=ya h;obtain⟨hL3,Sl⟩:=Wg.at fP;have Sl:L3[p]=ps[p]:=by rw[Sl];simp[wM]
    have kj:∀t,t≠p->decide (t<p+1)=decide (t<p):=λt ht=>decide_eq_decide.2 om
    have ZY:=GK (L:=L) fP;have mY:jY L p ps[p]=false->Pt ps L3 (wM L (p+1))/\en=iT L ps (p+1):=λhf=>⟨Wg.congr λt o zy=>by
     by_cases Je:t=p
     .subst Je;rw[wy fP]at zy;cases zy;simp[wM,hf]
     .unfold wM;rw[kj t Je],by rw[ZY,hf,l4];simp⟩
    refine GL L L2 L3 b p om ?_;refine am (λyc=>?_) (λyc=>?_)
    .have yc:0<p:=by have h:(p:Int)>0:=yc;omega
     refine af (ng hL3) ?_;refine af (bm aL.enc L3 hL3) ?_;refine aA (λbO=>?_) (λbO=>?_)
     .refine aA (λM3=>?_) (λM3=>?_)
      .refine af (ng hL3) ?_;refine af (bm aL.enc L3 hL3) ?_;refine⟨trivial,?_⟩;have he:jY L p ps[p]=true:=by rw[Sl]at bO;unfold jY;rw[bO,M3];simp[yc]
       have hs:=Wg.set (j:=p) (x:=fl) (g:=wM L (p+1)) (λo zy=>by rw[wy fP]at zy;cases zy;simp[wM,he]) (λt o Je _=>by unfold wM;rw[kj t Je])
       refine⟨⟨p+1,L3.set p fl,true⟩,⟨fP,hs,(by rw[ZY,he];simp)⟩,(show ps.length-(p+1)<ps.length-p by omega),View.o2 8 [0,1,2,3,4,5,6] [] ?_⟩
       .exact(.pe rfl rfl rfl (.pr rfl rfl rfl (.pr rfl rfl rfl (.pt rfl rfl (OH L3 p) (.pe rfl rfl rfl (.pr rfl rfl rfl (.pn rfl rfl rfl)))))))
      .skip
       refine⟨⟨p+1,L3,en⟩,⟨fP,(mY (by unfold jY;rw[M3];simp)).1,(mY (by unfold jY;rw[M3];simp)).2⟩,(show ps.length-(p+1)<ps.length-p by omega),View.o2 8 [0,1,2,3,4,5,6] [] ?_⟩
       .exact .au
     .rw[Sl]at bO;refine⟨⟨p+1,L3,en⟩,⟨fP,(mY (by unfold jY;rw[bO];simp)).1,(mY (by unfold jY;rw[bO];simp)).2⟩,(show ps.length-(p+1)<ps.length-p by omega),View.o2 8 [0,1,2,3,4,5,6] [] ?_⟩
      .exact .au
    .have yc:p=0:=by have h:¬(p:Int)>0:=yc;omega
     refine⟨⟨p+1,L3,en⟩,⟨fP,(mY (by simp[jY,yc])).1,(mY (by simp[jY,yc])).2⟩,(show ps.length-(p+1)<ps.length-p by omega),View.o2 8 [0,1,2,3,4,5,6] [] ?_⟩
     .exact .au
   .have h9:ps.length<=p:=yb h;have vy:p=ps.length:=om;subst vy;refine⟨aq en,_,View.o 7 [0,1,2,3] [] (.eq rfl .nil) (.pe rfl rfl rfl (.pr rfl rfl rfl (.pr rfl rfl rfl (.pn rfl rfl rfl)))),L,L2,L3,en,⟨⟨b,hb,AV,AW⟩,Wg,l4⟩,rfl,rfl⟩
theorem Sm(l:List Obj)(ops:List aT)(ps:List aL)(g:∀o,o∈l->o.sm)(hl:l.length<=4194304)(ho:ops.length<=4194304)(eF:ps.length<=4194304)(i3:∀p,p∈ps->p.an.length<=10):
  ap prog 88 [.rv (.one (.ptr 0 0))] [.var [.row 1 9 0 none,.row 2 2 0 none,.row 3 4 0 none],.row 9 (aa (l.map Obj.enc)),.row 2 (aa (ops.map aT.enc)),.row 4 (aa (ps.map aL.enc))]
   (λr m=>∃L L2 L3 en,cL l ops ps L L2 L3 en/\r=aq en/\m=[.var [.row 1 9 0 none,.row 2 2 0 none,.row 3 4 0 none],.row 9 (aa (L.map Obj.enc)),.row 2 (aa (L2.map aT.enc)),.row 4 (aa (L3.map aL.enc))]):=
 bK (aP func88 l88 (Lh l ops ps g hl ho eF i3)) λr m1 h=>h
structure dV(l:List Obj)(ops:List aT)(ps:List aL):Prop where
 sm:∀o,o∈l->o.sm
 ll:l.length<=4194304
 lo:ops.length<=4194304
 lp:ps.length<=4194304
 sl:∀p,p∈ps->p.an.length<=10
 ne:ps≠[]
theorem OI:dS.sm:=⟨⟨⟨[],rfl⟩,⟨[],rfl⟩,λq hq=>by simp[dS]at hq⟩,by simp[dS],by simp[dS],by simp[dS],λq hq=>by simp[dS]at hq⟩
theorem Pt.all{α:Type}{l L:List α}{f:Nat->α->α}(h:Pt l L f){Q:α->Prop}(hf:∀(t:Nat)o,l[t]? =some o->Q (f t o)):∀x,x∈L->Q x:=by
 intro x hx;obtain⟨t,ht⟩:=aak hx;have ax:t<l.length:=by have:=(Lw.1 ht).1;rw[h.1]at this;exact this
 have:=h.2 t l[t] (wy ax);rw[ht]at this;cases this;exact hf t _ (wy ax)
theorem cL.kr{l:List Obj}{ops:List aT}{ps:List aL}{L:List Obj}{L2:List aT}{L3:List aL}{en:Bool}(h:cL l ops ps L L2 L3 en)(k:dV l ops ps):dV L L2 L3:=by
 obtain⟨b,hb,hP,AW⟩:=h.ex;refine⟨hP.all λt o ho=>?_,by rw[hP.1];exact k.ll,by rw[AW.1];exact k.lo,by rw[h.pr.1];exact k.lp,h.pr.all (Q:=λp=>p.an.length<=10) λt o ho=>?_,λe=>k.ne (aaX (by rw[<-h.pr.1,e];rfl))⟩
 .have hs:=k.sm o (Vm ho);unfold cF;split
  .exact OI
  .split
   .exact⟨⟨hs.t.1,hs.t.2.1,hs.t.2.2⟩,hs.d,hs.e,hs.q,hs.qd⟩
   .exact hs
 .unfold wM;split
  .simp[fl]
  .exact k.sl o (Vm ho)
def ma(ps:List aL):Nat:=(ps.filter λp=>p.aF).length
theorem D9:∀(a b:List aL),b.length=a.length->(∀(t:Nat)x y,a[t]? =some x->b[t]? =some y->y.aF=true->x.aF=true)->ma b<=ma a/\((∃(t:Nat)(x y:aL),a[t]? =some x/\b[t]? =some y/\x.aF=true/\y.aF=false)->ma b<ma a)
 | [],[],_,_=>⟨aai _,λ⟨t,x,y,h,_⟩=>by simp at h⟩
 | [],_::_,h,_=>by simp at h
 |_::_,[],h,_=>by simp at h
 |x::a,y::b,h,hm=>by
  obtain⟨ZZ,ih2⟩:=D9 a b (by simpa using h) (λt u v hu hv=>hm (t+1) u v (by simpa using hu) (by simpa using hv))
  have h0:=hm 0 x y aD aD;refine⟨?_,λ⟨t,u,v,hu,hv,Z0,vz⟩=>?_⟩
  .unfold ma at ZZ|-;cases hx:x.aF<;>cases hy:y.aF<;>simp[hx,hy]at h0|-<;>omega
  .cases t with
   |zero=>
    simp at hu hv;subst hu hv;unfold ma at ZZ|-;simp[Z0,vz];omega
   |succ t=>
    have:=ih2 ⟨t,u,v,by simpa using hu,by simpa using hv,Z0,vz⟩
    unfold ma at this|-;cases hx:x.aF<;>cases hy:y.aF<;>simp[hx,hy]at h0|-<;>omega
theorem cL.ma{l:List Obj}{ops:List aT}{ps:List aL}{L:List Obj}{L2:List aT}{L3:List aL}(h:cL l ops ps L L2 L3 true):ma L3<Go.Proofs.YtllkfpggoigbaaaGreatDoor.ma ps:=by
 have l4:=h.en;unfold iT at l4;have l4:=l4.symm;rw[abP]at l4;obtain⟨t,ht,Ca⟩:=l4;have Jf:t<ps.length:=by simpa using ht
 rw[wy Jf]at Ca;have Ca:jY L t ps[t]=true:=Ca;refine(D9 ps L3 h.pr.1 (λi x y hx hy hl=>?_)).2 ⟨t,ps[t],fl,wy Jf,?_,?_,rfl⟩
 .have:=h.pr.2 i x hx;rw[hy]at this;cases this;unfold wM at hl;split at hl
  .simp[fl]at hl
  .exact hl
 .have:=h.pr.2 t _ (wy Jf);rw[this];simp[wM,Ca,Jf]
 .unfold jY at Ca;simp at Ca;exact Ca.2.1
structure Kr where
 l:List Obj
 ops:List aT
 ps:List aL
inductive gT(k:Kr):Kr->Prop
 |refl:gT k k
 |step {a b:Kr} (h:gT k a) (ho:cL a.l a.ops a.ps b.l b.ops b.ps true):gT k b
theorem OJ{Y:Nat->Nat}{m:Mem}{Z:Nat->Prop}{p:Option Nat}{a b:Dt}(h:a=b):sZ Y m Z p (.ai a) (.ai b):=h▸ .aN (.ai a)
theorem GM(a:Kr)(ha:dV a.l a.ops a.ps){K:CV->Mem->Prop}(x0:Bk)(h:∀(c:Kr)en,cL a.l a.ops a.ps c.l c.ops c.ps en->K (aq en) [x0,.var z3,.var [.row 3 9 0 none,.row 4 2 0 none,.row 5 4 0 none],.row 9 (aa (c.l.map Obj.enc)),.row 2 (aa (c.ops.map aT.enc)),.row 4 (aa (c.ps.map aL.enc))]):
  ap prog 88 [.rv (.one (.ptr 2 0))] [x0,.var z3,.var [.row 3 9 0 none,.row 4 2 0 none,.row 5 4 0 none],.row 9 (aa (a.l.map Obj.enc)),.row 2 (aa (a.ops.map aT.enc)),.row 4 (aa (a.ps.map aL.enc))] K:=by
 refine be [2,3,4,5] 6 rfl rfl rfl rfl (args0:=[.rv (.one (.ptr 0 0))]) rfl (λi b' hi=>?_) (Sm a.l a.ops a.ps ha.sm ha.ll ha.lo ha.lp ha.sl) (λr m1 hr=>?_)
 .match i,hi with
  |0,hi=>cases hi;exact .inr ⟨λh=>h,_,rfl,.eq rfl aD⟩
  |1,hi=>cases hi;exact .inr ⟨λh=>h,_,rfl,.bn rfl⟩
  |2,hi=>cases hi;exact .inr ⟨λh=>h,_,rfl,.bn rfl⟩
  |3,hi=>cases hi;exact .inr ⟨λh=>h,_,rfl,.bn rfl⟩
  |n+4,hi=>simp at hi
 .obtain⟨L,L2,L3,en,ho,rfl,rfl⟩:=hr;refine⟨aai _,?_⟩;have e:∀(s:Nat)(ds:List (List Dt)),(Bk.row s (aa ds)).aN (sg [2,3,4,5] 6)= .row s (aa ds):=λs ds=>by simp only[Bk.aN,dk]
  show K _ [x0,.var z3,.var [.row 3 9 0 none,.row 4 2 0 none,.row 5 4 0 none],(Bk.row 9 (aa (L.map Obj.enc))).aN (sg [2,3,4,5] 6),(Bk.row 2 (aa (L2.map aT.enc))).aN (sg [2,3,4,5] 6),(Bk.row 4 (aa (L3.map aL.enc))).aN (sg [2,3,4,5] 6)];rw[e,e,e];exact h ⟨L,L2,L3⟩ en ho
def c91:LF:=Cq prog f91 [] []
theorem l91:bs prog f91=some c91:=by kernel_rfl
theorem GN(l:List Obj)(hb:l.length<=4194304)(F:Nat)(cs:List Dt)(q:Obj->Bool)(hF:∀s,∀K:CV->Mem->Prop,K (aq (q s)) [.var (cs.map .ai)]->ap prog F [s.cv,.rv (.one (.ptr 0 0))] [.var (cs.map .ai)] K):
  body prog c131 [cJ l,.rv (.one (.fn F [0]))] [.var (cs.map .ai)] (λr m=>r=al .i64 (pg q l)/\m=[.var (cs.map .ai)]):=by
 refine ar (λk=>k<=l.length/\∀(j:Nat)s,j<k->l[j]? =some s->q s=false) [0,1,7] (λk=>[(8,al .i64 (k:Nat))]) (λ_=>[.var (cs.map .ai)]) (λk=>l.length-k) 0 ⟨WG _,λj s h=>absurd h (abE j)⟩ ?_ (λk hk=>?_)
 .refine View.o1 1 [0] [] ?_
  .exact .pt rfl rfl (.k9 rfl) (.nil _)
 .refine am (λh=>?_) (λh=>?_)
  .have ax:k<l.length:=by have h:(k:Int)<((l.map Obj.enc).length:Int):=h;rw[O9]at h;omega
   refine af (mW ax) ?_;have hi:=wy ax;have ZX:=lX (q:=q) ax;generalize l[k]=o at hi ZX;refine hF o _ ?_;refine aA (λFv=>?_) (λFv=>?_)
   .rw[ZX Fv hk.2];exact⟨rfl,rfl⟩
   .refine⟨k+1,⟨ax,λj s hj hs=>?_⟩,(show l.length-(k+1)<l.length-k by omega),View.o 1 [0] [] ?_ ?_⟩
    .rcases aax j k with h5|h5
     .exact hk.2 j s h5 hs
     .have:j=k:=om;subst this;rw[hi]at hs;cases hs;exact Fv
    .repeat(first|exact .nil|refine .aH ?_|refine .put (.aN (br om).symm) ?_|refine .eq rfl ?_)
    .exact .pt rfl rfl (.k9 rfl) (.nil _)
  .have ef:¬(k:Int)<((l.map Obj.enc).length:Int):=h;rw[O9]at ef;rw[nJ λj s hs=>hk.2 j s (by have:=(Lw.1 hs).1;omega) hs]
   exact⟨rfl,rfl⟩
theorem Ea(l:List Obj)(hb:l.length<=4194304)(F:Nat)(cs:List Dt)(q:Obj->Bool)(hF:∀s,∀K:CV->Mem->Prop,K (aq (q s)) [.var (cs.map .ai)]->ap prog F [s.cv,.rv (.one (.ptr 0 0))] [.var (cs.map .ai)] K):
  body prog c89 [cJ l,.rv (.one (.fn F [0]))] [.var (cs.map .ai)] (λr m=>r=aq (l.any q)/\m=[.var (cs.map .ai)]):=by
 refine(aP func131 l131 (GN l hb F cs q hF)).mono λr m⟨hr,hm⟩=>?_
 subst hr hm;refine⟨?_,rfl⟩;show aq _=aq _;rw[<-te]
theorem uF(l:List Obj)(hb:l.length<=4194304)(F:Nat)(cs:List Dt)(q:Obj->Bool)(hF:∀s,∀K:CV->Mem->Prop,K (aq (q s)) [.var (cs.map .ai)]->ap prog F [s.cv,.rv (.one (.ptr 0 0))] [.var (cs.map .ai)] K)(K:CV->Mem->Prop)(h:K (aq (l.any q)) [.var (cs.map .ai)]):
  ap prog 89 [cJ l,.rv (.one (.fn F [0]))] [.var (cs.map .ai)] K:=
 (aP func89 l89 (Ea l hb F cs q hF)).mono λr m⟨hr,hm⟩=>by subst hr hm;exact h
def c47:LF:=Cq prog Tryz.f47 [[4],[4,1,0],[4,2]] []
theorem l47:bs prog Tryz.f47=some c47.er:=by kernel_rfl
theorem Eb(o:Obj)(a c:Dt)(ps:List aL):body prog c91 [o.cv,.rv (.one (.ptr 0 0))] [.var ([a,c,dZ ps].map .ai)] (λr m=>r=aq (cN (IntKind.i64.wrap (((ps.map aL.enc).length:Int)-1)) o)/\∃ex,m= .var ([a,c,dZ ps].map .ai)::ex):=by
 refine aA (λh=>?_) (λh=>?_)
 .refine⟨?_,_,rfl⟩;show aq _=aq _;rw[cN,h];rfl
 .refine⟨?_,_,rfl⟩;show aq _=aq _;rw[cN,h];rfl
theorem Wh(o:Obj)(a c:Dt)(ps:List aL)(K:CV->Mem->Prop)(h:K (aq (cN (IntKind.i64.wrap (((ps.map aL.enc).length:Int)-1)) o)) [.var ([a,c,dZ ps].map .ai)]):ap prog 91 [o.cv,.rv (.one (.ptr 0 0))] [.var ([a,c,dZ ps].map .ai)] K:=
 fB rfl (aP func91 l91 (Eb o a c ps)) h
structure Ec{α:Type}(q:Nat->α->Bool)(mn:Nat)(L:List α)(n:Nat):Prop where
 le:n<=L.length
 mn:min mn L.length<=n
 dr:∀(t:Nat)o,n<=t->L[t]? =some o->q t o=true
structure jG{α:Type}(q:Nat->α->Bool)(mn:Nat)(L:List α)(n:Nat):Prop where
 t:Ec q mn L n
 e:n<=mn\/∃o,L[n-1]? =some o/\q (n-1) o=false
theorem Ec.start{α:Type}(q:Nat->α->Bool)(mn:Nat)(L:List α):Ec q mn L L.length:=
 ⟨aai _,Nat.min_le_right _ _,λt o h ho=>by have:=(Lw.1 ho).1;omega⟩
theorem Ec.step{α:Type}{q:Nat->α->Bool}{mn:Nat}{L:List α}{n:Nat}(h:Ec q mn L n)(hn:mn<n)(hl:n-1<L.length)(hq:q (n-1) L[n-1]=true):Ec q mn L (n-1):=
 ⟨om,om,λt o ht ho=>by
  rcases aax t n with h1|h1
  .have:t=n-1:=om;subst this;rw[wy hl]at ho;cases ho;exact hq
  .exact h.dr t o h1 ho⟩
theorem iD{α:Type}{L:List α}{n:Nat}(h:n<=L.length):(L.take n).length=n:=by rw[aa8];omega
theorem yd{α:Type}(f:α->List Dt)(L:List α){n:Nat}(h:n<=L.length):(((L.take n).map f).take (n-1)).drop 0=(L.take (n-1)).map f:=by rw[aev,<-ac7,List.take_take,aef om]
theorem ye{α:Type}(f:α->List Dt)(L:List α){n:Nat}(h1:0<n)(h:n<=L.length):cm ((L.take n).map f) ((n-1:Nat):Int)=some (f (L[n-1]'(by omega))):=by rw[aU,Qu,aca om,wy om];rfl
def qO(_:Nat)(o:Obj):Bool:=o.ah==0
def qP(_:Nat)(o:aT):Bool:=decide (o.obj<0)
def qZ(O:List Obj)(t:Nat)(o:aL):Bool:=decide (0<t)&&(!o.aF&& !(O.any (cN (t:Int))))
def gd(O:List Obj)(k:Nat)(t:Nat)(o:aL):aL:=if(decide (t<k)&&qZ O t o)=true then fl else o
def qR(O:List Obj)(t:Nat)(o:aL):Bool:= !o.aF&& !(O.any (cN (t:Int)))
structure gU(c:Kr)(d:Kr):Prop where
 ex:∃(n1 n2 n3:Nat)(P:List aL),jG qO 1 c.l n1/\jG qP 0 c.ops n2/\Pt c.ps P (gd (c.l.take n1) c.ps.length)/\jG (qR (c.l.take n1)) 1 P n3/\d=⟨c.l.take n1,c.ops.take n2,P.take n3⟩
def KS(k:Kr)(r:CV)(m:Mem):Prop:=∃a c d,gT k a/\cL a.l a.ops a.ps c.l c.ops c.ps false/\gU c d/\cH m r (cA d.l d.ops d.ps)
def EKs(k:Kr):Ex->St->Prop:=nu prog c47.lM (KS k)
def T4:LC:=l5 (bi (bi (bi (bi c47.code))))
def T57:LC:=l5 (oK (bi T4))
def R8:LC:=bi (bi T4)
def E60:List CV:=i5 120 [(2,.rv (.one (.ptr 1 0))),(3,.rv (.one (.ptr 2 0)))]
theorem ad0(m:Mem)(d:Kr):cH m (.rv (.agg [.ai (cT d.l),.ai (de d.ops),.ai (dZ d.ps)])) (cA d.l d.ops d.ps):=cH.self rfl
theorem ad3(k a c:Kr)(ha:gT k a)(hc:cL a.l a.ops a.ps c.l c.ops c.ps false)(hk:dV c.l c.ops c.ps)(n1 n2:Nat)(h1:jG qO 1 c.l n1)(h2:jG qP 0 c.ops n2)(P:List aL)(O:List Obj)(hO:O=c.l.take n1)(hP:Pt c.ps P (gd (c.l.take n1) c.ps.length)):aw prog 0 (l5 R8) (EKs k) ⟨E60,[.aE,.var z3,.var [.ai (cT O),.ai (de (c.ops.take n2)),.ai (dZ P)]]⟩:=by
 have Z1:P.length<=4194304:=by rw[hP.1];exact hk.lp
 have hOl:O.length<=4194304:=by rw[hO,aa8];have:=hk.ll;omega
 have Wi:∀(n:Nat)(m:Mem),Ec (qR O) 1 P n->(n<=1\/∃o,P[n-1]? =some o/\qR O (n-1) o=false)->KS k (.rv (.agg [.ai (cT O),.ai (de (c.ops.take n2)),.ai (dZ (P.take n))])) m:=λn m hn he=>
  ⟨a,c,⟨O,c.ops.take n2,P.take n⟩,ha,hc,⟨n1,n2,n,P,h1,h2,hP,by rw[<-hO];exact⟨hn,he⟩,by rw[hO]⟩,ad0 m ⟨O,c.ops.take n2,P.take n⟩⟩
 refine ar (λn=>Ec (qR O) 1 P n) [2,3] (λ_=>[]) (λn=>[.aE,.var z3,.var [.ai (cT O),.ai (de (c.ops.take n2)),.ai (dZ (P.take n))]]) (λn=>n) P.length (.start _ _ _) ?_ (λn hn=>?_)
 .refine View.o1 3 [0,1,2] [] ?_
  .exact(.aE (.pe rfl rfl rfl (.pt rfl rfl (dy.var (.cons (.aN (.ai _)) (.cons (.aN (.ai _)) (.cons (OJ (by rw[abD])) .nil)))) (.nil _))))
 have hn:Ec (qR O) 1 P n:=hn;have k8:=hn.le;refine am (λh=>?_) (λh=>?_)
 .have po:1<n:=by have h:(((P.take n).map aL.enc).length:Int)>1:=h;rw[O9,iD k8]at h;omega
  have hz:IntKind.i64.wrap ((((P.take n).map aL.enc).length:Int)-1)=((n-1:Nat):Int):=by rw[O9,iD k8,iR om om];omega
  have ax:n-1<P.length:=om;have hg:=ye aL.enc P om k8;rw[<-hz]at hg;have o4:=wy ax;have vS:=hn.step om ax;generalize P[n-1]=x at hg o4 vS;have hg:cm ((P.take n).map aL.enc) (IntKind.i64.wrap ((((P.take n).map aL.enc).length:Int)-1))=some [.val (.bool x.aF),.val (.bool x.fenced),.val (.int .i64 x.code),gL x.an]:=hg;refine af hg ?_;refine aA (λbO=>?_) (λbO=>?_)
  .refine gk (args0:=[cJ O,.rv (.one (.fn 91 [0]))]) (cs:=[cT O,de (c.ops.take n2),dZ (P.take n)]) 2 rfl rfl (r0:=aq (O.any (cN (IntKind.i64.wrap ((((P.take n).map aL.enc).length:Int)-1))))) rfl (λK hK=>uF O hOl 91 _ _ (λs K hK=>Wh s _ _ _ K hK) K hK) ?_
   rw[hz];refine aA (λM3=>?_) (λM3=>?_)
   .have hq:qR O (n-1) x=true:=by unfold qR;rw[bO,M3];rfl
    refine af (x:=n-1) (by show px (al .i64 (IntKind.i64.wrap ((((P.take n).map aL.enc).length:Int)-1)))=_;rw[hz];rfl) ?_
    refine bV (by simp[abR];omega) ?_
    refine⟨n-1,vS hq,(show n-1<n by omega),View.o1 3 [0,1,2] [] ?_⟩
    .exact(.aE (.pe rfl rfl rfl (.pt rfl rfl (dy.var (.cons (.aN (.ai _)) (.cons (.aN (.ai _)) (.cons (OJ (congrArg (Dt.sl 4) (yd aL.enc P k8))) .nil)))) (.nil _))))
   .have hq:qR O (n-1) x=false:=by unfold qR;rw[bO,M3];rfl
    exact Wi n _ hn (.inr ⟨x,o4,hq⟩)
  .have hq:qR O (n-1) x=false:=by unfold qR;rw[bO];rfl
   exact Wi n _ hn (.inr ⟨x,o4,hq⟩)
 .have po:n<=1:=by have h:¬(((P.take n).map aL.enc).length:Int)>1:=h;rw[O9,iD k8]at h;omega
  exact Wi n _ hn (.inl po)
structure StZ where
 p:Nat
 P:List aL
theorem dV.ad4{l:List Obj}{ops:List aT}{ps:List aL}(h:dV l ops ps)(n:Nat):(l.take n).length<=4194304:=by rw[aa8];have:=h.ll;omega
theorem UT(k a c:Kr)(ha:gT k a)(hc:cL a.l a.ops a.ps c.l c.ops c.ps false)(hk:dV c.l c.ops c.ps)(n1 n2:Nat)(h1:jG qO 1 c.l n1)(h2:jG qP 0 c.ops n2):
  aw prog 0 T57 (ow (aw prog 0 R8) (EKs k)) ⟨E60,[.aE,.var z3,.var [.ai (cT (c.l.take n1)),.ai (de (c.ops.take n2)),.row 3 4 0 none],.row 4 (aa (c.ps.map aL.enc))]⟩:=by
 have eF:=hk.lp;have hOl:=hk.ad4 n1;generalize hO:c.l.take n1=O at hOl;refine ar (λ(s:StZ)=>s.p<=c.ps.length/\Pt c.ps s.P (gd O s.p)) [2,3,59] (λs=>[(60,al .i64 (s.p:Nat))]) (λs=>[.aE,.var z3,.var [.ai (cT O),.ai (de (c.ops.take n2)),.row 3 4 0 none],.row 4 (aa (s.P.map aL.enc))]) (λs=>c.ps.length-s.p) ⟨0,c.ps⟩ ⟨WG _,(Pt.refl c.ps).congr λt o _=>by simp[gd]⟩ ?_ (λs hs=>?_)
 .refine View.o1 4 [0,1,2,3] [] ?_
  .exact(.aE (.pe rfl rfl rfl (.pt rfl rfl (dy.var (.cons (.aN (.ai _)) (.cons (.aN (.ai _)) (.cons (.aN (.row 3 4 0 none)) .nil)))) (.pn rfl rfl rfl))))
 obtain⟨p,P⟩:=s;obtain⟨hp,hP⟩:=hs;have hp:p<=c.ps.length:=hp;have hP:Pt c.ps P (gd O p):=hP;have Z1:=hP.1;refine am (λh=>?_) (λh=>?_)
 .have fP:p<c.ps.length:=ya h;obtain⟨Sn,Lj⟩:=hP.at fP;have Lj:P[p]=c.ps[p]:=by rw[Lj];simp[gd]
  have kj:∀t,t≠p->decide (t<p+1)=decide (t<p):=λt ht=>decide_eq_decide.2 om
  have mY:qZ O p c.ps[p]=false->Pt c.ps P (gd O (p+1)):=λhf=>hP.congr λt o zy=>by
   by_cases Je:t=p
   .subst Je;rw[wy fP]at zy;cases zy;simp[gd,hf]
   .unfold gd;rw[kj t Je]
  refine gk (args0:=[cJ O,.rv (.one (.fn 90 [0]))]) (cs:=[.val (.int .i64 (p:Nat))]) 4 rfl rfl (r0:=aq (O.any (cN (p:Int)))) rfl (λK hK=>uF O hOl 90 _ _ (λs K hK=>Wf s _ K hK) K hK) ?_
  refine am (λyc=>?_) (λyc=>?_)
  .have yc:0<p:=by have h:(p:Int)>0:=yc;omega
   refine af (ng Sn) ?_;refine af (bm aL.enc P Sn) ?_;refine aA (λbO=>?_) (λbO=>?_)
   .rw[Lj]at bO;refine aA (λM3=>?_) (λM3=>?_)
    .refine af (ng Sn) ?_;refine af (bm aL.enc P Sn) ?_;have he:qZ O p c.ps[p]=true:=by unfold qZ;rw[bO,M3];simp[yc]
     have hs:=hP.set (j:=p) (x:=fl) (g:=gd O (p+1)) (λo zy=>by rw[wy fP]at zy;cases zy;simp[gd,he]) (λt o Je _=>by unfold gd;rw[kj t Je])
     refine⟨⟨p+1,P.set p fl⟩,⟨fP,hs⟩,(show c.ps.length-(p+1)<c.ps.length-p by omega),View.o2 5 [0,1,2,3] [] ?_⟩
     .exact(.aE (.pe rfl rfl rfl (.pt rfl rfl (dy.var (.cons (.aN (.ai _)) (.cons (.aN (.ai _)) (.cons (.aN (.row 3 4 0 none)) .nil)))) (.pt rfl rfl (OH P p) (.nil _)))))
    .skip
     refine⟨⟨p+1,P⟩,⟨fP,mY (by unfold qZ;rw[M3];simp)⟩,(show c.ps.length-(p+1)<c.ps.length-p by omega),View.o2 5 [0,1,2,3] [] ?_⟩
     .exact(.aE (.pe rfl rfl rfl (.pt rfl rfl (dy.var (.cons (.aN (.ai _)) (.cons (.aN (.ai _)) (.cons (.aN (.row 3 4 0 none)) .nil)))) (.pn rfl rfl rfl))))
   .rw[Lj]at bO;refine⟨⟨p+1,P⟩,⟨fP,mY (by unfold qZ;rw[bO];simp)⟩,(show c.ps.length-(p+1)<c.ps.length-p by omega),View.o2 5 [0,1,2,3] [] ?_⟩
    .exact(.aE (.pe rfl rfl rfl (.pt rfl rfl (dy.var (.cons (.aN (.ai _)) (.cons (.aN (.ai _)) (.cons (.aN (.row 3 4 0 none)) .nil)))) (.pn rfl rfl rfl))))
  .have yc:p=0:=by have h:¬(p:Int)>0:=yc;omega
   refine⟨⟨p+1,P⟩,⟨fP,mY (by simp[qZ,yc])⟩,(show c.ps.length-(p+1)<c.ps.length-p by omega),View.o2 5 [0,1,2,3] [] ?_⟩
   .exact(.aE (.pe rfl rfl rfl (.pt rfl rfl (dy.var (.cons (.aN (.ai _)) (.cons (.aN (.ai _)) (.cons (.aN (.row 3 4 0 none)) .nil)))) (.pn rfl rfl rfl))))
 .have h9:c.ps.length<=p:=yb h;have vy:p=c.ps.length:=om;subst vy;rw[<-hO]at hP;refine cj [2,3] [] ([.aE,.var z3,.var [.ai (cT O),.ai (de (c.ops.take n2)),.ai (dZ P)]]) (View.o1 4 [0,1,2] [3] ?_) ?_
  .exact(.aE (.pe rfl rfl rfl (.pt rfl rfl (dy.var (.cons (.aN (.ai _)) (.cons (.aN (.ai _)) (.cons (.dG (cS.da (Z:=λk=>bc [3] k=true) rfl rfl 0 none)) .nil)))) (.nil _))))
  exact ad3 k a c ha hc hk n1 n2 h1 h2 P O hO.symm hP
theorem UU(k a c:Kr)(ha:gT k a)(hc:cL a.l a.ops a.ps c.l c.ops c.ps false)(hk:dV c.l c.ops c.ps)(n1:Nat)(h1:jG qO 1 c.l n1):
  aw prog 0 T4 (EKs k) ⟨E60,[.aE,.var z3,.var [.ai (cT (c.l.take n1)),.ai (de c.ops),.row 3 4 0 none],.row 4 (aa (c.ps.map aL.enc))]⟩:=by
 have ix:=hk.lo;refine ar (λn=>Ec qP 0 c.ops n) [2,3] (λ_=>[]) (λn=>[.aE,.var z3,.var [.ai (cT (c.l.take n1)),.ai (de (c.ops.take n)),.row 3 4 0 none],.row 4 (aa (c.ps.map aL.enc))]) (λn=>n) c.ops.length (.start _ _ _) ?_ (λn hn=>?_)
 .refine View.o1 4 [0,1,2,3] [] ?_
  .exact(.aE (.pe rfl rfl rfl (.pt rfl rfl (dy.var (.cons (.aN (.ai _)) (.cons (OJ (by rw[abD])) (.cons (.aN (.row 3 4 0 none)) .nil)))) (.pn rfl rfl rfl))))
 have hn:Ec qP 0 c.ops n:=hn;have k8:=hn.le;refine am (λh=>?_) (λh=>?_)
 .have po:0<n:=by have h:(((c.ops.take n).map aT.enc).length:Int)>0:=h;rw[O9,iD k8]at h;omega
  have hz:IntKind.i64.wrap ((((c.ops.take n).map aT.enc).length:Int)-1)=((n-1:Nat):Int):=by rw[O9,iD k8,iR om om];omega
  have ax:n-1<c.ops.length:=om;have hg:=ye aT.enc c.ops om k8;rw[<-hz]at hg;have o4:=wy ax;have vS:=hn.step om ax;generalize c.ops[n-1]=x at hg o4 vS;have hg:cm ((c.ops.take n).map aT.enc) (IntKind.i64.wrap ((((c.ops.take n).map aT.enc).length:Int)-1))=some [.val (.int .i64 x.obj),.val (.int .i64 x.di)]:=hg;refine af hg ?_;refine am (λhx=>?_) (λhx=>?_)
  .have hq:qP (n-1) x=true:=decide_eq_true hx;refine af (x:=n-1) (by show px (al .i64 (IntKind.i64.wrap ((((c.ops.take n).map aT.enc).length:Int)-1)))=_;rw[hz];rfl) ?_
   refine bV (by simp[abR];omega) ?_
   refine⟨n-1,vS hq,(show n-1<n by omega),View.o1 4 [0,1,2,3] [] ?_⟩
   .exact(.aE (.pe rfl rfl rfl (.pt rfl rfl (dy.var (.cons (.aN (.ai _)) (.cons (OJ (congrArg (Dt.sl 2) (yd aT.enc c.ops k8))) (.cons (.aN (.row 3 4 0 none)) .nil)))) (.pn rfl rfl rfl))))
  .have hq:qP (n-1) x=false:=decide_eq_false hx;refine cj [2,3] [] ([.aE,.var z3,.var [.ai (cT (c.l.take n1)),.ai (de (c.ops.take n)),.row 3 4 0 none],.row 4 (aa (c.ps.map aL.enc))]) (View.o1 4 [0,1,2,3] [] ?_) ?_
   .exact(.aE (.pe rfl rfl rfl (.pt rfl rfl (dy.var (.cons (.aN (.ai _)) (.cons (.aN (.ai _)) (.cons (.aN (.row 3 4 0 none)) .nil)))) (.pn rfl rfl rfl))))
   exact UT k a c ha hc hk n1 n h1 ⟨hn,(.inr ⟨x,o4,hq⟩)⟩
 .have po:n<=0:=by have h:¬(((c.ops.take n).map aT.enc).length:Int)>0:=h;rw[O9,iD k8]at h;omega
  refine cj [2,3] [] ([.aE,.var z3,.var [.ai (cT (c.l.take n1)),.ai (de (c.ops.take n)),.row 3 4 0 none],.row 4 (aa (c.ps.map aL.enc))]) (View.o1 4 [0,1,2,3] [] ?_) ?_
  .exact(.aE (.pe rfl rfl rfl (.pt rfl rfl (dy.var (.cons (.aN (.ai _)) (.cons (.aN (.ai _)) (.cons (.aN (.row 3 4 0 none)) .nil)))) (.pn rfl rfl rfl))))
  exact UT k a c ha hc hk n1 n h1 ⟨hn,.inl po⟩
theorem GO(k:Kr)(hk:dV k.l k.ops k.ps):body prog c47 [cA k.l k.ops k.ps] [] (KS k):=by
 refine jh k.l k.ops k.ps ⟨hk.ll,λo ho=>(hk.sm o ho).oi⟩ hk.lo hk.lp hk.sl hk.ne ?_
 refine ar (λ(a:Kr)=>gT k a/\dV a.l a.ops a.ps) [2] (λ_=>[(3,.rv (.one (.ptr 2 0)))]) (λa=>[.aE,.var z3,.var [.row 3 9 0 none,.row 4 2 0 none,.row 5 4 0 none],.row 9 (aa (a.l.map Obj.enc)),.row 2 (aa (a.ops.map aT.enc)),.row 4 (aa (a.ps.map aL.enc))]) (λa=>ma a.ps) k ⟨.refl,hk⟩ ?_ (λa ha=>?_)
 .refine View.o1 6 [0,1,5,2,3,4] [] ?_
  .exact(.aE (.pe rfl rfl rfl (.pe rfl rfl rfl (.pr rfl rfl rfl (.pr rfl rfl rfl (.pn rfl rfl rfl))))))
 obtain⟨ha,Rc⟩:=ha;refine GM a Rc .aE λc en ho=>?_
 refine aA (λhe=>?_) (λhe=>?_)
 .subst he;refine⟨c,⟨.step ha ho,ho.kr Rc⟩,ho.ma,View.o1 6 [0,1,2,3,4,5] [] ?_⟩
  .exact(.aE (.pe rfl rfl rfl (.pe rfl rfl rfl (.pr rfl rfl rfl (.pr rfl rfl rfl (.pn rfl rfl rfl))))))
 .subst he;have hc:=ho;have Nw:=ho.kr Rc;have X5:=Nw.ll;refine ar (λn=>Ec qO 1 c.l n) [2,3] (λ_=>[]) (λn=>[.aE,.var z3,.var [.ai (cT (c.l.take n)),.ai (de c.ops),.row 3 4 0 none],.row 4 (aa (c.ps.map aL.enc))]) (λn=>n) c.l.length (.start _ _ _) ?_ (λn hn=>?_)
  .refine View.o1 6 [0,1,2,5] [3,4] ?_
   .exact(.aE (.pe rfl rfl rfl (.pt rfl rfl (dy.var (.cons (by rw[abD];exact .dG (cS.da (Z:=λk=>bc [3,4] k=true) rfl rfl 0 none)) (.cons (.dG (cS.da (Z:=λk=>bc [3,4] k=true) rfl rfl 0 none)) (.cons (.aN (.row 3 4 0 none)) .nil)))) (.pn rfl rfl rfl))))
  have hn:Ec qO 1 c.l n:=hn;have k8:=hn.le;refine am (λh=>?_) (λh=>?_)
  .have po:1<n:=by have h:(((c.l.take n).map Obj.enc).length:Int)>1:=h;rw[O9,iD k8]at h;omega
   have hz:IntKind.i64.wrap ((((c.l.take n).map Obj.enc).length:Int)-1)=((n-1:Nat):Int):=by rw[O9,iD k8,iR om om];omega
   have ax:n-1<c.l.length:=om;have hg:=ye Obj.enc c.l om k8;rw[<-hz]at hg;have o4:=wy ax;have vS:=hn.step om ax;generalize c.l[n-1]=x at hg o4 vS;have hg:cm ((c.l.take n).map Obj.enc) (IntKind.i64.wrap ((((c.l.take n).map Obj.enc).length:Int)-1))=some [.val (.int .i64 x.ah),.sl 1 x.data,.sl 2 x.ag,.val (.string x.target),.val (.int .i64 x.aG),.sl 4 (x.aj.map cy.enc),.val (.int .i64 x.aQ),.val (.int .i64 x.ak),.val (.int .i64 x.up)]:=hg;refine af hg ?_;refine ba (λhx=>?_) (λhx=>?_)
   .have hq:qO (n-1) x=true:=(by unfold qO;simpa using hx)
    refine af (x:=n-1) (by show px (al .i64 (IntKind.i64.wrap ((((c.l.take n).map Obj.enc).length:Int)-1)))=_;rw[hz];rfl) ?_
    refine bV (by simp[abR];omega) ?_
    refine⟨n-1,vS hq,(show n-1<n by omega),View.o1 4 [0,1,2,3] [] ?_⟩
    .exact(.aE (.pe rfl rfl rfl (.pt rfl rfl (dy.var (.cons (OJ (congrArg (Dt.sl 9) (yd Obj.enc c.l k8))) (.cons (.aN (.ai _)) (.cons (.aN (.row 3 4 0 none)) .nil)))) (.pn rfl rfl rfl))))
   .have hq:qO (n-1) x=false:=(by unfold qO;simpa using hx)
    refine cj [2,3] [] ([.aE,.var z3,.var [.ai (cT (c.l.take n)),.ai (de c.ops),.row 3 4 0 none],.row 4 (aa (c.ps.map aL.enc))]) (View.o1 4 [0,1,2,3] [] ?_) ?_
    .exact(.aE (.pe rfl rfl rfl (.pt rfl rfl (dy.var (.cons (.aN (.ai _)) (.cons (.aN (.ai _)) (.cons (.aN (.row 3 4 0 none)) .nil)))) (.pn rfl rfl rfl))))
    exact UU k a c ha hc Nw n ⟨hn,(.inr ⟨x,o4,hq⟩)⟩
  .have po:n<=1:=by have h:¬(((c.l.take n).map Obj.enc).length:Int)>1:=h;rw[O9,iD k8]at h;omega
   refine cj [2,3] [] ([.aE,.var z3,.var [.ai (cT (c.l.take n)),.ai (de c.ops),.row 3 4 0 none],.row 4 (aa (c.ps.map aL.enc))]) (View.o1 4 [0,1,2,3] [] ?_) ?_
   .exact(.aE (.pe rfl rfl rfl (.pt rfl rfl (dy.var (.cons (.aN (.ai _)) (.cons (.aN (.ai _)) (.cons (.aN (.row 3 4 0 none)) .nil)))) (.pn rfl rfl rfl))))
   exact UU k a c ha hc Nw n ⟨hn,.inl po⟩
theorem OK(k:Kr)(hk:dV k.l k.ops k.ps){m:Mem}{K:CV->Mem->Prop}(h:∀a c d,gT k a->cL a.l a.ops a.ps c.l c.ops c.ps false->gU c d->K (cA d.l d.ops d.ps) m):ap prog 47 [cA k.l k.ops k.ps] m K:=by
 refine aR (K0:=KS k) (cE func47 l47 (GO k hk)) (by simp[cA,cT,de,dZ,CV.cW,CC.cW,RV.cW]) λr m1 hr=>?_
 obtain⟨a,c,d,h1,h2,h3,hf⟩:=hr;exact⟨_,hf,h a c d h1 h2 h3⟩
def kn(l L:List Obj):Prop:=L.length<=l.length/\∀(i:Nat)o,L[i]? =some o->o.ah≠0->∃o':Obj,l[i]? =some o'/\o={o' with aG:=o.aG}
def ji(p P:List aL):Prop:=P.length<=p.length/\∀(i:Nat)x,P[i]? =some x->x.aF=true->p[i]? =some x
theorem kn.refl(l:List Obj):kn l l:=⟨aai _,λi o h _=>⟨o,h,rfl⟩⟩
theorem kn.trans{a b c:List Obj}(h1:kn a b)(h2:kn b c):kn a c:=by
 refine⟨abJ h2.1 h1.1,λi o ho hk=>?_⟩
 obtain⟨o',d5,e⟩:=h2.2 i o ho hk;have iG:o'.ah≠0:=by rw[e]at hk;exact hk
 obtain⟨o2,o0,e2⟩:=h1.2 i o' d5 iG;refine⟨o2,o0,?_⟩;rw[e,e2]
theorem ji.refl(l:List aL):ji l l:=⟨aai _,λi o h _=>h⟩
theorem ji.trans{a b c:List aL}(h1:ji a b)(h2:ji b c):ji a c:=
 ⟨abJ h2.1 h1.1,λi x hx hl=>h1.2 i x (h2.2 i x hx hl) hl⟩
theorem Pt.get{α:Type}{l L:List α}{f:Nat->α->α}(h:Pt l L f){i:Nat}{x:α}(hx:L[i]? =some x):∃o,l[i]? =some o/\x=f i o:=by
 have ax:i<l.length:=by have:=(Lw.1 hx).1;rw[h.1]at this;exact this
 have:=h.2 i l[i] (wy ax);rw[hx]at this;cases this;exact⟨_,wy ax,rfl⟩
theorem cL.ez{l:List Obj}{ops:List aT}{ps:List aL}{L:List Obj}{L2:List aT}{L3:List aL}{en:Bool}(h:cL l ops ps L L2 L3 en):kn l L/\ji ps L3:=by
 obtain⟨b,hb,hP,AW⟩:=h.ex;refine⟨⟨by rw[hP.1];exact aai _,λi o ho hk=>?_⟩,by rw[h.pr.1];exact aai _,λi x hx hl=>?_⟩
 .obtain⟨o',d5,e⟩:=hP.get ho;refine⟨o',d5,?_⟩;unfold cF at e;split at e
  .rw[e]at hk;exact absurd rfl hk
  .split at e
   .rw[e]
   .rw[e]
 .obtain⟨y,hy,e⟩:=h.pr.get hx;unfold wM at e;split at e
  .rw[e]at hl;simp[fl]at hl
  .rw[e];exact hy
theorem gT.ez{k a:Kr}(h:gT k a):kn k.l a.l/\ji k.ps a.ps:=by
 induction h with
 |refl=>exact⟨.refl _,.refl _⟩
 |step h ho ih=>exact⟨ih.1.trans ho.ez.1,ih.2.trans ho.ez.2⟩
theorem gT.kr{k a:Kr}(h:gT k a)(hk:dV k.l k.ops k.ps):dV a.l a.ops a.ps:=by
 induction h with
 |refl=>exact hk
 |step h ho ih=>exact ho.kr ih
theorem gU.ez{c d:Kr}(h:gU c d):kn c.l d.l/\ji c.ps d.ps:=by
 obtain⟨n1,n2,n3,P,h1,h2,hP,h3,rfl⟩:=h.ex;refine⟨⟨by simp[aa8];omega,λi o ho _=>?_⟩,by simp[aa8];have:=hP.1;omega,λi x hx hl=>?_⟩
 .have ho:(c.l.take n1)[i]? =some o:=ho;rw[abK]at ho;split at ho
  .exact⟨o,ho,rfl⟩
  .cases ho
 .have hx:(P.take n3)[i]? =some x:=hx;rw[abK]at hx;split at hx
  .obtain⟨y,hy,e⟩:=hP.get hx;unfold gd at e;split at e
   .rw[e]at hl;simp[fl]at hl
   .rw[e];exact hy
  .cases hx
theorem gU.one{c d:Kr}(h:gU c d)(hc:c.ps≠[]):1<=d.ps.length:=by obtain⟨n1,n2,n3,P,h1,h2,hP,h3,rfl⟩:=h.ex;have hl:0<c.ps.length:=aet.2 hc;have:=h3.t.mn;rw[hP.1]at this;have h4:=h3.t.le;show 1<=(P.take n3).length;rw[aa8];omega
theorem yf{k a c d:Kr}(hk:dV k.l k.ops k.ps)(h1:gT k a)(h2:cL a.l a.ops a.ps c.l c.ops c.ps false)(h3:gU c d):kn k.l d.l/\ji k.ps d.ps/\1<=d.ps.length:=
 ⟨(h1.ez.1.trans h2.ez.1).trans h3.ez.1,(h1.ez.2.trans h2.ez.2).trans h3.ez.2,h3.one (h2.kr (h1.kr hk)).ne⟩
theorem gm.ah{l:List Obj}{ops:List aT}{ps:List aL}{b:Mk}(h:gm l ops ps b){i:Nat}(hi:dv b.O i):∃o,l[i]? =some o/\o.ah≠0:=by refine(h.iC (λi=>∃o,l[i]? =some o/\o.ah≠0) (λc=>c<ops.length) ⟨λi o _ _ z n _ hv=>hv.2,λi o _ _ z c _ hv=>hv.2,λc o _ _ n hv=>hv.2⟩ ⟨λn hv=>hv.2,λp pr _ _ s _ _ c hv=>hv.2⟩).1 i hi
theorem gU.kr{c d:Kr}(h:gU c d)(k:dV c.l c.ops c.ps):dV d.l d.ops d.ps:=by
 have h1:=h.one k.ne;obtain⟨n1,n2,n3,P,t1,t2,hP,t3,rfl⟩:=h.ex;refine⟨λo ho=>k.sm o (ab0 ho),?_,?_,?_,λp hp=>?_,λe=>?_⟩
 .show(c.l.take n1).length<=_;rw[aa8];have:=k.ll;omega
 .show(c.ops.take n2).length<=_;rw[aa8];have:=k.lo;omega
 .show(P.take n3).length<=_;rw[aa8,hP.1];have:=k.lp;omega
 .refine hP.all (Q:=λp=>p.an.length<=10) (λt o ho=>?_) p (ab0 hp)
  unfold gd;split
  .simp[fl]
  .exact k.sl o (Vm ho)
 .have h1:1<=(P.take n3).length:=h1;have e:P.take n3=[]:=e;rw[e]at h1;simp at h1
theorem Ec.Wj{α:Type}{q:Nat->α->Bool}{mn n n':Nat}{L:List α}(h:jG q mn L n)(h':jG q mn (L.take n) n'):n'=(L.take n).length:=by
 have hn:=h.t.le;have e:(L.take n).length=n:=iD hn;have Q3:=h'.t.le;have RL:=h'.t.mn;rw[e]at Q3 RL|-;rcases aax n' n with ax|ef
 .exfalso;rcases h.e with h1|⟨o,ho,hq⟩
  .omega
  .have h2:(L.take n)[n-1]? =some o:=by rw[aca om];exact ho
   have:=h'.t.dr (n-1) o om h2;rw[hq]at this;cases this
 .omega
theorem Ed{L:List Obj}{ps:List aL}(h:false=iT L ps ps.length){t:Nat}{x:aL}(hx:ps[t]? =some x):jY L t x=false:=by
 cases he:jY L t x with
 |false=>rfl
 |true=>
  have:iT L ps ps.length=true:=by
   unfold iT;rw[abP];exact⟨t,by simpa using(Lw.1 hx).1,by rw[hx];exact he⟩
  rw[this]at h;cases h
theorem Pt.id{α:Type}{l L:List α}{f:Nat->α->α}(h:Pt l L f)(hf:∀(t:Nat)o,l[t]? =some o->f t o=o):L=l:=by
 apply ab4;intro t;cases ht:l[t]? with
 |some o=>rw[h.2 t o ht,hf t o ht]
 |none=>
  have:l.length<=t:=by simpa using ht
  simp[h.1,this]
theorem GP{p:Int}{o:Obj}(h:cN p o=true):o.ah≠0:=by intro h0;simp[cN,h0]at h
structure Left(c:Kr)(b:Mk):Prop where
 ok:gm c.l c.ops c.ps b
 all:∀(i:Nat)o,c.l[i]? =some o->o.ah≠0->dv b.O i
 ops:∀(i:Nat)o,c.ops[i]? =some o->¬dv b.P i->o=⟨-1,0⟩
 prs:∀(t:Nat)x,c.ps[t]? =some x->jY c.l t x=false
theorem cL.left{a c:Kr}(h:cL a.l a.ops a.ps c.l c.ops c.ps false):∃b,Left c b:=by
 obtain⟨b,hb,hP,AW⟩:=h.ex;have i3:c.ps=a.ps:=h.pr.id λt o ho=>by have:=Ed h.en ho;simp[wM,this]
 have hlen:=hP.1;have vq:=AW.1;have Jg:∀(i:Nat)o',a.l[i]? =some o'->dv b.O i->∃o,c.l[i]? =some o/\o.ah=o'.ah/\o.ag=o'.ag/\o.aj=o'.aj:=λi o' d5 hi=>by
  refine⟨_,hP.2 i o' d5,?_⟩;have hd:dH b a.l i=false:=by unfold dH;rw[d5];have:b.O[i]? =some true:=hi;simp[this]
  unfold cF;rw[hd];simp only[Bool.false_and,acj,if_false];split<;>exact⟨rfl,rfl,rfl⟩
 have UW:∀(i:Nat)o,c.l[i]? =some o->o.ah≠0->dv b.O i/\∃o',a.l[i]? =some o'/\o.ah=o'.ah/\o.ag=o'.ag/\o.aj=o'.aj:=λi o ho hk=>by
  obtain⟨o',d5,e⟩:=hP.get ho;have MW:i<a.l.length:=(Lw.1 d5).1;unfold cF at e;split at e
  .rw[e]at hk;exact absurd rfl hk
  .rename_i so;have hko:o.ah=o'.ah:=by split at e<;>rw[e]
   refine⟨?_,o',d5,hko,by split at e<;>rw[e],by split at e<;>rw[e]⟩
   have hd:dH b a.l i=false:=by
    cases RI:dH b a.l i with
    |false=>rfl
    |true=>exact absurd (by rw[RI];simpa using MW) so
   unfold dH at hd;rw[d5]at hd;have iG:(o'.ah !=0)=true:=by rw[<-hko];simpa using hk
   simp only[iG,aez]at hd;simpa[dv]using hd
 have YW:∀z n,vO c.l z n->dv b.O n/\vO a.l z n:=λz n hv=>by
  obtain⟨hz,o,ho,hk⟩:=hv;obtain⟨h1,o',d5,iG,_⟩:=UW n o ho hk;exact⟨h1,hz,o',d5,by rw[<-iG];exact hk⟩
 have hva:∀z n,vO a.l z n->dv b.O n->vO c.l z n:=λz n hv hn=>by
  obtain⟨hz,o',d5,hk⟩:=hv;obtain⟨o,ho,iG,_⟩:=Jg n o' d5 hn;exact⟨hz,o,ho,by rw[iG];exact hk⟩
 have hvp:∀z n,vP c.ops z n↔vP a.ops z n:=λz n=>by unfold vP;rw[vq]
 have aiN:∀(i:Nat)o,c.ops[i]? =some o->dv b.P i->a.ops[i]? =some o:=λi o ho hi=>by obtain⟨o',d5,e⟩:=AW.get ho;have:b.P[i]? =some true:=hi;rw[e];simpa[zT,this]using d5
 refine⟨b,⟨⟨by rw[hlen];exact hb.len.1,by rw[vq];exact hb.len.2⟩,⟨λn hv=>(YW 0 n hv).1,λp pr hp hl s hs hh cc hv=>?_⟩,⟨λi o hi ho z n hz hv=>(YW z n hv).1,λi o hi ho z cc hz hv=>?_,λcc o hc ho n hv=>(YW _ n hv).1⟩,λRO RP gF hr=>?_⟩,λi o ho hk=>(UW i o ho hk).1,λi o ho hn=>?_,λt x hx=>?_⟩
 .rw[i3]at hp;exact hb.nR.2 p pr hp hl s hs hh cc ((hvp _ _).1 hv)
 .obtain⟨o',d5,e⟩:=hP.get ho;obtain⟨o2,o0,_,_,hq⟩:=Jg i o' d5 hi;rw[ho]at o0;cases o0;obtain⟨q,Fv,Re,hq3⟩:=hz;exact hb.cl.q i o' hi d5 z cc ⟨q,by rw[<-hq];exact Fv,Re,hq3⟩ ((hvp _ _).1 hv)
 ·
  have ip:=hb.iC (λi=>RO i/\dv b.O i) (λcc=>RP cc/\dv b.P cc) ⟨λi o' hi d5 z n hz hv=>?_,λi o' hi d5 z cc hz hv=>?_,λcc o' hc d5 n hv=>?_⟩ ⟨λn hv=>?_,λp pr hp hl s hs hh cc hv=>?_⟩
  .exact⟨λi hi=>(ip.1 i hi).1,λi hi=>(ip.2 i hi).1⟩
  .have hn:=hb.cl.e i o' hi.2 d5 z n hz hv;obtain⟨o,ho,_,he,_⟩:=Jg i o' d5 hi.2;obtain⟨nm,hm⟩:=hz;exact⟨gF.e i o hi.1 ho z n ⟨nm,by rw[he];exact hm⟩ (hva z n hv hn),hn⟩
  .have hn:=hb.cl.q i o' hi.2 d5 z cc hz hv;obtain⟨o,ho,_,_,hq⟩:=Jg i o' d5 hi.2;obtain⟨q,Fv,Re,hq3⟩:=hz;exact⟨gF.q i o hi.1 ho z cc ⟨q,by rw[hq];exact Fv,Re,hq3⟩ ((hvp _ _).2 hv),hn⟩
  .have hn:=hb.cl.p cc o' hc.2 d5 n hv;have hco:c.ops[cc]? =some o':=by have:=AW.2 cc o' d5;have OL:b.P[cc]? =some true:=hc.2;simpa[zT,OL]using this
   exact⟨gF.p cc o' hc.1 hco n (hva _ n hv hn),hn⟩
  .have hn:=hb.nR.1 n hv;exact⟨hr.1 n (hva 0 n hv hn),hn⟩
  .exact⟨hr.2 p pr (by rw[i3];exact hp) hl s hs hh cc ((hvp _ _).2 hv),hb.nR.2 p pr hp hl s hs hh cc hv⟩
 .obtain⟨o',d5,e⟩:=AW.get ho;have ax:i<a.ops.length:=(Lw.1 d5).1;have hn:(b.P[i]? ==some true)=false:=by simpa[dv]using hn
  rw[e];simp[zT,hn,ax]
 .rw[i3]at hx;exact Ed h.en hx
theorem gU.Z2{c d:Kr}{b bd:Mk}(hl:Left c b)(hf:gU c d)(hd:gm d.l d.ops d.ps bd):(∀(i:Nat)o,d.l[i]? =some o->o.ah≠0->dv bd.O i)/\(∀(i:Nat)o,d.ops[i]? =some o->¬dv bd.P i->o=⟨-1,0⟩):=by
 obtain⟨n1,n2,n3,P,t1,t2,hP,t3,rfl⟩:=hf.ex;have hd:gm (c.l.take n1) (c.ops.take n2) (P.take n3) bd:=hd;have h1:∀(i:Nat)o,c.l[i]? =some o->o.ah≠0->(c.l.take n1)[i]? =some o:=λi o ho hk=>by
  rcases aax i n1 with h|h
  .rw[aca h];exact ho
  .have:=t1.t.dr i o h ho;simp[qO]at this;exact absurd this hk
 have hvO:∀z n,vO c.l z n->vO (c.l.take n1) z n:=λz n⟨hz,o,ho,hk⟩=>⟨hz,o,h1 n o ho hk,hk⟩
 have ip:=hl.ok.iC (λi=>dv bd.O i) (λcc=>dv bd.P cc\/n2<=cc) ⟨λi o hi ho z n hz hv=>?_,λi o hi ho z cc hz hv=>?_,λcc o hc ho n hv=>?_⟩ ⟨λn hv=>?_,λp pr hp bO s hs hh cc hv=>?_⟩
 .refine⟨λi o ho hk=>?_,λi o ho hn=>?_⟩
  .have ho:(c.l.take n1)[i]? =some o:=ho;rw[abK]at ho;split at ho
   .exact ip.1 i (hl.all i o ho hk)
   .cases ho
  .have ho:(c.ops.take n2)[i]? =some o:=ho;rw[abK]at ho;split at ho
   .rename_i ax;refine hl.ops i o ho λhb=>?_
    rcases ip.2 i hb with h|h
    .exact hn h
    .omega
   .cases ho
 .obtain⟨o',d5,hk⟩:=hd.ah hi;have:(c.l.take n1)[i]? =some o:=by
   rw[abK]at d5|-;split at d5
   .rename_i ax;rw[if_pos ax];exact ho
   .cases d5
  exact hd.cl.e i o hi this z n hz (hvO z n hv)
 .obtain⟨o',d5,hk⟩:=hd.ah hi;have:(c.l.take n1)[i]? =some o:=by
   rw[abK]at d5|-;split at d5
   .rename_i ax;rw[if_pos ax];exact ho
   .cases d5
  rcases aax cc n2 with h|h
  .exact .inl (hd.cl.q i o hi this z cc hz ⟨hv.1,by have:=hv.2;rw[aa8];omega⟩)
  .exact .inr h
 .rcases hc with hc|hc
  .have ax:cc<n2:=by have h2:=(Lw.1 hc).1;rw[hd.len.2,aa8]at h2;omega
   exact hd.cl.p cc o hc (by rw[aca ax];exact ho) n (hvO _ n hv)
  .have:=t2.t.dr cc o hc ho;simp[qP]at this;have:=hv.1;omega
 .exact hd.nR.1 n (hvO 0 n hv)
 .rcases aax cc n2 with h|h
  .refine .inl (hd.nR.2 p pr ?_ bO s hs hh cc ⟨hv.1,by have:=hv.2;rw[aa8];omega⟩)
   have hnz:gd (c.l.take n1) c.ps.length p pr=pr:=by unfold gd qZ;simp[bO]
   have Lj:=hP.2 p pr hp;rw[hnz]at Lj;rcases aax p n3 with h3|h3
   .rw[aca h3];exact Lj
   .have:=t3.t.dr p pr h3 Lj;simp[qR,bO]at this
  .exact .inr h
theorem gU.zU{c d:Kr}{b:Mk}(hl:Left c b)(hf:gU c d){L:List Obj}{L2:List aT}{L3:List aL}{en:Bool}(h:cL d.l d.ops d.ps L L2 L3 en):L=d.l/\L2=d.ops/\L3=d.ps/\en=false:=by
 obtain⟨bd,hbd,hP1,AW⟩:=h.ex;obtain⟨m1,m2⟩:=hf.Z2 hl hbd;have lh:∀i,dH bd d.l i=false:=λi=>by
  unfold dH;cases hi:d.l[i]? with
  |none=>rfl
  |some o=>
   by_cases hk:o.ah=0
   .simp[hk]
   .have:bd.O[i]? =some true:=m1 i o hi hk;simp[this]
 have RW:∀(t:Nat)x,d.ps[t]? =some x->jY d.l t x=false:=λt x hx=>by
  obtain⟨n1,n2,n3,P,t1,t2,hP,t3,rfl⟩:=hf.ex;have hx:(P.take n3)[t]? =some x:=hx;rw[abK]at hx;split at hx
  .obtain⟨y,hy,e⟩:=hP.get hx;cases bO:x.aF with
   |false=>simp[jY,bO]
   |true=>
    have NU:x=y:=by
     unfold gd at e;split at e
     .rw[e]at bO;simp[fl]at bO
     .exact e
    subst NU;have he:=hl.prs t x hy;cases h0:jY (c.l.take n1) t x with
    |false=>rfl
    |true=>
     unfold jY at he h0;simp[bO]at he h0;obtain⟨o,ho,hh⟩:=he h0.1;obtain⟨i,hi⟩:=aak ho;have hk:=GP hh;have kR:o∈c.l.take n1:=by
      rcases aax i n1 with h|h
      .exact Vm (by rw[aca h];exact hi)
      .have:=t1.t.dr i o h hi;simp[qO]at this;exact absurd this hk
     have:=h0.2 o kR;rw[hh]at this;cases this
  .cases hx
 have hL:L=d.l:=hP1.id λt o _=>by
  unfold cF;rw[lh t];have:lg bd d.l d.l.length o.aG=false:=by unfold lg;rw[lh];simp
  rw[this];simp
 have nS:=h.pr;have l4:=h.en;rw[hL]at nS l4;refine⟨hL,AW.id λt o ho=>?_,nS.id λt o ho=>?_,?_⟩
 .unfold zT;split
  .rename_i hh;have hn:¬dv bd.P t:=by intro OL;have OL:bd.P[t]? =some true:=OL;simp[OL]at hh
   exact(m2 t o ho hn).symm
  .rfl
 .simp[wM,RW t o ho]
 .rw[l4];cases he:iT d.l d.ps d.ps.length with
  |false=>rfl
  |true=>
   unfold iT at he;rw[abP]at he;obtain⟨t,ht,Ca⟩:=he;have Jf:t<d.ps.length:=by simpa using ht
   rw[wy Jf]at Ca;have Ca:jY d.l t d.ps[t]=true:=Ca;rw[RW t _ (wy Jf)]at Ca;cases Ca
theorem gU.Jh{c d a2 c2 d2:Kr}{b:Mk}(hl:Left c b)(hf:gU c d)(h1:gT d a2)(h2:cL a2.l a2.ops a2.ps c2.l c2.ops c2.ps false)(h3:gU c2 d2):d2=d:=by
 have ha:a2=d:=by
  clear h2 h3
  induction h1 with
  |refl=>rfl
  |step h ho ih=>
   subst ih;exact absurd (hf.zU hl ho).2.2.2 aD
 subst ha;obtain⟨e1,e2,e3,_⟩:=hf.zU hl h2;obtain⟨n1,n2,n3,P,t1,t2,hP,t3,he⟩:=hf.ex;obtain⟨m1,m2,m3,P',s1,s2,Yi,s3,rfl⟩:=h3.ex;rw[e1]at s1 Yi s3|-;rw[e2]at s2|-;rw[e3]at Yi;obtain⟨dl,we,dps⟩:=a2;cases he;have k1:=Ec.Wj t1 s1;have k2:=Ec.Wj t2 s2;have q1:(c.l.take n1).take m1=c.l.take n1:=by rw[k1,abD]
 have q2:(c.ops.take n2).take m2=c.ops.take n2:=by rw[k2,abD]
 have hid:P'=P.take n3:=by
  have Yi:Pt (P.take n3) P' (gd ((c.l.take n1).take m1) (P.take n3).length):=Yi;rw[q1]at Yi;refine Yi.id λt x hx=>?_
  rw[abK]at hx;split at hx
  .obtain⟨y,hy,e⟩:=hP.get hx;have Z3:t<c.ps.length:=(Lw.1 hy).1;by_cases hq:qZ (c.l.take n1) t y=true
   .have:x=fl:=by rw[e];simp[gd,hq,Z3]
    subst this;unfold gd;split<;>rfl
   .have NU:x=y:=by rw[e];simp[gd,hq]
    subst NU;simp[gd,hq]
  .cases hx
 subst hid;have s3:jG (qR ((c.l.take n1).take m1)) 1 (P.take n3) m3:=s3;rw[q1]at s3;have k3:=Ec.Wj t3 s3;show Kr.mk ((c.l.take n1).take m1) ((c.ops.take n2).take m2) ((P.take n3).take m3)=Kr.mk (c.l.take n1) (c.ops.take n2) (P.take n3);rw[q1,q2,k3,abD]
end Go.Proofs.YtllkfpggoigbaaaGreatDoor
