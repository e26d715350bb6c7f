/- Part 14 of 16. -/
import Derived.Test.YtodckkkbiidffaaGreatDoorH11
import Derived.Test.YtodckkkbiidffaaGreatDoorH12
import Derived.Test.YtodckkkbiidffaaGreatDoorH13
set_option linter.unusedVariables false
set_option linter.unusedSimpArgs false
set_option maxRecDepth 100000
set_option maxHeartbeats 0
namespace Go.Proofs.YtodckkkbiidffaaGreatDoor
open Proofs.Tryz
open Go.AM Go.ChangeShapes Go.WideShapes Go.ChangeAt Go.RowKit
structure xw(l:List Obj):Prop where
 oi:lM l
 en:∀o,o∈l->∃es:List NE,o.ak=es.map fX/\Fg es/\es.length<=4194304/\∀e,e∈es->0<=e.2/\e.2<(l.length:Int)
def NM(R:List Obj×Int)(r:CV)(m:Mem):Prop:=∃r' m',View 0 ⟨[r],m⟩ ⟨[r'],m'⟩/\r'= .bz [mZ R.1,cG R.2]/\m'=[]
theorem gv{R:List Obj×Int}{m:Mem}(e:Int)(h:R=([],e)):NM R (.bz [.one .aK,cG e]) m:=by subst h;refine⟨_,_,View.of m.length [] [] rfl rfl rfl rfl rfl rfl (.put (Xq (.one (.fE (.aK 9))) (.one (.bg (.ah _)))) .nil) (.nil _),rfl,rfl⟩
theorem sD{l:List Obj}{n p:Nat}(hn:n<l.length)(hp:p<l.length){name:ByteArray}{E:List (List Dt)}(hE:E=(iL (name,(p:Int)) (l[n].ak.map nZ)).map fX){q:Obj}(hq:q={l[p]with am:=IntKind.i64.wrap (l[p].am+1),up:=if l[p].ag=2 then(n:Int)else l[p].up}):
  ∃o2,(l.set p q)[n]? =some o2/\(l.set p q).set n {o2 with ak:=E}=jP l n p name:=by
 subst hE;unfold jP;rw[vl hn];simp only[];by_cases h:p=n
 .subst h;rw[SC hn,SC hn];refine⟨_,rfl,?_⟩;simp only[acD];subst hq;rfl
 .rw[Xg h,vl hn,Xg (λe=>h e.symm),vl hp]
  refine⟨_,rfl,?_⟩;simp only[];rw[List.set_comm _ _ h,<-hq]
theorem Du(l:List Obj)(hs:xw l)(cK bo:Int)(name:ByteArray)(b:Bool)(hN:∀{m:Mem}{K:CV->Mem->Prop},K (aE b) m->ap prog 106 [eU name] m K):
  body prog c112 [cA l,an .i64 cK,eU name,an .i64 bo] [] (NM (cO b l cK name bo)):=by
 have hE:∀R,R=cO b l cK name bo->body prog c112 [cA l,an .i64 cK,eU name,an .i64 bo] [] (NM R)->body prog c112 [cA l,an .i64 cK,eU name,an .i64 bo] [] (NM (cO b l cK name bo)):=λR h h2=>h▸h2
 refine aN (λh1=>?_) (λh1=>?_)
 .exact gv 6 (by unfold cO;rw[xq h1];rfl)
 obtain⟨n,rfl⟩:∃n:Nat,cK=n:=⟨cK.toNat,by have h1:¬cK<0:=h1;omega⟩
 refine aN (λh2=>?_) (λh2=>?_)
 .have h2:(n:Int)>=((l.map Obj.enc).length:Int):=h2;rw[Nr]at h2;exact gv 6 (by unfold cO;rw[xr h2];rfl)
 have h2:¬(n:Int)>=((l.map Obj.enc).length:Int):=h2;rw[Nr]at h2;have hn:n<l.length:=om;have Pc:=iR hn;refine af Pc ?_;refine bs (λh3=>?_) (λh3=>?_)
 .exact gv 6 (by unfold cO;rw[xt hn h3];rfl)
 have h3:l[n].ag≠0:=h3;have d1:=xu hn h3;refine aN (λh4=>?_) (λh4=>?_)
 .exact gv 6 (by unfold cO;rw[d1,xq h4];rfl)
 obtain⟨p,rfl⟩:∃p:Nat,bo=p:=⟨bo.toNat,by have h4:¬bo<0:=h4;omega⟩
 refine aN (λh5=>?_) (λh5=>?_)
 .have h5:(p:Int)>=((l.map Obj.enc).length:Int):=h5;rw[Nr]at h5;exact gv 6 (by unfold cO;rw[d1,xr h5];rfl)
 have h5:¬(p:Int)>=((l.map Obj.enc).length:Int):=h5;rw[Nr]at h5;have hp:p<l.length:=om;have hgp:=iR hp;refine af hgp ?_;refine bs (λh6=>?_) (λh6=>?_)
 .exact gv 6 (by unfold cO;rw[d1,xt hp h6];rfl)
 have h6:l[p].ag≠0:=h6;have d2:=xu hp h6;have hR:cO b l n name p=zK b l[n] (jP l n p name) name:=by unfold cO;rw[if_pos d1,if_pos d2,aae,aae,vl hn]
 rw[hR];unfold zK;refine af Pc ?_;refine bt (λh7=>?_) (λh7=>?_)
 .exact gv 11 (if_pos h7)
 have h7:l[n].ag=2:=by simpa using h7
 rw[if_neg (by rw[h7];simp)]
 refine af Pc ?_;refine bs (λh8=>?_) (λh8=>?_)
 .exact gv 6 (if_pos h8)
 have h8:l[n].am≠0:=h8;rw[if_neg h8];refine hN ?_;cases b with
 |false=>exact gv 7 (if_pos rfl)
 |true=>
 rw[if_neg aC];obtain⟨es,he,Bq,Qy,cH⟩:=hs.en _ (aar hn);have So:l[n].ak.map nZ=es:=by rw[he,nK]
 refine Dm l n hn h7 es he om name ?_;have YQ:xl l es n name=fH es name:=zH Bq name;rw[YQ,So];refine aN (λh9=>?_) (λh9=>?_)
 .exact gv 7 (if_pos h9)
 rw[if_neg h9];refine af Pc ?_;refine aN (λUa=>?_) (λUa=>?_)
 .exact gv 15 (if_pos (by have Ua:(l[n].ak.length:Int)>=8:=Ua;omega))
 have Ua:¬(l[n].ak.length:Int)>=8:=Ua;rw[if_neg om];have aa4:Bd es name=false:=by
  have h9:¬fH es name>=0:=h9;rw[<-YQ]at h9;cases hb:Bd es name with
  |false=>rfl
  |true=>
   exfalso;apply h9;unfold xl;rw[if_pos hb];unfold Bd at hb;cases hg:es[qS es name]? with
   |none=>rw[hg]at hb;cases hb
   |some e=>exact(cH e (Sj hg)).1
 have oh:∀Q,cD (bO n Q 0 l) n=some (dx l[n] (.row Q 2 0 none) l[n].am l[n].up):=λQ=>by rw[aT,f9,vl hn,aaM,aax,kJ,if_pos rfl]
 have U9:Bo l n l.length= .row 2 (aa (es.map cY)):=by
  unfold Bo;rw[show Nat.blt n l.length=true by simpa using hn]
  show Bk.row 2 (aa (match l[n]? with|some o=>o.ak|none=>[]))=_
  rw[vl hn];show Bk.row 2 (aa l[n].ak)=_;rw[he];rfl
 have Xs:∀Q,lenOf (bO n Q 0 l).length 0 none=l.length:=λQ=>f8 n Q l 0
 have tH:∀Q(k:Nat),k<l.length->dQ (k:Nat) (lenOf (bO n Q 0 l).length 0 none)=some k:=λQ k hk=>ct (by rw[Xs];exact hk)
 refine Bp l hs.oi n ?_;rw[U9];refine af (tH 1 n hn) ?_;refine af (oh 1) ?_;refine TN es om name 139 (λe m K h=>TW e name h) (id:=1) rfl ?_
 refine af (tH 1 n hn) ?_;refine af (oh 1) ?_;have Tl:qS es name<=es.length:=(o6 Bq name es.length 0 es.length om om om (λk e hk=>absurd hk (aaR k)) (λk e hk he=>by have:=(JJ.1 he).1;omega)).1
 refine JU (es.map cY) (cY (name,(p:Int))) (qS es name) (by rw[Nr];exact Tl) (by rw[Nr];exact Qy) 1 2 rfl rfl rfl rfl ?_
 refine af (tH 1 n hn) ?_;refine af (oh 1) ?_;have mh:aW (bO n 1 0 l) n (dx l[n] (.row 3 2 0 none) l[n].am l[n].up)=bO n 3 0 l:=by have:=FX (p:=n) (Q:=1) (Q':=3) (vl hn);rw[<-this,kJ,if_pos rfl]
 have JV:(es.map cY).take (qS es name)++cY (name,(p:Int))::(es.map cY).drop (qS es name)=(iL (name,(p:Int)) (l[n].ak.map nZ)).map fX:=by rw[So,T1 Bq aa4,aby,aaJ,acx,adp];rfl
 have jy:∀L2:List Obj,L2=jP l n p name->aw prog 0 aaP (oC prog c112.lP (NM (jP l n p name,0))) ⟨kz 128 [(10,cA L2)],[]⟩:=λL2 h=>by subst h;exact⟨_,_,View.o 0 [] [] (.eq rfl .nil) (.nil _),rfl,rfl⟩
 by_cases FY:p=n
 .have Xt:cD (bO n 3 0 l) p=some (dx l[p] (.row 3 2 0 none) l[p].am l[p].up):=by rw[aT,f9,vl hp,aaM,aax,kJ,if_pos FY]
  have oP:aW (aW (bO n 1 0 l) n (dx l[n] (.row 3 2 0 none) l[n].am l[n].up)) p (dx l[p] (.row 3 2 0 none) (IntKind.i64.wrap (l[p].am+1)) l[p].up)=bO n 3 0 (l.set p {l[p]with am:=IntKind.i64.wrap (l[p].am+1)}):=by
   rw[mh];have:=pJ (p:=n) (Q:=3) (o:={l[p]with am:=IntKind.i64.wrap (l[p].am+1)}) hp
   rw[<-this,kJ,if_pos FY]
  have eY:∀l2:List Obj,l2.length=l.length->dQ (p:Nat) (lenOf (bO n 3 0 l2).length 0 none)=some p:=λl2 h=>ct (by rw[show lenOf (bO n 3 0 l2).length 0 none=l2.length from f8 n 3 l2 0,h];exact hp)
  have qV:cD (aW (aW (bO n 1 0 l) n (dx l[n] (.row 3 2 0 none) l[n].am l[n].up)) p (dx l[p] (.row 3 2 0 none) (IntKind.i64.wrap (l[p].am+1)) l[p].up)) p=some (dx l[p] (.row 3 2 0 none) (IntKind.i64.wrap (l[p].am+1)) l[p].up):=by
   rw[aY,aT,SC (by rw[mh,f8];exact hp)]
  refine af (by rw[mh];exact eY l rfl:dQ (p:Nat) (lenOf (aW (bO n 1 0 l) n (dx l[n] (.row 3 2 0 none) l[n].am l[n].up)).length 0 none)=some p) ?_
  refine af (by rw[mh];exact Xt:cD (aW (bO n 1 0 l) n (dx l[n] (.row 3 2 0 none) l[n].am l[n].up)) p=some (dx l[p] (.row 3 2 0 none) l[p].am l[p].up)) ?_
  refine af (by rw[mh];exact eY l rfl:dQ (p:Nat) (lenOf (aW (bO n 1 0 l) n (dx l[n] (.row 3 2 0 none) l[n].am l[n].up)).length 0 none)=some p) ?_
  refine af (by rw[mh];exact Xt:cD (aW (bO n 1 0 l) n (dx l[n] (.row 3 2 0 none) l[n].am l[n].up)) p=some (dx l[p] (.row 3 2 0 none) l[p].am l[p].up)) ?_
  refine af (by rw[oP];exact eY _ (aay ..):dQ (p:Nat) (lenOf (aW (aW (bO n 1 0 l) n (dx l[n] (.row 3 2 0 none) l[n].am l[n].up)) p (dx l[p] (.row 3 2 0 none) (IntKind.i64.wrap (l[p].am+1)) l[p].up)).length 0 none)=some p) ?_
  refine af qV ?_;refine bs (λhk=>?_) (λhk=>?_)
  .have hk:l[p].ag=2:=hk;have NN:aW (aW (aW (bO n 1 0 l) n (dx l[n] (.row 3 2 0 none) l[n].am l[n].up)) p (dx l[p] (.row 3 2 0 none) (IntKind.i64.wrap (l[p].am+1)) l[p].up)) p (dx l[p] (.row 3 2 0 none) (IntKind.i64.wrap (l[p].am+1)) (n:Nat))=bO n 3 0 (l.set p {l[p]with am:=IntKind.i64.wrap (l[p].am+1),up:=(n:Int)}):=by
    rw[oP];have:=pJ (p:=n) (Q:=3) (l:=l.set p {l[p]with am:=IntKind.i64.wrap (l[p].am+1)}) (k:=p) (o:={l[p]with am:=IntKind.i64.wrap (l[p].am+1),up:=(n:Int)}) (by rw[aay];exact hp)
    rw[acD]at this;rw[<-this,kJ,if_pos FY]
   refine af (by rw[oP];exact eY _ (aay ..):dQ (p:Nat) (lenOf (aW (aW (bO n 1 0 l) n (dx l[n] (.row 3 2 0 none) l[n].am l[n].up)) p (dx l[p] (.row 3 2 0 none) (IntKind.i64.wrap (l[p].am+1)) l[p].up)).length 0 none)=some p) ?_
   refine af qV ?_;obtain⟨o2,gQ,eF⟩:=sD (name:=name) hn hp JV (q:={l[p]with am:=IntKind.i64.wrap (l[p].am+1),up:=(n:Int)}) (by rw[if_pos hk])
   refine⟨_,View.o 4 [] [0,3] ?_ (.nil _),jy _ eF⟩
   iterate 10 refine .aF ?_
   refine .put (.rv (.one (.fE (p:=none) (HY (Z:=λk=>bx [0,3] k=true) rfl (by show some (Bk.row 9 _)=some (Bk.row 9 _);congr 1;exact congrArg _ NN) rfl rfl gQ)))) ?_
   repeat(first|exact .nil|refine .aF ?_)
  .have hk:l[p].ag≠2:=hk;obtain⟨o2,gQ,eF⟩:=sD (name:=name) hn hp JV (q:={l[p]with am:=IntKind.i64.wrap (l[p].am+1)}) (by rw[if_neg hk])
   refine⟨_,View.o 4 [] [0,3] ?_ (.nil _),jy _ eF⟩
   iterate 10 refine .aF ?_
   refine .put (.rv (.one (.fE (p:=none) (HY (Z:=λk=>bx [0,3] k=true) rfl (by show some (Bk.row 9 _)=some (Bk.row 9 _);congr 1;exact congrArg _ oP) rfl rfl gQ)))) ?_
   repeat(first|exact .nil|refine .aF ?_)
 .have Xt:cD (bO n 3 0 l) p=some (dx l[p] (.ah (.sl 2 l[p].ak)) l[p].am l[p].up):=by rw[aT,f9,vl hp,aaM,aax,kJ,if_neg FY]
  have oP:aW (aW (bO n 1 0 l) n (dx l[n] (.row 3 2 0 none) l[n].am l[n].up)) p (dx l[p] (.ah (.sl 2 l[p].ak)) (IntKind.i64.wrap (l[p].am+1)) l[p].up)=bO n 3 0 (l.set p {l[p]with am:=IntKind.i64.wrap (l[p].am+1)}):=by
   rw[mh];have:=pJ (p:=n) (Q:=3) (o:={l[p]with am:=IntKind.i64.wrap (l[p].am+1)}) hp
   rw[<-this,kJ,if_neg FY]
  have eY:∀l2:List Obj,l2.length=l.length->dQ (p:Nat) (lenOf (bO n 3 0 l2).length 0 none)=some p:=λl2 h=>ct (by rw[show lenOf (bO n 3 0 l2).length 0 none=l2.length from f8 n 3 l2 0,h];exact hp)
  have qV:cD (aW (aW (bO n 1 0 l) n (dx l[n] (.row 3 2 0 none) l[n].am l[n].up)) p (dx l[p] (.ah (.sl 2 l[p].ak)) (IntKind.i64.wrap (l[p].am+1)) l[p].up)) p=some (dx l[p] (.ah (.sl 2 l[p].ak)) (IntKind.i64.wrap (l[p].am+1)) l[p].up):=by
   rw[aY,aT,SC (by rw[mh,f8];exact hp)]
  refine af (by rw[mh];exact eY l rfl:dQ (p:Nat) (lenOf (aW (bO n 1 0 l) n (dx l[n] (.row 3 2 0 none) l[n].am l[n].up)).length 0 none)=some p) ?_
  refine af (by rw[mh];exact Xt:cD (aW (bO n 1 0 l) n (dx l[n] (.row 3 2 0 none) l[n].am l[n].up)) p=some (dx l[p] (.ah (.sl 2 l[p].ak)) l[p].am l[p].up)) ?_
  refine af (by rw[mh];exact eY l rfl:dQ (p:Nat) (lenOf (aW (bO n 1 0 l) n (dx l[n] (.row 3 2 0 none) l[n].am l[n].up)).length 0 none)=some p) ?_
  refine af (by rw[mh];exact Xt:cD (aW (bO n 1 0 l) n (dx l[n] (.row 3 2 0 none) l[n].am l[n].up)) p=some (dx l[p] (.ah (.sl 2 l[p].ak)) l[p].am l[p].up)) ?_
  refine af (by rw[oP];exact eY _ (aay ..):dQ (p:Nat) (lenOf (aW (aW (bO n 1 0 l) n (dx l[n] (.row 3 2 0 none) l[n].am l[n].up)) p (dx l[p] (.ah (.sl 2 l[p].ak)) (IntKind.i64.wrap (l[p].am+1)) l[p].up)).length 0 none)=some p) ?_
  refine af qV ?_;refine bs (λhk=>?_) (λhk=>?_)
  .have hk:l[p].ag=2:=hk;have NN:aW (aW (aW (bO n 1 0 l) n (dx l[n] (.row 3 2 0 none) l[n].am l[n].up)) p (dx l[p] (.ah (.sl 2 l[p].ak)) (IntKind.i64.wrap (l[p].am+1)) l[p].up)) p (dx l[p] (.ah (.sl 2 l[p].ak)) (IntKind.i64.wrap (l[p].am+1)) (n:Nat))=bO n 3 0 (l.set p {l[p]with am:=IntKind.i64.wrap (l[p].am+1),up:=(n:Int)}):=by
    rw[oP];have:=pJ (p:=n) (Q:=3) (l:=l.set p {l[p]with am:=IntKind.i64.wrap (l[p].am+1)}) (k:=p) (o:={l[p]with am:=IntKind.i64.wrap (l[p].am+1),up:=(n:Int)}) (by rw[aay];exact hp)
    rw[acD]at this;rw[<-this,kJ,if_neg FY]
   refine af (by rw[oP];exact eY _ (aay ..):dQ (p:Nat) (lenOf (aW (aW (bO n 1 0 l) n (dx l[n] (.row 3 2 0 none) l[n].am l[n].up)) p (dx l[p] (.ah (.sl 2 l[p].ak)) (IntKind.i64.wrap (l[p].am+1)) l[p].up)).length 0 none)=some p) ?_
   refine af qV ?_;obtain⟨o2,gQ,eF⟩:=sD (name:=name) hn hp JV (q:={l[p]with am:=IntKind.i64.wrap (l[p].am+1),up:=(n:Int)}) (by rw[if_pos hk])
   refine⟨_,View.o 4 [] [0,3] ?_ (.nil _),jy _ eF⟩
   iterate 10 refine .aF ?_
   refine .put (.rv (.one (.fE (p:=none) (HY (Z:=λk=>bx [0,3] k=true) rfl (by show some (Bk.row 9 _)=some (Bk.row 9 _);congr 1;exact congrArg _ NN) rfl rfl gQ)))) ?_
   repeat(first|exact .nil|refine .aF ?_)
  .have hk:l[p].ag≠2:=hk;obtain⟨o2,gQ,eF⟩:=sD (name:=name) hn hp JV (q:={l[p]with am:=IntKind.i64.wrap (l[p].am+1)}) (by rw[if_neg hk])
   refine⟨_,View.o 4 [] [0,3] ?_ (.nil _),jy _ eF⟩
   iterate 10 refine .aF ?_
   refine .put (.rv (.one (.fE (p:=none) (HY (Z:=λk=>bx [0,3] k=true) rfl (by show some (Bk.row 9 _)=some (Bk.row 9 _);congr 1;exact congrArg _ oP) rfl rfl gQ)))) ?_
   repeat(first|exact .nil|refine .aF ?_)
theorem JW(l:List Obj)(hs:xw l)(cK bo:Int)(name:ByteArray)(b:Bool)(hN:∀{m:Mem}{K:CV->Mem->Prop},K (aE b) m->ap prog 106 [eU name] m K){m:Mem}{K:CV->Mem->Prop}(h:K (.bz [mZ (cO b l cK name bo).1,cG (cO b l cK name bo).2]) m):ap prog 112 [cA l,an .i64 cK,eU name,an .i64 bo] m K:=by
 refine be (K0:=λr m=>r= .bz [mZ (cO b l cK name bo).1,cG (cO b l cK name bo).2]/\m=[]) (bH (b8 func112 l112 (Du l hs cK bo name b hN)) λr m1⟨r',m',hv,h1,h2⟩=>⟨r',m',hv,h1,h2⟩) (by simp[cA,an,eU,CV.dv,CC.dv]) λr m1 hr=>?_
 obtain⟨rfl,rfl⟩:=hr;exact⟨_,cL.self rfl,h⟩
def c28:LF:= ⟨3,[.tmp 0],(.seq (.ai [qu 0 (.aI qe)]) (.seq (.ai [qu 1 (.build [qd 0,.aK,.aK,(.ah (.val (.string ⟨#[]⟩))),qd 0,.aK,qd 0,qd 0,qd 0] [(0,1,qi 2),(7,1,qi 1),(4,1,(qi (-1))),(6,1,(qi (-1)))]),qu 2 (.nw 9 [qd 0,.aK,.aK,(.ah (.val (.string ⟨#[]⟩))),qd 0,.aK,qd 0,qd 0,qd 0] 1 [(0,1)]),qm 0 2]) .ret))⟩
def c68:LF:= ⟨90,[.tmp 6,.tmp 7,.tmp 8],(.seq (.ai [qu 5 (.box 2),qu 6 (.aI qe),qu 7 (.aI (qi 0)),qu 8 (.aI (qi 0))]) (.seq (.seq (.ai [qm 11 1,qu 12 (.aJ .lss 11 (qi 0)),qm 13 12,qg 14 (.aI 1) 13 false,qg 15 (.aI 0) 13 false,qg 16 (.len 1 15) 13 false,qg 17 (.aJ .geq 14 16) 13 false,qu 18 (.pick 13 (qb true) 17),qm 19 18,qg 20 (.aI 0) 19 false,qg 21 (.aI 1) 19 false,qg 22 (.cr 9 20 21) 19 false,qg 23 (.bU 0 22) 19 false,qg 24 (.load false 1 23) 19 false,qg 25 (.aJ .eql 24 (qi 0)) 19 false,qu 26 (.pick 19 (qb true) 25)]) (.cond 26 (.seq (.ai [qu 6 (.aI qe),qu 7 (.aI (qi 0)),qu 8 (.aI (qi 6))]) .ret) .skip)) (.seq (.seq (.ai [qm 27 0,qm 28 1,qu 29 (.cr 9 27 28),qf 30 0 29,ql 31 30,qu 32 (.aJ .neq 31 (qi 2))]) (.cond 32 (.seq (.ai [qu 6 (.aI qe),qu 7 (.aI (qi 0)),qu 8 (.aI (qi 11))]) .ret) .skip)) (.seq (.ai [qm 33 0,qm 34 1,ql 35 5,qu 36 (qc 108 [33,34,35]),qm 9 36]) (.seq (.block 0 (.seq (.ai [qm 38 9,qu 39 (.aJ .lss 38 (qi 0)),qm 37 39]) (.cond 37 (.seq (.ai [qu 6 (.aI qe),qu 7 (.aI (qi 0)),qu 8 (.aI (qi 6))]) .ret) (.seq (.ai [qm 41 0,qm 42 9,qu 43 (.cr 9 41 42),qf 44 0 43,ql 45 44,qu 46 (.aJ .eql 45 (qi 2)),qm 47 46,qg 48 (.aI 0) 47 true,qg 49 (.aI 9) 47 true,qg 50 (.cr 9 48 49) 47 true,qg 51 (.bU 2 50) 47 true,qg 52 (.load false 1 51) 47 true,qg 53 (.len 1 52) 47 true,qg 54 (.aJ .gtr 53 (qi 0)) 47 true,qu 55 (.pick 47 54 (qb false)),qm 40 55]) (.cond 40 (.seq (.ai [qu 6 (.aI qe),qu 7 (.aI (qi 0)),qu 8 (.aI (qi 18))]) .ret) .skip))))) (.seq (.ai [qm 56 0,qu 57 (qc 98 [56]),qm 10 57]) (.seq (.ai [qm 58 10,qm 59 1,qm 60 10,qm 61 1,qu 62 (.cr 9 60 61),qf 63 2 62,ql 64 63,qu 65 (.fn 110 [5]),qu 66 (qc 109 [64,65]),qu 67 (.cr 9 58 59),qf 68 2 67,qw (.store 1 68 66)]) (.seq (.ai [qm 69 10,qm 70 9,qu 71 (.cr 9 69 70),qf 72 7 71,ql 73 72,qu 74 (.aJ .sub 73 (qi 1)),qu 75 (.cr 9 69 70),qf 76 7 75,qw (.store 1 76 74)]) (.seq (.seq (.ai [qm 77 10,qm 78 9,qu 79 (.cr 9 77 78),qf 80 0 79,ql 81 80,qu 82 (.aJ .eql 81 (qi 2))]) (.cond 82 (.ai [qm 83 10,qm 84 9,qm 85 9,qu 86 (.cr 9 83 84),qf 87 8 86,qw (.store 1 87 85)]) .skip)) (.cU (.seq (.ai [qm 88 10,qm 89 9,qm 6 88,qm 7 89,qu 8 (.aI (qi 0))]) .ret)))))))))))⟩
def c109:LF:= ⟨42,[.tmp 4],(.seq (.ai [qu 4 (.aI qe)]) (.seq (.ai [qm 8 0,qm 9 1,qu 10 (qc 137 [8,9]),qm 5 10]) (.seq (.seq (.ai [qm 11 5,qu 12 (.aJ .eql 11 (qi (-1)))]) (.cond 12 (.seq (.ai [qm 13 0,qm 4 13]) .ret) .skip)) (.seq (.seq (.ai [qm 14 5,qu 15 (.aJ .add 14 (qi 1)),qm 6 15]) (.block 0 (.loop (.seq (.seq (.ai [qm 16 6,qm 17 0,qu 18 (.len 1 17),qu 19 (.aJ .lss 16 18)]) (.cond 19 .skip (.exit 0))) (.seq (.block 1 (.seq (.ai [qm 22 0,qm 23 6,qu 24 (.cr 2 22 23),qL 25 2 24,qu 7 (.alloc [(.ah (.val (.string ⟨#[]⟩))),qd 0]),qw (.store 2 7 25)]) (.seq (.ai [qm 26 1,qL 27 2 7,qu 28 (.call 26 [27]),qu 29 (.un .not 28)]) (.cond 29 (.seq (.ai [qm 30 0,qm 31 5,qL 32 2 7,qu 33 (.cr 2 30 31),qw (.store 2 33 32)]) (.ai [qm 34 5,qu 35 (.aJ .add 34 (qi 1)),qm 5 35])) .skip)))) (.ai [qm 20 6,qu 21 (.aJ .add 20 (qi 1)),qm 6 21])))))) (.seq (.ai [qm 36 0,qm 37 5,qu 38 (.nT 2 36 (some 37) none none),qw (.UK 2 [(.ah (.val (.string ⟨#[]⟩))),qd 0] 38)]) (.seq (.ai [qm 39 0,qm 40 5,qu 41 (.nT 2 39 none (some 40) none),qm 4 41]) .ret))))))⟩
def c110:LF:= ⟨8,[.tmp 3],(.seq (.ai [qu 2 (.box 0),qu 3 (.aI (qb false))]) (.seq (.ai [qf 4 0 2,ql 5 4,ql 6 1,qu 7 (.aJ .eql 5 6),qm 3 7]) .ret))⟩
def c137:LF:= ⟨19,[.tmp 4],(.seq (.ai [qu 4 (.aI (qi 0))]) (.seq (.seq (.ai [qm 6 0,qu 7 (.len 1 6),qu 8 (.aI (qi 0))]) (.block 0 (.loop (.seq (.ai [qu 9 (.aJ .lss 8 7)]) (.seq (.cond 9 .skip (.exit 0)) (.seq (.block 1 (.seq (.ai [qm 10 8,qm 5 10]) (.seq (.ai [qm 11 1,qm 12 0,qm 13 5,qu 14 (.cr 2 12 13),qL 15 2 14,qu 16 (.call 11 [15])]) (.cond 16 (.seq (.ai [qm 17 5,qm 4 17]) .ret) .skip)))) (.ai [qu 18 (.aJ .add 8 (qi 1)),qm 8 18]))))))) (.seq (.ai [qu 4 (.aI (qi (-1)))]) .ret)))⟩
theorem l110:bw prog f110=some c110:=by kernel_rfl
theorem l137:bw prog f137=some c137:=by kernel_rfl
theorem l109:bw prog f109=some c109:=by kernel_rfl
theorem l68:bw prog f68=some c68.er:=by kernel_rfl
theorem l28:bw prog Tryz.f28=some c28:=by kernel_rfl
def G88:LC:=unW (m9 (m9 (m9 (m9 (m9 (m9 (m9 (m9 (m9 c68.code)))))))))
def NO(name:ByteArray):Bk:= .var [.ah (.val (.string name))]
theorem Dv(e:NE)(name:ByteArray):body prog c110 [xe e,.rv (.one (.ptr 0 0))] [.var ([Dt.val (.string name)].map .ah)] (λr m=>r=aE (e.1.toList==name.toList)/\∃ex,m= .var ([Dt.val (.string name)].map .ah)::ex):=by exact⟨rfl,_,rfl⟩
theorem NP(e:NE)(name:ByteArray)(K:CV->Mem->Prop)(h:K (aE (e.1.toList==name.toList)) [.var ([Dt.val (.string name)].map .ah)]):ap prog 110 [xe e,.rv (.one (.ptr 0 0))] [.var ([Dt.val (.string name)].map .ah)] K:=
 eQ rfl (aZ func110 l110 (Dv e name)) h
theorem FZ{es:List NE}{k:Nat}(h:k<es.length):cD (aa (es.map cY)) k=some [.ah (.val (.string es[k].1)),.ah (.val (.int .i64 es[k].2))]:=by rw[aT];simp[aa,h,cY]
theorem JX(es:List NE):lenOf (aa (es.map cY)).length 0 none=es.length:=by show(aa (es.map cY)).length=_;simp[aa]
theorem Dw(es:List NE)(hl:es.length<=4194304)(name:ByteArray)(j:Nat)(hj:j<es.length)(hjn:es[j].1.toList=name.toList)(hb:∀(i:Nat)e,i<j->es[i]? =some e->e.1.toList≠name.toList):
  body prog c137 [.rv (.one (.row 0 2 0 none)),.rv (.one (.fn 110 [1]))] [.row 2 (aa (es.map cY)),NO name] (λr m=>r=an .i64 (j:Nat)/\m=[.row 2 (aa (es.map cY)),NO name]):=by
 refine ba (λk=>k<=j) [0,1] (λk=>[(7,an .i64 (es.length:Nat)),(8,an .i64 (k:Nat))]) (λ_=>[.row 2 (aa (es.map cY)),NO name]) (λk=>j-k) 0 (aan _) ?_ (λk hk=>?_)
 .refine View.o 2 [0,1] [] ?_ ?_
  .repeat(first|exact .nil|refine .aF ?_|refine .eq rfl ?_|refine .put (.bg (by rw[JX];rfl)) ?_)
  .exact .pr rfl rfl rfl (.pt rfl rfl (.l5 (ds:=[.val (.string name)]) rfl) (.nil _))
 have hk:k<=j:=hk;have gj:k<es.length:=om;refine cE (decide_eq_true (by show(k:Int)<(es.length:Int);omega)) ?_
 refine af (ct (by rw[JX];exact gj):dQ (k:Nat) (lenOf (aa (es.map cY)).length 0 none)=some k) ?_
 refine af (FZ gj) ?_;refine fo (args0:=[xe es[k],.rv (.one (.ptr 0 0))]) (cs:=[.val (.string name)]) 1 rfl rfl (r0:=aE (es[k].1.toList==name.toList)) rfl (λK hK=>NP es[k] name K hK) ?_
 refine aM (λh=>?_) (λh=>?_)
 .have h:es[k].1.toList=name.toList:=by simpa using h
  have:k=j:=by
   rcases aaf k j with h2|h2
   .exact absurd h (hb k _ h2 (vl gj))
   .omega
  subst this;exact⟨rfl,rfl⟩
 .have du:k≠j:=λe=>by subst e;rw[hjn]at h;simp at h
  refine⟨k+1,(by show k+1<=j;omega),(show j-(k+1)<j-k by omega),View.o2 2 [0,1] [] ?_⟩
  .exact .pr rfl rfl rfl (.pt rfl rfl (.l5 (ds:=[.val (.string name)]) rfl) (.nil _))
structure StD where
 t:Nat
 y:NE
def lh(a b:List NE)(t:Nat)(y:NE):List NE:=a++b.take t++y::b.drop t
theorem NQ{a b:List NE}{t:Nat}(h:t<=b.length)(y:NE):(lh a b t y).length=a.length+b.length+1:=by simp[lh];omega
theorem JY{a b:List NE}{t:Nat}(h:t<b.length)(y:NE):(lh a b t y).set (a.length+t) b[t]=lh a b (t+1) b[t]/\(lh a b t y)[a.length+1+t]? =some b[t]:=by
 have h1:(a++b.take t).length=a.length+t:=by simp;omega
 have hd:b.drop t=b[t]::b.drop (t+1):=acQ h;constructor
 .unfold lh;rw[ac3 _ _ om,h1,acA,adj,List.take_succ_eq_append_getElem h,hd];simp only[acy,List.singleton_append]
 .unfold lh;rw[Xi om,h1,show a.length+1+t-(a.length+t)=1 by omega,hd]
  rfl
def Qz:NE:=(⟨#[]⟩,0)
theorem JZ(a b:List NE)(x:NE)(hl:a.length+b.length<=4194303)(name:ByteArray)(hx:x.1.toList=name.toList)(ha:∀e,e∈a->e.1.toList≠name.toList)(hb:∀e,e∈b->e.1.toList≠name.toList):
  body prog c109 [.rv (.one (.row 0 2 0 none)),.rv (.one (.fn 110 [1]))] [.row 2 (aa ((a++x::b).map cY)),NO name]
  (λr m=>r= .rv (.one (.row 0 2 0 (some (a.length+b.length))))/\m=[.row 2 (aa ((a++b++ [Qz]).map cY)),NO name]):=by
 have hlen:(a++x::b).length=a.length+b.length+1:=by simp;omega
 refine(aZ func137 l137 (Dw (a++x::b) om name a.length om (by simp[hx]) (λi e hi he=>?_))).mono λr m⟨hr,hm⟩=>?_
 .rw[YN hi]at he;exact ha e (Sj he)
 subst hr hm;refine ba (λs:StD=>s.t<=b.length) [0,1] (λs=>[(5,an .i64 ((a.length+s.t:Nat):Int)),(6,an .i64 ((a.length+1+s.t:Nat):Int))]) (λs=>[.row 2 (aa ((lh a b s.t s.y).map cY)),NO name]) (λs=>b.length-s.t) ⟨0,x⟩ (aan _) ?_ (λs hs=>?_)
 .refine View.o 2 [0,1] [] ?_ ?_
  .repeat(first|exact .nil|refine .aF ?_|refine .eq rfl ?_|refine .put (.bg (cP om).symm) ?_)
  .exact .pt rfl rfl (.bI (by show aa _=aa _;simp[lh])) (.pt rfl rfl (.l5 (ds:=[.val (.string name)]) rfl) (.nil _))
 obtain⟨t,y⟩:=s;have hs:t<=b.length:=hs;have l4:=NQ (a:=a) hs y;refine aN (λh=>?_) (λh=>?_)
 .have h:((a.length+1+t:Nat):Int)<((lenOf (aa ((lh a b t y).map cY)).length 0 none:Nat):Int):=h;rw[JX,l4]at h;have ht:t<b.length:=om;obtain⟨n1,n2⟩:=JY (a:=a) ht y;have nu:a.length+1+t<(lh a b t y).length:=om;have lJ:(lh a b t y)[a.length+1+t]=b[t]:=by rw[vl nu]at n2;exact ada n2
  have hr:=FZ nu;rw[lJ]at hr;refine af (ct (by rw[JX];exact nu):dQ ((a.length+1+t:Nat):Int) (lenOf (aa ((lh a b t y).map cY)).length 0 none)=some (a.length+1+t)) ?_
  refine af hr ?_;have du:=hb b[t] (aar ht);generalize hbt:b[t]=v at n1 du;refine fo (args0:=[xe v,.rv (.one (.ptr 0 0))]) (cs:=[.val (.string name)]) 1 rfl rfl (r0:=aE (v.1.toList==name.toList)) rfl (λK hK=>NP v name K hK) ?_
  refine cE (by simpa using du) ?_
  refine af (ct (by rw[JX,l4];omega):dQ ((a.length+t:Nat):Int) (lenOf (aa ((lh a b t y).map cY)).length 0 none)=some (a.length+t)) ?_
  refine af (FZ (by rw[l4];omega):cD (aa ((lh a b t y).map cY)) (a.length+t)=_) ?_
  have jo:aW (aa ((lh a b t y).map cY)) (a.length+t) [.ah (.val (.string v.1)),.ah (.val (.int .i64 v.2))]=aa ((lh a b (t+1) v).map cY):=by rw[<-n1,aY,abM];simp[aa,abM,cY]
  have e1:=cP (k:=a.length+t) om;have e2:=cP (k:=a.length+1+t) om;refine⟨⟨t+1,v⟩,ht,(show b.length-(t+1)<b.length-t by omega),View.o 3 [0,1] [] ?_ ?_⟩
  .repeat(first|exact .nil|refine .aF ?_|refine .put (.bg e1.symm) ?_|refine .put (.bg e2.symm) ?_|refine .eq rfl ?_)
  .exact .pt rfl rfl (.bI jo) (.pt rfl rfl (.l5 (ds:=[.val (.string name)]) rfl) (.nil _))
 .have h:¬((a.length+1+t:Nat):Int)<((lenOf (aa ((lh a b t y).map cY)).length 0 none:Nat):Int):=h;rw[JX,l4]at h;have ht:t=b.length:=om;subst ht;have YR:(aa ((lh a b b.length y).map cY)).length=a.length+b.length+1:=by rw[<-l4];simp[aa]
  have eF:cT (aa ((lh a b b.length y).map cY)) (a.length+b.length) [[.ah (.val (.string ⟨#[]⟩)),.ah (.val (.int .i64 0))]]=aa ((a++b++ [Qz]).map cY):=by
   have h1:aa ((lh a b b.length y).map cY)=aa ((a++b).map cY)++ [[.ah (.val (.string y.1)),.ah (.val (.int .i64 y.2))]]:=by simp[lh,aa,cY]
   have h2:(aa ((a++b).map cY)).length=a.length+b.length:=by simp[aa]
   rw[h1,cT,List.take_left' h2,ac0 (by rw[aaL,h2];simp)]
   simp[aa,cY,Qz]
  generalize hX:aa ((lh a b b.length y).map cY)=X at YR eF;have YS:lenOf X.length 0 none=a.length+b.length+1:=YR;refine cE (t:=(Nat.ble (a.length+b.length) (lenOf X.length 0 none)&&Nat.ble (lenOf X.length 0 none) (X.length-0))) (by rw[YS,YR];simp[aaU]) ?_
  have Sq:cT X (a.length+b.length) (gm (lenOf X.length 0 none-(a.length+b.length)) [.ah (.val (.string ⟨#[]⟩)),.ah (.val (.int .i64 0))])=aa ((a++b++ [Qz]).map cY):=by
   rw[YS,show a.length+b.length+1-(a.length+b.length)=1 by omega]
   exact eF
  refine cE (t:=Nat.ble (lenOf X.length 0 none) X.length) (by rw[YS,YR];simp[aaU]) ?_
  refine cE (t:=Nat.blt (a.length+b.length) (lenOf X.length 0 none)) (by rw[YS,abW];omega) ?_
  refine cE (t:=(Nat.ble 0 (a.length+b.length)&&Nat.ble (a.length+b.length) ((cT X (a.length+b.length) (gm (lenOf X.length 0 none-(a.length+b.length)) [.ah (.val (.string ⟨#[]⟩)),.ah (.val (.int .i64 0))])).length-0))) (by rw[Sq];simp[aa,aaU]) ?_
  exact⟨rfl,congrArg (λz=>[Bk.row 2 z,NO name]) Sq⟩
theorem HZ(a b:List NE)(x:NE)(hl:a.length+b.length<=4194303)(name:ByteArray)(hx:x.1.toList=name.toList)(ha:∀e,e∈a->e.1.toList≠name.toList)(hb:∀e,e∈b->e.1.toList≠name.toList){m:Mem}{K:CV->Mem->Prop}(i j:Nat)(pN:fy [i,j]=true)(aD:eI m.length [i,j]=true)(hi:cD m i=some (.row 2 (aa ((a++x::b).map cY))))(hj:cD m j=some (NO name))(h:K (.rv (.one (.row i 2 0 (some (a.length+b.length))))) (cW m [i,j] [.row 2 (aa ((a++b++ [Qz]).map cY)),NO name])):ap prog 109 [.rv (.one (.row i 2 0 none)),.rv (.one (.fn 110 [j]))] m K:=by
 refine bu [i,j] m.length rfl rfl pN aD (args0:=[.rv (.one (.row 0 2 0 none)),.rv (.one (.fn 110 [1]))]) rfl (m0:=[.row 2 (aa ((a++x::b).map cY)),NO name]) (λk b' hk=>?_) (aZ func109 l109 (JZ a b x hl name hx ha hb)) (λr1 m1 hr=>?_)
 .match k,hk with
  |0,hk=>cases hk;exact .inr ⟨λh=>h,_,by rw[aT]at hi;exact hi,.bI rfl⟩
  |1,hk=>cases hk;exact .inr ⟨λh=>h,_,by rw[aT]at hj;exact hj,.l5 (ds:=[.val (.string name)]) rfl⟩
  |n+2,hk=>simp at hk
 .obtain⟨rfl,rfl⟩:=hr;refine⟨aC,?_⟩;show K (.rv (.one (.row i 2 0 (some (a.length+b.length))))) (cW m [i,j] [.row 2 ((aa ((a++b++ [Qz]).map cY)).map (λcs=>cs.map (CC.bg (sg [i,j] m.length)))),NO name])
  rw[ij];exact h
def mz(p:Nat)(c:CC)(k:Nat)(o:Obj):List CC:= (dx o (if k=p then c else .ah (.sl 2 o.ak)) o.am o.up)
def bQ(p:Nat)(c:CC)(l:List Obj):List (List CC):=(l.zipIdx.map λx=>mz p c x.2 x.1)
theorem fA(p:Nat)(c:CC)(l:List Obj)(i:Nat):(bQ p c l)[i]? =(l[i]?).map (mz p c i):=by
 simp only[bQ,Sf,List.getElem?_zipIdx,aaM];cases l[i]? <;>rfl
theorem iv(p:Nat)(c:CC)(l:List Obj):(bQ p c l).length=l.length:=by simp[bQ]
theorem H0(p Q:Nat)(l:List Obj):bO p Q 0 l=bQ p (.row Q 2 0 none) l:=by apply abN;intro i;rw[f9,fA,aaM];rfl
theorem ix{p:Nat}{c:CC}{l:List Obj}{k:Nat}{o:Obj}(hk:k<l.length):aW (bQ p c l) k (mz p c k o)=bQ p c (l.set k o):=by
 rw[aY];apply abN;intro i;rw[fA];by_cases h:k=i
 .subst h;rw[SC (by rw[iv];exact hk),SC hk]
  rfl
 .rw[Xg h,Xg h,fA]
theorem F0{p:Nat}{c c':CC}{l:List Obj}{o:Obj}(hp:l[p]? =some o):aW (bQ p c l) p (mz p c' p o)=bQ p c' l:=by
 have i3:=(JJ.1 hp).1;rw[aY];apply abN;intro i;rw[fA];by_cases h:p=i
 .subst h;rw[SC (by rw[iv];exact i3),hp]
  rfl
 .rw[Xg h,fA];cases l[i]? with
  |none=>rfl
  |some x=>
   have h2:¬i=p:=λe=>h e.symm
   simp only[aax,mz,if_neg h2]
theorem Dx{m:Mem}{Z:Nat->Prop}{pp:Option Nat}{id p:Nat}{c:CC}{l:List Obj}{o:Obj}{E:List (List Dt)}(hz:Z id)(hm:m[id]? =some (.row 9 (bQ p c l)))(hq:dR m Z (some id) c (.sl 2 E))(hp:l[p]? =some o):
  dR m Z pp (.row id 9 0 none) (dk (l.set p {o with ak:=E})):=by
 have i3:=(JJ.1 hp).1;have key:∀(i:Nat)cs es,(bQ p c l)[i]? =some cs->((l.set p {o with ak:=E}).map Obj.enc)[i]? =some es->kh m Z (some id) cs es:=by
  intro i cs es h1 h2;rw[fA]at h1;rw[Sf]at h2;by_cases h:p=i
  .subst h;rw[SC i3]at h2;rw[hp]at h1;cases h1;cases h2;simp only[mz,if_pos,Obj.enc];exact .cons (.ah _) (.cons (.ah _) (.cons hq (.cons (.ah _) (.cons (.ah _) (.cons (.ah _) (.cons (.ah _) (.cons (.ah _) (.cons (.ah _) .nil))))))))
  .rw[Xg h]at h2;cases hx:l[i]? with
   |none=>rw[hx]at h1;cases h1
   |some x=>
    rw[hx]at h1 h2;cases h1;cases h2;have h3:¬i=p:=λe=>h e.symm
    simp only[mz,if_neg h3,Obj.enc];exact .cons (.ah _) (.cons (.ah _) (.cons (.ah _) (.cons (.ah _) (.cons (.ah _) (.cons (.ah _) (.cons (.ah _) (.cons (.ah _) (.cons (.ah _) .nil))))))))
 exact dR.row id 9 0 none _ _ hz hm (by rw[iv,Nr,aay]) (λi cs es h1 h2=>(key i cs es h1 h2).len) (λi cs es j c d h1 h2 h3 h4=>(key i cs es h1 h2).get j c d h3 h4)
def li(l:List Obj)(n k:Nat)(name:ByteArray):List Obj:=match l[n]? with
 |none=>l
 |some o=>match (l.set n {o with ak:=((o.ak.map nZ).filter λe=>decide (e.1.toList≠name.toList)).map fX})[k]? with
  |none=>l
  |some q=>(l.set n {o with ak:=((o.ak.map nZ).filter λe=>decide (e.1.toList≠name.toList)).map fX}).set k {q with am:=IntKind.i64.wrap (q.am-1),up:=if q.ag=2 then(k:Int)else q.up}
def xx(o:Obj)(l:List Obj)(n:Nat)(name:ByteArray):List Obj×Int×Int:=
 if o.ag≠2 then([],0,11)else if fH (o.ak.map nZ) name<0 then([],0,6)else match l[(fH (o.ak.map nZ) name).toNat]? with
  |none=>([],0,6)
  |some q=>if q.ag=2/\q.ak.length>0 then([],0,18)else(li l n (fH (o.ak.map nZ) name).toNat name,fH (o.ak.map nZ) name,0)
def cQ(l:List Obj)(cK:Int)(name:ByteArray):List Obj×Int×Int:=
 if pT l cK 0=true then(match l[cK.toNat]? with
  |none=>([],0,6)
  |some o=>xx o l cK.toNat name)else([],0,6)
theorem jQ{l:List Obj}{n k:Nat}(hn:n<l.length)(hk:k<l.length){name:ByteArray}{E:List (List Dt)}(hE:E=((l[n].ak.map nZ).filter λe=>decide (e.1.toList≠name.toList)).map fX){q:Obj}(hq:q={l[k]with am:=IntKind.i64.wrap (l[k].am-1),up:=if l[k].ag=2 then(k:Int)else l[k].up}):
  ∃o2,(l.set k q)[n]? =some o2/\(l.set k q).set n {o2 with ak:=E}=li l n k name:=by
 subst hE;unfold li;rw[vl hn];simp only[];by_cases h:k=n
 .subst h;rw[SC hn,SC hn];refine⟨_,rfl,?_⟩;simp only[acD];subst hq;rfl
 .rw[Xg h,vl hn,Xg (λe=>h e.symm),vl hk]
  refine⟨_,rfl,?_⟩;simp only[];rw[List.set_comm _ _ h,<-hq]
theorem J0{es:List NE}(hs:Fg es){name:ByteArray}(h:¬fH es name<0)(cH:∀e,e∈es->0<=e.2):∃a x b,es=a++x::b/\x.1.toList=name.toList/\x.2=fH es name/\(∀e,e∈a->e.1.toList≠name.toList)/\(∀e,e∈b->e.1.toList≠name.toList)/\es.filter (λe=>decide (e.1.toList≠name.toList))=a++b:=by
 rcases iM es name with⟨x,hx,h1,h2⟩|⟨h2,_⟩
 .obtain⟨a,b,rfl⟩:=List.append_of_mem hx;have hu:∀y,y∈a++x::b->y.1.toList=name.toList->y=x:=λy hy he=>wP hs hy hx (he.trans h1.symm)
  have hp:=hs;unfold Fg at hp;rw[List.pairwise_append,acs]at hp;have hna:∀e,e∈a->e.1.toList≠name.toList:=λe he h3=>by have:=hp.2.2 e he x aC;rw[AW,h3,<-h1,oR]at this;cases this
  have hnb:∀e,e∈b->e.1.toList≠name.toList:=λe he h3=>by have:=hp.2.1.1 e he;rw[AW,h3,<-h1,oR]at this;cases this
  refine⟨a,x,b,rfl,h1,h2.symm,hna,hnb,?_⟩;rw[adi,aca,if_neg (by simpa using h1),acF.2 (λe he=>by simpa using hna e he),acF.2 (λe he=>by simpa using hnb e he)]
 .rw[h2]at h;omega
def Ub(R:List Obj×Int×Int)(r:CV)(m:Mem):Prop:=∃r' m',View 0 ⟨[r],m⟩ ⟨[r'],m'⟩/\r'= .bz [mZ R.1,cG R.2.1,cG R.2.2]/\m'=[]
theorem nc{R:List Obj×Int×Int}{m:Mem}(e:Int)(h:R=([],0,e)):Ub R (.bz [.one .aK,cG 0,cG e]) m:=by subst h;exact⟨_,_,View.of m.length [] [] rfl rfl rfl rfl rfl rfl (.put (Xr (.one (.fE (.aK 9))) (.one (.bg (.ah _))) (.one (.bg (.ah _)))) .nil) (.nil _),rfl,rfl⟩
theorem Bu(l:List Obj)(hs:xw l)(cK:Int)(name:ByteArray):body prog c68 [cA l,an .i64 cK,eU name] [] (Ub (cQ l cK name)):=by
 refine aN (λh1=>?_) (λh1=>?_)
 .exact nc 6 (by unfold cQ;rw[xq h1];rfl)
 obtain⟨n,rfl⟩:∃n:Nat,cK=n:=⟨cK.toNat,by have h1:¬cK<0:=h1;omega⟩
 refine aN (λh2=>?_) (λh2=>?_)
 .have h2:(n:Int)>=((l.map Obj.enc).length:Int):=h2;rw[Nr]at h2;exact nc 6 (by unfold cQ;rw[xr h2];rfl)
 have h2:¬(n:Int)>=((l.map Obj.enc).length:Int):=h2;rw[Nr]at h2;have hn:n<l.length:=om;have Pc:=iR hn;refine af Pc ?_;refine bs (λh3=>?_) (λh3=>?_)
 .exact nc 6 (by unfold cQ;rw[xt hn h3];rfl)
 have h3:l[n].ag≠0:=h3;have hR:cQ l n name=xx l[n] l n name:=by unfold cQ;rw[if_pos (xu hn h3),aae,vl hn]
 rw[hR];unfold xx;refine af Pc ?_;refine bt (λh7=>?_) (λh7=>?_)
 .exact nc 11 (if_pos h7)
 have h7:l[n].ag=2:=by simpa using h7
 rw[if_neg (by rw[h7];simp)]
 obtain⟨es,he,Bq,Qy,cH⟩:=hs.en _ (aar hn);have So:l[n].ak.map nZ=es:=by rw[he,nK]
 refine Dm l n hn h7 es he om name ?_;have YQ:xl l es n name=fH es name:=zH Bq name;rw[YQ,So];refine aN (λh9=>?_) (λh9=>?_)
 .exact nc 6 (if_pos h9)
 have h9:¬fH es name<0:=h9;rw[if_neg h9];obtain⟨a,x,b,Ek,hx,UR,ha,hb,aa5⟩:=J0 Bq h9 λe he=>(cH e he).1
 have hxr:=cH x (by rw[Ek];simp)
 obtain⟨k,hk⟩:∃k:Nat,fH es name=k:=⟨(fH es name).toNat,om⟩;have gj:k<l.length:=om;have T0:=iR gj;rw[hk,aae,vl gj];simp only[];have Xu:a.length+b.length<=4194303:=by rw[Ek]at Qy;simp at Qy;omega
 have oh:∀c,cD (bQ n c l) n=some (dx l[n] c l[n].am l[n].up):=λc=>by rw[aT,fA,vl hn,aax,mz,if_pos rfl]
 have U9:Bo l n l.length= .row 2 (aa ((a++x::b).map cY)):=by
  unfold Bo;rw[show Nat.blt n l.length=true by simpa using hn]
  show Bk.row 2 (aa (match l[n]? with|some o=>o.ak|none=>[]))=_
  rw[vl hn];show Bk.row 2 (aa l[n].ak)=_;rw[he,Ek];rfl
 have eY:∀(c:CC)(l2:List Obj)(j:Nat),l2.length=l.length->j<l.length->dQ (j:Nat) (lenOf (bQ n c l2).length 0 none)=some j:=λc l2 j h hj=>ct (by rw[show lenOf (bQ n c l2).length 0 none=l2.length from iv n c l2,h];exact hj)
 have JV:((a++b).map cY)=((l[n].ak.map nZ).filter λe=>decide (e.1.toList≠name.toList)).map fX:=by rw[So,aa5];rfl
 have jy:∀L2:List Obj,L2=li l n k name->aw prog 0 G88 (oC prog c68.lP (Ub (li l n k name,(k:Int),0))) ⟨kz 90 [(9,an .i64 (k:Nat)),(10,cA L2)],[]⟩:=λL2 h=>by subst h;exact⟨_,_,View.o 0 [] [] (.eq rfl .nil) (.nil _),rfl,rfl⟩
 have mh:(aW (bQ n (.row 2 2 0 none) l) n (dx l[n] (.row 2 2 0 (some (a.length+b.length))) l[n].am l[n].up))=bQ n (.row 2 2 0 (some (a.length+b.length))) l:=by have:=F0 (p:=n) (c:= .row 2 2 0 none) (c':= .row 2 2 0 (some (a.length+b.length))) (vl hn);rw[<-this,mz,if_pos rfl]
 have iC:bV ((a++b++ [Qz]).map cY) 0 (some (a.length+b.length))=(a++b).map cY:=by show((a++b++ [Qz]).map cY).take (a.length+b.length)=_;rw[aby,List.take_left' aC]
 have hq:∀m:Mem,m[2]? =some (.row 2 (aa ((a++b++ [Qz]).map cY)))->dR m (λk=>bx [1,2] k=true) (some 1) (.row 2 2 0 (some (a.length+b.length))) (.sl 2 ((a++b).map cY)):=λm hm=>by
  have:=dR.eW (Z:=λk=>bx [1,2] k=true) (p:=some 1) rfl hm 0 (some (a.length+b.length))
  rw[iC]at this;exact this
 refine af T0 ?_;refine bs (λBX=>?_) (λBX=>?_)
 .refine af T0 ?_;refine aN (λp7=>?_) (λp7=>?_)
  .exact nc 18 (if_pos ⟨BX,by have p7:(l[k].ak.length:Int)>0:=p7;omega⟩)
  .rw[if_neg (λh=>p7 (by show(l[k].ak.length:Int)>0;omega))]
   refine Bp l hs.oi n ?_;rw[U9,H0];refine af (eY (.row 2 2 0 none) l n rfl hn) ?_;refine af (oh (.row 2 2 0 none)) ?_;refine HZ a b x Xu name hx ha hb 2 0 rfl rfl rfl rfl ?_;refine af (eY (.row 2 2 0 none) l n rfl hn) ?_;refine af (oh (.row 2 2 0 none)) ?_;by_cases F3:k=n
   .have NR:cD (bQ n (.row 2 2 0 (some (a.length+b.length))) l) k=some (dx l[k] (.row 2 2 0 (some (a.length+b.length))) l[k].am l[k].up):=by rw[aT,fA,vl gj,aax,mz,if_pos F3]
    have oP:(aW (aW (bQ n (.row 2 2 0 none) l) n (dx l[n] (.row 2 2 0 (some (a.length+b.length))) l[n].am l[n].up)) k (dx l[k] (.row 2 2 0 (some (a.length+b.length))) (IntKind.i64.wrap (l[k].am-1)) l[k].up))=bQ n (.row 2 2 0 (some (a.length+b.length))) (l.set k {l[k]with am:=(IntKind.i64.wrap (l[k].am-1))}):=by
     rw[mh];have:=ix (p:=n) (c:= .row 2 2 0 (some (a.length+b.length))) (o:={l[k]with am:=(IntKind.i64.wrap (l[k].am-1))}) gj
     rw[<-this,mz,if_pos F3]
    have qV:cD (aW (aW (bQ n (.row 2 2 0 none) l) n (dx l[n] (.row 2 2 0 (some (a.length+b.length))) l[n].am l[n].up)) k (dx l[k] (.row 2 2 0 (some (a.length+b.length))) (IntKind.i64.wrap (l[k].am-1)) l[k].up)) k=some (dx l[k] (.row 2 2 0 (some (a.length+b.length))) (IntKind.i64.wrap (l[k].am-1)) l[k].up):=by
     rw[aY,aT,SC (by rw[mh,iv];exact gj)]
    refine af (by rw[mh];exact eY _ l k rfl gj:dQ (k:Nat) (lenOf (aW (bQ n (.row 2 2 0 none) l) n (dx l[n] (.row 2 2 0 (some (a.length+b.length))) l[n].am l[n].up)).length 0 none)=some k) ?_
    refine af (by rw[mh];exact NR:cD (aW (bQ n (.row 2 2 0 none) l) n (dx l[n] (.row 2 2 0 (some (a.length+b.length))) l[n].am l[n].up)) k=some (dx l[k] (.row 2 2 0 (some (a.length+b.length))) l[k].am l[k].up)) ?_
    refine af (by rw[mh];exact eY _ l k rfl gj:dQ (k:Nat) (lenOf (aW (bQ n (.row 2 2 0 none) l) n (dx l[n] (.row 2 2 0 (some (a.length+b.length))) l[n].am l[n].up)).length 0 none)=some k) ?_
    refine af (by rw[mh];exact NR:cD (aW (bQ n (.row 2 2 0 none) l) n (dx l[n] (.row 2 2 0 (some (a.length+b.length))) l[n].am l[n].up)) k=some (dx l[k] (.row 2 2 0 (some (a.length+b.length))) l[k].am l[k].up)) ?_
    refine af (by rw[oP];exact eY _ _ k (aay ..) gj:dQ (k:Nat) (lenOf (aW (aW (bQ n (.row 2 2 0 none) l) n (dx l[n] (.row 2 2 0 (some (a.length+b.length))) l[n].am l[n].up)) k (dx l[k] (.row 2 2 0 (some (a.length+b.length))) (IntKind.i64.wrap (l[k].am-1)) l[k].up)).length 0 none)=some k) ?_
    refine af qV ?_;refine bs (λqW=>?_) (λqW=>?_)
    .have qW:l[k].ag=2:=qW;have NN:(aW (aW (aW (bQ n (.row 2 2 0 none) l) n (dx l[n] (.row 2 2 0 (some (a.length+b.length))) l[n].am l[n].up)) k (dx l[k] (.row 2 2 0 (some (a.length+b.length))) (IntKind.i64.wrap (l[k].am-1)) l[k].up)) k (dx l[k] (.row 2 2 0 (some (a.length+b.length))) (IntKind.i64.wrap (l[k].am-1)) (k:Nat)))=bQ n (.row 2 2 0 (some (a.length+b.length))) (l.set k {l[k]with am:=(IntKind.i64.wrap (l[k].am-1)),up:=(k:Int)}):=by
      rw[oP];have:=ix (p:=n) (c:= .row 2 2 0 (some (a.length+b.length))) (l:=l.set k {l[k]with am:=(IntKind.i64.wrap (l[k].am-1))}) (k:=k) (o:={l[k]with am:=(IntKind.i64.wrap (l[k].am-1)),up:=(k:Int)}) (by rw[aay];exact gj)
      rw[acD]at this;rw[<-this,mz,if_pos F3]
     refine af (by rw[oP];exact eY _ _ k (aay ..) gj:dQ (k:Nat) (lenOf (aW (aW (bQ n (.row 2 2 0 none) l) n (dx l[n] (.row 2 2 0 (some (a.length+b.length))) l[n].am l[n].up)) k (dx l[k] (.row 2 2 0 (some (a.length+b.length))) (IntKind.i64.wrap (l[k].am-1)) l[k].up)).length 0 none)=some k) ?_
     refine af qV ?_;obtain⟨o2,gQ,eF⟩:=jQ (name:=name) hn gj JV (q:={l[k]with am:=(IntKind.i64.wrap (l[k].am-1)),up:=(k:Int)}) (by rw[if_pos qW])
     refine⟨_,View.o 3 [] [1,2] ?_ (.nil _),jy _ eF⟩
     iterate 9 refine .aF ?_
     refine .eq rfl ?_;refine .put (.rv (.one (.fE (p:=none) (Dx (Z:=λk=>bx [1,2] k=true) rfl (by show some (Bk.row 9 _)=some (Bk.row 9 _);congr 1;exact congrArg _ NN) (hq _ rfl) gQ)))) ?_
     repeat(first|exact .nil|refine .aF ?_)
    .have qW:l[k].ag≠2:=qW;obtain⟨o2,gQ,eF⟩:=jQ (name:=name) hn gj JV (q:={l[k]with am:=(IntKind.i64.wrap (l[k].am-1))}) (by rw[if_neg qW])
     refine⟨_,View.o 3 [] [1,2] ?_ (.nil _),jy _ eF⟩
     iterate 9 refine .aF ?_
     refine .eq rfl ?_;refine .put (.rv (.one (.fE (p:=none) (Dx (Z:=λk=>bx [1,2] k=true) rfl (by show some (Bk.row 9 _)=some (Bk.row 9 _);congr 1;exact congrArg _ oP) (hq _ rfl) gQ)))) ?_
     repeat(first|exact .nil|refine .aF ?_)
   .have NR:cD (bQ n (.row 2 2 0 (some (a.length+b.length))) l) k=some (dx l[k] (.ah (.sl 2 l[k].ak)) l[k].am l[k].up):=by rw[aT,fA,vl gj,aax,mz,if_neg F3]
    have oP:(aW (aW (bQ n (.row 2 2 0 none) l) n (dx l[n] (.row 2 2 0 (some (a.length+b.length))) l[n].am l[n].up)) k (dx l[k] (.ah (.sl 2 l[k].ak)) (IntKind.i64.wrap (l[k].am-1)) l[k].up))=bQ n (.row 2 2 0 (some (a.length+b.length))) (l.set k {l[k]with am:=(IntKind.i64.wrap (l[k].am-1))}):=by
     rw[mh];have:=ix (p:=n) (c:= .row 2 2 0 (some (a.length+b.length))) (o:={l[k]with am:=(IntKind.i64.wrap (l[k].am-1))}) gj
     rw[<-this,mz,if_neg F3]
    have qV:cD (aW (aW (bQ n (.row 2 2 0 none) l) n (dx l[n] (.row 2 2 0 (some (a.length+b.length))) l[n].am l[n].up)) k (dx l[k] (.ah (.sl 2 l[k].ak)) (IntKind.i64.wrap (l[k].am-1)) l[k].up)) k=some (dx l[k] (.ah (.sl 2 l[k].ak)) (IntKind.i64.wrap (l[k].am-1)) l[k].up):=by
     rw[aY,aT,SC (by rw[mh,iv];exact gj)]
    refine af (by rw[mh];exact eY _ l k rfl gj:dQ (k:Nat) (lenOf (aW (bQ n (.row 2 2 0 none) l) n (dx l[n] (.row 2 2 0 (some (a.length+b.length))) l[n].am l[n].up)).length 0 none)=some k) ?_
    refine af (by rw[mh];exact NR:cD (aW (bQ n (.row 2 2 0 none) l) n (dx l[n] (.row 2 2 0 (some (a.length+b.length))) l[n].am l[n].up)) k=some (dx l[k] (.ah (.sl 2 l[k].ak)) l[k].am l[k].up)) ?_
    refine af (by rw[mh];exact eY _ l k rfl gj:dQ (k:Nat) (lenOf (aW (bQ n (.row 2 2 0 none) l) n (dx l[n] (.row 2 2 0 (some (a.length+b.length))) l[n].am l[n].up)).length 0 none)=some k) ?_
    refine af (by rw[mh];exact NR:cD (aW (bQ n (.row 2 2 0 none) l) n (dx l[n] (.row 2 2 0 (some (a.length+b.length))) l[n].am l[n].up)) k=some (dx l[k] (.ah (.sl 2 l[k].ak)) l[k].am l[k].up)) ?_
    refine af (by rw[oP];exact eY _ _ k (aay ..) gj:dQ (k:Nat) (lenOf (aW (aW (bQ n (.row 2 2 0 none) l) n (dx l[n] (.row 2 2 0 (some (a.length+b.length))) l[n].am l[n].up)) k (dx l[k] (.ah (.sl 2 l[k].ak)) (IntKind.i64.wrap (l[k].am-1)) l[k].up)).length 0 none)=some k) ?_
    refine af qV ?_;refine bs (λqW=>?_) (λqW=>?_)
    .have qW:l[k].ag=2:=qW;have NN:(aW (aW (aW (bQ n (.row 2 2 0 none) l) n (dx l[n] (.row 2 2 0 (some (a.length+b.length))) l[n].am l[n].up)) k (dx l[k] (.ah (.sl 2 l[k].ak)) (IntKind.i64.wrap (l[k].am-1)) l[k].up)) k (dx l[k] (.ah (.sl 2 l[k].ak)) (IntKind.i64.wrap (l[k].am-1)) (k:Nat)))=bQ n (.row 2 2 0 (some (a.length+b.length))) (l.set k {l[k]with am:=(IntKind.i64.wrap (l[k].am-1)),up:=(k:Int)}):=by
      rw[oP];have:=ix (p:=n) (c:= .row 2 2 0 (some (a.length+b.length))) (l:=l.set k {l[k]with am:=(IntKind.i64.wrap (l[k].am-1))}) (k:=k) (o:={l[k]with am:=(IntKind.i64.wrap (l[k].am-1)),up:=(k:Int)}) (by rw[aay];exact gj)
      rw[acD]at this;rw[<-this,mz,if_neg F3]
     refine af (by rw[oP];exact eY _ _ k (aay ..) gj:dQ (k:Nat) (lenOf (aW (aW (bQ n (.row 2 2 0 none) l) n (dx l[n] (.row 2 2 0 (some (a.length+b.length))) l[n].am l[n].up)) k (dx l[k] (.ah (.sl 2 l[k].ak)) (IntKind.i64.wrap (l[k].am-1)) l[k].up)).length 0 none)=some k) ?_
     refine af qV ?_;obtain⟨o2,gQ,eF⟩:=jQ (name:=name) hn gj JV (q:={l[k]with am:=(IntKind.i64.wrap (l[k].am-1)),up:=(k:Int)}) (by rw[if_pos qW])
     refine⟨_,View.o 3 [] [1,2] ?_ (.nil _),jy _ eF⟩
     iterate 9 refine .aF ?_
     refine .eq rfl ?_;refine .put (.rv (.one (.fE (p:=none) (Dx (Z:=λk=>bx [1,2] k=true) rfl (by show some (Bk.row 9 _)=some (Bk.row 9 _);congr 1;exact congrArg _ NN) (hq _ rfl) gQ)))) ?_
     repeat(first|exact .nil|refine .aF ?_)
    .have qW:l[k].ag≠2:=qW;obtain⟨o2,gQ,eF⟩:=jQ (name:=name) hn gj JV (q:={l[k]with am:=(IntKind.i64.wrap (l[k].am-1))}) (by rw[if_neg qW])
     refine⟨_,View.o 3 [] [1,2] ?_ (.nil _),jy _ eF⟩
     iterate 9 refine .aF ?_
     refine .eq rfl ?_;refine .put (.rv (.one (.fE (p:=none) (Dx (Z:=λk=>bx [1,2] k=true) rfl (by show some (Bk.row 9 _)=some (Bk.row 9 _);congr 1;exact congrArg _ oP) (hq _ rfl) gQ)))) ?_
     repeat(first|exact .nil|refine .aF ?_)
 .rw[if_neg (λh=>BX h.1)]
  refine Bp l hs.oi n ?_;rw[U9,H0];refine af (eY (.row 2 2 0 none) l n rfl hn) ?_;refine af (oh (.row 2 2 0 none)) ?_;refine HZ a b x Xu name hx ha hb 2 0 rfl rfl rfl rfl ?_;refine af (eY (.row 2 2 0 none) l n rfl hn) ?_;refine af (oh (.row 2 2 0 none)) ?_;by_cases F3:k=n
  .have NR:cD (bQ n (.row 2 2 0 (some (a.length+b.length))) l) k=some (dx l[k] (.row 2 2 0 (some (a.length+b.length))) l[k].am l[k].up):=by rw[aT,fA,vl gj,aax,mz,if_pos F3]
   have oP:(aW (aW (bQ n (.row 2 2 0 none) l) n (dx l[n] (.row 2 2 0 (some (a.length+b.length))) l[n].am l[n].up)) k (dx l[k] (.row 2 2 0 (some (a.length+b.length))) (IntKind.i64.wrap (l[k].am-1)) l[k].up))=bQ n (.row 2 2 0 (some (a.length+b.length))) (l.set k {l[k]with am:=(IntKind.i64.wrap (l[k].am-1))}):=by
    rw[mh];have:=ix (p:=n) (c:= .row 2 2 0 (some (a.length+b.length))) (o:={l[k]with am:=(IntKind.i64.wrap (l[k].am-1))}) gj
    rw[<-this,mz,if_pos F3]
   have qV:cD (aW (aW (bQ n (.row 2 2 0 none) l) n (dx l[n] (.row 2 2 0 (some (a.length+b.length))) l[n].am l[n].up)) k (dx l[k] (.row 2 2 0 (some (a.length+b.length))) (IntKind.i64.wrap (l[k].am-1)) l[k].up)) k=some (dx l[k] (.row 2 2 0 (some (a.length+b.length))) (IntKind.i64.wrap (l[k].am-1)) l[k].up):=by
    rw[aY,aT,SC (by rw[mh,iv];exact gj)]
   refine af (by rw[mh];exact eY _ l k rfl gj:dQ (k:Nat) (lenOf (aW (bQ n (.row 2 2 0 none) l) n (dx l[n] (.row 2 2 0 (some (a.length+b.length))) l[n].am l[n].up)).length 0 none)=some k) ?_
   refine af (by rw[mh];exact NR:cD (aW (bQ n (.row 2 2 0 none) l) n (dx l[n] (.row 2 2 0 (some (a.length+b.length))) l[n].am l[n].up)) k=some (dx l[k] (.row 2 2 0 (some (a.length+b.length))) l[k].am l[k].up)) ?_
   refine af (by rw[mh];exact eY _ l k rfl gj:dQ (k:Nat) (lenOf (aW (bQ n (.row 2 2 0 none) l) n (dx l[n] (.row 2 2 0 (some (a.length+b.length))) l[n].am l[n].up)).length 0 none)=some k) ?_
   refine af (by rw[mh];exact NR:cD (aW (bQ n (.row 2 2 0 none) l) n (dx l[n] (.row 2 2 0 (some (a.length+b.length))) l[n].am l[n].up)) k=some (dx l[k] (.row 2 2 0 (some (a.length+b.length))) l[k].am l[k].up)) ?_
   refine af (by rw[oP];exact eY _ _ k (aay ..) gj:dQ (k:Nat) (lenOf (aW (aW (bQ n (.row 2 2 0 none) l) n (dx l[n] (.row 2 2 0 (some (a.length+b.length))) l[n].am l[n].up)) k (dx l[k] (.row 2 2 0 (some (a.length+b.length))) (IntKind.i64.wrap (l[k].am-1)) l[k].up)).length 0 none)=some k) ?_
   refine af qV ?_;refine bs (λqW=>?_) (λqW=>?_)
   .have qW:l[k].ag=2:=qW;have NN:(aW (aW (aW (bQ n (.row 2 2 0 none) l) n (dx l[n] (.row 2 2 0 (some (a.length+b.length))) l[n].am l[n].up)) k (dx l[k] (.row 2 2 0 (some (a.length+b.length))) (IntKind.i64.wrap (l[k].am-1)) l[k].up)) k (dx l[k] (.row 2 2 0 (some (a.length+b.length))) (IntKind.i64.wrap (l[k].am-1)) (k:Nat)))=bQ n (.row 2 2 0 (some (a.length+b.length))) (l.set k {l[k]with am:=(IntKind.i64.wrap (l[k].am-1)),up:=(k:Int)}):=by
     rw[oP];have:=ix (p:=n) (c:= .row 2 2 0 (some (a.length+b.length))) (l:=l.set k {l[k]with am:=(IntKind.i64.wrap (l[k].am-1))}) (k:=k) (o:={l[k]with am:=(IntKind.i64.wrap (l[k].am-1)),up:=(k:Int)}) (by rw[aay];exact gj)
     rw[acD]at this;rw[<-this,mz,if_pos F3]
    refine af (by rw[oP];exact eY _ _ k (aay ..) gj:dQ (k:Nat) (lenOf (aW (aW (bQ n (.row 2 2 0 none) l) n (dx l[n] (.row 2 2 0 (some (a.length+b.length))) l[n].am l[n].up)) k (dx l[k] (.row 2 2 0 (some (a.length+b.length))) (IntKind.i64.wrap (l[k].am-1)) l[k].up)).length 0 none)=some k) ?_
    refine af qV ?_;obtain⟨o2,gQ,eF⟩:=jQ (name:=name) hn gj JV (q:={l[k]with am:=(IntKind.i64.wrap (l[k].am-1)),up:=(k:Int)}) (by rw[if_pos qW])
    refine⟨_,View.o 3 [] [1,2] ?_ (.nil _),jy _ eF⟩
    iterate 9 refine .aF ?_
    refine .eq rfl ?_;refine .put (.rv (.one (.fE (p:=none) (Dx (Z:=λk=>bx [1,2] k=true) rfl (by show some (Bk.row 9 _)=some (Bk.row 9 _);congr 1;exact congrArg _ NN) (hq _ rfl) gQ)))) ?_
    repeat(first|exact .nil|refine .aF ?_)
   .have qW:l[k].ag≠2:=qW;obtain⟨o2,gQ,eF⟩:=jQ (name:=name) hn gj JV (q:={l[k]with am:=(IntKind.i64.wrap (l[k].am-1))}) (by rw[if_neg qW])
    refine⟨_,View.o 3 [] [1,2] ?_ (.nil _),jy _ eF⟩
    iterate 9 refine .aF ?_
    refine .eq rfl ?_;refine .put (.rv (.one (.fE (p:=none) (Dx (Z:=λk=>bx [1,2] k=true) rfl (by show some (Bk.row 9 _)=some (Bk.row 9 _);congr 1;exact congrArg _ oP) (hq _ rfl) gQ)))) ?_
    repeat(first|exact .nil|refine .aF ?_)
  .have NR:cD (bQ n (.row 2 2 0 (some (a.length+b.length))) l) k=some (dx l[k] (.ah (.sl 2 l[k].ak)) l[k].am l[k].up):=by rw[aT,fA,vl gj,aax,mz,if_neg F3]
   have oP:(aW (aW (bQ n (.row 2 2 0 none) l) n (dx l[n] (.row 2 2 0 (some (a.length+b.length))) l[n].am l[n].up)) k (dx l[k] (.ah (.sl 2 l[k].ak)) (IntKind.i64.wrap (l[k].am-1)) l[k].up))=bQ n (.row 2 2 0 (some (a.length+b.length))) (l.set k {l[k]with am:=(IntKind.i64.wrap (l[k].am-1))}):=by
    rw[mh];have:=ix (p:=n) (c:= .row 2 2 0 (some (a.length+b.length))) (o:={l[k]with am:=(IntKind.i64.wrap (l[k].am-1))}) gj
    rw[<-this,mz,if_neg F3]
   have qV:cD (aW (aW (bQ n (.row 2 2 0 none) l) n (dx l[n] (.row 2 2 0 (some (a.length+b.length))) l[n].am l[n].up)) k (dx l[k] (.ah (.sl 2 l[k].ak)) (IntKind.i64.wrap (l[k].am-1)) l[k].up)) k=some (dx l[k] (.ah (.sl 2 l[k].ak)) (IntKind.i64.wrap (l[k].am-1)) l[k].up):=by
    rw[aY,aT,SC (by rw[mh,iv];exact gj)]
   refine af (by rw[mh];exact eY _ l k rfl gj:dQ (k:Nat) (lenOf (aW (bQ n (.row 2 2 0 none) l) n (dx l[n] (.row 2 2 0 (some (a.length+b.length))) l[n].am l[n].up)).length 0 none)=some k) ?_
   refine af (by rw[mh];exact NR:cD (aW (bQ n (.row 2 2 0 none) l) n (dx l[n] (.row 2 2 0 (some (a.length+b.length))) l[n].am l[n].up)) k=some (dx l[k] (.ah (.sl 2 l[k].ak)) l[k].am l[k].up)) ?_
   refine af (by rw[mh];exact eY _ l k rfl gj:dQ (k:Nat) (lenOf (aW (bQ n (.row 2 2 0 none) l) n (dx l[n] (.row 2 2 0 (some (a.length+b.length))) l[n].am l[n].up)).length 0 none)=some k) ?_
   refine af (by rw[mh];exact NR:cD (aW (bQ n (.row 2 2 0 none) l) n (dx l[n] (.row 2 2 0 (some (a.length+b.length))) l[n].am l[n].up)) k=some (dx l[k] (.ah (.sl 2 l[k].ak)) l[k].am l[k].up)) ?_
   refine af (by rw[oP];exact eY _ _ k (aay ..) gj:dQ (k:Nat) (lenOf (aW (aW (bQ n (.row 2 2 0 none) l) n (dx l[n] (.row 2 2 0 (some (a.length+b.length))) l[n].am l[n].up)) k (dx l[k] (.ah (.sl 2 l[k].ak)) (IntKind.i64.wrap (l[k].am-1)) l[k].up)).length 0 none)=some k) ?_
   refine af qV ?_;refine bs (λqW=>?_) (λqW=>?_)
   .have qW:l[k].ag=2:=qW;have NN:(aW (aW (aW (bQ n (.row 2 2 0 none) l) n (dx l[n] (.row 2 2 0 (some (a.length+b.length))) l[n].am l[n].up)) k (dx l[k] (.ah (.sl 2 l[k].ak)) (IntKind.i64.wrap (l[k].am-1)) l[k].up)) k (dx l[k] (.ah (.sl 2 l[k].ak)) (IntKind.i64.wrap (l[k].am-1)) (k:Nat)))=bQ n (.row 2 2 0 (some (a.length+b.length))) (l.set k {l[k]with am:=(IntKind.i64.wrap (l[k].am-1)),up:=(k:Int)}):=by
     rw[oP];have:=ix (p:=n) (c:= .row 2 2 0 (some (a.length+b.length))) (l:=l.set k {l[k]with am:=(IntKind.i64.wrap (l[k].am-1))}) (k:=k) (o:={l[k]with am:=(IntKind.i64.wrap (l[k].am-1)),up:=(k:Int)}) (by rw[aay];exact gj)
     rw[acD]at this;rw[<-this,mz,if_neg F3]
    refine af (by rw[oP];exact eY _ _ k (aay ..) gj:dQ (k:Nat) (lenOf (aW (aW (bQ n (.row 2 2 0 none) l) n (dx l[n] (.row 2 2 0 (some (a.length+b.length))) l[n].am l[n].up)) k (dx l[k] (.ah (.sl 2 l[k].ak)) (IntKind.i64.wrap (l[k].am-1)) l[k].up)).length 0 none)=some k) ?_
    refine af qV ?_;obtain⟨o2,gQ,eF⟩:=jQ (name:=name) hn gj JV (q:={l[k]with am:=(IntKind.i64.wrap (l[k].am-1)),up:=(k:Int)}) (by rw[if_pos qW])
    refine⟨_,View.o 3 [] [1,2] ?_ (.nil _),jy _ eF⟩
    iterate 9 refine .aF ?_
    refine .eq rfl ?_;refine .put (.rv (.one (.fE (p:=none) (Dx (Z:=λk=>bx [1,2] k=true) rfl (by show some (Bk.row 9 _)=some (Bk.row 9 _);congr 1;exact congrArg _ NN) (hq _ rfl) gQ)))) ?_
    repeat(first|exact .nil|refine .aF ?_)
   .have qW:l[k].ag≠2:=qW;obtain⟨o2,gQ,eF⟩:=jQ (name:=name) hn gj JV (q:={l[k]with am:=(IntKind.i64.wrap (l[k].am-1))}) (by rw[if_neg qW])
    refine⟨_,View.o 3 [] [1,2] ?_ (.nil _),jy _ eF⟩
    iterate 9 refine .aF ?_
    refine .eq rfl ?_;refine .put (.rv (.one (.fE (p:=none) (Dx (Z:=λk=>bx [1,2] k=true) rfl (by show some (Bk.row 9 _)=some (Bk.row 9 _);congr 1;exact congrArg _ oP) (hq _ rfl) gQ)))) ?_
    repeat(first|exact .nil|refine .aF ?_)
theorem F4(l:List Obj)(hs:xw l)(cK:Int)(name:ByteArray){m:Mem}{K:CV->Mem->Prop}(h:K (.bz [mZ (cQ l cK name).1,cG (cQ l cK name).2.1,cG (cQ l cK name).2.2]) m):ap prog 68 [cA l,an .i64 cK,eU name] m K:=by
 refine be (K0:=λr m=>r= .bz [mZ (cQ l cK name).1,cG (cQ l cK name).2.1,cG (cQ l cK name).2.2]/\m=[]) (bH (b8 func68 l68 (Bu l hs cK name)) λr m1⟨r',m',hv,h1,h2⟩=>⟨r',m',hv,h1,h2⟩) (by simp[cA,an,eU,CV.dv,CC.dv]) λr m1 hr=>?_
 obtain⟨rfl,rfl⟩:=hr;exact⟨_,cL.self rfl,h⟩
theorem F5(o:Obj)(hf:o.data.length<=4194304)(di n:Int):body prog c57 [o.cv,an .i64 di,an .i64 n] [] (λr m=>cL m r (.bz [byR (jO o.ag o.data di n).1,cG (jO o.ag o.data di n).2])):=by
 obtain⟨ag,data,ak,target,bq,aq,bb,am,up⟩:=o;have hf:data.length<=4194304:=hf;show body prog c57 _ [] (λr m=>cL m r (.bz [byR (jO ag data di n).1,cG (jO ag data di n).2]))
 refine bs (λh1=>?_) (λh1=>?_)
 .rw[jO,if_pos h1];exact kH (.one (.aK 1))
 refine bt (λh2=>?_) (λh2=>?_)
 .rw[jO,if_neg h1,if_pos h2];exact kH (.one (.aK 1))
 have hk:ag=1:=by simpa using h2
 refine aN (λh3=>?_) (λh3=>?_)
 .rw[jO,if_neg h1,if_neg (by simpa using hk),if_pos (.inl h3)]
  exact kH (.one (.aK 1))
 refine aN (λh4=>?_) (λh4=>?_)
 .rw[jO,if_neg h1,if_neg (by simpa using hk),if_pos (.inr h4)]
  exact kH (.one (.aK 1))
 rw[jO,if_neg h1,if_neg (by simpa using hk),if_neg (λh=>h.elim h3 h4)]
 have h3:¬di<0:=h3;have h4:¬n<0:=h4;obtain⟨A,rfl⟩:∃A:Nat,di=A:=⟨di.toNat,om⟩;obtain⟨N,rfl⟩:∃N:Nat,n=N:=⟨n.toNat,om⟩;rw[show((A:Nat):Int).toNat=A from rfl,show((N:Nat):Int).toNat=N from rfl];have IL:=nO A data.length;have hm2:=nO N (data.length-fp A data.length);have hL:qA (an .i64 (if(data.length:Int)<(A:Int)then(data.length:Int)else(A:Int)))=some (fp A data.length):=by rw[sA];rfl
 have hE:IntKind.i64.wrap ((if(data.length:Int)<(A:Int)then(data.length:Int)else(A:Int))+(if IntKind.i64.wrap ((data.length:Int)-(if(data.length:Int)<(A:Int)then(data.length:Int)else(A:Int)))<(N:Int)then IntKind.i64.wrap ((data.length:Int)-(if(data.length:Int)<(A:Int)then(data.length:Int)else(A:Int)))else(N:Int)))
   =((fp A data.length+fp N (data.length-fp A data.length):Nat):Int):=by
  rw[sA,show(data.length:Int)-((fp A data.length:Nat):Int)=((data.length-fp A data.length:Nat):Int) by omega,nY om,sA,
   show((fp A data.length:Nat):Int)+((fp N (data.length-fp A data.length):Nat):Int)=((fp A data.length+fp N (data.length-fp A data.length):Nat):Int) by omega,nY om]
 have hH:qA (an .i64 (IntKind.i64.wrap ((if(data.length:Int)<(A:Int)then(data.length:Int)else(A:Int))+(if IntKind.i64.wrap ((data.length:Int)-(if(data.length:Int)<(A:Int)then(data.length:Int)else(A:Int)))<(N:Int)then IntKind.i64.wrap ((data.length:Int)-(if(data.length:Int)<(A:Int)then(data.length:Int)else(A:Int)))else(N:Int)))))=some (fp A data.length+fp N (data.length-fp A data.length)):=by rw[hE];rfl
 refine af hL ?_;refine af hH ?_;refine cE (by rw[aac,aaU,aaU];show fp A data.length<=fp A data.length+fp N (data.length-fp A data.length)/\fp A data.length+fp N (data.length-fp A data.length)<=data.length;omega) ?_
 refine iq (JM data A N) (by simp[JM];omega) ?_
 exact kH (eP.self rfl)
theorem NS(o:Obj)(hf:o.data.length<=4194304)(di n:Int){m:Mem}{K:CV->Mem->Prop}(h:K (.bz [byR (jO o.ag o.data di n).1,cG (jO o.ag o.data di n).2]) m):ap prog 57 [o.cv,an .i64 di,an .i64 n] m K:=
 be (aZ func57 l57 (F5 o hf di n)) (by simp[Obj.cv,Obj.enc,an,CV.dv,CC.dv,RV.dv]) λr m1 hf=>⟨_,hf,h⟩
def c56:LF:= ⟨44,[.cell true 2 6,.tmp 7,.tmp 8],(.seq (.ai [qu 6 (.alloc [qd 0,qd 0]),qu 7 (.aI (qi 0)),qu 8 (.aI (qi 0))]) (.seq (.bR [qm 12 0,qu 13 (.aO 12),qf 14 0 13,qf 15 2 14,ql 16 15,qm 17 0,qu 18 (.aO 17),qf 19 3 18,ql 20 19,qu 21 (.cr 4 16 20),qf 22 3 21,ql 23 22,qm 24 1,qm 25 2,qu 26 (qc 96 [23,24,25]),qm 11 26,qu 27 (.ext 11 0),qu 28 (.ext 11 1),qu 9 (.alloc [qd 0,qd 0]),qw (.store 2 9 27),qm 10 28] [(eh 14 0 (.vJ (.cons 14 (some []) (eh 3 15 (.cons 18 (some [11,9,8,4]) (.cons 19 (some []) (.cons 20 none .nil))))) (.cons 18 (some [11,9,8,4]) (.cons 14 (some []) (eh 3 15 (.cons 19 (some []) (.cons 20 none .nil)))))))]) (.cU (.seq (.seq (.ai [qm 29 10,qu 30 (.aJ .neq 29 (qi 0))]) (.cond 30 (.seq (.ai [qu 31 (.build [qd 0,qd 0] []),qm 32 10,qw (.store 2 6 31),qu 7 (.aI (qi 0)),qm 8 32]) .ret) .skip)) (.seq (.bR [qL 33 2 9,qm 34 0,qu 35 (.aO 34),qf 36 0 35,qf 37 1 36,ql 38 37,qf 39 0 9,ql 40 39,qu 41 (.cr 2 38 40),qf 42 0 41,ql 43 42,qw (.store 2 6 33),qm 7 43,qu 8 (.aI (qi 0))] [(eh 11 0 (.cons 11 (some [10,8,7,5]) (.cons 12 none (.cons 13 none .nil))))]) .ret)))))⟩
def c63:LF:= ⟨30,[.tmp 6],(.seq (.ai [qu 6 (.aI (qi 0))]) (.seq (.seq (.ai [qm 7 2,qu 8 (.aJ .eql 7 (qi 0))]) (.cond 8 (.seq (.ai [qm 9 0,qm 10 0,qu 11 (.aO 10),qf 12 0 11,qL 13 3 12,qu 14 (qc 59 [13]),qu 15 (.aO 9),qf 16 0 15,qw (.store 3 16 14)]) (.bR [qm 17 0,qu 18 (.aO 17),qf 19 0 18,qf 20 2 19,ql 21 20,qm 22 0,qu 23 (.aO 22),qf 24 3 23,ql 25 24,qm 26 1,qu 27 (.cr 4 21 25),qf 28 3 27,qw (.store 1 28 26)] [(eh 12 0 (.cons 12 (some []) .nil))])) .skip)) (.seq (.ai [qm 29 2,qm 6 29]) .ret)))⟩
def c69:LF:= ⟨23,[.tmp 6],(.seq (.ai [qu 6 (.aI (qi 0))]) (.seq (.seq (.ai [qm 7 2,qu 8 (.aJ .eql 7 (qi 0))]) (.cond 8 (.seq (.ai [qm 9 0,qm 10 0,qu 11 (.aO 10),qf 12 0 11,qL 13 3 12,qu 14 (qc 59 [13]),qu 15 (.aO 9),qf 16 0 15,qw (.store 3 16 14)]) (.ai [qm 17 0,qm 18 1,qu 19 (.aO 17),qf 20 0 19,qf 21 0 20,qw (.store 1 21 18)])) .skip)) (.seq (.ai [qm 22 2,qm 6 22]) .ret)))⟩
namespace Kn
structure Cl where
 bb:Int
 ag:Int
 fd:Int
 fI:Int
 n:Int
 bv:Int
 a8:Int
 cJ:bK.dL
 data:List Int
structure An where
 fC:Int
 n:Int
 m:Int
 data:List (List Dt)
def An.no(e:Int):An:=⟨e,0,0,[]⟩
def An.enc(a:An):List Dt:=[.val (.int .i64 a.fC),.val (.int .i64 a.n),.val (.int .i64 a.m),.sl 1 a.data]
def An.rv(a:An):RV:= .agg (a.enc.map .ah)
def An.cv(a:An):CV:= .rv a.rv
def Cl.enc(c:Cl):List Dt:=[.val (.int .i64 c.bb),.val (.int .i64 c.ag),.val (.int .i64 c.fd),.val (.int .i64 c.fI),.val (.int .i64 c.n),.val (.int .i64 c.bv),.val (.int .i64 c.a8),.val (.string (bK.cF c.cJ)),.sl 1 (jg c.data)]
def Cl.cv(c:Cl):CV:= .rv (.agg (c.enc.map .ah))
def cB(c:Cl):Bk:= .var (c.enc.map .ah)
def xC(k:Kr)(p:Nat):List Dt:=[dk k.l,eX k.ops,gl k.ps,.val (.int .i64 (p:Nat))]
def xB(k:Kr)(p:Nat):Bk:= .var ((xC k p).map .ah)
def lN(a b:Int):Int:=IntKind.i64.wrap ((BitVec.ofInt 64 a&&&BitVec.ofInt 64 b).toNat:Int)
def Uc(a b:Int):Int:=IntKind.i64.wrap ((BitVec.ofInt 64 a|||BitVec.ofInt 64 b).toNat:Int)
def gI(l:List ft)(fd need:Int):(Int×Int)×Int:=(((Tb.oa (l.map mw) fd need).1.dS,(Tb.oa (l.map mw) fd need).1.cj),(Tb.oa (l.map mw) fd need).2)
def fB(l:List ft)(fd:Int):(Int×Int)×Int:=(((Tb.eA (l.map mw) fd).1.dS,(Tb.eA (l.map mw) fd).1.cj),(Tb.eA (l.map mw) fd).2)
def xy(l:List ft)(fd:Int):List ft×Int:=((Tb.nM (l.map mw) fd).1.map Pm,(Tb.nM (l.map mw) fd).2)
def Dy(l:List ft)(fd:Int):List ft×Int×Int:=((Tb.tS (l.map mw) fd).1.map Pm,(Tb.tS (l.map mw) fd).2.1,(Tb.tS (l.map mw) fd).2.2)
def Dz(l:List ft)(fd n:Int):List ft×Int:=((Tb.yF (l.map mw) fd n).1.map Pm,(Tb.yF (l.map mw) fd n).2)
def Ud(c:Int×Int):RV:= .agg [.ah (.val (.int .i64 c.1)),.ah (.val (.int .i64 c.2))]
theorem t7(l:List ft):m5 l=Tb.dU (l.map mw):=by show _=CV.rv (.one (.ah (Tb.qQ (l.map mw))));rw[zD];rfl
theorem DA(l:List ft)(fd need:Int){m:Mem}{K:CV->Mem->Prop}(h:K (.bz [Ud (gI l fd need).1,cG (gI l fd need).2]) m):ap prog 96 [m5 l,an .i64 fd,an .i64 need] m K:=by rw[t7];exact Tb.kI _ fd need h
theorem Bv(l:List ft)(fd:Int){m:Mem}{K:CV->Mem->Prop}(h:K (.bz [Ud (fB l fd).1,cG (fB l fd).2]) m):ap prog 73 [m5 l,an .i64 fd] m K:=by rw[t7];exact Tb.w8 _ fd h
theorem J1(l:List ft)(hl:l.length<=2097152)(fd:Int){m:Mem}{K:CV->Mem->Prop}(h:K (.bz [ML (xy l fd).1,cG (xy l fd).2]) m):ap prog 60 [m5 l,an .i64 fd] m K:=by
 rw[t7];refine Tb.Nh _ (by simpa using hl) fd ?_
 rw[pH];exact h
theorem QA(l:List ft)(hl:l.length<=2097152)(fd:Int){m:Mem}{K:CV->Mem->Prop}(h:K (.bz [ML (Dy l fd).1,cG (Dy l fd).2.1,cG (Dy l fd).2.2]) m):ap prog 61 [m5 l,an .i64 fd] m K:=by
 rw[t7];refine Tb.TJ _ (by simpa using hl) fd ?_
 rw[pH];exact h
theorem J2(l:List ft)(hl:l.length<=2097152)(fd n:Int){m:Mem}{K:CV->Mem->Prop}(h:K (.bz [ML (Dz l fd n).1,cG (Dz l fd n).2]) m):ap prog 62 [m5 l,an .i64 fd,an .i64 n] m K:=by
 rw[t7];refine Tb.Nl _ (by simpa using hl) fd n ?_
 rw[pH];exact h
def fJ(ops:List bF)(z:Int):Int:=match ops[z.toNat]? with|some o=>o.bo|none=>0
def o8(ops:List bF)(z:Int):Int:=match ops[z.toNat]? with|some o=>o.di|none=>0
def bp(k:Kr)(p:Nat)(fd need:Int):(Int×Int)×Int×Int:=
 if(gI (aA k.ps p) fd need).2≠0 then((0,0),0,(gI (aA k.ps p) fd need).2)else((gI (aA k.ps p) fd need).1,fJ k.ops (gI (aA k.ps p) fd need).1.1,0)
def fq(k:Kr)(p:Nat)(l:List ft)(e:Int):Kr:=if e=0 then⟨k.l,k.ops,dz k.ps p l⟩else k
def bP(k:Kr)(l:List Obj)(e:Int):Kr:=if e=0 then⟨l,k.ops,k.ps⟩else k
structure KW(k:Kr)(p:Nat):Prop where
 kr:dI k.l k.ops k.ps
 l40:k.l.length<=40
 En:xw k.l
 lk:nN (k.l.map Obj.ob)
 nm:∀o,o∈k.l->∀e,e∈o.ak.map nZ->e.1.size<=12
 hp:p<k.ps.length
 cap:∀s,s∈aA k.ps p->s.has=true->∃n j:Nat,s.dS=n/\n<k.ops.length/\fJ k.ops n=j/\j<k.l.length
theorem ef{ps:List bm}{p:Nat}(hp:p<ps.length):aA ps p=ps[p].aU:=by rw[aA,vl hp]
theorem xz{l:List ft}{fd need:Int}(h:(gI l fd need).2=0):∃s,s∈l/\s.has=true/\(gI l fd need).1=(s.dS,s.cj):=by
 unfold gI Tb.oa at h|-;split at h
 .simp at h
 .rename_i hn;rw[if_neg hn];unfold Tb.eA at h|-;cases hx:(if 0<=fd then(l.map mw)[fd.toNat]? else none)with
  |none=>rw[hx]at h;simp at h
  |some s=>
   rw[hx]at h;simp only at h|-;cases hh:s.has with
   |false=>rw[hh]at h;simp at h
   |true=>
    split at hx
    .rw[Sf]at hx;cases hy:l[fd.toNat]? with
     |none=>rw[hy]at hx;cases hx
     |some t=>
      rw[hy]at hx;simp only[aax,aat]at hx;subst hx;exact⟨t,Sj hy,hh,rfl⟩
    .cases hx
theorem KW.at{k:Kr}{p:Nat}(h:KW k p){fd need:Int}(he:(gI (aA k.ps p) fd need).2=0):∃n j:Nat,(gI (aA k.ps p) fd need).1.1=n/\n<k.ops.length/\fJ k.ops n=j/\j<k.l.length:=by
 obtain⟨s,hs,hh,e⟩:=xz he;obtain⟨n,j,h1,h2⟩:=h.cap s hs hh;exact⟨n,j,by rw[e];exact h1,h2⟩
theorem KW.held{k:Kr}{p:Nat}(h:KW k p){fd need:Int}(he:(bp k p fd need).2.2=0):∃n j:Nat,(bp k p fd need).1.1=n/\n<k.ops.length/\(bp k p fd need).2.1=j/\j<k.l.length/\fJ k.ops n=j:=by
 unfold bp at he|-;split at he
 .rename_i hn;exact absurd he hn
 .rename_i hn;rw[if_neg hn];obtain⟨n,j,h1,h2,h3,h4⟩:=h.at (Decidable.of_not_not hn);exact⟨n,j,h1,h2,by show fJ k.ops _=_;rw[h1];exact h3,h4,h3⟩
theorem KW.oi{k:Kr}{p:Nat}(h:KW k p):lM k.l:=⟨h.kr.ll,λo ho=>(h.kr.sm o ho).oi⟩
theorem iy{m:Mem}{Z:Nat->Prop}{id esz:Nat}{p:Option Nat}{ds:List (List Dt)}(hz:Z id)(hm:m[id]? =some (.row esz (aa ds))):dR m Z p (.row id esz 0 none) (.sl esz ds):=by
 refine dR.row id esz 0 none (aa ds) ds hz hm (by simp[aa]) (λi cs es h1 h2=>?_) (λi cs es j c d h1 h2 h3 h4=>?_)
 .simp only[aa,Sf,h2,aax,aat]at h1;subst h1;simp
 .simp only[aa,Sf,h2,aax,aat]at h1;subst h1;rw[Sf,h4]at h3;cases h3;exact .ah _
theorem nf(k:Kr)(p:Nat):xB k p≠.aR:=by intro h;cases h
theorem jk(c:Cl):cB c≠.aR:=by intro h;cases h
theorem Ue{Y:Nat->Nat}{m:Mem}{Z:Nat->Prop}{id p:Nat}{a b c:CC}{k:Kr}(ha:dR m Z (some id) a (dk k.l))(hb:dR m Z (some id) b (eX k.ops))(hc:dR m Z (some id) c (gl k.ps)):
  mi Y m Z id (.var [a,b,c,.ah (.val (.int .i64 (p:Nat)))]) (xB k p):=
 fh.var (.cons (.fE ha) (.cons (.fE hb) (.cons (.fE hc) (.cons (.bg (.ah _)) .nil))))
theorem H2{f:Nat}{args:List CV}(ha:∀Y,args.map (CV.bg Y)=args){k k':Kr}{p:Nat}{r0:CV}(hr:∀Y,r0.bg Y=r0)(hc:ap prog f (.rv (.one (.ptr 0 0))::args) [xB k p] (λr m=>r=r0/\m=[xB k' p])){m:Mem}(id:Nat)(hb:cD m id=some (xB k p)){K:CV->Mem->Prop}(hK:K r0 (aW m id (xB k' p))):ap prog f (.rv (.one (.ptr id 0))::args) m K:=by
 have hid:id<m.length:=by rw[aT]at hb;exact(JJ.1 hb).1
 refine bu [id] m.length rfl rfl rfl (by simp[eI,hid]) (args0:= .rv (.one (.ptr 0 0))::args) (by rw[aaJ,ha];rfl) (λi b' hi=>?_) hc (λr1 m1 rS=>?_)
 .cases i with
  |zero=>
   simp at hi;subst hi;refine .inr ⟨λh=>h,_,?_,.eq rfl (nf _ _)⟩
   rw[aT]at hb;exact hb
  |succ i=>simp at hi
 .obtain⟨rfl,rfl⟩:=rS;refine⟨T5 _,?_⟩;rw[hr];show K _ (cW m [id] [xB k' p]);rw[CW];exact hK
theorem Sr{f:Nat}{args:List CV}(ha:∀Y,args.map (CV.bg Y)=args){k k':Kr}{p:Nat}{c:Cl}{r0:CV}(hr:∀Y,r0.bg Y=r0)(hc:ap prog f (.rv (.one (.ptr 0 0)):: .rv (.one (.ptr 1 0))::args) [xB k p,cB c] (λr m=>r=r0/\m=[xB k' p,cB c])){m:Mem}(i j:Nat)(pN:fy [i,j]=true)(aD:eI m.length [i,j]=true)(hi:cD m i=some (xB k p))(hj:cD m j=some (cB c)){K:CV->Mem->Prop}(hK:K r0 (cW m [i,j] [xB k' p,cB c])):ap prog f (.rv (.one (.ptr i 0)):: .rv (.one (.ptr j 0))::args) m K:=by
 refine bu [i,j] m.length rfl rfl pN aD (args0:= .rv (.one (.ptr 0 0)):: .rv (.one (.ptr 1 0))::args) (by rw[aaJ,aaJ,ha];rfl) (λn b' hn=>?_) hc (λr1 m1 rS=>?_)
 .match n,hn with
  |0,hn=>
   cases hn;refine .inr ⟨λh=>h,_,?_,.eq rfl (nf _ _)⟩
   rw[aT]at hi;exact hi
  |1,hn=>
   cases hn;refine .inr ⟨λh=>h,_,?_,.eq rfl (jk _)⟩
   rw[aT]at hj;exact hj
  |n+2,hn=>simp at hn
 .obtain⟨rfl,rfl⟩:=rS;refine⟨T5 _,?_⟩;rw[hr];exact hK
theorem l56:bw prog f56=some c56.er:=by kernel_rfl
def QB(x:(Int×Int)×Int×Int):CV:= .bz [Ud x.1,cG x.2.1,cG x.2.2]
def aa6:LC:=bL (bL c56.code)
def aa7:LC:=qM aa6
theorem DB(k:Kr)(p:Nat)(hw:KW k p)(fd need:Int):
  aw prog 1 aa7 (oC prog c56.lP (λr m=>r=QB (bp k p fd need)/\∃ex,m=xB k p::ex))
   ⟨kz 44 [(0,.rv (.one (.ptr 0 0))),(6,.rv (.one (.ptr 1 0))),(9,.rv (.one (.ptr 2 0))),(10,an .i64 (gI (aA k.ps p) fd need).2)],
    [xB k p,.var [.ah (.val (.int .i64 0)),.ah (.val (.int .i64 0))],.var [.ah (.val (.int .i64 (gI (aA k.ps p) fd need).1.1)),.ah (.val (.int .i64 (gI (aA k.ps p) fd need).1.2))]]⟩:=by
 have E8:= @KW.at k p hw fd need;have Hl:bp k p fd need=if(gI (aA k.ps p) fd need).2≠0 then((0,0),0,(gI (aA k.ps p) fd need).2)else((gI (aA k.ps p) fd need).1,fJ k.ops (gI (aA k.ps p) fd need).1.1,0):=rfl
 rw[Hl];clear Hl;generalize gI (aA k.ps p) fd need=w at E8|-;obtain⟨⟨o,r⟩,e⟩:=w;refine bt (λhe=>?_) (λhe=>?_)
 .rw[if_pos he];exact⟨rfl,_,rfl⟩
 .have he:e=0:=he;subst he;obtain⟨n,j,h1,h2,h3,h4⟩:=E8 rfl;have h1:o=n:=h1;subst h1;rw[if_neg aC];refine af (pF h2) ?_;have ho:fJ k.ops (n:Int)=k.ops[n].bo:=by rw[fJ,aae,vl h2]
  refine⟨⟨rfl,af (pF h2) rfl,rfl,rfl,trivial⟩,?_⟩;show _=QB ((_,_),fJ k.ops (n:Int),0)/\_;rw[ho];exact⟨rfl,_,rfl⟩
theorem tT(k:Kr)(p:Nat)(hw:KW k p)(fd need:Int):
  body prog c56 [.rv (.one (.ptr 0 0)),an .i64 fd,an .i64 need] [xB k p] (λr m=>r=QB (bp k p fd need)/\∃ex,m=xB k p::ex):=by
 have hg:=dy hw.hp;rw[<-ef hw.hp]at hg;refine af hg ?_;refine⟨?_,?_⟩
 .refine DA _ fd need ?_;refine⟨trivial,⟨rfl,af hg rfl,rfl,rfl,trivial⟩,trivial,_,View.o1 3 [0,1,2] [] ?_,DB k p hw fd need⟩
  .exact .au
 .refine⟨⟨rfl,af hg rfl,rfl,rfl,trivial⟩,?_⟩;refine DA _ fd need ?_;refine⟨trivial,trivial,_,View.o1 3 [0,1,2] [] ?_,DB k p hw fd need⟩
  .exact .au
theorem kI(k:Kr)(p:Nat)(hw:KW k p)(fd need:Int){m:Mem}(id:Nat)(hb:cD m id=some (xB k p)){K:CV->Mem->Prop}(hK:K (QB (bp k p fd need)) m):
  ap prog 56 [.rv (.one (.ptr id 0)),an .i64 fd,an .i64 need] m K:=
 fo (args0:=[.rv (.one (.ptr 0 0)),an .i64 fd,an .i64 need]) (cs:=xC k p) id hb rfl rfl
  (λ_ hK=>eQ rfl (b8 func56 l56 (tT k p hw fd need)) hK) hK
theorem l63:bw prog f63=some c63:=by kernel_rfl
theorem l69:bw prog f69=some c69:=by kernel_rfl
def TX(Q:CV->Mem->Prop)(r:CV)(m:Mem):Prop:=∃r' m',View 1 ⟨[r],m⟩ ⟨[r'],m'⟩/\Q r' m'
theorem F6{ps:List bm}{n:Nat}(hn:n<ps.length)(y:List ft):aW (aa (ps.map bm.enc)) n ((bm.enc ⟨ps[n].aP,ps[n].fenced,ps[n].code,y⟩).map .ah)=aa ((dz ps n y).map bm.enc):=by
 have:dz ps n y=ps.set n {ps[n]with aU:=y}:=by rw[dz,vl hn]
 rw[this,aY,aa,aa,abM,abM]
theorem F7(k:Kr)(p:Nat)(hk:dI k.l k.ops k.ps)(hp:p<k.ps.length)(l:List ft)(e:Int):
  body prog c63 [.rv (.one (.ptr 0 0)),m5 l,an .i64 e] [xB k p] (TX λr m=>r=an .i64 e/\m=[xB (fq k p l e) p]):=by
 refine bs (λhe=>?_) (λhe=>?_)
 .have he:e=0:=he;subst he;refine iN k.l k.ops k.ps ⟨hk.ll,λo ho=>(hk.sm o ho).oi⟩ hk.lo hk.lp hk.sl hk.ne ?_
  refine af (ml hp) ?_;refine af (bJ bm.enc k.ps hp) ?_;refine⟨trivial,_,_,View.o 4 [0] [1,2,3] (.eq rfl .nil) (.pt rfl rfl (Ue (k:=fq k p l 0) (iy rfl rfl) (iy rfl rfl) (iy rfl ?_)) (.nil _)),rfl,rfl⟩;refine congrArg (λx=>some (Bk.row 4 x)) ?_
  exact F6 hp l
 .have he:¬e=0:=he;refine⟨_,_,View.o 1 [0] [] (.eq rfl .nil) (.pt rfl rfl (.eq rfl (nf _ _)) (.nil _)),rfl,?_⟩;rw[fq,if_neg he]
theorem DC(k:Kr)(p:Nat)(hk:dI k.l k.ops k.ps)(hp:p<k.ps.length)(l:List ft)(e:Int){m:Mem}(id:Nat)(hb:cD m id=some (xB k p)){K:CV->Mem->Prop}(hK:K (an .i64 e) (aW m id (xB (fq k p l e) p))):
  ap prog 63 [.rv (.one (.ptr id 0)),m5 l,an .i64 e] m K:=
 H2 (args:=[m5 l,an .i64 e]) (λ_=>rfl) (λ_=>rfl)
  (bH (aZ func63 l63 (F7 k p hk hp l e)) λr m1⟨r',m',hv,hq⟩=>⟨r',m',hv,hq⟩) id hb hK
theorem Bw(k:Kr)(p:Nat)(hk:dI k.l k.ops k.ps)(l:List Obj)(e:Int):
  body prog c69 [.rv (.one (.ptr 0 0)),cA l,an .i64 e] [xB k p] (TX λr m=>r=an .i64 e/\m=[xB (bP k l e) p]):=by
 refine bs (λhe=>?_) (λhe=>?_)
 .have he:e=0:=he;subst he;refine iN k.l k.ops k.ps ⟨hk.ll,λo ho=>(hk.sm o ho).oi⟩ hk.lo hk.lp hk.sl hk.ne ?_
  exact⟨_,_,View.o 4 [0] [1,2,3] (.eq rfl .nil) (.pt rfl rfl (Ue (k:=bP k l 0) (.ah _) (iy rfl rfl) (iy rfl rfl)) (.nil _)),rfl,rfl⟩
 .have he:¬e=0:=he;refine⟨_,_,View.o 1 [0] [] (.eq rfl .nil) (.pt rfl rfl (.eq rfl (nf _ _)) (.nil _)),rfl,?_⟩;rw[bP,if_neg he]
theorem nP(k:Kr)(p:Nat)(hk:dI k.l k.ops k.ps)(l:List Obj)(e:Int){m:Mem}(id:Nat)(hb:cD m id=some (xB k p)){K:CV->Mem->Prop}(hK:K (an .i64 e) (aW m id (xB (bP k l e) p))):
  ap prog 69 [.rv (.one (.ptr id 0)),cA l,an .i64 e] m K:=
 H2 (args:=[cA l,an .i64 e]) (λ_=>rfl) (λ_=>rfl)
  (bH (aZ func69 l69 (Bw k p hk l e)) λr m1⟨r',m',hv,hq⟩=>⟨r',m',hv,hq⟩) id hb hK
end Kn
namespace Kn
def NT(k:Kr)(n:Nat)(bo cj:Int)(r:CV)(m:Mem):Prop:=∃r' m',View 0 ⟨[r],m⟩ ⟨[r'],m'⟩/\
 (((aL k n bo cj).2.2≠0/\r'= .bz [ji mr,cG 0,cG (aL k n bo cj).2.2]/\m'=[])\/
 ((aL k n bo cj).2.2=0/\r'= .bz [.agg [.row 0 9 0 none,.ah (eX (aL k n bo cj).1.ops),.ah (gl (aL k n bo cj).1.ps)],cG (aL k n bo cj).2.1,cG 0]/\m'=[.row 9 (aa ((aL k n bo cj).1.l.map Obj.enc))]))
theorem t3V{Y:Nat->Nat}{m:Mem}{Z:Nat->Prop}{a a' b b' c c':RV}(h1:yf Y m Z a a')(h2:yf Y m Z b b')(h0:yf Y m Z c c'):ri Y m Z (.bz [a,b,c]) (.bz [a',b',c']):=
 .bz rfl λi r r' e1 e2=>by
  match i,e1,e2 with
  |0,e1,e2=>cases e1;cases e2;exact h1
  |1,e1,e2=>cases e1;cases e2;exact h2
  |2,e1,e2=>cases e1;cases e2;exact h0
  |n+3,e1,e2=>simp at e1
theorem aa8{Y:Nat->Nat}{m:Mem}{Z:Nat->Prop}{x y:Int}:ri Y m Z (.bz [.agg [.aK,.aK,.aK],cG x,cG y]) (.bz [ji mr,cG x,cG y]):=
 t3V (.agg rfl λi c c' h1 h2=>by
  match i,h1,h2 with
  |0,h1,h2=>cases h1;cases h2;exact .fE (.aK 9)
  |1,h1,h2=>cases h1;cases h2;exact .fE (.aK 2)
  |2,h1,h2=>cases h1;cases h2;exact .fE (.aK 4)
  |n+3,h1,h2=>simp at h1) (.one (.bg (.ah _))) (.one (.bg (.ah _)))
def Q18(k:Kr)(n:Nat)(bo cj:Int):Ex->St->Prop:=oC prog c72.lP (NT k n bo cj)
theorem DD{k:Kr}{n:Nat}{bo cj e:Int}{m:Mem}(h:aL k n bo cj=(mr,0,e))(he:e≠0):NT k n bo cj (.bz [.agg [.aK,.aK,.aK],cG 0,cG e]) m:=by refine⟨_,[],View.of m.length [] [] rfl rfl rfl rfl rfl rfl (.put aa8 .nil) (.nil _),.inl ?_⟩;rw[h];exact⟨he,rfl,rfl⟩
theorem NU(k:Kr)(l:List Obj)(O:List bF)(ps:List bm)(n i:Nat)(hn:n<ps.length)(hi:i<O.length)(bo fd cj:Int)(y:List ft)(h:aL k n bo cj=(⟨l,O.set i ⟨bo,0⟩,dz ps n y⟩,fd,0)):
  aw prog 0 G60 (Q18 k n bo cj)
   ⟨kz 74 [(1,an .i64 (n:Nat)),(2,an .i64 bo),(8,.rv (.one (.ptr 0 0))),(11,an .i64 (i:Nat)),(12,m5 y),(13,an .i64 fd),(15,.rv (.one (.ptr 4 0)))],M60 l O ps⟩:=by
 refine af (A2 hi) ?_;have ho:=bJ bF.enc O hi;generalize O[i]=x at ho;obtain⟨xo,xa⟩:=x;refine af ho ?_;refine af (ml hn) ?_;have hp:=bJ bm.enc ps hn;have pQ:dz ps n y=ps.set n {ps[n]with aU:=y}:=by rw[dz,vl hn]
 rw[pQ]at h;generalize ps[n]=z at hp h;obtain⟨aP,fenced,cd,aU⟩:=z;refine af hp ?_;refine⟨.bz [.agg [.row 0 9 0 none,.ah (eX (O.set i ⟨bo,0⟩)),.ah (gl (ps.set n ⟨aP,fenced,cd,y⟩))],cG fd,cG 0],[.row 9 (aa (l.map Obj.enc))],
  View.o 5 [1] [2,3] (.put (t3V (.agg rfl λj c c' h1 h2=>?_) (.one (.bg (.ah _))) (.one (.bg (.ah _)))) .nil) (.pn rfl rfl rfl),.inr ⟨by rw[h],by rw[h],by rw[h]⟩⟩
 match j,h1,h2 with
 |0,h1,h2=>cases h1;cases h2;exact .bg (Y:=sg [1] 5) (.row 0 9 0 none)
 |1,h1,h2=>
  cases h1;cases h2;refine .fE (iy rfl (congrArg (λx=>some (Bk.row 2 x)) ?_))
  show aW (aa (O.map bF.enc)) i ((bF.enc ⟨bo,0⟩).map .ah)=_;rw[aY,aa,aa,abM,abM]
 |2,h1,h2=>
  cases h1;cases h2;refine .fE (iy rfl (congrArg (λx=>some (Bk.row 4 x)) ?_))
  show aW (aa (ps.map bm.enc)) n ((bm.enc ⟨aP,fenced,cd,y⟩).map .ah)=_;rw[aY,aa,aa,abM,abM]
 |n+3,h1,h2=>simp at h1
theorem NV(k:Kr)(hk:dI k.l k.ops k.ps)(n:Nat)(hn:n<k.ps.length)(bo cj:Int)(i:Nat)(hi:i=cX k.ops)(ym:i<=k.ops.length)(jX:¬(El k.ops=none/\k.ops.length>=60)):
  aw prog 0 G30 (Q18 k n bo cj)
   ⟨kz 74 [(1,an .i64 (n:Nat)),(2,an .i64 bo),(3,an .i64 cj),(4,.rv (.one (.ptr 0 0))),(8,.rv (.one (.ptr 1 0))),(11,an .i64 (i:Nat))],[.var ((kC k.l k.ops k.ps).map .ah),.var [.aK,.aK,.aK]]⟩:=by
 have zE:aA k.ps n=k.ps[n].aU:=by rw[aA,vl hn]
 have y8:=hk.sl _ (aar hn);have TL:k.ops.length<=4194304:=hk.lo;have hS:aL k n bo cj=if(fY k.ps[n].aU (i:Nat) cj).2.2≠0 then(mr,0,(fY k.ps[n].aU (i:Nat) cj).2.2)
   else(⟨k.l,jj k.ops i ⟨bo,0⟩,dz k.ps n (fY k.ps[n].aU (i:Nat) cj).1⟩,(fY k.ps[n].aU (i:Nat) cj).2.1,0):=by
  rw[aL,if_neg jX,zE,<-hi]
 refine af (dy hn) ?_;generalize k.ps[n].aU=S at y8 hS;refine Bb S om (i:Nat) cj ?_;generalize fY S (i:Nat) cj=A at hS;obtain⟨y,fd,e⟩:=A;refine bt (λhe=>?_) (λhe=>?_)
 .rw[if_pos he]at hS;exact DD hS he
 have he:e=0:=he;subst he;rw[if_neg aC]at hS;refine iN k.l k.ops k.ps ⟨hk.ll,λo ho=>(hk.sm o ho).oi⟩ hk.lo hk.lp hk.sl hk.ne ?_
 refine bs (λlT=>?_) (λlT=>?_)
 .have lT:i=k.ops.length:=by have lT:(i:Int)=((aa (k.ops.map bF.enc)).length:Int):=lT;rw[bh,Nr]at lT;omega
  have jo:jj k.ops i ⟨bo,0⟩=(k.ops++ [bF.mk 0 0]).set i ⟨bo,0⟩:=by rw[jj,if_pos lT,lT];simp
  rw[jo]at hS;refine⟨by simp only[bV,bh,Nr,aaj,aa9];omega,?_⟩
  refine⟨_,View.o1 8 [1,2,7,4,5] [] ?_,NU k k.l (k.ops++ [bF.mk 0 0]) k.ps n i hn (by simp;omega) bo fd cj y hS⟩
  .exact .pe rfl rfl rfl (.pr rfl rfl rfl (.pt rfl rfl (.bI (by simp[bV,aa,bF.enc])) (.pr rfl rfl rfl (.pm rfl rfl rfl))))
 .have aD:i<k.ops.length:=by have lT:¬(i:Int)=((aa (k.ops.map bF.enc)).length:Int):=lT;rw[bh,Nr]at lT;omega
  have jo:jj k.ops i ⟨bo,0⟩=k.ops.set i ⟨bo,0⟩:=by rw[jj,if_neg om]
  rw[jo]at hS;refine⟨_,View.o1 6 [1,2,3,4,5] [] ?_,NU k k.l k.ops k.ps n i hn aD bo fd cj y hS⟩
  .exact .au
theorem Bx(k:Kr)(hk:dI k.l k.ops k.ps)(n:Nat)(hn:n<k.ps.length)(bo cj:Int):body prog c72 [ez k.l k.ops k.ps,an .i64 (n:Nat),an .i64 bo,an .i64 cj] [] (NT k n bo cj):=by
 refine HP k.ops hk.lo ?_;have TL:k.ops.length<=4194304:=hk.lo;cases ho:El k.ops with
 |none=>
  have TM:Lc k.ops= -1:=by rw[Lc,ho]
  have Pf:cX k.ops=k.ops.length:=by rw[cX,ho];rfl
  rw[TM];refine aN (λxb=>?_) (λxb=>?_)
  .have xb:k.ops.length>=60:=by have xb:((k.ops.map bF.enc).length:Int)>=60:=xb;rw[Nr]at xb;omega
   exact DD (by rw[aL,if_pos ⟨ho,xb⟩]) (by decide)
  .have xb:¬k.ops.length>=60:=by have xb:¬((k.ops.map bF.enc).length:Int)>=60:=xb;rw[Nr]at xb;omega
   refine⟨_,View.o 2 [0,1] [] ?_ ?_,NV k hk n hn bo cj k.ops.length Pf.symm (T5 _) (λh=>xb h.2)⟩
   .have hlen:an .i64 (((k.ops.map bF.enc).length:Nat):Int)=an .i64 ((k.ops.length:Nat):Int):=by rw[Nr]
    repeat(first|exact .nil|refine .aF ?_|refine .eq rfl ?_)
    refine .eq hlen.symm ?_;repeat(first|exact .nil|refine .aF ?_|refine .eq rfl ?_)
   .exact .au
 |some i=>
  have TM:Lc k.ops=(i:Nat):=by rw[Lc,ho]
  have Pf:cX k.ops=i:=by rw[cX,ho];rfl
  have ym:=Bc ho;rw[TM];refine⟨_,View.o1 2 [0,1] [] ?_,NV k hk n hn bo cj i Pf.symm om (λh=>by rw[ho]at h;cases h.1)⟩
  .exact .au
theorem xA(k:Kr)(hk:dI k.l k.ops k.ps)(n:Nat)(hn:n<k.ps.length)(bo cj:Int){m:Mem}{K:CV->Mem->Prop}(h1:(aL k n bo cj).2.2≠0->K (.bz [ji mr,cG 0,cG (aL k n bo cj).2.2]) m)(h2:(aL k n bo cj).2.2=0->K (.bz [.agg [.row m.length 9 0 none,.ah (eX (aL k n bo cj).1.ops),.ah (gl (aL k n bo cj).1.ps)],cG (aL k n bo cj).2.1,cG 0]) (m++ [.row 9 (aa ((aL k n bo cj).1.l.map Obj.enc))])):
  ap prog 72 [ez k.l k.ops k.ps,an .i64 (n:Nat),an .i64 bo,an .i64 cj] m K:=by
 refine bu [] m.length rfl rfl rfl rfl rfl (λi b' hi=>by simp at hi)
  (bH (b8 func72 l72 (Bx k hk n hn bo cj)) λr m1⟨r',m',hv,hq⟩=>⟨r',m',hv,hq⟩) (λr m1 hp=>⟨aan _,?_⟩)
 rcases hp with⟨e1,rfl,rfl⟩|⟨e1,rfl,rfl⟩
 .have:=h1 e1;show K _ (gn m []);rw[b7,ab3];exact this
 .have:=h2 e1;show K _ (gn m [Bk.bg _ _]);rw[b7,Bk.js];exact this
end Kn
def c70:LF:= ⟨42,[.tmp 6,.tmp 7],(.seq (.ai [qu 4 (.box 1),qu 5 (.box 2),qu 6 (.aI (qi 0)),qu 7 (.aI (qi 0))]) (.seq (.ai [qf 11 4 5,qw (.store 1 11 (qi (-1))),qf 12 6 5,qw (.store 1 12 (qi (-1)))]) (.seq (.bR [qm 14 0,qu 15 (.aO 14),qf 16 0 15,qf 17 0 16,ql 18 17,qL 19 9 5,qu 20 (qc 111 [18,19]),qm 13 20,qu 21 (.ext 13 0),qu 22 (.ext 13 1),qu 23 (.ext 13 2),qm 8 21,qm 9 22,qm 10 23] [(eh 6 0 (.cons 6 (some []) (eh 7 7 .nil)))]) (.seq (.seq (.ai [qm 24 10,qu 25 (.aJ .neq 24 (qi 0))]) (.cond 25 (.seq (.ai [qm 26 10,qu 6 (.aI (qi 0)),qm 7 26]) .ret) .skip)) (.seq (.ai [qm 28 8,qf 29 1 4,ql 30 29,qf 31 2 4,ql 32 31,qm 33 9,qu 34 (qc 112 [28,30,32,33]),qm 27 34,qu 35 (.ext 27 0),qu 36 (.ext 27 1),qm 8 35,qm 10 36]) (.seq (.ai [qm 37 9,qm 38 0,qm 39 8,qm 40 10,qu 41 (qc 69 [38,39,40]),qm 6 37,qm 7 41]) .ret))))))⟩
namespace Kn
def gE(o:Obj):Obj:={o with bq:= -1,bb:= -1}
def F8(f:R4):CV:= .rv (.agg ((U5 f).map .ah))
def By(l:List Obj)(f:R4)(n:Int):List Obj×Int:=cO (bK.fP f.name) l f.cK (bK.cF f.name) n
def cw(k:Kr)(f:R4)(o:Obj):Kr×Int×Int:=
 if(aG k.l (gE o)).2.2≠0 then(k,0,(aG k.l (gE o)).2.2)
 else(bP k (By (aG k.l (gE o)).1 f (aG k.l (gE o)).2.1).1 (By (aG k.l (gE o)).1 f (aG k.l (gE o)).2.1).2,(aG k.l (gE o)).2.1,(By (aG k.l (gE o)).1 f (aG k.l (gE o)).2.1).2)
structure QE(o:Obj):Prop where
 sm:o.sm
 en:o.ak=[]
theorem QE.gE{o:Obj}(h:QE o):QE (gE o):=⟨⟨h.sm.t,h.sm.d,h.sm.e,h.sm.q,h.sm.qd⟩,h.en⟩
theorem xw.make{l:List Obj}(h:xw l){o:Obj}(ho:QE o):xw (aG l o).1:=by
 have key:∀l',(∀x,x∈l'->x∈l\/x=o)->l.length<=l'.length->l'.length<=4194304->xw l':=λl' hm hl Ax=>by
  refine⟨⟨Ax,λx hx=>?_⟩,λx hx=>?_⟩
  .rcases hm x hx with hx|rfl
   .exact h.oi.2 x hx
   .exact ho.sm.oi
  .rcases hm x hx with hx|rfl
   .obtain⟨es,h1,h2,h3,h4⟩:=h.en x hx;exact⟨es,h1,h2,h3,λe he=>⟨(h4 e he).1,by have:=(h4 e he).2;omega⟩⟩
   .exact⟨[],ho.en,List.Pairwise.nil,aC,aC⟩
 have hf:=h.oi.1;unfold aG;split
 .rename_i k _;refine key _ (λx hx=>aaC hx) aC (by simpa using hf)
 .split
  .exact⟨⟨aC,aC⟩,aC⟩
  .refine key _ (λx hx=>by simpa using hx) aC (by simp only[aaL,aaj,aa9];omega)
theorem l70:bw prog f70=some c70:=by kernel_rfl
def Xv(a b:Int):CV:= .bz [cG a,cG b]
theorem DE(k:Kr)(p:Nat)(hw:KW k p)(f:R4)(o:Obj)(ho:QE o):
  body prog c70 [.rv (.one (.ptr 0 0)),F8 f,o.cv] [xB k p] (TX λr m=>r=Xv (cw k f o).2.1 (cw k f o).2.2/\m=[xB (cw k f o).1 p]):=by
 have hs:=xw.make hw.En ho.gE;refine AU k.l hw.oi (gE o) ?_;have hS:cw k f o=if(aG k.l (gE o)).2.2≠0 then(k,0,(aG k.l (gE o)).2.2)
  else(bP k (By (aG k.l (gE o)).1 f (aG k.l (gE o)).2.1).1 (By (aG k.l (gE o)).1 f (aG k.l (gE o)).2.1).2,(aG k.l (gE o)).2.1,(By (aG k.l (gE o)).1 f (aG k.l (gE o)).2.1).2):=rfl
 rw[hS];clear hS;generalize aG k.l (gE o)=M at hs|-;obtain⟨l,n,e⟩:=M;refine⟨trivial,?_⟩;refine bt (λhe=>?_) (λhe=>?_)
 .rw[if_pos he];exact⟨_,_,View.o 3 [0] [] (.eq rfl .nil) (.pt rfl rfl (.eq rfl (nf _ _)) (.nil _)),rfl,rfl⟩
 .have he:e=0:=he;subst he;rw[if_neg aC];refine JW l hs f.cK n (bK.cF f.name) (bK.fP f.name) (λh=>bK.Bh f.name h) ?_
  refine nP k p hw.kr _ _ 0 rfl ?_;exact⟨_,_,View.o 3 [0] [] (.eq rfl .nil) (.pt rfl rfl (.eq rfl (nf _ _)) (.nil _)),rfl,rfl⟩
theorem t8(k:Kr)(p:Nat)(hw:KW k p)(f:R4)(o:Obj)(ho:QE o){m:Mem}(id:Nat)(hb:cD m id=some (xB k p)){K:CV->Mem->Prop}(hK:K (Xv (cw k f o).2.1 (cw k f o).2.2) (aW m id (xB (cw k f o).1 p))):ap prog 70 [.rv (.one (.ptr id 0)),F8 f,o.cv] m K:=
 H2 (args:=[F8 f,o.cv]) (λ_=>rfl) (λ_=>rfl)
  (bH (aZ func70 l70 (DE k p hw f o ho)) λr m1⟨r',m',hv,hq⟩=>⟨r',m',hv,hq⟩) id hb hK
end Kn
def c55:LF:= ⟨117,[.cell true 4 8],(.seq (.ai [qu 8 (.alloc [qd 0,qd 0,qd 0,.aK])]) (.seq (.bR [qm 15 0,qu 16 (.aO 15),qf 17 0 16,qf 18 0 17,ql 19 18,qm 20 2,qm 21 1,qu 22 (.aO 21),qf 23 7 22,ql 24 23,qm 25 3,qu 26 (qc 67 [19,20,24,25,qb true]),qm 14 26,qu 27 (.ext 14 0),qu 28 (.ext 14 1),qu 9 (.alloc [qd 0,qd 0,(.ah (.val (.string ⟨#[]⟩)))]),qw (.store 3 9 27),qm 10 28] [(eh 11 0 (.vJ (.cons 11 (some []) (eh 3 12 (.cons 15 (some [9,4]) (.cons 16 (some []) (.cons 17 none .nil))))) (.cons 15 (some [9,4]) (.cons 11 (some []) (eh 3 12 (.cons 16 (some []) (.cons 17 none .nil)))))))]) (.cU (.seq (.ai [qf 29 0 9,ql 30 29,qm 11 30]) (.seq (.block 0 (.seq (.ai [qm 32 10,qu 33 (.aJ .neq 32 (qi 0)),qm 31 33]) (.cond 31 .skip (.seq (.ai [qm 35 11,qu 36 (.aJ .lss 35 (qi 0)),qm 37 36,qg 38 (.aI 1) 37 true,qg 39 (.aO 38) 37 true,qg 40 (.bU 5 39) 37 true,qg 41 (.load false 1 40) 37 true,qg 42 (.aJ .and 41 (qi 1)) 37 true,qg 43 (.aJ .eql 42 (qi 0)) 37 true,qu 44 (.pick 37 43 (qb false)),qm 34 44]) (.cond 34 (.ai [qu 10 (.aI (qi 6))]) (.seq (.ai [qm 46 11,qu 47 (.aJ .lss 46 (qi 0)),qm 45 47]) (.cond 45 (.ai [qm 49 0,qL 50 3 9,qu 51 (.build [qd 0,.aK,.aK,(.ah (.val (.string ⟨#[]⟩))),qd 0,.aK,qd 0,qd 0,qd 0] [(0,1,qi 1)]),qu 52 (qc 70 [49,50,51]),qm 48 52,qu 53 (.ext 48 0),qu 54 (.ext 48 1),qm 11 53,qm 10 54]) (.seq (.ai [qm 56 1,qu 57 (.aO 56),qf 58 5 57,ql 59 58,qu 60 (.aJ .and 59 (qi 2)),qu 61 (.aJ .neq 60 (qi 0)),qm 62 61,qg 63 (.aI 0) 62 true,qg 64 (.aO 63) 62 true,qg 65 (.bU 0 64) 62 true,qg 66 (.bU 0 65) 62 true,qg 67 (.load false 1 66) 62 true,qg 68 (.aI 11) 62 true,qg 69 (.cr 9 67 68) 62 true,qg 70 (.bU 0 69) 62 true,qg 71 (.load false 1 70) 62 true,qg 72 (.aJ .eql 71 (qi 2)) 62 true,qu 73 (.pick 62 72 (qb false)),qm 55 73]) (.cond 55 (.ai [qu 10 (.aI (qi 12))]) .skip))))))))) (.cU (.seq (.seq (.ai [qm 74 10,qu 75 (.aJ .neq 74 (qi 0))]) (.cond 75 (.seq (.ai [qm 76 10,qu 77 (.build [qd 0,qd 0,qd 0,.aK] [(0,1,76)]),qw (.store 4 8 77)]) .ret) .skip)) (.seq (.bR [qm 79 0,qu 80 (.aO 79),qf 81 0 80,qL 82 3 81,qm 83 0,qu 84 (.aO 83),qf 85 3 84,ql 86 85,qm 87 11,qm 88 1,qu 89 (.aO 88),qf 90 6 89,ql 91 90,qu 92 (qc 72 [82,86,87,91]),qm 78 92,qu 93 (.ext 78 0),qu 94 (.ext 78 1),qu 95 (.ext 78 2),qu 12 (.alloc [.aK,.aK,.aK]),qw (.store 3 12 93),qm 13 94,qm 10 95] [(eh 13 0 (.vJ (.cons 13 (some []) (eh 4 14 (.cons 18 (some [12,7,3]) (.cons 19 (some []) (.cons 20 none (.cons 21 none .nil)))))) (.cons 18 (some [12,7,3]) (.cons 13 (some []) (eh 4 14 (.cons 19 (some []) (.cons 20 none (.cons 21 none .nil))))))))]) (.cU (.seq (.seq (.ai [qm 96 10,qu 97 (.aJ .neq 96 (qi 0))]) (.cond 97 (.seq (.ai [qm 98 10,qu 99 (.build [qd 0,qd 0,qd 0,.aK] [(0,1,98)]),qw (.store 4 8 99)]) .ret) .skip)) (.cU (.seq (.seq (.ai [qm 100 1,qu 101 (.aO 100),qf 102 5 101,ql 103 102,qu 104 (.aJ .and 103 (qi 2)),qu 105 (.aJ .neq 104 (qi 0))]) (.cond 105 (.ai [qf 106 0 12,ql 107 106,qm 108 11,qu 109 (.cr 9 107 108),qf 110 1 109,qw (.store 1 110 qe)]) .skip)) (.seq (.ai [qm 111 0,qL 112 3 12,qu 113 (.aO 111),qf 114 0 113,qw (.store 3 114 112)]) (.seq (.ai [qm 115 13,qu 116 (.build [qd 0,qd 0,qd 0,.aK] [(1,1,115)]),qw (.store 4 8 116)]) .ret))))))))))))))⟩
namespace Kn
def o9:Obj:=⟨1,[],[],⟨#[]⟩,0,[],0,0,0⟩
theorem zL:QE o9:=⟨⟨⟨⟨[],rfl⟩,⟨[],rfl⟩,by simp[o9]⟩,by simp[o9],by simp[o9],by simp[o9],by simp[o9]⟩,rfl⟩
def iS(k:Kr)(ar:Int)(s:bK.dL)(ay follow:Bool):R4:=p9 (k.l.map Obj.ob) ar s ay follow
theorem sF(k:Kr)(p:Nat)(hw:KW k p)(ar:Int)(s:bK.dL)(ay follow:Bool){m:Mem}{K:CV->Mem->Prop}(h:K (U6 (iS k ar s ay follow)) m):
  ap prog 67 [cA k.l,an .i64 ar,bK.vT s,aE ay,aE follow] m K:=by
 rw[show cA k.l=AY (k.l.map Obj.ob)from congrArg (λd=>CV.rv (.one (.ah d))) (T9 k.l)]
 exact Qv _ hw.lk ar s ay follow h
def F9(l:List Obj)(z:Int):Int:=match l[z.toNat]? with|some o=>o.ag|none=>0
def cq(k:Kr)(c:Cl)(f:R4):Kr×Int×Int:=
 if f.fC≠0 then(k,f.bo,f.fC)
 else if f.bo<0 then(if lN c.bv 1=0 then(k,f.bo,6)else cw k f o9)
 else if lN c.bv 2≠0/\F9 k.l f.bo=2 then(k,f.bo,12)
 else(k,f.bo,0)
def lj(l:List Obj)(z:Int):List Obj:=match l[z.toNat]? with|some o=>l.set z.toNat {o with data:=[]}|none=>l
def jz(p:Nat)(c:Cl)(x:Kr×Int×Int):Kr×An:=
 if x.2.2≠0 then(x.1,An.no x.2.2)
 else if(aL x.1 p x.2.1 c.a8).2.2≠0 then(x.1,An.no (aL x.1 p x.2.1 c.a8).2.2)
 else(if lN c.bv 2≠0 then⟨lj (aL x.1 p x.2.1 c.a8).1.l x.2.1,(aL x.1 p x.2.1 c.a8).1.ops,(aL x.1 p x.2.1 c.a8).1.ps⟩else(aL x.1 p x.2.1 c.a8).1,⟨0,(aL x.1 p x.2.1 c.a8).2.1,0,[]⟩)
def gi(k:Kr)(p:Nat)(c:Cl)(ar:Int)(ay:Bool):Kr×An:=jz p c (cq k c (iS k ar c.cJ ay true))
theorem QF{m:Mem}{Z:Nat->Prop}{p:Option Nat}{id:Nat}{l:List Obj}{k:Nat}{c:List CC}{x:Obj}(hc:kh m Z (some id) c x.enc)(hz:Z id)(hm:m[id]? =some (.row 9 (aW (aa (l.map Obj.enc)) k c))):
  dR m Z p (.row id 9 0 none) (dk (l.set k x)):=by
 rw[aY]at hm;refine dR.row id 9 0 none _ _ hz hm (by simp[aa]) (λi cs es h1 h2=>?_) (λi cs es j c' d h1 h2 h3 h4=>?_)
 .rw[aaS]at h1;rw[Sf,aaS]at h2;by_cases e:k=i
  .subst e;rw[if_pos rfl]at h1 h2;split at h1
   .cases h1;split at h2
    .cases h2;exact hc.len
    .cases h2
   .cases h1
  .rw[if_neg e]at h1 h2;rw[aa,Sf,Sf]at h1;cases hx:l[i]? with
   |none=>rw[hx]at h2;cases h2
   |some y=>
    rw[hx]at h1 h2;cases h1;cases h2;simp
 .rw[aaS]at h1;rw[Sf,aaS]at h2;by_cases e:k=i
  .subst e;rw[if_pos rfl]at h1 h2;split at h1
   .cases h1;split at h2
    .cases h2;exact hc.get j c' d h3 h4
    .cases h2
   .cases h1
  .rw[if_neg e]at h1 h2;rw[aa,Sf,Sf]at h1;cases hx:l[i]? with
   |none=>rw[hx]at h2;cases h2
   |some y=>
    rw[hx]at h1 h2;cases h1;cases h2;rw[Sf,h4]at h3;cases h3;exact .ah _
theorem l55:bw prog f55=some c55.er:=by kernel_rfl
def C29:LC:=bL (bL c55.code)
def G29:LC:=qM C29
def C74:LC:=bL (bL G29)
def G74:LC:=qM C74
def C96:LC:=bL (bL G74)
def G96:LC:=qM C96
def aba:LC:=bL G96
def abb:LC:=qM aba
def iT:Bk:= .var [.ah (.val (.int .i64 0)),.ah (.val (.int .i64 0)),.ah (.val (.int .i64 0)),.aK]
def TC(k:Kr)(p:Nat)(c:Cl)(a:An)(r:CV)(m:Mem):Prop:=∃r' m',View 2 ⟨[r],m⟩ ⟨[r'],m'⟩/\r'=a.cv/\m'=[xB k p,cB c]
def QC(lP:List Rv)(k:Kr)(p:Nat)(c:Cl)(a:An):Ex->St->Prop:=oC prog lP (TC k p c a)
theorem NW{Y:Nat->Nat}{m:Mem}{Z:Nat->Prop}{e n x:Int}:ri Y m Z (.rv (.agg [.ah (.val (.int .i64 e)),.ah (.val (.int .i64 n)),.ah (.val (.int .i64 x)),.aK])) (An.cv ⟨e,n,x,[]⟩):=
 .rv (.agg rfl λi c c' h1 h2=>by
  match i,h1,h2 with
  |0,h1,h2=>cases h1;cases h2;exact .bg (.ah _)
  |1,h1,h2=>cases h1;cases h2;exact .bg (.ah _)
  |2,h1,h2=>cases h1;cases h2;exact .bg (.ah _)
  |3,h1,h2=>cases h1;cases h2;exact .fE (.aK 1)
  |n+4,h1,h2=>simp at h1)
theorem cZ{k:Kr}{p:Nat}{c:Cl}{X:Mem}{e n x:Int}:TC k p c ⟨e,n,x,[]⟩ (.rv (.agg [.ah (.val (.int .i64 e)),.ah (.val (.int .i64 n)),.ah (.val (.int .i64 x)),.aK])) (xB k p::cB c::X):=
 ⟨_,_,View.of (X.length+2) [0,1] [] rfl rfl rfl rfl rfl (by simp[eI,Nat.blt]) (.put NW .nil) (.pt rfl rfl (.eq rfl (nf _ _)) (.pt rfl rfl (.eq rfl (jk _)) (.nil _))),rfl,rfl⟩
theorem NX{l:List Obj}{n:Nat}(h:n<l.length):dQ (n:Int) (lenOf (aa (l.map Obj.enc)).length 0 none)=some n:=ct (by show n<(aa (l.map Obj.enc)).length;rw[bh,Nr];exact h)
theorem Ga(k1:Kr)(p:Nat)(c:Cl)(O:Kr)(j:Nat)(hj:j<O.l.length)(fd:Int)(kf:Kr)(hk:kf=if lN c.bv 2≠0 then⟨lj O.l j,O.ops,O.ps⟩else O):
  aw prog 2 abb (QC c55.lP kf p c ⟨0,fd,0,[]⟩)
   ⟨kz 117 [(0,.rv (.one (.ptr 0 0))),(1,.rv (.one (.ptr 1 0))),(8,.rv (.one (.ptr 2 0))),(11,an .i64 (j:Nat)),(12,.rv (.one (.ptr 3 0))),(13,an .i64 fd)],
    [xB k1 p,cB c,iT,.var [.row 4 9 0 none,.ah (eX O.ops),.ah (gl O.ps)],.row 9 (aa (O.l.map Obj.enc))]⟩:=by
 refine bt (λh2=>?_) (λh2=>?_)
 .have h2:lN c.bv 2≠0:=h2;rw[if_pos h2]at hk;subst hk;refine af (NX hj) ?_;have ho:=bJ Obj.enc O.l hj;have ht:lj O.l (j:Nat)=O.l.set j {O.l[j]with data:=[]}:=by rw[lj,aae,vl hj]
  rw[ht];generalize O.l[j]=x at ho;obtain⟨ag,data,ak,target,bq,aq,bb,am,up⟩:=x;refine af ho ?_;refine⟨_,_,View.o 5 [0,1] [4] (.put NW .nil) (.pt rfl rfl (Ue (k:=⟨O.l.set j ⟨ag,[],ak,target,bq,aq,bb,am,up⟩,O.ops,O.ps⟩) (QF (.cons (.ah _) (.cons (.aK 1) (.cons (.ah _) (.cons (.ah _) (.cons (.ah _) (.cons (.ah _) (.cons (.ah _) (.cons (.ah _) (.cons (.ah _) .nil))))))))) rfl rfl) (.ah _) (.ah _)) (.pt rfl rfl (.eq rfl (jk _)) (.nil _))),rfl,rfl⟩
 .have h2:¬lN c.bv 2≠0:=λh=>h h2
  rw[if_neg h2]at hk;subst hk;exact⟨_,_,View.o 5 [0,1] [4] (.put NW .nil) (.pt rfl rfl (Ue (iy rfl rfl) (.ah _) (.ah _)) (.pt rfl rfl (.eq rfl (jk _)) (.nil _))),rfl,rfl⟩
theorem J3{k:Kr}{n:Nat}{bo cj:Int}(h:(aL k n bo cj).2.2=0):(aL k n bo cj).1.l=k.l:=by
 unfold aL at h|-;split at h
 .simp at h
 .rename_i h1;rw[if_neg h1];split at h
  .rename_i h2;exact absurd h h2
  .rename_i h2;rw[if_neg h2]
theorem xD(k1:Kr)(p:Nat)(c:Cl)(e:Int)(he:e≠0):
  aw prog 2 G96 (QC c55.lP k1 p c (An.no e)) ⟨kz 117 [(0,.rv (.one (.ptr 0 0))),(1,.rv (.one (.ptr 1 0))),(8,.rv (.one (.ptr 2 0))),(10,an .i64 e)],[xB k1 p,cB c,iT]⟩:=by
 refine bt (λh2=>?_) (λh2=>absurd h2 he)
 exact cZ (X:=[_])
theorem xE(k1:Kr)(p:Nat)(c:Cl)(O:Kr)(j:Nat)(hj:j<O.l.length)(fd:Int)(kf:Kr)(hk:kf=if lN c.bv 2≠0 then⟨lj O.l j,O.ops,O.ps⟩else O):
  aw prog 2 G96 (QC c55.lP kf p c ⟨0,fd,0,[]⟩)
   ⟨kz 117 [(0,.rv (.one (.ptr 0 0))),(1,.rv (.one (.ptr 1 0))),(8,.rv (.one (.ptr 2 0))),(10,an .i64 0),(11,an .i64 (j:Nat)),(12,.rv (.one (.ptr 3 0))),(13,an .i64 fd)],
    [xB k1 p,cB c,iT,.var [.row 4 9 0 none,.ah (eX O.ops),.ah (gl O.ps)],.row 9 (aa (O.l.map Obj.enc))]⟩:=by
 refine⟨_,View.o1 5 [0,1,2,3,4] [] ?_,Ga k1 p c O j hj fd kf hk⟩
 .exact .au
theorem J4(p:Nat)(c:Cl)(x:Kr×Int×Int)(hx:x.2.2=0->dI x.1.l x.1.ops x.1.ps/\p<x.1.ps.length/\∃j:Nat,x.2.1=j/\j<x.1.l.length):
  aw prog 2 G74 (QC c55.lP (jz p c x).1 p c (jz p c x).2)
   ⟨kz 117 [(0,.rv (.one (.ptr 0 0))),(1,.rv (.one (.ptr 1 0))),(8,.rv (.one (.ptr 2 0))),(10,an .i64 x.2.2),(11,an .i64 x.2.1)],[xB x.1 p,cB c,iT]⟩:=by
 obtain⟨k1,bo,e⟩:=x;refine bt (λh2=>?_) (λh2=>?_)
 .have h2:e≠0:=h2;have e1:jz p c (k1,bo,e)=(k1,An.no e):=by rw[jz,if_pos h2]
  rw[e1];exact cZ (X:=[_])
 have h2:e=0:=h2;subst h2;obtain⟨hk,hp,j,hj,nu⟩:=hx rfl;have hj:bo=(j:Nat):=hj;subst hj;have hS:jz p c (k1,(j:Int),0)=if(aL k1 p j c.a8).2.2≠0 then(k1,An.no (aL k1 p j c.a8).2.2)
  else(if lN c.bv 2≠0 then⟨lj (aL k1 p j c.a8).1.l j,(aL k1 p j c.a8).1.ops,(aL k1 p j c.a8).1.ps⟩else(aL k1 p j c.a8).1,⟨0,(aL k1 p j c.a8).2.1,0,[]⟩):=by
  rw[jz,if_neg aC]
 rw[hS];have AJ:= @J3 k1 p (j:Int) c.a8;refine⟨?_,?_⟩
 .refine xA k1 hk p hp (j:Int) c.a8 (λhe=>?_) (λhe=>?_)
  .rw[if_pos he];refine⟨trivial,⟨rfl,rfl,rfl,trivial⟩,trivial,_,View.o1 4 [0,1,2] [] ?_,xD k1 p c _ he⟩
   .exact .au
  .rw[if_neg (by simp[he])]
   have hl:=AJ he;refine⟨trivial,⟨rfl,rfl,rfl,trivial⟩,trivial,_,View.o1 5 [0,1,2,4,3] [] ?_,xE k1 p c (aL k1 p j c.a8).1 j (by rw[hl];exact nu) _ _ rfl⟩
   .exact .au
 .refine⟨⟨rfl,rfl,rfl,trivial⟩,?_⟩;refine xA k1 hk p hp (j:Int) c.a8 (λhe=>?_) (λhe=>?_)
  .rw[if_pos he];refine⟨trivial,trivial,_,View.o1 4 [0,1,2] [] ?_,xD k1 p c _ he⟩
   .exact .au
  .rw[if_neg (by simp[he])]
   have hl:=AJ he;refine⟨trivial,trivial,_,View.o1 5 [0,1,2,3,4] [] ?_,xE k1 p c (aL k1 p j c.a8).1 j (by rw[hl];exact nu) _ _ rfl⟩
   .exact .au
theorem Bz(a b:CV)(k:Int)(t:ByteArray):k6 [a,b,.rv (.agg [.ah (.val (.int .i64 k)),.aK,.aK,.ah (.val (.string t)),.ah (.val (.int .i64 0)),.aK,.ah (.val (.int .i64 0)),.ah (.val (.int .i64 0)),.ah (.val (.int .i64 0))])] [a,b,Obj.cv ⟨k,[],[],t,0,[],0,0,0⟩]:=
 .dB _ (.dB _ (.agg (.cons (.dB _) (.cons (.aK 1) (.cons (.aK 2) (.cons (.dB _) (.cons (.dB _) (.cons (.aK 4) (.cons (.dB _) (.cons (.dB _) (.cons (.dB _) .nil))))))))) .nil))
structure Gb(k:Kr)(p:Nat)(c:Cl)(f:R4):Prop where
 fi:f.fC=0->f.bo<(k.l.length:Int)
 x:(cq k c f).2.2=0->dI (cq k c f).1.l (cq k c f).1.ops (cq k c f).1.ps/\p<(cq k c f).1.ps.length/\∃j:Nat,(cq k c f).2.1=j/\j<(cq k c f).1.l.length
theorem J5(k:Kr)(p:Nat)(hw:KW k p)(c:Cl)(f:R4)(hf:Gb k p c f):
  aw prog 2 G29 (QC c55.lP (jz p c (cq k c f)).1 p c (jz p c (cq k c f)).2)
   ⟨kz 117 [(0,.rv (.one (.ptr 0 0))),(1,.rv (.one (.ptr 1 0))),(8,.rv (.one (.ptr 2 0))),(9,.rv (.one (.ptr 3 0))),(10,an .i64 f.fC)],[xB k p,cB c,iT,.var ((U5 f).map .ah)]⟩:=by
 have Ld:=J4 p c (cq k c f) hf.x;have PD:=hf.fi;clear hf;obtain⟨bo,cK,name,fC⟩:=f;refine bt (λhe=>?_) (λhe=>?_)
 .have he:fC≠0:=he;have e1:cq k c ⟨bo,cK,name,fC⟩=(k,bo,fC):=by rw[cq,if_pos he]
  rw[e1]at Ld|-;refine⟨_,View.o1 4 [0,1,2] [] ?_,Ld⟩
  .exact .au
 have he:fC=0:=he;subst he;have PD:bo<(k.l.length:Int):=PD rfl;refine aN (λh1=>?_) (λh1=>?_)
 .have h1:bo<0:=h1;refine bs (λh2=>?_) (λh2=>?_)
  .have h2:lN c.bv 1=0:=h2;have e1:cq k c ⟨bo,cK,name,0⟩=(k,bo,6):=by rw[cq,if_neg aC,if_pos h1,if_pos h2]
   rw[e1]at Ld|-;refine⟨_,View.o1 4 [0,1,2] [] ?_,Ld⟩
   .exact .au
  .have h2:¬lN c.bv 1=0:=h2;have e1:cq k c ⟨bo,cK,name,0⟩=cw k ⟨bo,cK,name,0⟩ o9:=by rw[cq,if_neg aC,if_pos h1,if_neg h2]
   rw[e1]at Ld|-;refine cE (decide_eq_true h1) ?_;refine mW (Bz _ _ _ _) (t8 k p hw ⟨bo,cK,name,0⟩ o9 zL 0 rfl ?_);refine⟨_,View.o1 4 [0,1,2] [] ?_,Ld⟩
   .exact .au
 .have h1:¬bo<0:=h1;obtain⟨j,rfl⟩:∃j:Nat,bo=j:=⟨bo.toNat,om⟩;have hj:j<k.l.length:=om;have Ph:F9 k.l (j:Int)=k.l[j].ag:=by rw[F9,aae,vl hj]
  refine bt (λh2=>?_) (λh2=>?_)
  .have h2:lN c.bv 2≠0:=h2;refine af (iR hj) ?_;refine bs (λh3=>?_) (λh3=>?_)
   .have h3:k.l[j].ag=2:=h3;have e1:cq k c ⟨(j:Nat),cK,name,0⟩=(k,(j:Int),12):=by rw[cq,if_neg aC,if_neg h1,if_pos ⟨h2,by rw[<-h3,<-Ph]⟩]
    rw[e1]at Ld|-;refine⟨_,View.o1 4 [0,1,2] [] ?_,Ld⟩
    .exact .au
   .have h3:¬k.l[j].ag=2:=h3;have e1:cq k c ⟨(j:Nat),cK,name,0⟩=(k,(j:Int),0):=by rw[cq,if_neg aC,if_neg h1,if_neg (by rw[Ph];exact λh=>h3 h.2)]
    rw[e1]at Ld|-;refine⟨_,View.o1 4 [0,1,2] [] ?_,Ld⟩
    .exact .au
  .have h2:¬lN c.bv 2≠0:=λh=>h h2
   have e1:cq k c ⟨(j:Nat),cK,name,0⟩=(k,(j:Int),0):=by rw[cq,if_neg aC,if_neg h1,if_neg (λh=>h2 h.1)]
   rw[e1]at Ld|-;refine⟨_,View.o1 4 [0,1,2] [] ?_,Ld⟩
   .exact .au
theorem Gc(k:Kr)(p:Nat)(hw:KW k p)(c:Cl)(ar:Int)(ay:Bool)(hf:Gb k p c (iS k ar c.cJ ay true)):
  body prog c55 [.rv (.one (.ptr 0 0)),.rv (.one (.ptr 1 0)),an .i64 ar,aE ay] [xB k p,cB c] (TC (gi k p c ar ay).1 p c (gi k p c ar ay).2):=by
 have hs:=J5 k p hw c _ hf;show body prog c55 _ _ (TC (jz p c (cq k c (iS k ar c.cJ ay true))).1 p c (jz p c (cq k c (iS k ar c.cJ ay true))).2);refine⟨?_,?_⟩
 .refine sF k p hw ar c.cJ ay true ?_;refine⟨trivial,⟨rfl,rfl,trivial⟩,trivial,_,View.o1 4 [0,1,2,3] [] ?_,hs⟩
  .exact .au
 .refine⟨⟨rfl,rfl,trivial⟩,?_⟩;refine sF k p hw ar c.cJ ay true ?_;refine⟨trivial,trivial,_,View.o1 4 [0,1,2,3] [] ?_,hs⟩
  .exact .au
theorem DF(k:Kr)(p:Nat)(hw:KW k p)(c:Cl)(ar:Int)(ay:Bool)(hf:Gb k p c (iS k ar c.cJ ay true)){m:Mem}(i j:Nat)(pN:fy [i,j]=true)(aD:eI m.length [i,j]=true)(hi:cD m i=some (xB k p))(hj:cD m j=some (cB c)){K:CV->Mem->Prop}(hK:K (gi k p c ar ay).2.cv (cW m [i,j] [xB (gi k p c ar ay).1 p,cB c])):
  ap prog 55 [.rv (.one (.ptr i 0)),.rv (.one (.ptr j 0)),an .i64 ar,aE ay] m K:=
 Sr (args:=[an .i64 ar,aE ay]) (λ_=>rfl) (λ_=>rfl)
  (bH (b8 func55 l55 (Gc k p hw c ar ay hf)) λr m1⟨r',m',hv,hq⟩=>⟨r',m',hv,hq⟩) i j pN aD hi hj hK
end Kn
def c32:LF:= ⟨78,[.cell true 4 4],(.seq (.ai [qu 4 (.alloc [qd 0,qd 0,qd 0,.aK])]) (.seq (.seq (.ai [qm 9 1,qu 10 (.aO 9),qf 11 6 10,ql 12 11,qu 13 (qc 54 [12]),qu 14 (.un .not 13),qm 15 14,qg 16 (.aI 1) 15 false,qg 17 (.aO 16) 15 false,qg 18 (.bU 5 17) 15 false,qg 19 (.load false 1 18) 15 false,qg 20 (.aJ .lss 19 (qi 0)) 15 false,qu 21 (.pick 15 (qb true) 20),qm 22 21,qg 23 (.aI 1) 22 false,qg 24 (.aO 23) 22 false,qg 25 (.bU 5 24) 22 false,qg 26 (.load false 1 25) 22 false,qg 27 (.aJ .gtr 26 (qi 3)) 22 false,qu 28 (.pick 22 (qb true) 27)]) (.cond 28 (.seq (.ai [qu 29 (.build [qd 0,qd 0,qd 0,.aK] [(0,1,qi 3)]),qw (.store 4 4 29)]) .ret) .skip)) (.seq (.seq (.ai [qm 30 1,qu 31 (.aO 30),qf 32 1 31,ql 33 32,qu 34 (.aJ .eql 33 (qi 2))]) (.cond 34 (.seq (.ai [qm 35 0,qm 36 1,qu 37 (qc 55 [35,36,qi 0,qb false]),qw (.store 4 4 37)]) .ret) .skip)) (.seq (.ai [qm 38 1,qu 39 (.aO 38),qf 40 6 39,ql 41 40,qu 42 (.aJ .or (qi 8) 41),qm 5 42]) (.seq (.seq (.ai [qm 43 1,qu 44 (.aO 43),qf 45 5 44,ql 46 45,qu 47 (.aJ .and 46 (qi 1)),qu 48 (.aJ .neq 47 (qi 0))]) (.cond 48 (.ai [qm 49 5,qu 50 (.aJ .or 49 (qi 16)),qm 5 50]) .skip)) (.seq (.seq (.ai [qm 51 1,qu 52 (.aO 51),qf 53 5 52,ql 54 53,qu 55 (.aJ .and 54 (qi 2)),qu 56 (.aJ .neq 55 (qi 0))]) (.cond 56 (.ai [qm 57 5,qu 58 (.aJ .or 57 (qi 2)),qm 5 58]) .skip)) (.cU (.seq (.ai [qm 60 0,qm 61 1,qu 62 (.aO 61),qf 63 2 62,ql 64 63,qm 65 5,qu 66 (qc 56 [60,64,65]),qm 59 66,qu 67 (.ext 59 0),qu 68 (.ext 59 1),qu 69 (.ext 59 2),qu 6 (.alloc [qd 0,qd 0]),qw (.store 2 6 67),qm 7 68,qm 8 69]) (.seq (.seq (.ai [qm 70 8,qu 71 (.aJ .neq 70 (qi 0))]) (.cond 71 (.seq (.ai [qm 72 8,qu 73 (.build [qd 0,qd 0,qd 0,.aK] [(0,1,72)]),qw (.store 4 4 73)]) .ret) .skip)) (.seq (.ai [qm 74 0,qm 75 1,qm 76 7,qu 77 (qc 55 [74,75,76,qb true]),qw (.store 4 4 77)]) .ret))))))))))⟩
namespace Kn
def l9(c:Cl):Int:=if lN c.bv 2≠0 then Uc (if lN c.bv 1≠0 then Uc (Uc 8 c.a8) 16 else Uc 8 c.a8) 2 else(if lN c.bv 1≠0 then Uc (Uc 8 c.a8) 16 else Uc 8 c.a8)
def gw(k:Kr)(p:Nat)(c:Cl):Kr×An:=
 if Tb.fa c.a8=false\/c.bv<0\/c.bv>3 then(k,An.no 3)
 else if c.ag=2 then gi k p c 0 false
 else if(bp k p c.fd (l9 c)).2.2≠0 then(k,An.no (bp k p c.fd (l9 c)).2.2)
 else gi k p c (bp k p c.fd (l9 c)).2.1 true
theorem Gd{k:Kr}{p:Nat}{c:Cl}{X:Mem}{a:An}:TC k p c a a.cv (xB k p::cB c::X):=
 ⟨_,_,View.of (X.length+2) [0,1] [] rfl rfl rfl rfl rfl (by simp[eI,Nat.blt]) (.eq rfl .nil) (.pt rfl rfl (.eq rfl (nf _ _)) (.pt rfl rfl (.eq rfl (jk _)) (.nil _))),rfl,rfl⟩
theorem l32:bw prog f32=some c32.er:=by kernel_rfl
def abc:LC:=bL (bL (bL (bL (bL (bL c32.code)))))
def Xw:LC:=qM abc
theorem NY(k:Kr)(p:Nat)(hw:KW k p)(c:Cl)(need:Int)(hf:∀ar,Gb k p c (iS k ar c.cJ true true))(R:Kr×An)(hR:R=if(bp k p c.fd need).2.2≠0 then(k,An.no (bp k p c.fd need).2.2)else gi k p c (bp k p c.fd need).2.1 true):
  aw prog 2 Xw (QC c32.lP R.1 p c R.2) ⟨kz 78 [(0,.rv (.one (.ptr 0 0))),(1,.rv (.one (.ptr 1 0))),(4,.rv (.one (.ptr 2 0))),(5,an .i64 need)],[xB k p,cB c,iT]⟩:=by
 refine kI k p hw c.fd need 0 rfl ?_;generalize bp k p c.fd need=w at hR|-;obtain⟨⟨o,r⟩,b,e⟩:=w;refine bt (λhe=>?_) (λhe=>?_)
 .have he:e≠0:=he;rw[if_pos he]at hR;subst hR;exact cZ (X:=[_,_])
 .have he:e=0:=he;subst he;rw[if_neg aC]at hR;subst hR;refine DF k p hw c b true (hf b) 0 1 rfl rfl rfl rfl ?_;exact Gd (X:=[_,_])
theorem J6(k:Kr)(p:Nat)(hw:KW k p)(c:Cl)(hf:∀ar ay,Gb k p c (iS k ar c.cJ ay true)):
  body prog c32 [.rv (.one (.ptr 0 0)),.rv (.one (.ptr 1 0))] [xB k p,cB c] (TC (gw k p c).1 p c (gw k p c).2):=by
 have hv:∀need R,R=(if(bp k p c.fd need).2.2≠0 then(k,An.no (bp k p c.fd need).2.2)else gi k p c (bp k p c.fd need).2.1 true)->
  aw prog 2 Xw (QC c32.lP R.1 p c R.2) ⟨kz 78 [(0,.rv (.one (.ptr 0 0))),(1,.rv (.one (.ptr 1 0))),(4,.rv (.one (.ptr 2 0))),(5,an .i64 need)],[xB k p,cB c,iT]⟩:=λneed R hR=>NY k p hw c need (λb=>hf b true) R hR
 refine Tb.w9 c.a8 ?_;cases hr:Tb.fa c.a8 with
 |false=>
  have e1:gw k p c=(k,An.no 3):=by rw[gw,if_pos (.inl hr)]
  rw[e1];exact cZ (X:=[_])
 |true=>
  refine aN (λh1=>?_) (λh1=>?_)
  .have h1:c.bv<0:=h1;have e1:gw k p c=(k,An.no 3):=by rw[gw,if_pos (.inr (.inl h1))]
   rw[e1];exact cZ (X:=[_])
  have h1:¬c.bv<0:=h1;refine aN (λh2=>?_) (λh2=>?_)
  .have h2:c.bv>3:=h2;have e1:gw k p c=(k,An.no 3):=by rw[gw,if_pos (.inr (.inr h2))]
   rw[e1];exact cZ (X:=[_])
  have h2:¬c.bv>3:=h2;have e0:gw k p c=if c.ag=2 then gi k p c 0 false
   else if(bp k p c.fd (l9 c)).2.2≠0 then(k,An.no (bp k p c.fd (l9 c)).2.2)
   else gi k p c (bp k p c.fd (l9 c)).2.1 true:=by rw[gw,if_neg (by simp[hr,h1,h2])]
  rw[e0];refine bs (λh3=>?_) (λh3=>?_)
  .have h3:c.ag=2:=h3;rw[if_pos h3];refine DF k p hw c 0 false (hf 0 false) 0 1 rfl rfl rfl rfl ?_;exact Gd (X:=[_])
  have h3:¬c.ag=2:=h3;rw[if_neg h3];refine bt (λh4=>?_) (λh4=>?_)
  .have h4:lN c.bv 1≠0:=h4;refine bt (λh5=>?_) (λh5=>?_)
   .have h5:lN c.bv 2≠0:=h5;refine⟨_,View.o 3 [0,1,2] [] ?_ ?_,hv (l9 c) _ rfl⟩
    .rw[l9,if_pos h4,if_pos h5];repeat(first|exact .nil|refine .aF ?_|refine .eq rfl ?_)
    .exact .au
   .have h5:¬lN c.bv 2≠0:=λh=>h h5
    refine⟨_,View.o 3 [0,1,2] [] ?_ ?_,hv (l9 c) _ rfl⟩
    .rw[l9,if_pos h4,if_neg h5];repeat(first|exact .nil|refine .aF ?_|refine .eq rfl ?_)
    .exact .au
  .have h4:¬lN c.bv 1≠0:=λh=>h h4
   refine bt (λh5=>?_) (λh5=>?_)
   .have h5:lN c.bv 2≠0:=h5;refine⟨_,View.o 3 [0,1,2] [] ?_ ?_,hv (l9 c) _ rfl⟩
    .rw[l9,if_neg h4,if_pos h5];repeat(first|exact .nil|refine .aF ?_|refine .eq rfl ?_)
    .exact .au
   .have h5:¬lN c.bv 2≠0:=λh=>h h5
    refine⟨_,View.o 3 [0,1,2] [] ?_ ?_,hv (l9 c) _ rfl⟩
    .rw[l9,if_neg h4,if_neg h5];repeat(first|exact .nil|refine .aF ?_|refine .eq rfl ?_)
    .exact .au
theorem dO{f:Nat}{k k':Kr}{p:Nat}{c:Cl}{a:An}(hc:ap prog f [.rv (.one (.ptr 0 0)),.rv (.one (.ptr 1 0))] [xB k p,cB c] (TC k' p c a)){m:Mem}(i j:Nat)(pN:fy [i,j]=true)(aD:eI m.length [i,j]=true)(hi:cD m i=some (xB k p))(hj:cD m j=some (cB c)){K:CV->Mem->Prop}(hK:K a.cv (cW m [i,j] [xB k' p,cB c])):ap prog f [.rv (.one (.ptr i 0)),.rv (.one (.ptr j 0))] m K:=
 Sr (args:=[]) (λ_=>rfl) (λ_=>rfl) (bH hc λr m1⟨r',m',hv,hq⟩=>⟨r',m',hv,hq⟩) i j pN aD hi hj hK
theorem zM(k:Kr)(p:Nat)(hw:KW k p)(c:Cl)(hf:∀ar ay,Gb k p c (iS k ar c.cJ ay true)):ap prog 32 [.rv (.one (.ptr 0 0)),.rv (.one (.ptr 1 0))] [xB k p,cB c] (TC (gw k p c).1 p c (gw k p c).2):=
 b8 func32 l32 (J6 k p hw c hf)
end Kn
def c33:LF:= ⟨172,[.cell true 4 4],(.seq (.ai [qu 4 (.alloc [qd 0,qd 0,qd 0,.aK])]) (.seq (.ai [qu 15 (.ut),qw (.vI (.i .i64) 15 (qi 4) (qi 1)),qw (.vI (.i .i64) 15 (qi 5) (qi 2)),qw (.vI (.i .i64) 15 (qi 6) (qi 4)),qm 16 15,qm 17 1,qu 18 (.aO 17),qf 19 1 18,ql 20 19,qu 21 (.Ah (.one (qd 0)) (.i .i64) 16 20 false),qm 5 21]) (.cU (.seq (.ai [qm 23 0,qm 24 1,qu 25 (.aO 24),qf 26 2 25,ql 27 26,qm 28 5,qu 29 (qc 56 [23,27,28]),qm 22 29,qu 30 (.ext 22 0),qu 31 (.ext 22 1),qu 32 (.ext 22 2),qu 6 (.alloc [qd 0,qd 0]),qw (.store 2 6 30),qm 7 31,qm 8 32]) (.seq (.seq (.ai [qm 33 8,qu 34 (.aJ .neq 33 (qi 0))]) (.cond 34 (.seq (.ai [qm 35 8,qu 36 (.build [qd 0,qd 0,qd 0,.aK] [(0,1,35)]),qw (.store 4 4 36)]) .ret) .skip)) (.seq (.bR [qm 37 0,qu 38 (.aO 37),qf 39 0 38,qf 40 1 39,ql 41 40,qf 42 0 6,ql 43 42,qu 44 (.cr 2 41 43),qf 45 1 44,ql 46 45,qm 9 46] [eh 11 0 .nil]) (.seq (.ai [qu 47 (.build [qd 0,qd 0,qd 0,.aK] []),qu 10 (.alloc [qd 0,qd 0,qd 0,.aK]),qw (.store 4 10 47)]) (.seq (.seq (.ai [qm 48 1,qu 49 (.aO 48),qf 50 1 49,ql 51 50]) (.block 0 (.seq (.ai [qu 70 (.aJ .eql 51 (qi 4)),qm 69 70]) (.cond 69 (.seq (.bR [qm 72 0,qu 73 (.aO 72),qf 74 0 73,qf 75 0 74,ql 76 75,qm 77 7,qu 78 (.cr 9 76 77),qL 79 9 78,qm 80 9,qm 81 1,qu 82 (.aO 81),qf 83 4 82,ql 84 83,qu 85 (qc 57 [79,80,84]),qm 71 85,qu 86 (.ext 71 0),qu 87 (.ext 71 1),qm 11 86,qm 12 87] [(eh 13 0 (.cons 13 (some []) (eh 5 14 .nil)))]) (.seq (.seq (.ai [qm 88 12,qu 89 (.aJ .neq 88 (qi 0))]) (.cond 89 (.seq (.ai [qm 90 12,qu 91 (.build [qd 0,qd 0,qd 0,.aK] [(0,1,90)]),qw (.store 4 4 91)]) .ret) .skip)) (.seq (.ai [qm 92 9,qm 93 11,qu 94 (.len 1 93),qu 95 (.aJ .add 92 94),qm 9 95]) (.ai [qm 96 11,qu 97 (.len 1 96),qm 98 11,qf 99 1 10,qw (.store 1 99 97),qf 100 3 10,qw (.store 1 100 98)])))) (.seq (.ai [qu 102 (.aJ .eql 51 (qi 5)),qm 101 102]) (.cond 101 (.seq (.bR [qm 104 0,qu 105 (.aO 104),qf 106 0 105,qf 107 0 106,ql 108 107,qm 109 7,qu 110 (.cr 9 108 109),qL 111 9 110,qm 112 9,qm 113 1,qu 114 (.aO 113),qf 115 8 114,ql 116 115,qu 117 (qc 58 [111,112,116]),qm 103 117,qu 118 (.ext 103 0),qu 119 (.ext 103 1),qu 13 (.alloc [qd 0,.aK,.aK,(.ah (.val (.string ⟨#[]⟩))),qd 0,.aK,qd 0,qd 0,qd 0]),qw (.store 9 13 118),qm 14 119] [(eh 13 0 (.vJ (.cons 13 (some []) (eh 3 14 (.cons 17 (some [12,7,6,4]) (.cons 18 (some []) (.cons 19 none .nil))))) (.cons 17 (some [12,7,6,4]) (.cons 13 (some []) (eh 3 14 (.cons 18 (some []) (.cons 19 none .nil)))))))]) (.cU (.seq (.seq (.ai [qm 120 14,qu 121 (.aJ .neq 120 (qi 0))]) (.cond 121 (.seq (.ai [qm 122 14,qu 123 (.build [qd 0,qd 0,qd 0,.aK] [(0,1,122)]),qw (.store 4 4 123)]) .ret) .skip)) (.seq (.ai [qm 124 0,qm 125 0,qu 126 (.aO 125),qf 127 0 126,qL 128 3 127,qu 129 (qc 59 [128]),qu 130 (.aO 124),qf 131 0 130,qw (.store 3 131 129)]) (.seq (.bR [qm 132 0,qu 133 (.aO 132),qf 134 0 133,qf 135 0 134,ql 136 135,qm 137 7,qL 138 9 13,qu 139 (.cr 9 136 137),qw (.store 9 139 138)] [(eh 8 0 (.cons 8 (some []) .nil))]) (.seq (.ai [qm 140 9,qm 141 1,qu 142 (.aO 141),qf 143 8 142,ql 144 143,qu 145 (.len 1 144),qu 146 (.aJ .add 140 145),qm 9 146]) (.ai [qm 147 1,qu 148 (.aO 147),qf 149 8 148,ql 150 149,qu 151 (.len 1 150),qf 152 1 10,qw (.store 1 152 151)]))))))) (.seq (.seq (.ai [qm 52 1,qu 53 (.aO 52),qf 54 4 53,ql 55 54,qu 56 (.aJ .lss 55 (qi 0)),qm 57 56,qg 58 (.aI 1) 57 false,qg 59 (.aO 58) 57 false,qg 60 (.bU 4 59) 57 false,qg 61 (.load false 1 60) 57 false,qg 62 (.aJ .gtr 61 (qi 60)) 57 false,qu 63 (.pick 57 (qb true) 62)]) (.cond 63 (.seq (.ai [qu 64 (.build [qd 0,qd 0,qd 0,.aK] [(0,1,qi 3)]),qw (.store 4 4 64)]) .ret) .skip)) (.ai [qm 65 1,qu 66 (.aO 65),qf 67 4 66,ql 68 67,qm 9 68])))))))) (.cU (.seq (.ai [qm 153 0,qm 154 0,qu 155 (.aO 154),qf 156 0 155,qL 157 3 156,qu 158 (qc 59 [157]),qu 159 (.aO 153),qf 160 0 159,qw (.store 3 160 158)]) (.seq (.bR [qm 161 0,qu 162 (.aO 161),qf 163 0 162,qf 164 1 163,ql 165 164,qf 166 0 6,ql 167 166,qm 168 9,qu 169 (.cr 2 165 167),qf 170 1 169,qw (.store 1 170 168)] [(eh 10 0 (.cons 10 (some []) .nil))]) (.seq (.ai [qL 171 4 10,qw (.store 4 4 171)]) .ret))))))))))))⟩
namespace Kn
def lm(l:List Obj)(z:Int):Obj:=(l[z.toNat]?).getD gV
def sG(k:Kr)(z a:Int):Kr:=⟨k.l,(match k.ops[z.toNat]? with|some o=>k.ops.set z.toNat {o with di:=a}|none=>k.ops),k.ps⟩
def setObj(k:Kr)(z:Int)(o:Obj):Kr:=⟨k.l.set z.toNat o,k.ops,k.ps⟩
def BA(a b:Int):Int:=IntKind.i64.wrap (a+b)
def oc(ag:Int):Int:=if ag=4 then 1 else if ag=5 then 2 else 4
def ua(k:Kr)(n:Int)(di:Int)(r:List (List Dt)×Int):Kr×An:=
 if r.2≠0 then(k,An.no r.2)else(sG k n (BA di r.1.length),⟨0,r.1.length,0,r.1⟩)
def pa(k:Kr)(n:Int)(bo:Int)(di:Int)(len:Nat)(r:Obj×Int):Kr×An:=
 if r.2≠0 then(k,An.no r.2)else(sG (setObj k bo r.1) n (BA di len),⟨0,len,0,[]⟩)
def qX(k:Kr)(n:Int)(di:Int):Kr×An:=
 if di<0\/di>60 then(k,An.no 3)else(sG k n di,⟨0,0,0,[]⟩)
def mA(k:Kr)(c:Cl)(w:(Int×Int)×Int×Int):Kr×An:=
 if w.2.2≠0 then(k,An.no w.2.2)
 else if c.ag=4 then ua k w.1.1 (o8 k.ops w.1.1) (jO (lm k.l w.2.1).ag (lm k.l w.2.1).data (o8 k.ops w.1.1) c.n)
 else if c.ag=5 then pa k w.1.1 w.2.1 (o8 k.ops w.1.1) c.data.length (fb (lm k.l w.2.1) (o8 k.ops w.1.1) (jg c.data))
 else qX k w.1.1 c.n
def ik(k:Kr)(p:Nat)(c:Cl):Kr×An:=mA k c (bp k p c.fd (oc c.ag))
theorem ub{l:List Obj}{n:Nat}(h:n<l.length):lm l (n:Int)=l[n]:=by rw[lm,aae,vl h];rfl
def Va(d:List Int)(A:Nat)(b:List Int):List Int:=if b.length=0 then d else cT (d++List.replicate (A+b.length-d.length) 0) A b
theorem Ge(d b:List Int)(A:Nat):qa (jg d) A (jg b)=jg (Va d A b):=by
 have hl:∀x:List Int,(jg x).length=x.length:=λx=>by simp[jg]
 have hz:∀n,List.replicate n zb=jg (List.replicate n 0):=λn=>by simp[jg,zb]
 unfold qa Va;rw[hl];split
 .rfl
 .unfold TT cT;rw[hl,hz,hl];simp only[jg,aby,acx,adp]
theorem H3(d b:List Int)(A:Nat)(hb:b.length<=60)(hA:A+b.length<=60):(Va d A b).length<=60\/(Va d A b).length<=d.length:=by
 unfold Va;split
 .exact .inr (T5 _)
 .unfold cT;simp only[aaL,aav,abB,List.length_replicate];omega
theorem sH{o:Obj}(ho:o.sm){di:Int}{b:List Int}(h:(fb o di (jg b)).2=0):(fb o di (jg b)).1.sm/\o.ag=1/\0<=di/\di<=60/\(b.length:Int)<=60-di/\(fb o di (jg b)).1={o with data:=qa o.data di.toNat (jg b)}:=by
 have hl:(jg b).length=b.length:=by simp[jg]
 unfold fb at h|-;split at h
 .simp at h
 .rename_i h1;split at h
  .simp at h
  .rename_i h2;split at h
   .simp at h
   .rename_i h3;split at h
    .simp at h
    .rename_i h4;rw[if_neg h1,if_neg h2,if_neg h3,if_neg h4];rw[hl]at h4;obtain⟨⟨⟨d,hd⟩,wh,ht3⟩,l4,he,hq,hqd⟩:=ho;refine⟨⟨⟨⟨Va d di.toNat b,?_⟩,wh,ht3⟩,?_,he,hq,hqd⟩,om,om,om,om,rfl⟩
     .show qa o.data di.toNat (jg b)=_;rw[hd,Ge]
     .show(qa o.data di.toNat (jg b)).length<=64;rw[hd,Ge,show ∀x:List Int,(jg x).length=x.length from λx=>by simp[jg]]
      have afE:d.length<=64:=by rw[hd]at l4;simpa[jg]using l4
      have:=H3 d b di.toNat om om;omega
theorem dI.J7{k:Kr}(h:dI k.l k.ops k.ps){z:Int}{o:Obj}(ho:o.sm):dI (setObj k z o).l (setObj k z o).ops (setObj k z o).ps:=by
 refine⟨λx hx=>?_,by simpa[setObj]using h.ll,h.lo,h.lp,h.sl,h.ne⟩
 rcases aaC hx with hx|rfl
 .exact h.sm x hx
 .exact ho
theorem l33:bw prog f33=some c33.er:=by kernel_rfl
def abd:LC:=bL (bL c33.code)
def Uf:LC:=qM abd
def Xx:LC:=bL (bL (bL (bL (bL Uf))))
def abe:LC:=qM Xx
theorem qY(k:Kr)(hk:dI k.l k.ops k.ps)(p:Nat)(c:Cl)(n:Nat)(hn:n<k.ops.length)(r di:Int)(a:An):
  aw prog 2 abe (QC c33.lP (sG k n di) p c a)
   ⟨kz 172 [(0,.rv (.one (.ptr 0 0))),(1,.rv (.one (.ptr 1 0))),(4,.rv (.one (.ptr 2 0))),(6,.rv (.one (.ptr 3 0))),(9,an .i64 di),(10,.rv (.one (.ptr 4 0)))],
    [xB k p,cB c,iT,.var [.ah (.val (.int .i64 (n:Nat))),.ah (.val (.int .i64 r))],.var (a.enc.map .ah)]⟩:=by
 refine iN k.l k.ops k.ps ⟨hk.ll,λo ho=>(hk.sm o ho).oi⟩ hk.lo hk.lp hk.sl hk.ne ?_
 refine af (A2 hn) ?_;have ho:=bJ bF.enc k.ops hn;have hs:sG k n di=⟨k.l,k.ops.set n {k.ops[n]with di:=di},k.ps⟩:=by rw[sG,aae,vl hn]
 rw[hs];generalize k.ops[n]=x at ho;obtain⟨xo,xa⟩:=x;refine af ho ?_;refine⟨trivial,_,_,View.o 8 [0,1] [5,6,7] (.eq rfl .nil) (.pt rfl rfl (Ue (k:=⟨k.l,k.ops.set n ⟨xo,di⟩,k.ps⟩) (iy rfl rfl) (iy rfl (congrArg (λx=>some (Bk.row 2 x)) ?_)) (iy rfl rfl)) (.pt rfl rfl (.eq rfl (jk _)) (.nil _))),rfl,rfl⟩
 show aW (aa (k.ops.map bF.enc)) n ((bF.enc ⟨xo,di⟩).map .ah)=_;rw[aY,aa,aa,abM,abM]
def unB:LC->LC
 | .block _ b=>b
 |x=>x
def abf:LC:=match unB (bL (WL (bL (bL (bL (bL Uf))))))with
 | .seq _ (.cond _ _ (.seq _ (.cond _ (.seq _ g) _)))=>g
 |x=>x
def abg:LC:=qM abf
def Gf(a b d:Int)(x:Int):Prop:=x=a\/x=b\/x=d
theorem Ss{Y:Nat->Nat}{m:Mem}{Z:Nat->Prop}{id:Nat}{e n x:Int}:mi Y m Z id (.var [.ah (.val (.int .i64 e)),.ah (.val (.int .i64 n)),.ah (.val (.int .i64 x)),.aK]) (.var ((An.enc ⟨e,n,x,[]⟩).map .ah)):=
 fh.var (.cons (.bg (.ah _)) (.cons (.bg (.ah _)) (.cons (.bg (.ah _)) (.cons (.fE (.aK 1)) .nil))))
theorem Gg(k:Kr)(p:Nat)(hw:KW k p)(c:Cl)(n j:Nat)(hn:n<k.ops.length)(hj:j<k.l.length)(r di:Int)(o':Obj)(e:Int)(ho:e=0->o'.sm):
  aw prog 2 abg (Ew 0 (SM (aw prog 2 Xx) (QC c33.lP (pa k n j di c.data.length (o',e)).1 p c (pa k n j di c.data.length (o',e)).2)))
   ⟨kz 172 [(0,.rv (.one (.ptr 0 0))),(1,.rv (.one (.ptr 1 0))),(4,.rv (.one (.ptr 2 0))),(6,.rv (.one (.ptr 3 0))),(7,an .i64 (j:Nat)),(9,an .i64 di),(10,.rv (.one (.ptr 4 0))),(13,.rv (.one (.ptr 5 0))),(14,an .i64 e)],
    [xB k p,cB c,iT,.var [.ah (.val (.int .i64 (n:Nat))),.ah (.val (.int .i64 r))],.var [.ah (.val (.int .i64 0)),.ah (.val (.int .i64 0)),.ah (.val (.int .i64 0)),.aK],.var (o'.enc.map .ah)]⟩:=by
 refine bt (λhe=>?_) (λhe=>?_)
 .have he:e≠0:=he;rw[pa,if_pos he];exact cZ (X:=[_,_,_,_])
 have he:e=0:=he;subst he;have ho:=ho rfl;rw[pa,if_neg aC];refine iN k.l k.ops k.ps hw.oi hw.kr.lo hw.kr.lp hw.kr.sl hw.kr.ne ?_;refine af (NX hj) ?_;refine af (bJ Obj.enc k.l hj) ?_;refine⟨trivial,?_⟩;have hx:aW (aa (k.l.map Obj.enc)) j (o'.enc.map .ah)=aa ((setObj k j o').l.map Obj.enc):=nJ Obj.enc k.l j o';refine⟨_,View.o 9 [0,1,2,3,4] [6,7,8] ?_ ?_,qY (setObj k j o') (dI.J7 hw.kr ho) p c n hn r (BA di c.data.length) ⟨0,c.data.length,0,[]⟩⟩
 .have hl:∀x:List Int,(jg x).length=x.length:=λx=>by simp[jg]
  have h9:an .i64 (IntKind.i64.wrap (di+((jg c.data).length:Nat)))=an .i64 (BA di c.data.length):=by rw[hl];rfl
  repeat(first|exact .nil|refine .aF ?_|refine .eq rfl ?_|refine .eq h9.symm ?_)
 .have h9:((jg c.data).length:Int)=(c.data.length:Int):=by simp[jg]
  refine .pt rfl rfl (Ue (k:=setObj k j o') (iy rfl (congrArg (λx=>some (Bk.row 9 x)) hx)) (iy rfl rfl) (iy rfl rfl)) (.pt rfl rfl (.eq rfl (jk _)) (.pt rfl rfl (.eq rfl (by simp[iT])) (.pe rfl rfl rfl (.pt rfl rfl ?_ (.nil _)))))
  rw[<-h9];exact Ss
theorem QG{ops:List bF}{n:Nat}(h:n<ops.length):o8 ops (n:Int)=ops[n].di:=by rw[o8,aae,vl h]
theorem J8(k:Kr)(p:Nat)(hw:KW k p)(c:Cl)(need:Int)(BX:Gf 4 5 6 c.ag)(hd:c.data.length<=4194304):
  aw prog 2 Uf (QC c33.lP (mA k c (bp k p c.fd need)).1 p c (mA k c (bp k p c.fd need)).2)
   ⟨kz 172 [(0,.rv (.one (.ptr 0 0))),(1,.rv (.one (.ptr 1 0))),(4,.rv (.one (.ptr 2 0))),(5,an .i64 need)],[xB k p,cB c,iT]⟩:=by
 refine kI k p hw c.fd need 0 rfl ?_;have hh:= @KW.held k p hw c.fd need;generalize bp k p c.fd need=w at hh|-;obtain⟨⟨o,r⟩,b,e⟩:=w;refine bt (λhe=>?_) (λhe=>?_)
 .have he:e≠0:=he;have e1:mA k c ((o,r),b,e)=(k,An.no e):=by rw[mA,if_pos he]
  rw[e1];exact cZ (X:=[_,_])
 have he:e=0:=he;subst he;obtain⟨n,j,h1,h2,h3,h4,h5⟩:=hh rfl;have h1:o=n:=h1;have h3:b=j:=h3;subst h1 h3;have kD:=(hw.kr.sm _ (aar h4)).oi;have EI:=hw.kr.sm _ (aar h4);have Pj:=ub h4;refine af (pF h2) ?_;have hS:mA k c ((((n:Nat):Int),r),((j:Nat):Int),0)=if c.ag=4 then ua k n k.ops[n].di (jO k.l[j].ag k.l[j].data k.ops[n].di c.n)
  else if c.ag=5 then pa k n j k.ops[n].di c.data.length (fb k.l[j] k.ops[n].di (jg c.data))else qX k n c.n:=by
  rw[mA,if_neg aC,Pj,QG h2]
 rw[hS];refine bs (λk4=>?_) (λk4=>?_)
 .have k4:c.ag=4:=k4;rw[if_pos k4];refine af (iR h4) ?_;refine NS k.l[j] kD.1 k.ops[n].di c.n ?_;generalize jO k.l[j].ag k.l[j].data k.ops[n].di c.n=R;obtain⟨d,e⟩:=R;refine⟨trivial,?_⟩;refine bt (λhe=>?_) (λhe=>?_)
  .have he:e≠0:=he;rw[ua,if_pos he];exact cZ (X:=[_,_,_])
  .have he:e=0:=he;subst he;rw[ua,if_neg aC];refine⟨_,View.o1 5 [0,1,2,3,4] [] ?_,qY k hw.kr p c n h2 r (BA k.ops[n].di d.length) ⟨0,d.length,0,d⟩⟩
   .exact .au
 have k4:¬c.ag=4:=k4;rw[if_neg k4];refine bs (λk5=>?_) (λk5=>?_)
 .have k5:c.ag=5:=k5;rw[if_pos k5];have hb:(jg c.data).length<=4194304:=by simpa[jg]using hd
  have BY:=λ(h:(fb k.l[j] k.ops[n].di (jg c.data)).2=0)=>(sH EI h).1
  have hg:=iR h4;have Xy:=λo' e(h:e=0->Obj.sm o')=>Gg k p hw c n j h2 h4 r k.ops[n].di o' e h
  refine af hg ?_;refine⟨?_,?_⟩
  .refine Dk k.l[j] kD k.ops[n].di (jg c.data) hb ?_;generalize fb k.l[j] k.ops[n].di (jg c.data)=R at BY|-;obtain⟨o',e⟩:=R;refine⟨trivial,⟨rfl,rfl,af hg rfl,rfl,trivial⟩,trivial,_,View.o1 6 [0,1,2,3,4,5] [] ?_,Xy o' e BY⟩
   .exact .au
  .refine⟨⟨rfl,rfl,af hg rfl,rfl,trivial⟩,?_⟩;refine Dk k.l[j] kD k.ops[n].di (jg c.data) hb ?_;generalize fb k.l[j] k.ops[n].di (jg c.data)=R at BY|-;obtain⟨o',e⟩:=R;refine⟨trivial,trivial,_,View.o1 6 [0,1,2,3,4,5] [] ?_,Xy o' e BY⟩
   .exact .au
 .have k5:¬c.ag=5:=k5;rw[if_neg k5];refine aN (λh6=>?_) (λh6=>?_)
  .have h6:c.n<0:=h6;rw[qX,if_pos (.inl h6)];exact cZ (X:=[_,_,_])
  have h6:¬c.n<0:=h6;refine aN (λh7=>?_) (λh7=>?_)
  .have h7:c.n>60:=h7;rw[qX,if_pos (.inr h7)];exact cZ (X:=[_,_,_])
  have h7:¬c.n>60:=h7;rw[qX,if_neg om];refine⟨_,View.o1 5 [0,1,2,3,4] [] ?_,qY k hw.kr p c n h2 r c.n ⟨0,0,0,[]⟩⟩
  .exact .pt rfl rfl (.eq rfl (nf _ _)) (.pt rfl rfl (.eq rfl (jk _)) (.pt rfl rfl (.eq rfl (by simp[iT])) (.pe rfl rfl rfl (.pt rfl rfl Ss (.nil _)))))
theorem Gh(k:Kr)(p:Nat)(hw:KW k p)(c:Cl)(BX:Gf 4 5 6 c.ag)(hd:c.data.length<=4194304):
  body prog c33 [.rv (.one (.ptr 0 0)),.rv (.one (.ptr 1 0))] [xB k p,cB c] (TC (ik k p c).1 p c (ik k p c).2):=by
 have hs:=λneed=>J8 k p hw c need BX hd
 have Su:ik k p c=mA k c (bp k p c.fd (oc c.ag)):=rfl;rw[Su];clear Su;obtain⟨bb,ag,fd,fI,n,bv,a8,cJ,data⟩:=c;rcases BX with h|h|h
 .have h:ag=4:=h;subst h;refine⟨_,View.o1 4 [0,1,2] [] ?_,hs 1⟩
  .exact .au
 .have h:ag=5:=h;subst h;refine⟨_,View.o1 4 [0,1,2] [] ?_,hs 2⟩
  .exact .au
 .have h:ag=6:=h;subst h;refine⟨_,View.o1 4 [0,1,2] [] ?_,hs 4⟩
  .exact .au
theorem q8(k:Kr)(p:Nat)(hw:KW k p)(c:Cl)(BX:Gf 4 5 6 c.ag)(hd:c.data.length<=4194304):ap prog 33 [.rv (.one (.ptr 0 0)),.rv (.one (.ptr 1 0))] [xB k p,cB c] (TC (ik k p c).1 p c (ik k p c).2):=
 b8 func33 l33 (Gh k p hw c BX hd)
end Kn
def c34:LF:= ⟨66,[.cell true 4 4],(.seq (.ai [qu 4 (.alloc [qd 0,qd 0,qd 0,.aK])]) (.seq (.bR [qm 8 0,qu 9 (.aO 8),qf 10 0 9,qf 11 2 10,ql 12 11,qm 13 0,qu 14 (.aO 13),qf 15 3 14,ql 16 15,qu 17 (.cr 4 12 16),qf 18 3 17,ql 19 18,qm 5 19] [eh 13 0 .nil]) (.seq (.ai [qu 6 (.aI (qi 0))]) (.seq (.ai [qu 7 (.aI (qi 0))]) (.seq (.seq (.ai [qm 20 1,qu 21 (.aO 20),qf 22 1 21,ql 23 22]) (.block 0 (.seq (.ai [qu 38 (.aJ .eql 23 (qi 7)),qm 37 38]) (.cond 37 (.ai [qm 40 5,qm 41 1,qu 42 (.aO 41),qf 43 2 42,ql 44 43,qu 45 (qc 60 [40,44]),qm 39 45,qu 46 (.ext 39 0),qu 47 (.ext 39 1),qm 5 46,qm 7 47]) (.seq (.ai [qu 49 (.aJ .eql 23 (qi 8)),qm 48 49]) (.cond 48 (.ai [qm 51 5,qm 52 1,qu 53 (.aO 52),qf 54 2 53,ql 55 54,qu 56 (qc 61 [51,55]),qm 50 56,qu 57 (.ext 50 0),qu 58 (.ext 50 1),qu 59 (.ext 50 2),qm 5 57,qm 6 58,qm 7 59]) (.bR [qm 25 5,qm 26 1,qu 27 (.aO 26),qf 28 2 27,ql 29 28,qm 30 1,qu 31 (.aO 30),qf 32 6 31,ql 33 32,qu 34 (qc 62 [25,29,33]),qm 24 34,qu 35 (.ext 24 0),qu 36 (.ext 24 1),qm 5 35,qm 7 36] [(eh 9 0 (.cons 9 (some []) (eh 5 10 .nil)))]))))))) (.cU (.seq (.ai [qm 60 0,qm 61 5,qm 62 7,qu 63 (qc 63 [60,61,62]),qm 64 6,qu 65 (.build [qd 0,qd 0,qd 0,.aK] [(0,1,63),(1,1,64)]),qw (.store 4 4 65)]) .ret)))))))⟩
namespace Kn
def H4(k:Kr)(p:Nat)(x:List ft×Int×Int):Kr×An:=(fq k p x.1 x.2.2,⟨x.2.2,x.2.1,0,[]⟩)
def ma(l:List ft)(c:Cl):List ft×Int×Int:=
 if c.ag=7 then((xy l c.fd).1,0,(xy l c.fd).2)else if c.ag=8 then Dy l c.fd else((Dz l c.fd c.a8).1,0,(Dz l c.fd c.a8).2)
def mc(k:Kr)(p:Nat)(c:Cl):Kr×An:=H4 k p (ma (aA k.ps p) c)
theorem l34:bw prog f34=some c34.er:=by kernel_rfl
def abh:LC:=bL (bL (bL (bL (bL c34.code))))
def abi:LC:=qM abh
theorem NZ(k:Kr)(p:Nat)(hw:KW k p)(c:Cl)(x:List ft×Int×Int):
  aw prog 2 abi (QC c34.lP (H4 k p x).1 p c (H4 k p x).2)
   ⟨kz 66 [(0,.rv (.one (.ptr 0 0))),(1,.rv (.one (.ptr 1 0))),(4,.rv (.one (.ptr 2 0))),(5,m5 x.1),(6,an .i64 x.2.1),(7,an .i64 x.2.2)],[xB k p,cB c,iT]⟩:=by
 refine DC k p hw.kr hw.hp x.1 x.2.2 0 rfl ?_;exact cZ (X:=[_])
theorem J9(k:Kr)(p:Nat)(hw:KW k p)(c:Cl):
  body prog c34 [.rv (.one (.ptr 0 0)),.rv (.one (.ptr 1 0))] [xB k p,cB c] (TC (mc k p c).1 p c (mc k p c).2):=by
 have hs:=NZ k p hw c (ma (aA k.ps p) c);have hg:=dy hw.hp;rw[<-ef hw.hp]at hg;have hl:(aA k.ps p).length<=2097152:=by rw[ef hw.hp];have:=hw.kr.sl _ (aar hw.hp);omega
 have hS:mc k p c=H4 k p (ma (aA k.ps p) c):=rfl;rw[hS];clear hS;refine af hg ?_;generalize aA k.ps p=S at hl hs|-;refine bs (λh7=>?_) (λh7=>?_)
 .have h7:c.ag=7:=h7;rw[ma,if_pos h7]at hs|-;refine J1 S hl c.fd ?_;refine⟨_,View.o1 3 [0,1,2] [] ?_,hs⟩
  .exact .au
 have h7:¬c.ag=7:=h7;rw[ma,if_neg h7]at hs|-;refine bs (λh8=>?_) (λh8=>?_)
 .have h8:c.ag=8:=h8;rw[if_pos h8]at hs|-;refine QA S hl c.fd ?_;refine⟨_,View.o1 3 [0,1,2] [] ?_,hs⟩
  .exact .au
 have h8:¬c.ag=8:=h8;rw[if_neg h8]at hs|-;refine J2 S hl c.fd c.a8 ?_;refine⟨trivial,_,View.o1 3 [0,1,2] [] ?_,hs⟩
 .exact .au
theorem uc(k:Kr)(p:Nat)(hw:KW k p)(c:Cl):ap prog 34 [.rv (.one (.ptr 0 0)),.rv (.one (.ptr 1 0))] [xB k p,cB c] (TC (mc k p c).1 p c (mc k p c).2):=
 b8 func34 l34 (J9 k p hw c)
end Kn
def c35:LF:= ⟨85,[.cell true 4 4],(.seq (.ai [qu 4 (.alloc [qd 0,qd 0,qd 0,.aK])]) (.seq (.ai [qu 5 (.aI (qi 128))]) (.seq (.seq (.ai [qm 12 1,qu 13 (.aO 12),qf 14 1 13,ql 15 14,qu 16 (.aJ .eql 15 (qi 11))]) (.cond 16 (.ai [qu 5 (.aI (qi 64))]) .skip)) (.cU (.seq (.ai [qm 18 0,qm 19 1,qu 20 (.aO 19),qf 21 2 20,ql 22 21,qm 23 5,qu 24 (qc 56 [18,22,23]),qm 17 24,qu 25 (.ext 17 0),qu 26 (.ext 17 1),qu 27 (.ext 17 2),qu 6 (.alloc [qd 0,qd 0]),qw (.store 2 6 25),qm 7 26,qm 8 27]) (.seq (.seq (.ai [qm 28 8,qu 29 (.aJ .neq 28 (qi 0))]) (.cond 29 (.seq (.ai [qm 30 8,qu 31 (.build [qd 0,qd 0,qd 0,.aK] [(0,1,30)]),qw (.store 4 4 31)]) .ret) .skip)) (.seq (.ai [qm 32 0,qu 33 (.aO 32),qf 34 0 33,qf 35 0 34,ql 36 35,qm 37 7,qu 38 (.cr 9 36 37),qL 39 9 38,qu 9 (.alloc [qd 0,.aK,.aK,(.ah (.val (.string ⟨#[]⟩))),qd 0,.aK,qd 0,qd 0,qd 0]),qw (.store 9 9 39)]) (.seq (.seq (.ai [qm 40 1,qu 41 (.aO 40),qf 42 1 41,ql 43 42,qu 44 (.aJ .eql 43 (qi 11))]) (.cond 44 (.seq (.seq (.ai [qf 45 0 9,ql 46 45,qu 47 (.aJ .neq 46 (qi 2))]) (.cond 47 (.seq (.ai [qu 48 (.build [qd 0,qd 0,qd 0,.aK] [(0,1,qi 11)]),qw (.store 4 4 48)]) .ret) .skip)) (.seq (.ai [qL 49 9 9,qu 50 (qc 65 [49]),qu 51 (qc 64 [50,(.c (.rv (.one (.ah (.val (.string ⟨#[10]⟩))))))]),qm 10 51]) (.seq (.ai [qf 52 2 9,ql 53 52,qu 54 (.len 1 53),qm 55 10,qu 56 (.Vj 55),qu 57 (.build [qd 0,qd 0,qd 0,.aK] [(1,1,54),(3,1,56)]),qw (.store 4 4 57)]) .ret))) .skip)) (.seq (.ai [qf 58 1 9,ql 59 58,qu 60 (.len 1 59),qf 61 2 9,ql 62 61,qu 63 (.len 1 62),qu 64 (.aJ .add 60 63),qf 65 5 9,ql 66 65,qu 67 (.len 1 66),qu 68 (.aJ .add 64 67),qm 11 68]) (.seq (.seq (.bR [qf 69 0 9,ql 70 69,qu 71 (.aJ .eql 70 (qi 5)),qm 72 71,qg 73 (.aI 0) 72 true,qg 74 (.aO 73) 72 true,qg 75 (.bU 0 74) 72 true,qg 76 (.load true 3 75) 72 true,qg 77 (.bU 6 9) 72 true,qg 78 (.load false 1 77) 72 true,qg 79 (qc 29 [76,78]) 72 true,qu 80 (.pick 72 79 (qb false))] [(eh 10 0 (.cons 10 (some []) (.cons 11 none .nil)))]) (.cond 80 (.ai [qu 11 (.aI (qi 1))]) .skip)) (.seq (.ai [qf 81 0 9,ql 82 81,qm 83 11,qu 84 (.build [qd 0,qd 0,qd 0,.aK] [(1,1,82),(2,1,83)]),qw (.store 4 4 84)]) .ret)))))))))))⟩
namespace bK
def lq(sep:dL)(l:List dL):dL:=Lib.join l sep
theorem DG(l:List dL):(l.map cF).map (·.data.toList)=l:=by rw[abZ];exact List.map_id'' (λ_=>rfl) l
theorem QH(l:List dL)(sep:dL)(hN:l.length<=4194304)(hlen:(lq sep l).length<=140737488355328){m:Mem}{K:CV->Mem->Prop}(h:K (vT (lq sep l)) m):ap prog 64 [txV l,vT sep] m K:=by
 refine⟨⟨f64,func64,rfl,by decide⟩,λρ w vs hM hl hd=>?_⟩
 obtain⟨v0,h0,d0⟩:=hd 0 _ rfl;obtain⟨v1,h1,d1⟩:=hd 1 _ rfl;have EL:v1= .string (cF sep):=(bC d1).1;have Ed:vs=[v0,v1]:=by
  match vs,hl with
  | [a,b],_=>simp at h0 h1;rw[h0,h1]
 have ib:∀(W':World)(v:Value),v= .string (cF (lq sep l))->Below w.heap.size w W'->∃Wq r m' U',Ending.returned v= .returned Wq/\K r m'/\ax U' m' W'/\bZ U' W' r Wq/\Ext ρ m w U' m' W':=by
  rintro W' v rfl hb;refine⟨_,_,m,ρ,rfl,h,hM.vg ⟨hb.size,λb hS=>hb.block b (hM.S b hS),λk hk=>hb.block _ (hM.aP k hk).1⟩,de.val _ rfl,?_⟩
  exact⟨T5 _,λ_ _=>rfl,λ_ h=>h,λ_ h=>.inl h,λk h=>.inr ⟨k,h,rfl⟩,λb tn _=>hb.block b tn,hb.size,hb.os,hb.tape,hb.output⟩
 have hD:de ρ.S w (.sl 1 (l.map tD)) v0:=d0;rw[Ed,EL];generalize Mn:l.map tD=elems at hD;cases hD with
 |nil _ a cap hc=>
  have:l=[]:=by simpa using Mn
  subst this;refine(JI a cap (cF sep) w).mono λe W'⟨he,hw⟩=>?_
  subst he;exact ib W' _ rfl (hw▸Below.refl _ _)
 |sl _ _ b off cap u hS oI bc dj hc cg=>
  have abj:elems.length=(l.map cF).length:=by rw[<-Mn];simp
  rw[abj]at oI|-;refine(Qm b off cap (l.map cF) (cF sep) w (λj x hj=>?_) (hM.S b hS) (by rw[Nr];omega) oI (by rw[DG];exact hlen)).mono λe W'⟨he,hw⟩=>?_
  .rw[Sf]at hj;cases Vb:l[j]? with
   |none=>rw[Vb]at hj;cases hj
   |some t=>
    rw[Vb]at hj;simp only[aax,aat]at hj;subst hj;have e1:elems[j]? =some [.val (.string (cF t))]:=by rw[<-Mn,Sf,Vb];rfl
    have e2:=hc j _ 0 _ e1 rfl;have e3:=cg j _ 0 _ e1 rfl;have e4:u j 0= .string (cF t):=by
     generalize u j 0=x at e3;cases e3 with
     |val _ _=>rfl
    rw[e4]at e2;simpa using e2
  .subst he;refine ib W' _ ?_ hw;rw[DG];rfl
end bK
namespace Kn
def sI(e:NE):bK.dL:=e.1.data.toList
def tB(t:bK.dL):List (List Dt):=jg (t.map λb=>((b.toNat:Nat):Int))
def Gi(o:Obj):bK.dL:=bK.lq [10] ((o.ak.map nZ).map sI)
def H5(k:Kr)(o:Obj):Int:=if o.ag=5/\fj k.ps o.bb=true then 1 else BA (BA o.data.length o.ak.length) o.aq.length
def BB(k:Kr)(c:Cl)(o:Obj):An:=
 if c.ag=11 then(if o.ag≠2 then An.no 11 else⟨0,o.ak.length,0,tB (Gi o)⟩)else⟨0,o.ag,H5 k o,[]⟩
def pd(k:Kr)(c:Cl)(w:(Int×Int)×Int×Int):An:=if w.2.2≠0 then An.no w.2.2 else BB k c (lm k.l w.2.1)
def N0(c:Cl):Int:=if c.ag=11 then 64 else 128
def lu(k:Kr)(p:Nat)(c:Cl):Kr×An:=(k,pd k c (bp k p c.fd (N0 c)))
theorem Xz(es:List NE):es.map YK=(es.map sI).map bK.tD:=by
 rw[abZ];refine acE λe _=>?_
 obtain⟨t,ht⟩:=bK.Bg e.1;show [Dt.val (.string e.1)]=[Dt.val (.string (bK.cF e.1.data.toList))];rw[ht];rfl
theorem DH:∀(l:List bK.dL)(n:Nat),(∀t,t∈l->t.length<=n)->(bK.lq [10] l).length<=l.length*(n+1)
 | [],_,_=>by simp[bK.lq,Lib.join]
 | [t],n,h=>by have:=h t aC;simp[bK.lq,Lib.join];omega
 |t::u::r,n,h=>by
  have h1:=h t aC;have h2:=DH (u::r) n λx hx=>h x (by simp[hx])
  have e:(bK.lq [10] (t::u::r)).length=t.length+1+(bK.lq [10] (u::r)).length:=by simp[bK.lq,Lib.join];omega
  rw[e];simp only[aaj]at h2|-;have e2:(r.length+1+1)*(n+1)=(r.length+1)*(n+1)+(n+1):=by rw[aaZ (r.length+1) 1 (n+1),ace]
  rw[e2];omega
theorem Ka(t:bK.dL):qB (bK.cF t)=aa (tB t):=by show t.map _=_;rw[aa,tB,jg,abZ,abZ];rfl
theorem l35:bw prog f35=some c35.er:=by kernel_rfl
def C18:LC:=bL (bL (bL c35.code))
def G18:LC:=qM C18
theorem abk{m:Mem}{e n x:Int}{id:Nat}{d:List (List Dt)}{Z:Nat->Prop}{Y:Nat->Nat}(hz:Z id)(hm:m[id]? =some (.row 1 (aa d))):
  ri Y m Z (.rv (.agg [.ah (.val (.int .i64 e)),.ah (.val (.int .i64 n)),.ah (.val (.int .i64 x)),.row id 1 0 none])) (An.cv ⟨e,n,x,d⟩):=
 .rv (.agg rfl λi c c' h1 h2=>by
  match i,h1,h2 with
  |0,h1,h2=>cases h1;cases h2;exact .bg (.ah _)
  |1,h1,h2=>cases h1;cases h2;exact .bg (.ah _)
  |2,h1,h2=>cases h1;cases h2;exact .bg (.ah _)
  |3,h1,h2=>cases h1;cases h2;exact .fE (iy hz hm)
  |n+4,h1,h2=>simp at h1)
theorem Kb(k:Kr)(p:Nat)(hw:KW k p)(c:Cl)(need:Int):
  aw prog 2 G18 (QC c35.lP k p c (pd k c (bp k p c.fd need)))
   ⟨kz 85 [(0,.rv (.one (.ptr 0 0))),(1,.rv (.one (.ptr 1 0))),(4,.rv (.one (.ptr 2 0))),(5,an .i64 need)],[xB k p,cB c,iT]⟩:=by
 refine kI k p hw c.fd need 0 rfl ?_;have hh:= @KW.held k p hw c.fd need;generalize bp k p c.fd need=w at hh|-;obtain⟨⟨o,r⟩,b,e⟩:=w;refine bt (λhe=>?_) (λhe=>?_)
 .have he:e≠0:=he;have e1:pd k c ((o,r),b,e)=An.no e:=by rw[pd,if_pos he]
  rw[e1];exact cZ (X:=[_,_])
 have he:e=0:=he;subst he;obtain⟨n,j,h1,h2,h3,h4,h5⟩:=hh rfl;have h3:b=j:=h3;subst h3;have EI:=hw.kr.sm _ (aar h4);have L7:=hw.nm _ (aar h4);have e1:pd k c ((o,r),((j:Nat):Int),0)=BB k c k.l[j]:=by rw[pd,if_neg aC,ub h4]
 rw[e1];refine af (iR h4) ?_;generalize k.l[j]=ob at EI L7|-;refine bs (λLe=>?_) (λLe=>?_)
 .have Le:c.ag=11:=Le;rw[BB,if_pos Le];refine bt (λG7=>?_) (λG7=>?_)
  .have G7:ob.ag≠2:=G7;rw[if_pos G7];exact cZ (X:=[_,_,_])
  have G7:¬ob.ag≠2:=λh=>h G7
  rw[if_neg G7];obtain⟨es,nV⟩:=EI.t.2.1;have Mn:es.length<=8:=by have:=EI.e;rw[nV]at this;simpa using this
  have So:ob.ak.map nZ=es:=by rw[nV,nK]
  rw[So]at L7;have hN:Gi ob=bK.lq [10] (es.map sI):=by rw[Gi,So]
  rw[hN];have hJ:(bK.lq [10] (es.map sI)).length<=200:=by
   have:=DH (es.map sI) 12 λt ht=>by obtain⟨e,he,rfl⟩:=aas.1 ht;have:=L7 e he;show e.1.data.toList.length<=12;rwa [ab6]
   rw[Nr]at this;omega
  refine ND ob es nV om ?_;rw[Xz];refine bK.QH (es.map sI) [10] (by rw[Nr];omega) om ?_
  have dj:(bK.cF (bK.lq [10] (es.map sI))).size<=140737488355328:=by rw[bK.m8];omega
  have hR:=Ka (bK.lq [10] (es.map sI));generalize bK.lq [10] (es.map sI)=T at dj hR;refine⟨dj,?_⟩;refine⟨_,_,View.o 6 [0,1] [5] (.put (abk rfl (congrArg (λx=>some (Bk.row 1 x)) hR)) .nil) (.pt rfl rfl (.eq rfl (nf _ _)) (.pt rfl rfl (.eq rfl (jk _)) (.nil _))),rfl,rfl⟩
 have Le:¬c.ag=11:=Le;rw[BB,if_neg Le];have hq:(ob.aq.length:Int)=((ob.aq.map dh.enc).length:Int):=by rw[Nr]
 refine bs (λh5=>?_) (λh5=>?_)
 .have h5:ob.ag=5:=h5;refine oX k.l k.ops k.ps ob.bb ?_;refine⟨trivial,?_⟩;cases hl:fj k.ps ob.bb with
  |true=>
   rw[H5,if_pos ⟨h5,hl⟩];exact cZ (X:=[_,_,_])
  |false=>
   rw[H5,if_neg (by simp[hl]),hq]
   exact cZ (X:=[_,_,_])
 .have h5:¬ob.ag=5:=h5;rw[H5,if_neg (λh=>h5 h.1),hq]
  refine⟨trivial,?_⟩;exact cZ (X:=[_,_,_])
theorem Gj(k:Kr)(p:Nat)(hw:KW k p)(c:Cl):
  body prog c35 [.rv (.one (.ptr 0 0)),.rv (.one (.ptr 1 0))] [xB k p,cB c] (TC (lu k p c).1 p c (lu k p c).2):=by
 have hs:=λneed=>Kb k p hw c need
 refine bs (λh=>?_) (λh=>?_)
 .have h:c.ag=11:=h;have e:lu k p c=(k,pd k c (bp k p c.fd 64)):=by rw[lu,N0,if_pos h]
  rw[e];refine⟨_,View.o1 3 [0,1,2] [] ?_,hs 64⟩
  .exact .au
 .have h:¬c.ag=11:=h;have e:lu k p c=(k,pd k c (bp k p c.fd 128)):=by rw[lu,N0,if_neg h]
  rw[e];refine⟨_,View.o1 3 [0,1,2] [] ?_,hs 128⟩
  .exact .au
theorem xF(k:Kr)(p:Nat)(hw:KW k p)(c:Cl):ap prog 35 [.rv (.one (.ptr 0 0)),.rv (.one (.ptr 1 0))] [xB k p,cB c] (TC (lu k p c).1 p c (lu k p c).2):=
 b8 func35 l35 (Gj k p hw c)
end Kn
def c36:LF:= ⟨142,[.cell true 4 4],(.seq (.ai [qu 4 (.alloc [qd 0,qd 0,qd 0,.aK])]) (.seq (.ai [qu 5 (.aI (qi 24))]) (.seq (.seq (.ai [qm 16 1,qu 17 (.aO 16),qf 18 1 17,ql 19 18,qu 20 (.aJ .eql 19 (qi 14))]) (.cond 20 (.ai [qu 5 (.aI (qi 40))]) .skip)) (.cU (.seq (.ai [qm 22 0,qm 23 1,qu 24 (.aO 23),qf 25 2 24,ql 26 25,qm 27 5,qu 28 (qc 56 [22,26,27]),qm 21 28,qu 29 (.ext 21 0),qu 30 (.ext 21 1),qu 31 (.ext 21 2),qu 6 (.alloc [qd 0,qd 0]),qw (.store 2 6 29),qm 7 30,qm 8 31]) (.seq (.seq (.ai [qm 32 8,qu 33 (.aJ .neq 32 (qi 0))]) (.cond 33 (.seq (.ai [qm 34 8,qu 35 (.build [qd 0,qd 0,qd 0,.aK] [(0,1,34)]),qw (.store 4 4 35)]) .ret) .skip)) (.seq (.seq (.ai [qm 36 1,qu 37 (.aO 36),qf 38 1 37,ql 39 38,qu 40 (.aJ .eql 39 (qi 13))]) (.cond 40 (.seq (.ai [qm 42 1,qu 43 (.aO 42),qf 44 8 43,ql 45 44,qu 46 (.UJ 45),qu 47 (qc 66 [46]),qm 41 47,qu 48 (.ext 41 0),qu 49 (.ext 41 1),qu 50 (.ext 41 2),qm 9 48,qm 10 49,qm 11 50]) (.seq (.ai [qm 51 11,qu 52 (.aJ .neq 51 (qi 0))]) (.cond 52 (.seq (.ai [qm 53 11,qu 54 (.build [qd 0,qd 0,qd 0,.aK] [(0,1,53)]),qw (.store 4 4 54)]) .ret) .skip))) .skip)) (.cU (.seq (.bR [qm 56 0,qu 57 (.aO 56),qf 58 0 57,qf 59 0 58,ql 60 59,qm 61 7,qm 62 1,qu 63 (.aO 62),qf 64 7 63,ql 65 64,qu 66 (qc 67 [60,61,65,qb true,qb false]),qm 55 66,qu 67 (.ext 55 0),qu 68 (.ext 55 1),qu 12 (.alloc [qd 0,qd 0,(.ah (.val (.string ⟨#[]⟩)))]),qw (.store 3 12 67),qm 8 68] [(eh 10 0 (.vJ (.cons 10 (some []) (eh 3 11 (.cons 14 (some [9,4]) (.cons 15 (some []) (.cons 16 none .nil))))) (.cons 14 (some [9,4]) (.cons 10 (some []) (eh 3 11 (.cons 15 (some []) (.cons 16 none .nil)))))))]) (.cU (.seq (.block 0 (.seq (.ai [qm 77 8,qu 78 (.aJ .neq 77 (qi 0)),qm 76 78]) (.cond 76 .skip (.seq (.ai [qf 80 2 12,ql 81 80,qu 82 (.aJ .eql 81 (.c (.rv (.one (.ah (.val (.string ⟨#[]⟩))))))),qm 79 82]) (.cond 79 (.ai [qu 8 (.aI (qi 8))]) (.seq (.ai [qm 84 1,qu 85 (.aO 84),qf 86 1 85,ql 87 86,qu 88 (.aJ .eql 87 (qi 14)),qm 89 88,qg 90 (.bU 0 12) 89 true,qg 91 (.load false 1 90) 89 true,qg 92 (.aJ .lss 91 (qi 0)) 89 true,qu 93 (.pick 89 92 (qb false)),qm 83 93]) (.cond 83 (.ai [qu 8 (.aI (qi 6))]) (.seq (.ai [qm 95 1,qu 96 (.aO 95),qf 97 1 96,ql 98 97,qu 99 (.aJ .eql 98 (qi 14)),qm 94 99]) (.cond 94 (.seq (.bR [qm 101 0,qu 102 (.aO 101),qf 103 0 102,qf 104 0 103,ql 105 104,qf 106 1 12,ql 107 106,qf 108 2 12,ql 109 108,qu 110 (qc 68 [105,107,109]),qm 100 110,qu 111 (.ext 100 0),qu 112 (.ext 100 1),qu 113 (.ext 100 2),qm 13 111,qm 14 112,qm 15 113] [(eh 9 0 (.cons 9 (some []) (eh 7 10 .nil)))]) (.ai [qm 114 0,qm 115 13,qm 116 15,qu 117 (qc 69 [114,115,116]),qm 8 117])) (.seq (.ai [qf 119 0 12,ql 120 119,qu 121 (.aJ .geq 120 (qi 0)),qm 118 121]) (.cond 118 (.ai [qu 8 (.aI (qi 7))]) (.seq (.ai [qm 123 1,qu 124 (.aO 123),qf 125 1 124,ql 126 125,qu 127 (.aJ .eql 126 (qi 13)),qm 122 127]) (.cond 122 (.bR [qm 129 0,qL 130 3 12,qm 131 1,qu 132 (.aO 131),qf 133 8 132,ql 134 133,qu 135 (.UJ 134),qu 136 (.build [qd 0,.aK,.aK,(.ah (.val (.string ⟨#[]⟩))),qd 0,.aK,qd 0,qd 0,qd 0] [(0,1,qi 3),(3,1,135)]),qu 137 (qc 70 [129,130,136]),qm 128 137,qu 138 (.ext 128 0),qu 139 (.ext 128 1),qm 8 139] [(eh 6 0 (.cons 6 (some [1]) (.cons 7 none (.cons 8 (some []) (eh 4 9 .nil)))))]) (.ai [qm 70 0,qL 71 3 12,qu 72 (.build [qd 0,.aK,.aK,(.ah (.val (.string ⟨#[]⟩))),qd 0,.aK,qd 0,qd 0,qd 0] [(0,1,qi 2)]),qu 73 (qc 70 [70,71,72]),qm 69 73,qu 74 (.ext 69 0),qu 75 (.ext 69 1),qm 8 75])))))))))))))) (.cU (.seq (.ai [qm 140 8,qu 141 (.build [qd 0,qd 0,qd 0,.aK] [(0,1,140)]),qw (.store 4 4 141)]) .ret)))))))))))))⟩
namespace Kn
def xG(d:List Int):bK.dL:=d.map λn=>UInt8.ofNat n.toNat
def xH(d:List Int):Obj:=⟨3,[],[],bK.cF (xG d),0,[],0,0,0⟩
def Gk:Obj:=⟨2,[],[],⟨#[]⟩,0,[],0,0,0⟩
theorem BC(k:Int)(t:ByteArray):QE ⟨k,[],[],t,0,[],0,0,0⟩:=⟨⟨⟨⟨[],rfl⟩,⟨[],rfl⟩,aC⟩,aC,aC,aC,aC⟩,rfl⟩
def DI(k:Kr)(f:R4):List Obj×Int×Int:=cQ k.l f.cK (bK.cF f.name)
def od(k:Kr)(c:Cl)(f:R4):Kr×Int:=
 if f.fC≠0 then(k,f.fC)
 else if f.name=[]then(k,8)
 else if c.ag=14 then(if f.bo<0 then(k,6)else(bP k (DI k f).1 (DI k f).2.2,(DI k f).2.2))
 else if f.bo>=0 then(k,7)
 else if c.ag=13 then((cw k f (xH c.data)).1,(cw k f (xH c.data)).2.2)
 else((cw k f Gk).1,(cw k f Gk).2.2)
def sJ(c:Cl):Int:=if c.ag=14 then 40 else 24
def iU(k:Kr)(c:Cl)(w:(Int×Int)×Int×Int):Kr×Int:=
 if w.2.2≠0 then(k,w.2.2)
 else if c.ag=13/\(bK.cM (xG c.data)).2.2≠0 then(k,(bK.cM (xG c.data)).2.2)
 else od k c (iS k w.2.1 c.cJ true false)
def QI(x:Kr×Int):Kr×An:=(x.1,An.no x.2)
def kj(k:Kr)(p:Nat)(c:Cl):Kr×An:=QI (iU k c (bp k p c.fd (sJ c)))
theorem l36:bw prog f36=some c36.er:=by kernel_rfl
def abl:LC:=bL (bL (bL c36.code))
def XA:LC:=qM abl
def abm:LC:=bL (bL (bL XA))
def XB:LC:=qM abm
def abn:LC:=bL XB
def XC:LC:=qM abn
def XD:LC:=bL XC
def XE:LC:=qM XD
theorem Kc(k:Kr)(p:Nat)(c:Cl)(e:Int):
  aw prog 2 XE (QC c36.lP k p c (An.no e)) ⟨kz 142 [(0,.rv (.one (.ptr 0 0))),(1,.rv (.one (.ptr 1 0))),(4,.rv (.one (.ptr 2 0))),(8,an .i64 e)],[xB k p,cB c,iT]⟩:=cZ (X:=[_])
theorem abo(t:bK.dL){A B:Prop}(ha:t=[]->A)(hb:t≠[]->B): @Bool.rec (λ_=>Prop) B A ((bK.cF t).toList==(⟨#[]⟩:ByteArray).toList):=bK.lg (b:=[]) ha hb
theorem m3{Y:Nat->Nat}(hσ:Y 0=0/\Y 1=1/\Y 2=2){Z:Nat->Prop}(hZ:¬Z 0/\¬Z 1/\¬Z 2){k:Kr}{p:Nat}{c:Cl}{X:Mem}:ew Y (xB k p::cB c::iT::X) Z 0 [xB k p,cB c,iT]:=by
 obtain⟨h0,h1,h2⟩:=hσ;obtain⟨z0,z1,z2⟩:=hZ;exact .put (by rw[h0];exact z0) (by rw[h0];rfl) (.eq rfl (nf _ _)) (.put (by rw[h1];exact z1) (by rw[h1];rfl) (.eq rfl (jk _)) (.put (by rw[h2];exact z2) (by rw[h2];rfl) (.eq rfl (by simp[iT])) (.nil _)))
theorem N1(k:Kr)(p:Nat)(hw:KW k p)(c:Cl)(f:R4):
  aw prog 2 XC (QC c36.lP (QI (od k c f)).1 p c (QI (od k c f)).2)
   ⟨kz 142 [(0,.rv (.one (.ptr 0 0))),(1,.rv (.one (.ptr 1 0))),(4,.rv (.one (.ptr 2 0))),(8,an .i64 f.fC),(12,.rv (.one (.ptr 3 0)))],[xB k p,cB c,iT,.var ((U5 f).map .ah)]⟩:=by
 have Gl:=λk e=>Kc k p c e
 obtain⟨bo,cK,name,fC⟩:=f;refine bt (λhe=>?_) (λhe=>?_)
 .have he:fC≠0:=he;have e1:od k c ⟨bo,cK,name,fC⟩=(k,fC):=by rw[od,if_pos he]
  rw[e1];refine⟨_,View.o1 4 [0,1,2] [] (m3 ⟨rfl,rfl,rfl⟩ ⟨dD rfl,dD rfl,dD rfl⟩),Gl k fC⟩
 have he:fC=0:=he;subst he;refine abo name (λh1=>?_) (λh1=>?_)
 .have e1:od k c ⟨bo,cK,name,0⟩=(k,8):=by rw[od,if_neg aC,if_pos h1]
  rw[e1];refine⟨_,View.o1 4 [0,1,2] [] (m3 ⟨rfl,rfl,rfl⟩ ⟨dD rfl,dD rfl,dD rfl⟩),Gl k 8⟩
 have e0:od k c ⟨bo,cK,name,0⟩=if c.ag=14 then(if bo<0 then(k,6)else(bP k (DI k ⟨bo,cK,name,0⟩).1 (DI k ⟨bo,cK,name,0⟩).2.2,(DI k ⟨bo,cK,name,0⟩).2.2))
   else if bo>=0 then(k,7)
   else if c.ag=13 then((cw k ⟨bo,cK,name,0⟩ (xH c.data)).1,(cw k ⟨bo,cK,name,0⟩ (xH c.data)).2.2)
   else((cw k ⟨bo,cK,name,0⟩ Gk).1,(cw k ⟨bo,cK,name,0⟩ Gk).2.2):=by rw[od,if_neg aC,if_neg h1]
 rw[e0];refine bs (λN2=>?_) (λN2=>?_)
 .have N2:c.ag=14:=N2;rw[if_pos N2];refine aN (λho=>?_) (λho=>?_)
  .have ho:bo<0:=ho;rw[if_pos ho];refine⟨_,View.o1 4 [0,1,2] [] (m3 ⟨rfl,rfl,rfl⟩ ⟨dD rfl,dD rfl,dD rfl⟩),Gl k 6⟩
  have ho:¬bo<0:=ho;rw[if_neg ho];refine cE (beq_iff_eq.2 N2) ?_;refine F4 k.l hw.En cK (bK.cF name) ?_;refine⟨trivial,?_⟩;refine nP k p hw.kr _ _ 0 rfl ?_;refine⟨_,View.o1 4 [0,1,2] [] (m3 ⟨rfl,rfl,rfl⟩ ⟨dD rfl,dD rfl,dD rfl⟩),Gl _ _⟩
 have N2:¬c.ag=14:=N2;rw[if_neg N2];refine rP (beq_eq_false_iff_ne.2 N2) ?_;refine aN (λho=>?_) (λho=>?_)
 .have ho:bo>=0:=ho;rw[if_pos ho];refine⟨_,View.o1 4 [0,1,2] [] (m3 ⟨rfl,rfl,rfl⟩ ⟨dD rfl,dD rfl,dD rfl⟩),Gl k 7⟩
 have ho:¬bo>=0:=ho;rw[if_neg ho];refine bs (λEo=>?_) (λEo=>?_)
 .have Eo:c.ag=13:=Eo;rw[if_pos Eo];refine af (tJ c.data) ?_;refine⟨⟨rfl,trivial⟩,?_⟩;refine mW (Bz _ _ _ _) (t8 k p hw ⟨bo,cK,name,0⟩ (xH c.data) (BC _ _) 0 rfl ?_);refine⟨trivial,?_⟩;refine⟨_,View.o1 4 [0,1,2] [] (m3 ⟨rfl,rfl,rfl⟩ ⟨dD rfl,dD rfl,dD rfl⟩),Gl _ _⟩
 have Eo:¬c.ag=13:=Eo;rw[if_neg Eo];refine mW (Bz _ _ _ _) (t8 k p hw ⟨bo,cK,name,0⟩ Gk (BC _ _) 0 rfl ?_);refine⟨_,View.o1 4 [0,1,2] [] (m3 ⟨rfl,rfl,rfl⟩ ⟨dD rfl,dD rfl,dD rfl⟩),Gl _ _⟩
theorem DJ(k:Kr)(p:Nat)(hw:KW k p)(c:Cl)(ar:Int)(R:Kr×Int)(hR:R=od k c (iS k ar c.cJ true false)):
  aw prog 2 XB (QC c36.lP (QI R).1 p c (QI R).2)
   ⟨kz 142 [(0,.rv (.one (.ptr 0 0))),(1,.rv (.one (.ptr 1 0))),(4,.rv (.one (.ptr 2 0))),(7,an .i64 ar)],[xB k p,cB c,iT]⟩:=by
 have hs:=N1 k p hw c (iS k ar c.cJ true false);rw[<-hR]at hs;refine⟨?_,?_⟩
 .refine sF k p hw ar c.cJ true false ?_;refine⟨trivial,⟨rfl,rfl,trivial⟩,trivial,_,View.o1 4 [0,1,2,3] [] ?_,hs⟩
  .exact .au
 .refine⟨⟨rfl,rfl,trivial⟩,?_⟩;refine sF k p hw ar c.cJ true false ?_;refine⟨trivial,trivial,_,View.o1 4 [0,1,2,3] [] ?_,hs⟩
  .exact .au
theorem N3(k:Kr)(p:Nat)(hw:KW k p)(c:Cl)(need:Int):
  aw prog 2 XA (QC c36.lP (QI (iU k c (bp k p c.fd need))).1 p c (QI (iU k c (bp k p c.fd need))).2)
   ⟨kz 142 [(0,.rv (.one (.ptr 0 0))),(1,.rv (.one (.ptr 1 0))),(4,.rv (.one (.ptr 2 0))),(5,an .i64 need)],[xB k p,cB c,iT]⟩:=by
 refine kI k p hw c.fd need 0 rfl ?_;generalize bp k p c.fd need=w;obtain⟨⟨o,r⟩,b,e⟩:=w;refine bt (λhe=>?_) (λhe=>?_)
 .have he:e≠0:=he;have e1:iU k c ((o,r),b,e)=(k,e):=by rw[iU,if_pos he]
  rw[e1];exact cZ (X:=[_,_])
 have he:e=0:=he;subst he;refine bs (λEo=>?_) (λEo=>?_)
 .have Eo:c.ag=13:=Eo;refine af (tJ c.data) ?_;refine bK.xh (xG c.data) ?_;refine bt (λhs=>?_) (λhs=>?_)
  .have hs:(bK.cM (xG c.data)).2.2≠0:=hs;have e1:iU k c ((o,r),b,0)=(k,(bK.cM (xG c.data)).2.2):=by rw[iU,if_neg aC,if_pos ⟨Eo,hs⟩]
   rw[e1];exact cZ (X:=[_,_])
  .have hs:¬(bK.cM (xG c.data)).2.2≠0:=λh=>h hs
   refine⟨_,View.o1 4 [0,1,2] [] (m3 ⟨rfl,rfl,rfl⟩ ⟨dD rfl,dD rfl,dD rfl⟩),DJ k p hw c b (iU k c ((o,r),b,0)) (by rw[iU,if_neg aC,if_neg (λh=>hs h.2)])⟩
 .have Eo:¬c.ag=13:=Eo;refine⟨_,View.o1 4 [0,1,2] [] (m3 ⟨rfl,rfl,rfl⟩ ⟨dD rfl,dD rfl,dD rfl⟩),DJ k p hw c b (iU k c ((o,r),b,0)) (by rw[iU,if_neg aC,if_neg (λh=>Eo h.1)])⟩
theorem tX(k:Kr)(p:Nat)(hw:KW k p)(c:Cl):
  body prog c36 [.rv (.one (.ptr 0 0)),.rv (.one (.ptr 1 0))] [xB k p,cB c] (TC (kj k p c).1 p c (kj k p c).2):=by
 have hs:=λneed=>N3 k p hw c need
 refine bs (λh=>?_) (λh=>?_)
 .have h:c.ag=14:=h;have e:kj k p c=QI (iU k c (bp k p c.fd 40)):=by rw[kj,sJ,if_pos h]
  rw[e];refine⟨_,View.o1 3 [0,1,2] [] (m3 ⟨rfl,rfl,rfl⟩ ⟨dD rfl,dD rfl,dD rfl⟩),hs 40⟩
 .have h:¬c.ag=14:=h;have e:kj k p c=QI (iU k c (bp k p c.fd 24)):=by rw[kj,sJ,if_neg h]
  rw[e];refine⟨_,View.o1 3 [0,1,2] [] (m3 ⟨rfl,rfl,rfl⟩ ⟨dD rfl,dD rfl,dD rfl⟩),hs 24⟩
theorem ud(k:Kr)(p:Nat)(hw:KW k p)(c:Cl):ap prog 36 [.rv (.one (.ptr 0 0)),.rv (.one (.ptr 1 0))] [xB k p,cB c] (TC (kj k p c).1 p c (kj k p c).2):=
 b8 func36 l36 (tX k p hw c)
end Kn
def c38:LF:= ⟨85,[.cell true 4 4],(.seq (.ai [qu 4 (.alloc [qd 0,qd 0,qd 0,.aK])]) (.seq (.ai [qm 11 0,qm 12 1,qu 13 (.aO 12),qf 14 2 13,ql 15 14,qu 16 (qc 56 [11,15,qi 256]),qm 10 16,qu 17 (.ext 10 0),qu 18 (.ext 10 1),qu 19 (.ext 10 2),qu 5 (.alloc [qd 0,qd 0]),qw (.store 2 5 17),qm 6 18,qm 7 19]) (.seq (.seq (.ai [qm 20 7,qu 21 (.aJ .neq 20 (qi 0))]) (.cond 21 (.seq (.ai [qm 22 7,qu 23 (.build [qd 0,qd 0,qd 0,.aK] [(0,1,22)]),qw (.store 4 4 23)]) .ret) .skip)) (.seq (.ai [qm 24 1,qu 25 (.aO 24),qf 26 8 25,ql 27 26,qu 28 (.build [.aK,(.ah (.val (.bool false))),qd 0,qd 0] [(0,1,27)]),qu 8 (.alloc [.aK,(.ah (.val (.bool false))),qd 0,qd 0]),qw (.store 4 8 28)]) (.seq (.seq (.ai [qm 29 1,qu 30 (.aO 29),qf 31 3 30,ql 32 31,qu 33 (.aJ .geq 32 (qi 0))]) (.cond 33 (.seq (.seq (.bR [qm 35 0,qu 36 (.aO 35),qf 37 0 36,qf 38 2 37,ql 39 38,qm 40 0,qu 41 (.aO 40),qf 42 3 41,ql 43 42,qu 44 (.cr 4 39 43),qf 45 3 44,ql 46 45,qm 47 1,qu 48 (.aO 47),qf 49 3 48,ql 50 49,qu 51 (qc 73 [46,50]),qm 34 51,qu 52 (.ext 34 0),qu 53 (.ext 34 1),qf 54 2 8,qw (.store 2 54 52),qm 7 53] [(eh 16 0 (.cons 16 (some []) (eh 4 17 (.cons 21 (some []) (.cons 22 none .nil)))))]) (.seq (.ai [qm 55 7,qu 56 (.aJ .neq 55 (qi 0))]) (.cond 56 (.seq (.ai [qm 57 7,qu 58 (.build [qd 0,qd 0,qd 0,.aK] [(0,1,57)]),qw (.store 4 4 58)]) .ret) .skip))) (.ai [qf 59 1 8,qw (.store 1 59 (qb true))])) .skip)) (.cU (.seq (.bR [qm 61 0,qu 62 (.aO 61),qf 63 0 62,qf 64 0 63,ql 65 64,qm 66 6,qL 67 4 8,qu 68 (qc 74 [65,66,67]),qm 60 68,qu 69 (.ext 60 0),qu 70 (.ext 60 1),qm 9 69,qm 7 70] [(eh 7 0 (.cons 7 (some []) (eh 5 8 .nil)))]) (.seq (.seq (.ai [qm 71 0,qm 72 9,qm 73 7,qu 74 (qc 69 [71,72,73]),qm 7 74]) (.seq (.ai [qm 75 7,qu 76 (.aJ .neq 75 (qi 0))]) (.cond 76 (.seq (.ai [qm 77 7,qu 78 (.build [qd 0,qd 0,qd 0,.aK] [(0,1,77)]),qw (.store 4 4 78)]) .ret) .skip))) (.seq (.ai [qm 79 1,qu 80 (.aO 79),qf 81 8 80,ql 82 81,qu 83 (.len 1 82),qu 84 (.build [qd 0,qd 0,qd 0,.aK] [(1,1,83)]),qw (.store 4 4 84)]) .ret)))))))))⟩
def c39:LF:= ⟨82,[.cell true 4 4],(.seq (.ai [qu 4 (.alloc [qd 0,qd 0,qd 0,.aK])]) (.seq (.ai [qm 15 0,qm 16 1,qu 17 (.aO 16),qf 18 2 17,ql 19 18,qu 20 (qc 56 [15,19,qi 512]),qm 14 20,qu 21 (.ext 14 0),qu 22 (.ext 14 1),qu 23 (.ext 14 2),qu 5 (.alloc [qd 0,qd 0]),qw (.store 2 5 21),qm 6 22,qm 7 23]) (.seq (.seq (.ai [qm 24 7,qu 25 (.aJ .neq 24 (qi 0))]) (.cond 25 (.seq (.ai [qm 26 7,qu 27 (.build [qd 0,qd 0,qd 0,.aK] [(0,1,26)]),qw (.store 4 4 27)]) .ret) .skip)) (.seq (.ai [qm 29 0,qu 30 (.aO 29),qf 31 0 30,qf 32 0 31,ql 33 32,qm 34 6,qu 35 (qc 75 [33,34]),qm 28 35,qu 36 (.ext 28 0),qu 37 (.ext 28 1),qu 38 (.ext 28 2),qu 9 (.alloc [.aK,(.ah (.val (.bool false))),qd 0,qd 0]),qm 8 36,qw (.store 4 9 37),qm 7 38]) (.seq (.seq (.ai [qm 39 7,qu 40 (.aJ .neq 39 (qi 0))]) (.cond 40 (.seq (.ai [qm 41 7,qu 42 (.build [qd 0,qd 0,qd 0,.aK] [(0,1,41)]),qw (.store 4 4 42)]) .ret) .skip)) (.seq (.ai [qu 10 (.aI (qi (-1)))]) (.seq (.seq (.ai [qf 43 1 9,ql 44 43]) (.cond 44 (.seq (.bR [qm 46 0,qu 47 (.aO 46),qf 48 0 47,qf 49 2 48,ql 50 49,qm 51 0,qu 52 (.aO 51),qf 53 3 52,ql 54 53,qu 55 (.cr 4 50 54),qf 56 3 55,ql 57 56,qf 58 2 9,qL 59 2 58,qu 60 (qc 76 [57,59]),qm 45 60,qu 61 (.ext 45 0),qu 62 (.ext 45 1),qu 63 (.ext 45 2),qm 11 61,qm 12 62,qm 13 63] [(eh 14 0 (.cons 14 (some []) (eh 7 15 .nil)))]) (.seq (.seq (.ai [qm 64 13,qu 65 (.aJ .neq 64 (qi 0))]) (.cond 65 (.seq (.ai [qm 66 13,qu 67 (.build [qd 0,qd 0,qd 0,.aK] [(0,1,66)]),qw (.store 4 4 67)]) .ret) .skip)) (.seq (.ai [qm 68 0,qm 69 11,qu 70 (qc 63 [68,69,qi 0])]) (.ai [qm 71 12,qm 10 71])))) .skip)) (.cU (.seq (.ai [qm 72 0,qm 73 8,qu 74 (qc 69 [72,73,qi 0])]) (.seq (.ai [qf 75 0 9,ql 76 75,qu 77 (.len 1 76),qm 78 10,qf 79 0 9,ql 80 79,qu 81 (.build [qd 0,qd 0,qd 0,.aK] [(1,1,77),(2,1,78),(3,1,80)]),qw (.store 4 4 81)]) .ret))))))))))⟩
namespace Kn
def zN(d:List Int)(g:(Int×Int)×Bool):dh:=⟨jg d,g.2,g.1.1,g.1.2⟩
def km(k:Kr)(c:Cl)(r:List Obj×Int):Kr×An:=(bP k r.1 r.2,if r.2≠0 then An.no r.2 else⟨0,c.data.length,0,[]⟩)
def xI(k:Kr)(p:Nat)(c:Cl)(bo:Int):Kr×An:=
 if c.fI>=0 then
  (if(fB (aA k.ps p) c.fI).2≠0 then(k,An.no (fB (aA k.ps p) c.fI).2)else km k c (eZ k.l bo (zN c.data ((fB (aA k.ps p) c.fI).1,true))))
 else km k c (eZ k.l bo (zN c.data ((0,0),false)))
def zO(k:Kr)(p:Nat)(c:Cl)(w:(Int×Int)×Int×Int):Kr×An:=if w.2.2≠0 then(k,An.no w.2.2)else xI k p c w.2.1
def kn(k:Kr)(p:Nat)(c:Cl):Kr×An:=zO k p c (bp k p c.fd 256)
theorem l38:bw prog f38=some c38.er:=by kernel_rfl
def abp:LC:=bL (bL (bL (bL (bL c38.code))))
def abq:LC:=qM abp
theorem N4(k:Kr)(p:Nat)(hw:KW k p)(c:Cl)(bo:Int)(m:dh)(hm:m.data.length<=4194304):
  aw prog 2 abq (QC c38.lP (km k c (eZ k.l bo m)).1 p c (km k c (eZ k.l bo m)).2)
   ⟨kz 85 [(0,.rv (.one (.ptr 0 0))),(1,.rv (.one (.ptr 1 0))),(4,.rv (.one (.ptr 2 0))),(6,an .i64 bo),(8,.rv (.one (.ptr 3 0)))],[xB k p,cB c,iT,.var (m.enc.map .ah)]⟩:=by
 refine P4 k.l hw.oi bo m hm ?_;generalize eZ k.l bo m=r;obtain⟨l,e⟩:=r;refine⟨trivial,?_⟩;refine nP k p hw.kr l e 0 rfl ?_;refine bt (λhe=>?_) (λhe=>?_)
 .have he:e≠0:=he;rw[km,if_pos he];exact cZ (X:=[_,_])
 .have he:¬e≠0:=λh=>h he
  have hq:(c.data.length:Int)=((jg c.data).length:Int):=by simp[jg]
  rw[km,if_neg he,hq];exact cZ (X:=[_,_])
theorem tG(k:Kr)(p:Nat)(hw:KW k p)(c:Cl)(hd:c.data.length<=4194304):
  body prog c38 [.rv (.one (.ptr 0 0)),.rv (.one (.ptr 1 0))] [xB k p,cB c] (TC (kn k p c).1 p c (kn k p c).2):=by
 have hs:=λbo m hm=>N4 k p hw c bo m hm
 have l4:(jg c.data).length<=4194304:=by simpa[jg]using hd
 refine kI k p hw c.fd 256 0 rfl ?_;have hS:kn k p c=zO k p c (bp k p c.fd 256):=rfl;rw[hS];clear hS;generalize bp k p c.fd 256=w;obtain⟨⟨o,r⟩,b,e⟩:=w;refine bt (λhe=>?_) (λhe=>?_)
 .have he:e≠0:=he;rw[zO,if_pos he];exact cZ (X:=[_,_])
 have he:e=0:=he;subst he;rw[zO,if_neg aC];refine aN (λh2=>?_) (λh2=>?_)
 .have h2:c.fI>=0:=h2;have hg:=dy hw.hp;rw[<-ef hw.hp]at hg;refine af hg ?_;have e1:xI k p c b=if(fB (aA k.ps p) c.fI).2≠0 then(k,An.no (fB (aA k.ps p) c.fI).2)else km k c (eZ k.l b (zN c.data ((fB (aA k.ps p) c.fI).1,true))):=by rw[xI,if_pos h2]
  rw[e1];refine Bv (aA k.ps p) c.fI ?_;generalize fB (aA k.ps p) c.fI=g;obtain⟨⟨go,gr⟩,e⟩:=g;refine⟨trivial,trivial,?_⟩;refine bt (λhe=>?_) (λhe=>?_)
  .have he:e≠0:=he;rw[if_pos he];exact cZ (X:=[_,_,_])
  have he:¬e≠0:=λh=>h he
  rw[if_neg he];refine⟨_,View.o1 5 [0,1,2,4] [] ?_,hs b (zN c.data ((go,gr),true)) l4⟩
  .exact .au
 .have h2:¬c.fI>=0:=h2;have e1:xI k p c b=km k c (eZ k.l b (zN c.data ((0,0),false))):=by rw[xI,if_neg h2]
  rw[e1];refine⟨_,View.o1 5 [0,1,2,4] [] ?_,hs b (zN c.data ((0,0),false)) l4⟩
  .exact .au
theorem Ke(k:Kr)(p:Nat)(hw:KW k p)(c:Cl)(hd:c.data.length<=4194304):ap prog 38 [.rv (.one (.ptr 0 0)),.rv (.one (.ptr 1 0))] [xB k p,cB c] (TC (kn k p c).1 p c (kn k p c).2):=
 b8 func38 l38 (tG k p hw c hd)
def zP(k:Kr)(l:List Obj)(m:dh)(fd:Int):Kr×An:=(bP k l 0,⟨0,m.data.length,fd,m.data⟩)
def zQ(k:Kr)(p:Nat)(r:List Obj×dh×Int):Kr×An:=
 if r.2.2≠0 then(k,An.no r.2.2)
 else if r.2.1.has=true then
  (if(fY (aA k.ps p) r.2.1.dS r.2.1.cj).2.2≠0 then(k,An.no (fY (aA k.ps p) r.2.1.dS r.2.1.cj).2.2)
   else zP (fq k p (fY (aA k.ps p) r.2.1.dS r.2.1.cj).1 0) r.1 r.2.1 (fY (aA k.ps p) r.2.1.dS r.2.1.cj).2.1)
 else zP k r.1 r.2.1 (-1)
def zR(k:Kr)(p:Nat)(w:(Int×Int)×Int×Int):Kr×An:=if w.2.2≠0 then(k,An.no w.2.2)else zQ k p (fG k.l w.2.1)
def jl(k:Kr)(p:Nat)(c:Cl):Kr×An:=zR k p (bp k p c.fd 512)
theorem sK{l:List ft}{o r:Int}(hl:l.length<=10):(fY l o r).1.length<=10:=by
 unfold fY Tb.iO;split
 .simp
 .split
  .simpa using hl
  .split
   .simp
   .rename_i h;simp only[Nr,aaL,aaj,aa9]at h|-;omega
theorem N5{k:Kr}(hk:dI k.l k.ops k.ps){p:Nat}(hp:p<k.ps.length){l:List ft}(hl:l.length<=10):dI k.l k.ops (dz k.ps p l):=by
 have e:dz k.ps p l=k.ps.set p {k.ps[p]with aU:=l}:=by rw[dz,vl hp]
 rw[e];refine⟨hk.sm,hk.ll,hk.lo,by simpa using hk.lp,λx hx=>?_,λh=>hk.ne (by simpa using h)⟩
 rcases aaC hx with hx|rfl
 .exact hk.sl x hx
 .exact hl
theorem l39:bw prog f39=some c39.er:=by kernel_rfl
def abr:LC:=bL (bL (bL (bL (bL (bL (bL c39.code))))))
def abs:LC:=qM abr
theorem DK(k:Kr)(p:Nat)(hk:dI k.l k.ops k.ps)(c:Cl)(l:List Obj)(m:dh)(fd:Int):
  aw prog 2 abs (QC c39.lP (zP k l m fd).1 p c (zP k l m fd).2)
   ⟨kz 82 [(0,.rv (.one (.ptr 0 0))),(1,.rv (.one (.ptr 1 0))),(4,.rv (.one (.ptr 2 0))),(8,cA l),(9,.rv (.one (.ptr 3 0))),(10,an .i64 fd)],[xB k p,cB c,iT,.var (m.enc.map .ah)]⟩:=by
 refine nP k p hk l 0 0 rfl ?_;exact Gd (k:=bP k l 0) (a:=⟨0,m.data.length,fd,m.data⟩) (X:=[_,_])
theorem tI(k:Kr)(p:Nat)(hw:KW k p)(c:Cl):
  body prog c39 [.rv (.one (.ptr 0 0)),.rv (.one (.ptr 1 0))] [xB k p,cB c] (TC (jl k p c).1 p c (jl k p c).2):=by
 refine kI k p hw c.fd 512 0 rfl ?_;have hS:jl k p c=zR k p (bp k p c.fd 512):=rfl;rw[hS];clear hS;generalize bp k p c.fd 512=w;obtain⟨⟨o,r⟩,b,e⟩:=w;refine bt (λhe=>?_) (λhe=>?_)
 .have he:e≠0:=he;rw[zR,if_pos he];exact cZ (X:=[_,_])
 have he:e=0:=he;subst he;rw[zR,if_neg aC];refine P5 k.l hw.oi b ?_;generalize fG k.l b=R;obtain⟨l,m,e⟩:=R;refine bt (λhe=>?_) (λhe=>?_)
 .have he:e≠0:=he;rw[zQ,if_pos he];exact cZ (X:=[_,_,_])
 have he:e=0:=he;subst he;have hR:zQ k p (l,m,0)=if m.has=true then
   (if(fY (aA k.ps p) m.dS m.cj).2.2≠0 then(k,An.no (fY (aA k.ps p) m.dS m.cj).2.2)
    else zP (fq k p (fY (aA k.ps p) m.dS m.cj).1 0) l m (fY (aA k.ps p) m.dS m.cj).2.1)
  else zP k l m (-1):=by rw[zQ,if_neg aC]
 rw[hR];clear hR;obtain⟨data,has,dS,cj⟩:=m;cases has with
 |false=>
  rw[if_neg aC];refine⟨_,View.o1 5 [0,1,2,4] [] ?_,DK k p hw.kr c l ⟨data,false,dS,cj⟩ (-1)⟩
  .exact .au
 |true=>
  rw[if_pos rfl];have hg:=dy hw.hp;rw[<-ef hw.hp]at hg;have hl:(aA k.ps p).length<=10:=by rw[ef hw.hp];exact hw.kr.sl _ (aar hw.hp)
  refine af hg ?_;have i3:= @sK (aA k.ps p) dS cj hl;refine Bb (aA k.ps p) om dS cj ?_;have hkr:= @N5 k hw.kr p hw.hp;generalize fY (aA k.ps p) dS cj=T at i3|-;obtain⟨t,fd,e⟩:=T;refine⟨trivial,?_⟩;refine bt (λhe=>?_) (λhe=>?_)
  .have he:e≠0:=he;rw[if_pos he];exact cZ (X:=[_,_,_])
  have he:e=0:=he;subst he;rw[if_neg aC];refine DC k p hw.kr hw.hp t 0 0 rfl ?_;refine⟨_,View.o1 5 [0,1,2,4] [] ?_,DK (fq k p t 0) p (hkr i3) c l ⟨data,true,dS,cj⟩ fd⟩
  .exact .au
theorem Kf(k:Kr)(p:Nat)(hw:KW k p)(c:Cl):ap prog 39 [.rv (.one (.ptr 0 0)),.rv (.one (.ptr 1 0))] [xB k p,cB c] (TC (jl k p c).1 p c (jl k p c).2):=
 b8 func39 l39 (tI k p hw c)
end Kn
def c37:LF:= ⟨69,[.cell true 4 2],(.seq (.ai [qu 2 (.alloc [qd 0,qd 0,qd 0,.aK])]) (.seq (.ai [qm 10 0,qu 11 (.aO 10),qf 12 0 11,qf 13 0 12,ql 14 13,qu 15 (qc 71 [14]),qm 9 15,qu 16 (.ext 9 0),qu 17 (.ext 9 1),qu 18 (.ext 9 2),qu 4 (.alloc [qd 0,qd 0]),qm 3 16,qw (.store 2 4 17),qm 5 18]) (.seq (.seq (.ai [qm 19 5,qu 20 (.aJ .neq 19 (qi 0))]) (.cond 20 (.seq (.ai [qm 21 5,qu 22 (.build [qd 0,qd 0,qd 0,.aK] [(0,1,21)]),qw (.store 4 2 22)]) .ret) .skip)) (.seq (.ai [qm 23 0,qu 24 (.aO 23),qf 25 0 24,qL 26 3 25,qu 27 (qc 59 [26]),qu 6 (.alloc [.aK,.aK,.aK]),qw (.store 3 6 27)]) (.seq (.ai [qm 28 3,qf 29 0 6,qw (.store 1 29 28)]) (.cU (.seq (.bR [qL 31 3 6,qm 32 0,qu 33 (.aO 32),qf 34 3 33,ql 35 34,qu 36 (.B7 2 1 4 (qi 0)),ql 37 36,qu 38 (qc 72 [31,35,37,qi 896]),qm 30 38,qu 39 (.ext 30 0),qu 40 (.ext 30 1),qu 41 (.ext 30 2),qw (.store 3 6 39),qm 7 40,qm 5 41] [(eh 7 0 (.cons 7 (some []) (eh 4 8 (.cons 12 (some []) (.cons 13 none (.cons 14 none .nil))))))]) (.seq (.seq (.ai [qm 42 5,qu 43 (.aJ .neq 42 (qi 0))]) (.cond 43 (.seq (.ai [qm 44 5,qu 45 (.build [qd 0,qd 0,qd 0,.aK] [(0,1,44)]),qw (.store 4 2 45)]) .ret) .skip)) (.seq (.bR [qL 47 3 6,qm 48 0,qu 49 (.aO 48),qf 50 3 49,ql 51 50,qu 52 (.B7 2 1 4 (qi 1)),ql 53 52,qu 54 (qc 72 [47,51,53,qi 896]),qm 46 54,qu 55 (.ext 46 0),qu 56 (.ext 46 1),qu 57 (.ext 46 2),qw (.store 3 6 55),qm 8 56,qm 5 57] [(eh 7 0 (.cons 7 (some []) (eh 4 8 (.cons 12 (some []) (.cons 13 none (.cons 14 none .nil))))))]) (.seq (.seq (.ai [qm 58 5,qu 59 (.aJ .neq 58 (qi 0))]) (.cond 59 (.seq (.ai [qm 60 5,qu 61 (.build [qd 0,qd 0,qd 0,.aK] [(0,1,60)]),qw (.store 4 2 61)]) .ret) .skip)) (.seq (.ai [qm 62 0,qL 63 3 6,qu 64 (.aO 62),qf 65 0 64,qw (.store 3 65 63)]) (.seq (.ai [qm 66 7,qm 67 8,qu 68 (.build [qd 0,qd 0,qd 0,.aK] [(1,1,66),(2,1,67)]),qw (.store 4 2 68)]) .ret))))))))))))⟩
namespace Kn
def uZ(p:Nat)(a:Kr×Int×Int)(e1:Int)(k:Kr):Kr×An:=
 if a.2.2≠0 then(k,An.no a.2.2)
 else if(aL a.1 p e1 896).2.2≠0 then(k,An.no (aL a.1 p e1 896).2.2)
 else((aL a.1 p e1 896).1,⟨0,a.2.1,(aL a.1 p e1 896).2.1,[]⟩)
def zS(k:Kr)(p:Nat)(P:List Obj×(Int×Int)×Int):Kr×An:=
 if P.2.2≠0 then(k,An.no P.2.2)else uZ p (aL ⟨P.1,k.ops,k.ps⟩ p P.2.1.1 896) P.2.1.2 k
def jR(k:Kr)(p:Nat):Kr×An:=zS k p (fz k.l)
structure Ug(k:Kr)(p:Nat)(P:List Obj×(Int×Int)×Int):Prop where
 a:P.2.2=0->dI P.1 k.ops k.ps
 b:P.2.2=0->(aL ⟨P.1,k.ops,k.ps⟩ p P.2.1.1 896).2.2=0->dI (aL ⟨P.1,k.ops,k.ps⟩ p P.2.1.1 896).1.l (aL ⟨P.1,k.ops,k.ps⟩ p P.2.1.1 896).1.ops (aL ⟨P.1,k.ops,k.ps⟩ p P.2.1.1 896).1.ps/\p<(aL ⟨P.1,k.ops,k.ps⟩ p P.2.1.1 896).1.ps.length
theorem l37:bw prog f37=some c37.er:=by kernel_rfl
def abt:LC:=bL (bL (bL (bL (bL c37.code))))
def abu:LC:=qM abt
def kB(k:Kr):Bk:= .var ((kC k.l k.ops k.ps).map .ah)
theorem XF(k:Kr):kB k≠.aR:=by intro h;cases h
def TP(k:Kr)(p:Nat)(a:An)(r:CV)(m:Mem):Prop:=∃r' m',View 1 ⟨[r],m⟩ ⟨[r'],m'⟩/\r'=a.cv/\m'=[xB k p]
theorem H6{k:Kr}{p:Nat}{X:Mem}{e n x:Int}:TP k p ⟨e,n,x,[]⟩ (.rv (.agg [.ah (.val (.int .i64 e)),.ah (.val (.int .i64 n)),.ah (.val (.int .i64 x)),.aK])) (xB k p::X):=
 ⟨_,_,View.of (X.length+1) [0] [] rfl rfl rfl rfl rfl (by simp[eI,Nat.blt]) (.put NW .nil) (.pt rfl rfl (.eq rfl (nf _ _)) (.nil _)),rfl,rfl⟩
theorem N6(k:Kr)(p:Nat)(k1:Kr)(hp:p<k1.ps.length)(hk:dI k1.l k1.ops k1.ps)(e0 e1:Int)(hb:(aL k1 p e0 896).2.2=0->dI (aL k1 p e0 896).1.l (aL k1 p e0 896).1.ops (aL k1 p e0 896).1.ps/\p<(aL k1 p e0 896).1.ps.length):
  aw prog 1 abu (oC prog c37.lP (TP (uZ p (aL k1 p e0 896) e1 k).1 p (uZ p (aL k1 p e0 896) e1 k).2))
   ⟨kz 69 [(0,.rv (.one (.ptr 0 0))),(2,.rv (.one (.ptr 1 0))),(4,.rv (.one (.ptr 2 0))),(6,.rv (.one (.ptr 3 0)))],[xB k p,iT,.var [.ah (.val (.int .i64 e0)),.ah (.val (.int .i64 e1))],kB k1]⟩:=by
 refine tV k1 hk p hp e0 896 ?_;generalize aL k1 p e0 896=A at hb|-;obtain⟨k2,fd,e⟩:=A;refine⟨trivial,trivial,?_⟩;refine bt (λhe=>?_) (λhe=>?_)
 .have he:e≠0:=he;rw[uZ,if_pos he];exact H6 (X:=[_,_,_])
 have he:e=0:=he;subst he;obtain⟨oL,yh⟩:=hb rfl;have e2:uZ p (k2,fd,0) e1 k=if(aL k2 p e1 896).2.2≠0 then(k,An.no (aL k2 p e1 896).2.2)else((aL k2 p e1 896).1,⟨0,fd,(aL k2 p e1 896).2.1,[]⟩):=by rw[uZ,if_neg aC]
 rw[e2];refine tV k2 oL p yh e1 896 ?_;generalize aL k2 p e1 896=B;obtain⟨k3,fI,e⟩:=B;refine⟨trivial,trivial,?_⟩;refine bt (λhe=>?_) (λhe=>?_)
 .have he:e≠0:=he;rw[if_pos he];exact H6 (X:=[_,_,_])
 have he:¬e≠0:=λh=>h he
 rw[if_neg he];exact H6 (k:=k3) (X:=[_,_,_])
theorem Gm(k:Kr)(p:Nat)(hw:KW k p)(hi:Ug k p (fz k.l)):
  body prog c37 [.rv (.one (.ptr 0 0))] [xB k p] (TP (jR k p).1 p (jR k p).2):=by
 refine P3 k.l hw.oi ?_;have hS:jR k p=zS k p (fz k.l):=rfl;rw[hS];clear hS;generalize fz k.l=P at hi|-;obtain⟨l,⟨e0,e1⟩,e⟩:=P;refine bt (λhe=>?_) (λhe=>?_)
 .have he:e≠0:=he;rw[zS,if_pos he];exact H6 (X:=[_,_])
 have he:e=0:=he;subst he;rw[zS,if_neg aC];refine iN k.l k.ops k.ps hw.oi hw.kr.lo hw.kr.lp hw.kr.sl hw.kr.ne ?_;refine⟨_,View.o1 7 [0,1,2,6] [3,4,5] ?_,N6 k p ⟨l,k.ops,k.ps⟩ hw.hp (hi.a rfl) e0 e1 (hi.b rfl)⟩
 .exact .pt rfl rfl (.eq rfl (nf _ _)) (.pt rfl rfl (.eq rfl (by simp[iT])) (.pe rfl rfl rfl (.pt rfl rfl (fh.var (.cons (.bg (.ah _)) (.cons (.fE (iy rfl rfl)) (.cons (.fE (iy rfl rfl)) .nil)))) (.nil _))))
theorem N7(k:Kr)(p:Nat)(hw:KW k p)(hi:Ug k p (fz k.l)){m:Mem}(id:Nat)(hb:cD m id=some (xB k p)){K:CV->Mem->Prop}(hK:K (jR k p).2.cv (aW m id (xB (jR k p).1 p))):
  ap prog 37 [.rv (.one (.ptr id 0))] m K:=
 H2 (args:=[]) (λ_=>rfl) (λ_=>rfl)
  (bH (b8 func37 l37 (Gm k p hw hi)) λr m1⟨r',m',hv,hq⟩=>⟨r',m',hv,hq⟩) id hb hK
end Kn
def c40:LF:= ⟨195,[.cell true 4 4],(.seq (.ai [qu 4 (.alloc [qd 0,qd 0,qd 0,.aK])]) (.seq (.seq (.ai [qm 17 1,qu 18 (.aO 17),qf 19 1 18,ql 20 19]) (.block 0 (.seq (.ai [qu 22 (.aJ .eql 20 (qi 1)),qm 21 22]) (.cond 21 (.seq (.ai [qm 23 0,qm 24 0,qu 25 (.aO 24),qf 26 0 25,qL 27 3 26,qu 28 (qc 59 [27]),qu 29 (.aO 23),qf 30 0 29,qw (.store 3 30 28)]) (.seq (.bR [qm 31 0,qu 32 (.aO 31),qf 33 0 32,qf 34 2 33,ql 35 34,qm 36 0,qu 37 (.aO 36),qf 38 3 37,ql 39 38,qu 40 (.cr 4 35 39),qf 41 1 40,qw (.store 1 41 (qb true))] [(eh 11 0 (.cons 11 (some []) .nil))]) (.seq (.ai [qu 42 (.build [qd 0,qd 0,qd 0,.aK] []),qw (.store 4 4 42)]) .ret))) (.seq (.ai [qu 44 (.aJ .eql 20 (qi 22)),qm 43 44]) (.cond 43 (.seq (.seq (.bR [qm 45 0,qu 46 (.aO 45),qf 47 0 46,qf 48 2 47,ql 49 48,qm 50 0,qu 51 (.aO 50),qf 52 3 51,ql 53 52,qu 54 (.cr 4 49 53),qf 55 1 54,ql 56 55] [eh 12 0 .nil]) (.cond 56 (.seq (.ai [qu 57 (.build [qd 0,qd 0,qd 0,.aK] [(1,1,qi 1)]),qw (.store 4 4 57)]) .ret) .skip)) (.seq (.ai [qu 58 (.build [qd 0,qd 0,qd 0,.aK] []),qw (.store 4 4 58)]) .ret)) (.seq (.ai [qu 60 (.aJ .eql 20 (qi 18)),qm 59 60]) (.cond 59 (.seq (.bR [qm 62 0,qu 63 (.aO 62),qf 64 0 63,qL 65 3 64,qm 66 0,qu 67 (.aO 66),qf 68 3 67,ql 69 68,qu 70 (qc 77 [65,69]),qm 61 70,qu 71 (.ext 61 0),qu 72 (.ext 61 1),qu 73 (.ext 61 2),qu 74 (.ext 61 3),qu 5 (.alloc [.aK,.aK,.aK]),qw (.store 3 5 71),qm 6 72,qm 7 73,qm 8 74] [(eh 8 0 (.vJ (.cons 8 (some []) (eh 5 9 (.cons 14 (some [7,3]) (.cons 15 (some []) (eh 3 16 .nil))))) (.cons 14 (some [7,3]) (.cons 8 (some []) (eh 5 9 (.cons 15 (some []) (eh 3 16 .nil)))))))]) (.seq (.seq (.ai [qm 75 8,qu 76 (.aJ .neq 75 (qi 0))]) (.cond 76 (.seq (.ai [qm 77 8,qu 78 (.build [qd 0,qd 0,qd 0,.aK] [(0,1,77)]),qw (.store 4 4 78)]) .ret) .skip)) (.seq (.ai [qm 79 0,qL 80 3 5,qu 81 (.aO 79),qf 82 0 81,qw (.store 3 82 80)]) (.seq (.ai [qm 83 6,qm 84 7,qu 85 (.build [qd 0,qd 0,qd 0,.aK] [(1,1,83),(2,1,84)]),qw (.store 4 4 85)]) .ret)))) (.seq (.ai [qu 87 (.aJ .eql 20 (qi 19)),qm 86 87]) (.cond 86 (.seq (.bR [qm 89 0,qu 90 (.aO 89),qf 91 0 90,qL 92 3 91,qm 93 0,qu 94 (.aO 93),qf 95 3 94,ql 96 95,qm 97 1,qu 98 (.aO 97),qf 99 4 98,ql 100 99,qu 101 (qc 78 [92,96,100]),qm 88 101,qu 102 (.ext 88 0),qu 103 (.ext 88 1),qu 9 (.alloc [.aK,.aK,.aK]),qw (.store 3 9 102),qm 10 103] [(eh 12 0 (.vJ (.cons 12 (some []) (eh 3 13 (.cons 16 (some [11,7,3]) (.cons 17 (some []) (.cons 18 none .nil))))) (.cons 16 (some [11,7,3]) (.cons 12 (some []) (eh 3 13 (.cons 17 (some []) (.cons 18 none .nil)))))))]) (.seq (.seq (.ai [qm 104 10,qu 105 (.aJ .eql 104 (qi 0))]) (.cond 105 (.ai [qm 106 0,qL 107 3 9,qu 108 (.aO 106),qf 109 0 108,qw (.store 3 109 107)]) .skip)) (.seq (.ai [qm 110 10,qu 111 (.build [qd 0,qd 0,qd 0,.aK] [(0,1,110)]),qw (.store 4 4 111)]) .ret))) .skip)))))))))) (.seq (.ai [qu 112 (.ut),qw (.vI (.i .i64) 112 (qi 20) (qi 2048)),qw (.vI (.i .i64) 112 (qi 21) (qi 1024)),qm 113 112,qm 114 1,qu 115 (.aO 114),qf 116 1 115,ql 117 116,qu 118 (.Ah (.one (qd 0)) (.i .i64) 113 117 false),qm 11 118]) (.cU (.seq (.ai [qm 120 0,qm 121 1,qu 122 (.aO 121),qf 123 2 122,ql 124 123,qm 125 11,qu 126 (qc 56 [120,124,125]),qm 119 126,qu 127 (.ext 119 0),qu 128 (.ext 119 1),qu 129 (.ext 119 2),qu 12 (.alloc [qd 0,qd 0]),qw (.store 2 12 127),qm 13 128,qm 14 129]) (.seq (.block 1 (.seq (.ai [qm 131 14,qu 132 (.aJ .neq 131 (qi 0)),qm 130 132]) (.cond 130 (.seq (.ai [qm 133 14,qu 134 (.build [qd 0,qd 0,qd 0,.aK] [(0,1,133)]),qw (.store 4 4 134)]) .ret) (.seq (.ai [qm 136 0,qu 137 (.aO 136),qf 138 0 137,qf 139 0 138,ql 140 139,qm 141 13,qu 142 (.cr 9 140 141),qf 143 0 142,ql 144 143,qu 145 (.aJ .neq 144 (qi 5)),qm 135 145]) (.cond 135 (.seq (.ai [qu 146 (.build [qd 0,qd 0,qd 0,.aK] [(0,1,qi 8)]),qw (.store 4 4 146)]) .ret) .skip))))) (.seq (.ai [qm 147 0,qu 148 (.aO 147),qf 149 0 148,qf 150 0 149,ql 151 150,qm 152 13,qu 153 (.cr 9 151 152),qf 154 6 153,ql 155 154,qm 15 155]) (.seq (.seq (.ai [qm 156 1,qu 157 (.aO 156),qf 158 1 157,ql 159 158,qu 160 (.aJ .eql 159 (qi 21))]) (.cond 160 (.seq (.seq (.ai [qm 161 0,qu 162 (.aO 161),qf 163 0 162,qL 164 3 163,qm 165 15,qu 166 (qc 29 [164,165])]) (.cond 166 (.seq (.ai [qu 167 (.build [qd 0,qd 0,qd 0,.aK] [(0,1,qi 16)]),qw (.store 4 4 167)]) .ret) .skip)) (.seq (.ai [qm 168 0,qu 169 (.aO 168),qf 170 0 169,qf 171 2 170,ql 172 171,qm 173 15,qu 174 (.cr 4 172 173),qf 175 2 174,ql 176 175,qu 177 (.build [qd 0,qd 0,qd 0,.aK] [(1,1,176)]),qw (.store 4 4 177)]) .ret)) .skip)) (.seq (.ai [qm 179 0,qu 180 (.aO 179),qf 181 0 180,qL 182 3 181,qm 183 15,qu 184 (qc 78 [182,183,qi 255]),qm 178 184,qu 185 (.ext 178 0),qu 186 (.ext 178 1),qu 16 (.alloc [.aK,.aK,.aK]),qw (.store 3 16 185),qm 14 186]) (.seq (.seq (.ai [qm 187 14,qu 188 (.aJ .eql 187 (qi 0))]) (.cond 188 (.ai [qm 189 0,qL 190 3 16,qu 191 (.aO 189),qf 192 0 191,qw (.store 3 192 190)]) .skip)) (.seq (.ai [qm 193 14,qu 194 (.build [qd 0,qd 0,qd 0,.aK] [(0,1,193)]),qw (.store 4 4 194)]) .ret)))))))))))⟩
namespace Kn
def iV(ps:List bm)(p:Nat):Bool:=match ps[p]? with|some x=>x.fenced|none=>false
def pf(ps:List bm)(p:Nat):List bm:=match ps[p]? with|some x=>ps.set p {x with fenced:=true}|none=>ps
def Gn(ps:List bm)(z:Int):Int:=match ps[z.toNat]? with|some x=>x.code|none=>0
def ko(k:Kr)(e:Kr×Int):Kr×An:=(if e.2=0 then e.1 else k,An.no e.2)
def qj(k:Kr)(f:Kr×Int×Int×Int):Kr×An:=if f.2.2.2≠0 then(k,An.no f.2.2.2)else(f.1,⟨0,f.2.1,f.2.2.1,[]⟩)
def ue(k:Kr)(c:Cl)(o:Obj):Kr×An:=
 if o.ag≠5 then(k,An.no 8)
 else if c.ag=21 then(if fj k.ps o.bb=true then(k,An.no 16)else(k,⟨0,Gn k.ps o.bb,0,[]⟩))
 else ko k (iu k o.bb 255)
def mB(k:Kr)(c:Cl)(w:(Int×Int)×Int×Int):Kr×An:=if w.2.2≠0 then(k,An.no w.2.2)else ue k c (lm k.l w.2.1)
def fc(k:Kr)(p:Nat)(c:Cl):Kr×An:=
 if c.ag=1 then(⟨k.l,k.ops,pf k.ps p⟩,⟨0,0,0,[]⟩)
 else if c.ag=22 then(k,⟨0,if iV k.ps p=true then 1 else 0,0,[]⟩)
 else if c.ag=18 then qj k (gH k p)
 else if c.ag=19 then ko k (iu k p c.n)
 else mB k c (bp k p c.fd (if c.ag=20 then 2048 else 1024))
def q9(x:Int):Prop:=x=1\/x=22\/x=18\/x=19\/x=20\/x=21
theorem l40:bw prog f40=some c40.er:=by kernel_rfl
def XG:LC:=bL (bL (bL c40.code))
def XH:LC:=qM XG
theorem Gp(k:Kr)(p:Nat)(hw:KW k p)(c:Cl)(need:Int)(hq:∀o,o∈k.l->o.ag=5->∃n:Nat,o.bb=n/\n<k.ps.length):
  aw prog 2 XH (QC c40.lP (mB k c (bp k p c.fd need)).1 p c (mB k c (bp k p c.fd need)).2)
   ⟨kz 195 [(0,.rv (.one (.ptr 0 0))),(1,.rv (.one (.ptr 1 0))),(4,.rv (.one (.ptr 2 0))),(11,an .i64 need)],[xB k p,cB c,iT]⟩:=by
 refine kI k p hw c.fd need 0 rfl ?_;have hh:= @KW.held k p hw c.fd need;generalize bp k p c.fd need=w at hh|-;obtain⟨⟨o,r⟩,b,e⟩:=w;refine bt (λhe=>?_) (λhe=>?_)
 .have he:e≠0:=he;rw[mB,if_pos he];exact cZ (X:=[_,_])
 have he:e=0:=he;subst he;obtain⟨n,j,h1,h2,h3,h4,h5⟩:=hh rfl;have h3:b=j:=h3;subst h3;have e1:mB k c ((o,r),((j:Nat):Int),0)=ue k c k.l[j]:=by rw[mB,if_neg aC,ub h4]
 rw[e1];have Th:=hq _ (aar h4);have hg:=iR h4;generalize k.l[j]=ob at Th hg|-;refine af hg ?_;refine bt (λh6=>?_) (λh6=>?_)
 .have h6:ob.ag≠5:=h6;rw[ue,if_pos h6];exact cZ (X:=[_,_])
 have h6:ob.ag=5:=h6;rw[ue,if_neg (λh=>h h6)]
 obtain⟨q,HF,Pl⟩:=Th h6;refine af hg ?_;refine bs (λh7=>?_) (λh7=>?_)
 .have h7:c.ag=21:=h7;rw[if_pos h7];refine oX k.l k.ops k.ps ob.bb ?_;cases hl:fj k.ps ob.bb with
  |true=>
   rw[if_pos rfl];exact cZ (X:=[_,_])
  |false=>
   rw[if_neg aC];have hc:Gn k.ps ob.bb=k.ps[q].code:=by rw[Gn,HF,aae,vl Pl]
   rw[hc];refine af (x:=[.val (.bool k.ps[q].aP),.val (.bool k.ps[q].fenced),.val (.int .i64 k.ps[q].code),yC k.ps[q].aU]) (by rw[HF];exact dy Pl) ?_
   exact cZ (X:=[_,_])
 .have h7:¬c.ag=21:=h7;rw[if_neg h7];refine Ba k hw.kr ob.bb 255 ?_;generalize iu k ob.bb 255=E;obtain⟨k2,e⟩:=E;refine bs (λhe=>?_) (λhe=>?_)
  .have he:e=0:=he;subst he;rw[ko,if_pos rfl];exact cZ (X:=[_,_,_])
  .have he:¬e=0:=he;rw[ko,if_neg he];exact cZ (X:=[_,_,_])
theorem DL{ps:List bm}{n:Nat}(hn:n<ps.length):aW (aa (ps.map bm.enc)) n ((bm.enc ⟨ps[n].aP,true,ps[n].code,ps[n].aU⟩).map .ah)=aa ((pf ps n).map bm.enc):=by
 have:pf ps n=ps.set n {ps[n]with fenced:=true}:=by rw[pf,vl hn]
 rw[this,aY,aa,aa,abM,abM]
theorem DM(k:Kr)(p:Nat)(hw:KW k p)(c:Cl)(hc:c.ag=1):
  body prog c40 [.rv (.one (.ptr 0 0)),.rv (.one (.ptr 1 0))] [xB k p,cB c] (TC ⟨k.l,k.ops,pf k.ps p⟩ p c ⟨0,0,0,[]⟩):=by
 obtain⟨bb,ag,fd,fI,n,bv,a8,cJ,data⟩:=c;have hc:ag=1:=hc;subst hc;refine iN k.l k.ops k.ps hw.oi hw.kr.lo hw.kr.lp hw.kr.sl hw.kr.ne ?_;refine af (ml hw.hp) ?_;refine af (bJ bm.enc k.ps hw.hp) ?_;refine⟨trivial,_,_,View.o 6 [0,1] [3,4,5] (.put NW .nil) (.pt rfl rfl (Ue (k:=⟨k.l,k.ops,pf k.ps p⟩) (iy rfl rfl) (iy rfl rfl) (iy rfl (congrArg (λx=>some (Bk.row 4 x)) (DL hw.hp)))) (.pt rfl rfl (.eq rfl (jk _)) (.nil _))),rfl,rfl⟩
theorem Gq(k:Kr)(p:Nat)(hw:KW k p)(c:Cl)(hc:c.ag=22):
  body prog c40 [.rv (.one (.ptr 0 0)),.rv (.one (.ptr 1 0))] [xB k p,cB c] (TC k p c ⟨0,if iV k.ps p=true then 1 else 0,0,[]⟩):=by
 obtain⟨bb,ag,fd,fI,n,bv,a8,cJ,data⟩:=c;have hc:ag=22:=hc;subst hc;have hp:=hw.hp;have hf:iV k.ps p=k.ps[p].fenced:=by rw[iV,vl hp]
 rw[hf];refine af (dy hp) ?_;cases k.ps[p].fenced with
 |true=>exact cZ (X:=[_])
 |false=>exact cZ (X:=[_])
theorem Gr(k:Kr)(p:Nat)(hw:KW k p)(c:Cl)(hc:c.ag=18):
  body prog c40 [.rv (.one (.ptr 0 0)),.rv (.one (.ptr 1 0))] [xB k p,cB c] (TC (qj k (gH k p)).1 p c (qj k (gH k p)).2):=by
 obtain⟨bb,ag,fd,fI,n,bv,a8,cJ,data⟩:=c;have hc:ag=18:=hc;subst hc;have XI:k.l.length<=4194303:=by have:=hw.l40;omega
 refine⟨?_,?_⟩
 .refine HR k hw.kr XI p ?_;generalize gH k p=F;obtain⟨k2,ch,fd,e⟩:=F;refine⟨trivial,⟨rfl,rfl,trivial⟩,trivial,?_⟩;refine bt (λhe=>?_) (λhe=>?_)
  .have he:e≠0:=he;rw[qj,if_pos he];exact cZ (X:=[_,_])
  .have he:¬e≠0:=λh=>h he
   rw[qj,if_neg he];exact cZ (k:=k2) (X:=[_,_])
 .refine⟨⟨rfl,rfl,trivial⟩,?_⟩;refine HR k hw.kr XI p ?_;generalize gH k p=F;obtain⟨k2,ch,fd,e⟩:=F;refine⟨trivial,trivial,?_⟩;refine bt (λhe=>?_) (λhe=>?_)
  .have he:e≠0:=he;rw[qj,if_pos he];exact cZ (X:=[_,_])
  .have he:¬e≠0:=λh=>h he
   rw[qj,if_neg he];exact cZ (k:=k2) (X:=[_,_])
theorem Gt(k:Kr)(p:Nat)(hw:KW k p)(c:Cl)(hc:c.ag=19):
  body prog c40 [.rv (.one (.ptr 0 0)),.rv (.one (.ptr 1 0))] [xB k p,cB c] (TC (ko k (iu k p c.n)).1 p c (ko k (iu k p c.n)).2):=by
 obtain⟨bb,ag,fd,fI,n,bv,a8,cJ,data⟩:=c;have hc:ag=19:=hc;subst hc;show body prog c40 _ _ (TC (ko k (iu k p n)).1 p _ (ko k (iu k p n)).2);refine⟨?_,?_⟩
 .refine Ba k hw.kr p n ?_;generalize iu k p n=F;obtain⟨k2,e⟩:=F;refine⟨trivial,⟨rfl,rfl,rfl,trivial⟩,trivial,?_⟩;refine bs (λhe=>?_) (λhe=>?_)
  .have he:e=0:=he;rw[ko,if_pos he];exact cZ (k:=k2) (X:=[_,_])
  .have he:¬e=0:=he;rw[ko,if_neg he];exact cZ (X:=[_,_])
 .refine⟨⟨rfl,rfl,rfl,trivial⟩,?_⟩;refine Ba k hw.kr p n ?_;generalize iu k p n=F;obtain⟨k2,e⟩:=F;refine⟨trivial,trivial,?_⟩;refine bs (λhe=>?_) (λhe=>?_)
  .have he:e=0:=he;rw[ko,if_pos he];exact cZ (k:=k2) (X:=[_,_])
  .have he:¬e=0:=he;rw[ko,if_neg he];exact cZ (X:=[_,_])
theorem xJ(k:Kr)(p:Nat)(hw:KW k p)(c:Cl)(hc:c.ag=20\/c.ag=21)(hq:∀o,o∈k.l->o.ag=5->∃n:Nat,o.bb=n/\n<k.ps.length):
  body prog c40 [.rv (.one (.ptr 0 0)),.rv (.one (.ptr 1 0))] [xB k p,cB c] (TC (mB k c (bp k p c.fd (if c.ag=20 then 2048 else 1024))).1 p c (mB k c (bp k p c.fd (if c.ag=20 then 2048 else 1024))).2):=by
 have hs:=λneed=>Gp k p hw c need hq
 obtain⟨bb,ag,fd,fI,n,bv,a8,cJ,data⟩:=c;rcases hc with hc|hc
 .have hc:ag=20:=hc;subst hc;refine⟨_,View.o1 4 [0,1,2] [] ?_,hs 2048⟩
  .exact .au
 .have hc:ag=21:=hc;subst hc;refine⟨_,View.o1 4 [0,1,2] [] ?_,hs 1024⟩
  .exact .au
theorem jA(k:Kr)(p:Nat)(hw:KW k p)(c:Cl)(hc:q9 c.ag)(hq:∀o,o∈k.l->o.ag=5->∃n:Nat,o.bb=n/\n<k.ps.length):
  ap prog 40 [.rv (.one (.ptr 0 0)),.rv (.one (.ptr 1 0))] [xB k p,cB c] (TC (fc k p c).1 p c (fc k p c).2):=by
 refine b8 func40 l40 ?_;rcases hc with hc|hc|hc|hc|hc|hc
 .rw[fc,if_pos hc];exact DM k p hw c hc
 .rw[fc,if_neg om,if_pos hc];exact Gq k p hw c hc
 .rw[fc,if_neg om,if_neg om,if_pos hc];exact Gr k p hw c hc
 .rw[fc,if_neg om,if_neg om,if_neg om,if_pos hc];exact Gt k p hw c hc
 .rw[fc,if_neg om,if_neg om,if_neg om,if_neg om];exact xJ k p hw c (.inl hc) hq
 .rw[fc,if_neg om,if_neg om,if_neg om,if_neg om];exact xJ k p hw c (.inr hc) hq
end Kn
def c95:LF:= ⟨74,[.tmp 6],(.seq (.ai [qu 3 (.box 0),qu 6 (.aI (qi 0))]) (.seq (.seq (.ai [qf 7 0 3,ql 8 7]) (.block 0 (.seq (.ai [qu 10 (.aJ .eql 8 (qi 1)),qm 9 10]) (.cond 9 (.seq (.ai [qf 11 3 3,ql 12 11,qu 13 (.aJ .lss 12 (qi 0)),qm 14 13,qg 15 (.bU 3 3) 14 false,qg 16 (.load false 1 15) 14 false,qg 17 (.aJ .geq 16 (qi 6)) 14 false,qu 18 (.pick 14 (qb true) 17)]) (.cond 18 (.seq (.ai [qu 6 (.aI (qi 3))]) .ret) .skip)) (.seq (.seq (.ai [qu 20 (.aJ .eql 8 (qi 2)),qm 19 20]) (.cond 19 .skip (.seq (.ai [qu 21 (.aJ .eql 8 (qi 3)),qm 19 21]) (.cond 19 .skip (.ai [qu 22 (.aJ .eql 8 (qi 4)),qm 19 22]))))) (.cond 19 (.seq (.seq (.ai [qf 23 3 3,ql 24 23,qu 25 (.aJ .lss 24 (qi 0)),qm 26 25,qg 27 (.bU 3 3) 26 false,qg 28 (.load false 1 27) 26 false,qg 29 (.aJ .geq 28 (qi 2147483648)) 26 false,qu 30 (.pick 26 (qb true) 29),qm 31 30,qg 32 (.aI 1) 31 false,qg 33 (.bU 1 3) 31 false,qg 34 (.load false 1 33) 31 false,qg 35 (.aI 2) 31 false,qg 36 (qc 127 [32,34,qi 40,35]) 31 false,qg 37 (.un .not 36) 31 false,qu 38 (.pick 31 (qb true) 37),qm 39 38,qg 40 (.aI 1) 39 false,qg 41 (.bU 2 3) 39 false,qg 42 (.load false 1 41) 39 false,qg 43 (.aI 2) 39 false,qg 44 (qc 127 [40,42,qi 40,43]) 39 false,qg 45 (.un .not 44) 39 false,qu 46 (.pick 39 (qb true) 45)]) (.cond 46 (.seq (.ai [qu 6 (.aI (qi 3))]) .ret) .skip)) (.seq (.ai [qu 6 (.aI (qi 0))]) .ret)) (.seq (.ai [qu 48 (.aJ .eql 8 (qi 5)),qm 47 48]) (.cond 47 (.seq (.ai [qm 49 1,qf 50 3 3,ql 51 50,qm 52 2,qm 53 2,qu 54 (qc 127 [49,51,52,53]),qu 55 (.un .not 54)]) (.cond 55 (.seq (.ai [qu 6 (.aI (qi 3))]) .ret) .skip)) (.seq (.ai [qu 57 (.aJ .eql 8 (qi 6)),qm 56 57]) (.cond 56 (.seq (.ai [qf 58 3 3,ql 59 58,qu 60 (.aJ .neq 59 (qi 1)),qm 61 60,qg 62 (.bU 3 3) 61 true,qg 63 (.load false 1 62) 61 true,qg 64 (.aJ .neq 63 (qi 0)) 61 true,qu 65 (.pick 61 64 (qb false))]) (.cond 65 (.seq (.ai [qu 6 (.aI (qi 3))]) .ret) .skip)) (.seq (.ai [qu 6 (.aI (qi 1))]) .ret))))))))))) (.seq (.seq (.ai [qf 66 1 3,ql 67 66,qu 68 (.aJ .neq 67 (qi 0)),qm 69 68,qg 70 (.bU 2 3) 69 false,qg 71 (.load false 1 70) 69 false,qg 72 (.aJ .neq 71 (qi 0)) 69 false,qu 73 (.pick 69 (qb true) 72)]) (.cond 73 (.seq (.ai [qu 6 (.aI (qi 2))]) .ret) .skip)) (.seq (.ai [qu 6 (.aI (qi 0))]) .ret))))⟩
def c127:LF:= ⟨24,[.tmp 8],(.seq (.ai [qu 8 (.aI (qb false))]) (.seq (.ai [qm 9 1,qu 10 (.aJ .geq 9 (qi 0)),qm 11 10,qg 12 (.aI 1) 11 true,qg 13 (.aI 2) 11 true,qg 14 (.aJ .leq 12 13) 11 true,qu 15 (.pick 11 14 (qb false)),qm 16 15,qg 17 (.aI 0) 16 true,qg 18 (.aJ .add 17 (qi 1)) 16 true,qg 19 (.aI 1) 16 true,qg 20 (.aJ .add 18 19) 16 true,qg 21 (.aI 3) 16 true,qg 22 (.aJ .lss 20 21) 16 true,qu 23 (.pick 16 22 (qb false)),qm 8 23]) .ret))⟩
structure dq where
 op:Int
 jt:Int
 jf:Int
 k:Int
 deriving DecidableEq
def dq.enc(i:dq):List Dt:=[.val (.int .i64 i.op),.val (.int .i64 i.jt),.val (.int .i64 i.jf),.val (.int .i64 i.k)]
def dq.cv(i:dq):CV:= .rv (.agg (i.enc.map .ah))
def xK(l:List dq):Dt:= .sl 4 (l.map dq.enc)
def sL(l:List dq):CV:= .rv (.one (.ah (xK l)))
def BD(f:Int×Int):CV:= .rv (.agg [.ah (.val (.int .i64 f.1)),.ah (.val (.int .i64 f.2))])
def oe(a n xL s:Int):Bool:=decide (n>=0)&&decide (n<=xL)&&decide (a+1+n<s)
theorem l127:bw prog f127=some c127:=by kernel_rfl
theorem Kg(a n xL s:Int)(ha:0<=a)(Vc:a<=4194304)(hm:xL<=4194304):body prog c127 [an .i64 a,an .i64 n,an .i64 xL,an .i64 s] [] (λr m=>r=aE (oe a n xL s)):=by
 refine aM (λh=>?_) (λh=>?_)
 .refine aM (λh2=>?_) (λh2=>?_)
  .have e1:n>=0:=of_decide_eq_true h;have e2:n<=xL:=of_decide_eq_true h2;show aE _=aE _;rw[oe,h,h2,ip (n:=a+1) om om,ip om om];rfl
  .show aE _=aE _;rw[oe,h,h2];rfl
 .show aE _=aE _;rw[oe,h];rfl
theorem QJ(a n xL s:Int)(ha:0<=a)(Vc:a<=4194304)(hm:xL<=4194304){m:Mem}{K:CV->Mem->Prop}(h:K (aE (oe a n xL s)) m):ap prog 127 [an .i64 a,an .i64 n,an .i64 xL,an .i64 s] m K:=
 bA func127 l127 rfl (aah rfl) (Kg a n xL s ha Vc hm) rfl rfl h
def xM(i:dq):Int:=if(i.jt !=0)||(i.jf !=0)then 2 else 0
def iG(i:dq)(a s:Int):Int:=
 if(i.op==1)then(if(decide (i.k<0)||decide (i.k>=6))then 3 else xM i)
 else if(i.op==2)||(i.op==3)||(i.op==4)then(if(decide (i.k<0)||decide (i.k>=2147483648)|| !oe a i.jt 40 s|| !oe a i.jf 40 s)then 3 else 0)
 else if(i.op==5)then(if !oe a i.k s s then 3 else xM i)
 else if(i.op==6)then(if(i.k !=1)&&(i.k !=0)then 3 else xM i)
 else 1
theorem l95:bw prog f95=some c95:=by kernel_rfl
theorem Gu(i:dq)(a s:Int)(ha:0<=a)(Vc:a<=4194304)(hs:s<=4194304):body prog c95 [i.cv,an .i64 a,an .i64 s] [] (λr m=>r=an .i64 (iG i a s)):=by
 repeat' (first
  |(refine aM (λh=>?_) (λh=>?_))
  |(refine QJ _ _ _ _ ha Vc om ?_))
 all_goals(show an .i64 _=an .i64 _;refine congrArg _ ?_;simp only[iG,xM, *];try(first|rfl|simp[*]))
theorem N8(i:dq)(a s:Int)(ha:0<=a)(Vc:a<=4194304)(hs:s<=4194304){m:Mem}{K:CV->Mem->Prop}(h:K (an .i64 (iG i a s)) m):ap prog 95 [i.cv,an .i64 a,an .i64 s] m K:=
 bA func95 l95 rfl (aah rfl) (Gu i a s ha Vc hs) rfl rfl h
def c53:LF:= ⟨46,[.cell true 2 2],(.seq (.ai [qu 2 (.alloc [qd 0,qd 0])]) (.seq (.seq (.ai [qm 6 0,qu 7 (.len 1 6),qu 8 (.aJ .lss 7 (qi 1)),qm 9 8,qg 10 (.aI 0) 9 false,qg 11 (.len 1 10) 9 false,qg 12 (.aJ .gtr 11 (qi 400)) 9 false,qu 13 (.pick 9 (qb true) 12)]) (.cond 13 (.seq (.ai [qu 14 (.build [qd 0,qd 0] [(0,1,qi 5)]),qw (.store 2 2 14)]) .ret) .skip)) (.seq (.seq (.ai [qm 15 0,qu 16 (.len 1 15),qu 17 (.aI (qi 0))]) (.block 0 (.loop (.seq (.ai [qu 18 (.aJ .lss 17 16)]) (.seq (.cond 18 .skip (.exit 0)) (.seq (.block 1 (.seq (.ai [qm 19 17,qu 20 (.cr 4 15 17),qL 21 4 20,qu 4 (.alloc [qd 0,qd 0,qd 0,qd 0]),qm 3 19,qw (.store 4 4 21)]) (.seq (.ai [qL 22 4 4,qm 23 3,qm 24 0,qu 25 (.len 1 24),qu 26 (qc 95 [22,23,25]),qm 5 26]) (.seq (.ai [qm 27 5,qu 28 (.aJ .neq 27 (qi 0))]) (.cond 28 (.seq (.ai [qm 29 5,qm 30 3,qu 31 (.build [qd 0,qd 0] [(0,1,29),(1,1,30)]),qw (.store 2 2 31)]) .ret) .skip))))) (.ai [qu 32 (.aJ .add 17 (qi 1)),qm 17 32]))))))) (.seq (.seq (.ai [qm 33 0,qm 34 0,qu 35 (.len 1 34),qu 36 (.aJ .sub 35 (qi 1)),qu 37 (.cr 4 33 36),qf 38 0 37,ql 39 38,qu 40 (.aJ .neq 39 (qi 6))]) (.cond 40 (.seq (.ai [qm 41 0,qu 42 (.len 1 41),qu 43 (.aJ .sub 42 (qi 1)),qu 44 (.build [qd 0,qd 0] [(0,1,qi 2),(1,1,43)]),qw (.store 2 2 44)]) .ret) .skip)) (.seq (.ai [qu 45 (.build [qd 0,qd 0] []),qw (.store 2 2 45)]) .ret)))))⟩
def vn(s:Int):Nat->List dq->Int×Int
 |_,[]=>(0,0)
 |k,i::r=>if iG i (k:Int) s=0 then vn s (k+1) r else(iG i (k:Int) s,(k:Int))
theorem BE(s:Int):∀(l:List dq)(k:Nat),(∀(j:Nat)i,l[j]? =some i->iG i ((k+j:Nat):Int) s=0)->vn s k l=(0,0)
 | [],_,_=>rfl
 |i::r,k,h=>by
  rw[vn,if_pos (by simpa using h 0 i rfl)]
  exact BE s r (k+1) λj x hx=>by
   have:=h (j+1) x (by simpa using hx)
   rwa [show k+(j+1)=k+1+j by omega]at this
theorem DN(s:Int):∀(l:List dq)(k j:Nat)(i:dq),l[j]? =some i->(∀(j':Nat)i,j'<j->l[j']? =some i->iG i ((k+j':Nat):Int) s=0)->iG i ((k+j:Nat):Int) s≠0->vn s k l=(iG i ((k+j:Nat):Int) s,((k+j:Nat):Int))
 | [],_,j,i,h,_,_=>by simp at h
 |x::r,k,0,i,h,_,hb=>by
  simp at h;subst h;rw[vn,if_neg (by simpa using hb)];rfl
 |x::r,k,j+1,i,h,hg,hb=>by
  rw[vn,if_pos (by simpa using hg 0 x om rfl)]
  rw[show k+(j+1)=k+1+j by omega]at hb|-
  exact DN s r (k+1) j i (by simpa using h) (λj' y hj hy=>by
   have:=hg (j'+1) y om (by simpa using hy)
   rwa [show k+(j'+1)=k+1+j' by omega]at this) hb
def j7(p:List dq):Int×Int:=
 if p.length<1\/p.length>400 then(5,0)
 else if(vn p.length 0 p).1≠0 then vn p.length 0 p
 else match p[p.length-1]? with
  |some i=>if i.op=6 then(0,0)else(2,((p.length-1:Nat):Int))
  |none=>(0,0)
theorem l53:bw prog f53=some c53:=by kernel_rfl
theorem Gv(p:List dq):body prog c53 [sL p] [] (λr m=>r=BD (j7 p)):=by
 refine aM (λh=>?_) (λh0=>?_)
 .have h:p.length<1:=by have h:(((p.map dq.enc).length:Nat):Int)<1:=of_decide_eq_true h;rw[Nr]at h;omega
  rw[j7,if_pos (.inl h)];exact rfl
 .refine aM (λh=>?_) (λh1=>?_)
  .have h:p.length>400:=by have h:(((p.map dq.enc).length:Nat):Int)>400:=of_decide_eq_true h;simp at h;omega
   rw[j7,if_pos (.inr h)];exact rfl
  .have h0:¬p.length<1:=by have h:¬(((p.map dq.enc).length:Nat):Int)<1:=of_decide_eq_false h0;rw[Nr]at h;omega
   have h1:¬p.length>400:=by have h:¬(((p.map dq.enc).length:Nat):Int)>400:=of_decide_eq_false h1;rw[Nr]at h;omega
   have hc:j7 p=if(vn p.length 0 p).1≠0 then vn p.length 0 p else match p[p.length-1]? with
     |some i=>if i.op=6 then(0,0)else(2,((p.length-1:Nat):Int))
     |none=>(0,0):=by rw[j7,if_neg om]
   refine rW (λk=>k<=p.length/\∀(j:Nat)i,j<k->p[j]? =some i->iG i (j:Int) p.length=0) (λk=>[(17,an .i64 (k:Nat)),(3,.aF),(4,.aF),(5,.aF),(18,.aF),(19,.aF),(20,.aF),(21,.aF),(22,.aF),(23,.aF),(24,.aF),(25,.aF),(26,.aF),(27,.aF),(28,.aF),(32,.aF)])
    (λk=>[.var [.ah (.val (.int .i64 0)),.ah (.val (.int .i64 0))]]) (λk=>p.length-k) 0 ⟨aan _,λj i h=>absurd h (aaR j)⟩ ?_ (λk hk=>?_)
   .refine View.o1 1 [0] [] ?_
    .exact .put (by simp[bx]) rfl (.eq rfl aC) (.nil _)
   .refine aM (λh=>?_) (λh=>?_)
    .have aD:k<p.length:=by have h:(k:Int)<((p.map dq.enc).length:Int):=of_decide_eq_true h;rw[Nr]at h;omega
     have hg:dC (p.map dq.enc) (k:Nat)=some (p[k].enc):=by rw[bD,Sf,vl aD];rfl
     have hlen:(((p.map dq.enc).length:Nat):Int)=(p.length:Int):=by rw[Nr]
     refine af hg ?_;have uL:∀{m:Mem}{K:CV->Mem->Prop},K (an .i64 (iG p[k] k p.length)) m->ap prog 95 [p[k].cv,an .i64 k,an .i64 (((p.map dq.enc).length:Nat):Int)] m K:=by intro m K h;rw[hlen];exact N8 _ _ _ om om om h
     refine uL ?_;refine aM (λh3=>?_) (λh3=>?_)
     .have h3:iG p[k] k p.length≠0:=by simpa using h3
      have:=DN p.length p 0 k p[k] (vl aD) (λj i hj hi=>by simpa using hk.2 j i hj hi) (by simpa using h3)
      rw[aaM]at this;rw[hc,this,if_pos h3];exact rfl
     .have h3:iG p[k] k p.length=0:=by simpa using h3
      refine⟨k+1,⟨aD,λj i hj hi=>?_⟩,?_,View.o 2 [0] [] ?_ ?_⟩
      .rcases aaf j k with h5|h5
       .exact hk.2 j i h5 hi
       .have:j=k:=om;subst this;rw[vl aD]at hi;cases hi;exact h3
      .show p.length-(k+1)<p.length-k;omega
      .repeat(first|exact .nil|refine .aF ?_|refine .put (.bg (cP om).symm) ?_|refine .eq rfl ?_)
      .exact .put (by simp[bx]) rfl (.eq rfl aC) (.nil _)
    .have ek:¬(k:Int)<((p.map dq.enc).length:Int):=of_decide_eq_false h;rw[Nr]at ek;have fN:=BE p.length p 0 λj i hi=>by have:=(JJ.1 hi).1;simpa using hk.2 j i om hi
     rw[hc,fN,if_neg aC];have l8:p.length-1<p.length:=om;rw[vl l8];have hw:IntKind.i64.wrap ((((p.map dq.enc).length:Nat):Int)-1)=((p.length-1:Nat):Int):=by rw[Nr,ip om om];omega
     have hg:dC (p.map dq.enc) (IntKind.i64.wrap ((((p.map dq.enc).length:Nat):Int)-1))=some (p[p.length-1].enc):=by rw[hw,bD,Sf,vl l8];rfl
     refine af hg ?_;refine aM (λh3=>?_) (λh3=>?_)
     .have h3:p[p.length-1].op≠6:=by simpa using h3
      show BD (2,IntKind.i64.wrap ((((p.map dq.enc).length:Nat):Int)-1))=_;rw[hw];simp only;rw[if_neg h3]
     .have h3:p[p.length-1].op=6:=by simpa using h3
      simp only;rw[if_pos h3];exact rfl
theorem N9(p:List dq){m:Mem}{K:CV->Mem->Prop}(h:K (BD (j7 p)) m):ap prog 53 [sL p] m K:=
 bA func53 l53 rfl (aah rfl) (Gv p) rfl rfl h
theorem Gw(jt jf k a s:Int):iG ⟨1,jt,jf,k⟩ a s=if k<0\/k>=6 then 3 else if jt≠0\/jf≠0 then 2 else 0:=by simp[iG,xM,<-Bool.decide_or]
theorem uf(o jt jf k a s:Int)(ho:o=2\/o=3\/o=4):iG ⟨o,jt,jf,k⟩ a s=if k<0\/k>=2147483648\/jt<0\/jf<0\/jt>40\/jf>40\/jt>s-a-2\/jf>s-a-2 then 3 else 0:=by
 have h1:(o==1)=false:=by rcases ho with rfl|rfl|rfl<;>rfl
 have h2:((o==2)||(o==3)||(o==4))=true:=by rcases ho with rfl|rfl|rfl<;>rfl
 simp only[iG,h1,h2,ab0,if_false,if_true];by_cases hc:k<0\/k>=2147483648\/jt<0\/jf<0\/jt>40\/jf>40\/jt>s-a-2\/jf>s-a-2
 .rw[if_pos hc,if_pos];simp only[oe,ab8,ab2,acI,decide_eq_true_eq,decide_eq_false_iff_not];omega
 .rw[if_neg hc,if_neg];simp only[oe,ab8,ab2,acI,decide_eq_true_eq,decide_eq_false_iff_not];omega
theorem Oa(jt jf k a s:Int)(ha:0<=a):iG ⟨5,jt,jf,k⟩ a s=if k<0\/k>s-a-2 then 3 else if jt≠0\/jf≠0 then 2 else 0:=by
 have e:(!oe a k s s)=decide (k<0\/k>s-a-2):=by rw[ac9];simp only[oe,ab2,acI,decide_eq_true_eq,decide_eq_false_iff_not];omega
 simp[iG,e,xM,<-Bool.decide_or]
theorem xN(jt jf k a s:Int):iG ⟨6,jt,jf,k⟩ a s=if k≠0/\k≠1 then 3 else if jt≠0\/jf≠0 then 2 else 0:=by simp[iG,xM,<-Bool.decide_or,<-Bool.decide_and];simp only[and_comm]
theorem Uh(o jt jf k a s:Int)(ho:o<1\/o>6):iG ⟨o,jt,jf,k⟩ a s=1:=by
 have h:∀c:Int,1<=c->c<=6->(o==c)=false:=λc h1 h2=>by rw[beq_eq_false_iff_ne];omega
 simp[iG,h 1 om om,h 2 om om,h 3 om om,h 4 om om,h 5 om om,h 6 om om]
def c30:LF:= ⟨75,[.tmp 4,.tmp 5],(.seq (.ai [qu 3 (.box 1),qu 4 (.aI (qi 0)),qu 5 (.aI (qi 0))]) (.seq (.seq (.ai [qm 11 0,qu 12 (qc 53 [11]),qu 6 (.alloc [qd 0,qd 0]),qw (.store 2 6 12)]) (.seq (.ai [qf 13 0 6,ql 14 13,qu 15 (.aJ .neq 14 (qi 0))]) (.cond 15 (.seq (.ai [qu 4 (.aI (qi 0)),qu 5 (.aI (qi 0))]) .ret) .skip))) (.seq (.ai [qu 7 (.aI (qi 0))]) (.seq (.ai [qu 8 (.aI (qi 0))]) (.block 0 (.loop (.seq (.block 1 (.seq (.ai [qm 18 0,qm 19 8,qu 20 (.cr 4 18 19),qL 21 4 20,qu 9 (.alloc [qd 0,qd 0,qd 0,qd 0]),qw (.store 4 9 21)]) (.seq (.ai [qu 10 (.aI (qb false))]) (.seq (.seq (.ai [qf 22 0 9,ql 23 22]) (.block 2 (.seq (.ai [qu 25 (.aJ .eql 23 (qi 1)),qm 24 25]) (.cond 24 (.seq (.ai [qf 26 3 9,ql 27 26,qu 28 (.B7 6 1 3 27),ql 29 28,qm 7 29]) (.seq (.ai [qm 30 8,qu 31 (.aJ .add 30 (qi 1)),qm 8 31]) (.exit 1))) (.seq (.ai [qu 33 (.aJ .eql 23 (qi 5)),qm 32 33]) (.cond 32 (.seq (.ai [qm 34 8,qf 35 3 9,ql 36 35,qu 37 (.aJ .add (qi 1) 36),qu 38 (.aJ .add 34 37),qm 8 38]) (.exit 1)) (.seq (.ai [qu 40 (.aJ .eql 23 (qi 6)),qm 39 40]) (.cond 39 (.seq (.ai [qf 41 3 9,ql 42 41,qm 43 5,qu 44 (.aJ .add 43 (qi 1)),qm 4 42,qm 5 44]) .ret) (.seq (.ai [qu 46 (.aJ .eql 23 (qi 2)),qm 45 46]) (.cond 45 (.ai [qm 47 7,qf 48 3 9,ql 49 48,qu 50 (.aJ .eql 47 49),qm 10 50]) (.seq (.ai [qu 52 (.aJ .eql 23 (qi 3)),qm 51 52]) (.cond 51 (.ai [qm 53 7,qf 54 3 9,ql 55 54,qu 56 (.aJ .geq 53 55),qm 10 56]) (.seq (.ai [qu 58 (.aJ .eql 23 (qi 4)),qm 57 58]) (.cond 57 (.ai [qm 59 7,qf 60 3 9,ql 61 60,qu 62 (.aJ .and 59 61),qu 63 (.aJ .neq 62 (qi 0)),qm 10 63]) .skip)))))))))))))) (.seq (.ai [qm 64 10]) (.cond 64 (.ai [qm 65 8,qf 66 1 9,ql 67 66,qu 68 (.aJ .add (qi 1) 67),qu 69 (.aJ .add 65 68),qm 8 69]) (.ai [qm 70 8,qf 71 2 9,ql 72 71,qu 73 (.aJ .add (qi 1) 72),qu 74 (.aJ .add 70 73),qm 8 74]))))))) (.ai [qm 16 5,qu 17 (.aJ .add 16 (qi 1)),qm 5 17]))))))))⟩
structure qk where
 r0:Int
 r1:Int
 r2:Int
 r3:Int
 r4:Int
 r5:Int
def qk.enc(r:qk):List Dt:=[.val (.int .i64 r.r0),.val (.int .i64 r.r1),.val (.int .i64 r.r2),.val (.int .i64 r.r3),.val (.int .i64 r.r4),.val (.int .i64 r.r5)]
def qk.cv(r:qk):CV:= .rv (.agg (r.enc.map .ah))
def qk.get(r:qk):Nat->Int
 |0=>r.r0
 |1=>r.r1
 |2=>r.r2
 |3=>r.r3
 |4=>r.r4
 |_=>r.r5
theorem qk.abv(r:qk){k:Nat}(h:k<6):ja (r.enc.map .ah) (0+k*1) 1=some [.ah (.val (.int .i64 (r.get k)))]:=by
 rw[show 0+k*1=k by omega]
 apply zo
 match k,h with
 |0,_=>rfl
 |1,_=>rfl
 |2,_=>rfl
 |3,_=>rfl
 |4,_=>rfl
 |5,_=>rfl
def Oc(a b:Int):Int:=IntKind.i64.wrap ((BitVec.ofInt 64 a&&&BitVec.ofInt 64 b).toNat:Int)
def sY(i:dq)(c6:Int)(r:qk):Nat×Int:=
 if i.op=1 then(1,r.get i.k.toNat)
 else if i.op=5 then(1+i.k.toNat,c6)
 else if(if i.op=2 then c6==i.k else if i.op=3 then decide (c6>=i.k)else if i.op=4 then Oc c6 i.k !=0 else false)=true then(1+i.jt.toNat,c6)
 else(1+i.jf.toNat,c6)
theorem Od(x y:Nat)(k c6:Int)(r:qk):(c6=k->sY ⟨2,x,y,k⟩ c6 r=(1+x,c6))/\(c6≠k->sY ⟨2,x,y,k⟩ c6 r=(1+y,c6)):=
 ⟨λh=>by subst h;simp[sY],λh=>by simp[sY,h]⟩
theorem Oe(x y:Nat)(k c6:Int)(r:qk):(c6>=k->sY ⟨3,x,y,k⟩ c6 r=(1+x,c6))/\(¬c6>=k->sY ⟨3,x,y,k⟩ c6 r=(1+y,c6)):=
 ⟨λh=>by simp[sY];omega,λh=>by simp[sY];omega⟩
theorem Of(x y:Nat)(k c6:Int)(r:qk):(Oc c6 k≠0->sY ⟨4,x,y,k⟩ c6 r=(1+x,c6))/\(Oc c6 k=0->sY ⟨4,x,y,k⟩ c6 r=(1+y,c6)):=
 ⟨λh=>by simp[sY,h],λh=>by simp[sY,h]⟩
theorem QK(i:dq)(c6:Int)(r:qk):1<=(sY i c6 r).1:=by
 unfold sY;repeat' split
 all_goals simp
def gF(p:List dq)(r:qk)(a:Nat)(c6:Int):Int×Int:=
 if h:a<p.length then
  if p[a].op=6 then(p[a].k,1)
  else((gF p r (a+(sY p[a] c6 r).1) (sY p[a] c6 r).2).1,(gF p r (a+(sY p[a] c6 r).1) (sY p[a] c6 r).2).2+1)
 else(0,0)
 termination_by p.length-a
 decreasing_by
 all_goals
  have:=QK p[a] c6 r;omega
theorem kT{p:List dq}{r:qk}{a:Nat}{c6:Int}{i:dq}(h:p[a]? =some i)(ho:i.op=6):gF p r a c6=(i.k,1):=by obtain⟨aD,rfl⟩:=JJ.1 h;rw[gF,dif_pos aD,if_pos ho]
theorem fk{p:List dq}{r:qk}{a:Nat}{c6:Int}{i:dq}(h:p[a]? =some i)(ho:i.op≠6){d:Nat}{acc2:Int}(hn:sY i c6 r=(d,acc2)):gF p r a c6=((gF p r (a+d) acc2).1,(gF p r (a+d) acc2).2+1):=by obtain⟨aD,rfl⟩:=JJ.1 h;rw[gF,dif_pos aD,if_neg ho,hn]
theorem DO(s:Int):∀(l:List dq)(k:Nat),(vn s k l).1=0->∀(j:Nat)i,l[j]? =some i->iG i ((k+j:Nat):Int) s=0
 | [],_,_,j,i,h=>by simp at h
 |x::r,k,h,j,i,hi=>by
  simp only[vn]at h;split at h
  .rename_i h0;cases j with
   |zero=>simp at hi;subst hi;simpa using h0
   |succ j=>
    have:=DO s r (k+1) h j i (by simpa using hi)
    rwa [show k+1+j=k+(j+1) by omega]at this
  .rename_i h0;exact absurd h h0
theorem zT{p:List dq}(h:(j7 p).1=0):1<=p.length/\p.length<=400/\(∀(j:Nat)i,p[j]? =some i->iG i (j:Int) p.length=0)/\∃i,p[p.length-1]? =some i/\i.op=6:=by
 unfold j7 at h;split at h
 .simp at h
 .rename_i hl;split at h
  .rename_i hc;exact absurd h hc
  .rename_i hc;have fN:=DO p.length p 0 (by simpa using hc)
   refine⟨om,om,λj i hi=>by simpa using fN j i hi,?_⟩
   have aD:p.length-1<p.length:=om;rw[vl aD]at h|-;simp only at h;split at h
   .rename_i h6;exact⟨_,rfl,h6⟩
   .simp at h
theorem QL{i:dq}{a s:Int}(h:iG i a s=0):i.op=1\/i.op=2\/i.op=3\/i.op=4\/i.op=5\/i.op=6:=by
 by_cases ho:i.op<1\/i.op>6
 .have:=Uh i.op i.jt i.jf i.k a s ho;have e:iG ⟨i.op,i.jt,i.jf,i.k⟩ a s=iG i a s:=rfl;omega
 .omega
theorem Kh{p:List dq}(h:(j7 p).1=0){a:Nat}{o jt jf k:Int}(hi:p[a]? =some ⟨o,jt,jf,k⟩):
  (o=1/\0<=k/\k<6/\a+1<p.length)\/((o=2\/o=3\/o=4)/\0<=jt/\0<=jf/\a+1+jt.toNat<p.length/\a+1+jf.toNat<p.length/\jt<=40/\jf<=40)\/(o=5/\0<=k/\a+1+k.toNat<p.length)\/(o=6/\(k=0\/k=1)):=by
 obtain⟨h1,h2,h3,i6,h4,h5⟩:=zT h;have he:=h3 a _ hi;have aD:=(JJ.1 hi).1;rcases QL he with ho|ho|ho|ho|ho|ho<;>simp only at ho<;>subst ho
 .rw[Gw]at he;have du:a≠p.length-1:=λe=>by rw[<-e,hi]at h4;cases h4;simp at h5
  split at he
  .simp at he
  .exact .inl ⟨rfl,om,om,om⟩
 .rw[uf _ _ _ _ _ _ om]at he;split at he
  .simp at he
  .exact .inr (.inl ⟨om,om,om,om,om,om,om⟩)
 .rw[uf _ _ _ _ _ _ om]at he;split at he
  .simp at he
  .exact .inr (.inl ⟨om,om,om,om,om,om,om⟩)
 .rw[uf _ _ _ _ _ _ om]at he;split at he
  .simp at he
  .exact .inr (.inl ⟨om,om,om,om,om,om,om⟩)
 .rw[Oa _ _ _ _ _ om]at he;split at he
  .simp at he
  .exact .inr (.inr (.inl ⟨rfl,om,om⟩))
 .rw[xN]at he;split at he
  .simp at he
  .exact .inr (.inr (.inr ⟨rfl,om⟩))
def ug(p:List dq)(r:qk):Int×Int:=if(j7 p).1=0 then gF p r 0 0 else(0,0)
theorem l30:bw prog f30=some c30:=by kernel_rfl
def Sv(x:Int×Int):CV:= .bz [cG x.1,cG x.2]
theorem Ui{s:Nat}(h:s<9223372036854775807):((s+1:Nat):Int)=IntKind.i64.wrap ((s:Int)+1):=by
 rw[show(s:Int)+1=((s+1:Nat):Int) by omega,nY om]
theorem Og(p:List dq)(r:qk):body prog c30 [sL p,r.cv] [] (λx m=>x=Sv (ug p r)):=by
 refine N9 p ?_;refine bt (λh=>?_) (λh=>?_)
 .have e:ug p r=(0,0):=by rw[ug,if_neg h]
  rw[e];exact rfl
 .have e:ug p r=gF p r 0 0:=by rw[ug,if_pos h]
  rw[e];obtain⟨g1,g2,g3,_⟩:=zT h;refine rW (α:=Nat×Int×Nat) (λx=>x.1<p.length/\x.2.2<=x.1/\(gF p r x.1 x.2.1).1=(gF p r 0 0).1/\(gF p r x.1 x.2.1).2+x.2.2=(gF p r 0 0).2)
   (λx=>[(8,an .i64 (x.1:Nat)),(7,an .i64 x.2.1),(5,an .i64 (x.2.2:Nat)),(6,.aF),(9,.aF),(10,.aF),(11,.aF),(12,.aF),(13,.aF),(14,.aF),(15,.aF),(16,.aF),(17,.aF),(18,.aF),(19,.aF),(20,.aF),(21,.aF),(22,.aF),(23,.aF),(24,.aF),(25,.aF),(26,.aF),(27,.aF),(28,.aF),(29,.aF),(30,.aF),(31,.aF),(32,.aF),(33,.aF),(34,.aF),(35,.aF),(36,.aF),(37,.aF),(38,.aF),(39,.aF),(40,.aF),(41,.aF),(42,.aF),(43,.aF),(44,.aF),(45,.aF),(46,.aF),(47,.aF),(48,.aF),(49,.aF),(50,.aF),(51,.aF),(52,.aF),(53,.aF),(54,.aF),(55,.aF),(56,.aF),(57,.aF),(58,.aF),(59,.aF),(60,.aF),(61,.aF),(62,.aF),(63,.aF),(64,.aF),(65,.aF),(66,.aF),(67,.aF),(68,.aF),(69,.aF),(70,.aF),(71,.aF),(72,.aF),(73,.aF),(74,.aF)])
   (λx=>[.var (r.enc.map .ah)]) (λx=>p.length-x.1) (0,0,0) ⟨by show 0<p.length;omega,T5 0,rfl,aC⟩ ?_ (λx hJ=>?_)
  .refine View.o1 2 [0] [] ?_
   .exact .put (by simp[bx]) rfl (.eq rfl aC) (.nil _)
  .obtain⟨a,c6,s⟩:=x;obtain⟨aD,zE,rS,qV⟩:=hJ;have aD:a<p.length:=aD;have zE:s<=a:=zE;have rS:(gF p r a c6).1=(gF p r 0 0).1:=rS;have qV:(gF p r a c6).2+s=(gF p r 0 0).2:=qV;have hi:=vl aD;generalize p[a]=i at hi;obtain⟨o,jt,jf,k⟩:=i;have hg:dC (p.map dq.enc) (a:Nat)=some [.val (.int .i64 o),.val (.int .i64 jt),.val (.int .i64 jf),.val (.int .i64 k)]:=by rw[bD,Sf,hi];rfl
   have next:∀(d:Nat)(acc2:Int),gF p r a c6=((gF p r (a+d) acc2).1,(gF p r (a+d) acc2).2+1)->(1<=d/\a+d<p.length)->∀{G:Prop},
     (((a+d<p.length)/\s+1<=a+d/\(gF p r (a+d) acc2).1=(gF p r 0 0).1/\(gF p r (a+d) acc2).2+((s+1:Nat):Int)=(gF p r 0 0).2)->(p.length-(a+d)<p.length-a)->G)->G:=by
    intro d acc2 hw hd G hG;refine hG ⟨hd.2,om,?_,?_⟩ om
    .rw[<-rS,hw]
    .rw[<-qV,hw];simp only;omega
   refine af hg ?_;rcases Kh h hi with⟨rfl,k1,k2,k3⟩|⟨ho,j1,j2,j3,j4,j5,j6⟩|⟨rfl,k1,k2⟩|⟨rfl,k1⟩
   .obtain⟨n,rfl⟩:∃n:Nat,k=n:=⟨k.toNat,om⟩;refine af (ct om) ?_;refine af (r.abv om) ?_;refine next 1 (r.get n) (fk hi aC (by simp[sY])) om (λhJ hm=>?_)
    exact⟨(a+1,r.get n,s+1),hJ,hm,View.o 2 [0] [] (by
     repeat(first|exact .nil|refine .aF ?_|refine .put (.bg (cP om).symm) ?_|refine .eq rfl ?_|refine .eq (congrArg (λx=>an .i64 x) ((by rw[nY (n:=a+1) om]:((a+1:Nat):Int)=_))) ?_)) (.put (by simp[bx]) rfl (.eq rfl aC) (.nil _))⟩
   .obtain⟨x,rfl⟩:∃n:Nat,jt=n:=⟨jt.toNat,om⟩;obtain⟨y,rfl⟩:∃n:Nat,jf=n:=⟨jf.toNat,om⟩;have ex:IntKind.i64.wrap ((a:Int)+IntKind.i64.wrap (1+(x:Int)))=((a+(1+x):Nat):Int):=by rw[ip (n:=1+(x:Int)) om om,ip om om];omega
    have ey:IntKind.i64.wrap ((a:Int)+IntKind.i64.wrap (1+(y:Int)))=((a+(1+y):Nat):Int):=by rw[ip (n:=1+(y:Int)) om om,ip om om];omega
    rcases ho with rfl|rfl|rfl
    .refine bs (λhy=>?_) (λhy=>?_)
     .skip
      refine next (1+x) c6 (fk hi aC ((Od x y k c6 r).1 hy)) om (λhJ hm=>?_)
      exact⟨(a+(1+x),c6,s+1),hJ,hm,View.o 2 [0] [] (by
       repeat(first|exact .nil|refine .aF ?_|refine .put (.bg (cP om).symm) ?_|refine .eq rfl ?_|refine .eq (congrArg (λx=>an .i64 x) (ex.symm)) ?_)) (.put (by simp[bx]) rfl (.eq rfl aC) (.nil _))⟩
     .skip
      refine next (1+y) c6 (fk hi aC ((Od x y k c6 r).2 hy)) om (λhJ hm=>?_)
      exact⟨(a+(1+y),c6,s+1),hJ,hm,View.o 2 [0] [] (by
       repeat(first|exact .nil|refine .aF ?_|refine .put (.bg (cP om).symm) ?_|refine .eq rfl ?_|refine .eq (congrArg (λx=>an .i64 x) (ey.symm)) ?_)) (.put (by simp[bx]) rfl (.eq rfl aC) (.nil _))⟩
    .refine aN (λhy=>?_) (λhy=>?_)
     .skip
      refine next (1+x) c6 (fk hi aC ((Oe x y k c6 r).1 hy)) om (λhJ hm=>?_)
      exact⟨(a+(1+x),c6,s+1),hJ,hm,View.o 2 [0] [] (by
       repeat(first|exact .nil|refine .aF ?_|refine .put (.bg (cP om).symm) ?_|refine .eq rfl ?_|refine .eq (congrArg (λx=>an .i64 x) (ex.symm)) ?_)) (.put (by simp[bx]) rfl (.eq rfl aC) (.nil _))⟩
     .skip
      refine next (1+y) c6 (fk hi aC ((Oe x y k c6 r).2 hy)) om (λhJ hm=>?_)
      exact⟨(a+(1+y),c6,s+1),hJ,hm,View.o 2 [0] [] (by
       repeat(first|exact .nil|refine .aF ?_|refine .put (.bg (cP om).symm) ?_|refine .eq rfl ?_|refine .eq (congrArg (λx=>an .i64 x) (ey.symm)) ?_)) (.put (by simp[bx]) rfl (.eq rfl aC) (.nil _))⟩
    .refine bt (λhy=>?_) (λhy=>?_)
     .skip
      refine next (1+x) c6 (fk hi aC ((Of x y k c6 r).1 hy)) om (λhJ hm=>?_)
      exact⟨(a+(1+x),c6,s+1),hJ,hm,View.o 2 [0] [] (by
       repeat(first|exact .nil|refine .aF ?_|refine .put (.bg (cP om).symm) ?_|refine .eq rfl ?_|refine .eq (congrArg (λx=>an .i64 x) (ex.symm)) ?_)) (.put (by simp[bx]) rfl (.eq rfl aC) (.nil _))⟩
     .skip
      refine next (1+y) c6 (fk hi aC ((Of x y k c6 r).2 hy)) om (λhJ hm=>?_)
      exact⟨(a+(1+y),c6,s+1),hJ,hm,View.o 2 [0] [] (by
       repeat(first|exact .nil|refine .aF ?_|refine .put (.bg (cP om).symm) ?_|refine .eq rfl ?_|refine .eq (congrArg (λx=>an .i64 x) (ey.symm)) ?_)) (.put (by simp[bx]) rfl (.eq rfl aC) (.nil _))⟩
   .obtain⟨n,rfl⟩:∃n:Nat,k=n:=⟨k.toNat,om⟩;have ex:IntKind.i64.wrap ((a:Int)+IntKind.i64.wrap (1+(n:Int)))=((a+(1+n):Nat):Int):=by rw[ip (n:=1+(n:Int)) om om,ip om om];omega
    refine next (1+n) c6 (fk hi aC (by simp[sY])) om (λhJ hm=>?_)
    exact⟨(a+(1+n),c6,s+1),hJ,hm,View.o 2 [0] [] (by
     repeat(first|exact .nil|refine .aF ?_|refine .put (.bg (cP om).symm) ?_|refine .eq rfl ?_|refine .eq (congrArg (λx=>an .i64 x) (ex.symm)) ?_)) (.put (by simp[bx]) rfl (.eq rfl aC) (.nil _))⟩
   .have hb:gF p r a c6=(k,1):=kT hi rfl;rw[hb]at rS qV;show CV.bz [cG k,cG (IntKind.i64.wrap ((s:Int)+1))]=_;rw[<-Ui (s:=s) om];have e2:gF p r 0 0=(k,((s+1:Nat):Int)):=Prod.ext rS.symm (by rw[<-qV];simp only;omega)
    rw[e2];rfl
theorem Uj(p:List dq)(r:qk){m:Mem}{K:CV->Mem->Prop}(h:K (Sv (ug p r)) m):ap prog 30 [sL p,r.cv] m K:=
 bA func30 l30 rfl (aah rfl) (Og p r) rfl rfl h
def c19:LF:= ⟨116,[.cell true 3 6,.cell true 4 7],(.seq (.ai [qu 4 (.box 1),qu 5 (.box 2),qu 6 (.alloc [.aK,.aK,.aK]),qu 7 (.alloc [qd 0,qd 0,qd 0,.aK])]) (.seq (.block 0 (.seq (.ai [qL 13 3 4,qf 14 0 5,ql 15 14,qu 16 (qc 29 [13,15]),qu 17 (.un .not 16),qm 12 17]) (.cond 12 (.seq (.ai [qL 18 3 4,qu 19 (.build [qd 0,qd 0,qd 0,.aK] [(0,1,qi 6)]),qw (.store 3 6 18),qw (.store 4 7 19)]) .ret) (.seq (.ai [qf 21 1 5,ql 22 21,qu 23 (.aJ .lss 22 (qi 1)),qm 24 23,qg 25 (.bU 1 5) 24 false,qg 26 (.load false 1 25) 24 false,qg 27 (.aJ .gtr 26 (qi 22)) 24 false,qu 28 (.pick 24 (qb true) 27),qm 20 28]) (.cond 20 (.seq (.ai [qL 29 3 4,qu 30 (.build [qd 0,qd 0,qd 0,.aK] [(0,1,qi 1)]),qw (.store 3 6 29),qw (.store 4 7 30)]) .ret) .skip))))) (.cU (.seq (.seq (.ai [qf 31 2 4,ql 32 31,qf 33 0 5,ql 34 33,qu 35 (.cr 4 32 34),qf 36 1 35,ql 37 36]) (.cond 37 (.seq (.ai [qm 39 0,qL 40 9 5,qu 41 (qc 31 [40]),qu 42 (qc 30 [39,41]),qm 38 42,qu 43 (.ext 38 0),qu 44 (.ext 38 1),qm 8 43,qm 9 44]) (.seq (.ai [qm 45 8,qu 46 (.aJ .neq 45 (qi 1)),qm 47 46,qg 48 (.bU 1 5) 47 false,qg 49 (.load false 1 48) 47 false,qg 50 (.aJ .eql 49 (qi 2)) 47 false,qu 51 (.pick 47 (qb true) 50)]) (.cond 51 (.seq (.ai [qL 52 3 4,qu 53 (.build [qd 0,qd 0,qd 0,.aK] [(0,1,qi 9)]),qw (.store 3 6 52),qw (.store 4 7 53)]) .ret) .skip))) .skip)) (.cU (.seq (.ai [qL 54 3 4,qf 55 0 5,ql 56 55,qu 57 (.build [.aK,.aK,.aK,qd 0] [(0,3,54),(3,1,56)]),qu 58 (.box 57),qm 10 58]) (.seq (.ai [qu 11 (.alloc [qd 0,qd 0,qd 0,.aK])]) (.seq (.seq (.ai [qf 59 1 5,ql 60 59]) (.block 1 (.seq (.seq (.ai [qu 64 (.aJ .eql 60 (qi 2)),qm 63 64]) (.cond 63 .skip (.ai [qu 65 (.aJ .eql 60 (qi 3)),qm 63 65]))) (.cond 63 (.ai [qm 66 10,qu 67 (qc 32 [66,5]),qw (.store 4 11 67)]) (.seq (.seq (.ai [qu 69 (.aJ .eql 60 (qi 4)),qm 68 69]) (.cond 68 .skip (.seq (.ai [qu 70 (.aJ .eql 60 (qi 5)),qm 68 70]) (.cond 68 .skip (.ai [qu 71 (.aJ .eql 60 (qi 6)),qm 68 71]))))) (.cond 68 (.ai [qm 72 10,qu 73 (qc 33 [72,5]),qw (.store 4 11 73)]) (.seq (.seq (.ai [qu 75 (.aJ .eql 60 (qi 7)),qm 74 75]) (.cond 74 .skip (.seq (.ai [qu 76 (.aJ .eql 60 (qi 8)),qm 74 76]) (.cond 74 .skip (.ai [qu 77 (.aJ .eql 60 (qi 9)),qm 74 77]))))) (.cond 74 (.ai [qm 78 10,qu 79 (qc 34 [78,5]),qw (.store 4 11 79)]) (.seq (.seq (.ai [qu 81 (.aJ .eql 60 (qi 10)),qm 80 81]) (.cond 80 .skip (.ai [qu 82 (.aJ .eql 60 (qi 11)),qm 80 82]))) (.cond 80 (.ai [qm 83 10,qu 84 (qc 35 [83,5]),qw (.store 4 11 84)]) (.seq (.seq (.ai [qu 86 (.aJ .eql 60 (qi 12)),qm 85 86]) (.cond 85 .skip (.seq (.ai [qu 87 (.aJ .eql 60 (qi 13)),qm 85 87]) (.cond 85 .skip (.ai [qu 88 (.aJ .eql 60 (qi 14)),qm 85 88]))))) (.cond 85 (.ai [qm 89 10,qu 90 (qc 36 [89,5]),qw (.store 4 11 90)]) (.seq (.ai [qu 92 (.aJ .eql 60 (qi 15)),qm 91 92]) (.cond 91 (.ai [qm 93 10,qu 94 (qc 37 [93]),qw (.store 4 11 94)]) (.seq (.ai [qu 96 (.aJ .eql 60 (qi 16)),qm 95 96]) (.cond 95 (.ai [qm 97 10,qu 98 (qc 38 [97,5]),qw (.store 4 11 98)]) (.seq (.ai [qu 100 (.aJ .eql 60 (qi 17)),qm 99 100]) (.cond 99 (.ai [qm 101 10,qu 102 (qc 39 [101,5]),qw (.store 4 11 102)]) (.ai [qm 61 10,qu 62 (qc 40 [61,5]),qw (.store 4 11 62)]))))))))))))))))))) (.cU (.seq (.seq (.ai [qf 103 0 11,ql 104 103,qu 105 (.aJ .neq 104 (qi 0))]) (.cond 105 (.seq (.bR [qL 106 3 4,qf 107 0 11,ql 108 107,qu 109 (.build [qd 0,qd 0,qd 0,.aK] [(0,1,108)]),qw (.store 3 6 106),qw (.store 4 7 109)] [(eh 4 0 (.cons 4 (some [2]) (.cons 5 (some []) .nil)))]) .ret) .skip)) (.seq (.bR [qm 110 10,qu 111 (.aO 110),qf 112 0 111,qL 113 3 112,qu 114 (qc 41 [113]),qL 115 4 11,qw (.store 3 6 114),qw (.store 4 7 115)] [(eh 4 0 (.cons 5 none (.cons 4 (some [5]) (.cons 6 (some [5]) (.cons 7 (some []) .nil)))))]) .ret)))))))))))⟩
def c31:LF:= ⟨22,[.cell true 6 2],(.seq (.ai [qu 1 (.box 0),qu 2 (.alloc [qd 0,qd 0,qd 0,qd 0,qd 0,qd 0])]) (.seq (.ai [qf 3 1 1,ql 4 3,qu 5 (.aJ .and 4 (qi 2147483647)),qf 6 2 1,ql 7 6,qu 8 (.aJ .and 7 (qi 2147483647)),qf 9 3 1,ql 10 9,qu 11 (.aJ .and 10 (qi 2147483647)),qf 12 4 1,ql 13 12,qu 14 (.aJ .and 13 (qi 2147483647)),qf 15 5 1,ql 16 15,qu 17 (.aJ .and 16 (qi 2147483647)),qf 18 6 1,ql 19 18,qu 20 (.aJ .and 19 (qi 2147483647)),qu 21 (.build [qd 0,qd 0,qd 0,qd 0,qd 0,qd 0] [(0,1,5),(1,1,8),(2,1,11),(3,1,14),(4,1,17),(5,1,20)]),qw (.store 6 2 21)]) .ret))⟩
namespace Kn
def te(a:Int):Int:=lN a 2147483647
def nR(c:Cl):qk:=⟨te c.ag,te c.fd,te c.fI,te c.n,te c.bv,te c.a8⟩
def fK(k:Kr)(p:Nat)(c:Cl):Kr×An:=
 if c.ag=2\/c.ag=3 then gw k p c
 else if c.ag=4\/c.ag=5\/c.ag=6 then ik k p c
 else if c.ag=7\/c.ag=8\/c.ag=9 then mc k p c
 else if c.ag=10\/c.ag=11 then lu k p c
 else if c.ag=12\/c.ag=13\/c.ag=14 then kj k p c
 else if c.ag=15 then jR k p
 else if c.ag=16 then kn k p c
 else if c.ag=17 then jl k p c
 else fc k p c
def Po(k:Kr)(x:Kr×An):Kr×An:=if x.2.fC≠0 then(k,An.no x.2.fC)else(gM x.1,x.2)
def hC(prog:List dq)(k:Kr)(c:Cl):Kr×An:=
 if fj k.ps c.bb=false then(k,An.no 6)
 else if c.ag<1\/c.ag>22 then(k,An.no 1)
 else if iV k.ps c.bb.toNat=true/\((ug prog (nR c)).1≠1\/c.ag=2)then(k,An.no 9)
 else Po k (fK k c.bb.toNat c)
structure Oh(k:Kr)(p:Nat)(c:Cl):Prop where
 w:KW k p
 op:∀ar ay,Gb k p c (iS k ar c.cJ ay true)
 pr:Ug k p (fz k.l)
 q:∀o,o∈k.l->o.ag=5->∃n:Nat,o.bb=n/\n<k.ps.length
 ib:(fK k p c).2.fC=0->dI (fK k p c).1.l (fK k p c).1.ops (fK k p c).1.ps
theorem l31:bw prog f31=some c31:=by kernel_rfl
theorem Ki(c:Cl){m:Mem}{K:CV->Mem->Prop}(h:K (nR c).cv m):ap prog 31 [c.cv] m K:=
 bA func31 l31 rfl (aah rfl) (show body prog c31 [c.cv] [] (λr m=>r=(nR c).cv)from rfl) rfl rfl h
theorem l19:bw prog f19=some c19.er:=by kernel_rfl
def abw:LC:=bL (bL c19.code)
def XJ:LC:=qM abw
def abx:LC:=bL XJ
def XK:LC:=qM abx
def XL:LC:=bL (bL (bL XK))
def XM:LC:=qM XL
def Vd(x:Kr×An):CV:= .bz [ji x.1,x.2.rv]
def QD(x:Kr×An):Ex->St->Prop:=oC prog c19.lP (λr m=>cL m r (Vd x))
def z3B:Bk:= .var [.aK,.aK,.aK]
theorem zU{m:Mem}{k:Kr}{e n x:Int}:cL m (.bz [ji k,.agg [.ah (.val (.int .i64 e)),.ah (.val (.int .i64 n)),.ah (.val (.int .i64 x)),.aK]]) (Vd (k,⟨e,n,x,[]⟩)):=by
 refine .bz rfl λi r r' h1 h2=>?_
 match i,h1,h2 with
 |0,h1,h2=>cases h1;cases h2;exact eP.self rfl
 |1,h1,h2=>
  cases h1;cases h2;refine .agg rfl λi c c' h1 h2=>?_
  match i,h1,h2 with
  |0,h1,h2=>cases h1;cases h2;exact .self rfl
  |1,h1,h2=>cases h1;cases h2;exact .self rfl
  |2,h1,h2=>cases h1;cases h2;exact .self rfl
  |3,h1,h2=>cases h1;cases h2;exact .aK 1
  |n+4,h1,h2=>simp at h1
 |n+2,h1,h2=>simp at h1
theorem QM(k:Kr)(p:Nat)(c:Cl)(x:Kr×An)(hx:x.2.fC=0->dI x.1.l x.1.ops x.1.ps):
  aw prog 0 XM (QD (Po k x))
   ⟨kz 116 [(4,.rv (.one (.ptr 0 0))),(6,.rv (.one (.ptr 1 0))),(7,.rv (.one (.ptr 2 0))),(10,.rv (.one (.ptr 3 0))),(11,.rv (.one (.ptr 4 0)))],[kB k,z3B,iT,xB x.1 p,.var (x.2.enc.map .ah)]⟩:=by
 obtain⟨k',⟨fC,n,mm,data⟩⟩:=x;refine bt (λhe=>?_) (λhe=>?_)
 .have he:fC≠0:=he;rw[Po,if_pos he];refine⟨⟨rfl,trivial⟩,trivial,?_⟩;exact zU
 .have he:fC=0:=he;subst he;rw[Po,if_neg aC];refine JB k' (hx rfl) ?_;refine⟨⟨rfl,trivial⟩,⟨rfl,trivial⟩,trivial,?_⟩;exact cL.self rfl
theorem Uk(k:Kr)(p:Nat)(bX:p<k.ps.length)(c:Cl)(hc:c.bb=p)(hk:¬(c.ag<1\/c.ag>22))(hi:Oh k p c)(hd:c.data.length<=4194304):
  aw prog 0 XK (QD (Po k (fK k p c)))
   ⟨kz 116 [(4,.rv (.one (.ptr 0 0))),(5,.rv (.one (.ptr 1 0))),(6,.rv (.one (.ptr 2 0))),(7,.rv (.one (.ptr 3 0)))],[kB k,cB c,z3B,iT]⟩:=by
 have hs:=λ(x:Kr×An)(h:fK k p c=x)=>QM k p c x (by rw[<-h];exact hi.ib)
 obtain⟨bb,ag,fd,fI,n,bv,a8,cJ,data⟩:=c;have hc:bb=(p:Nat):=hc;subst hc;have hr:ag=1\/ag=2\/ag=3\/ag=4\/ag=5\/ag=6\/ag=7\/ag=8\/ag=9\/ag=10\/ag=11\/ag=12\/ag=13\/ag=14\/ag=15\/ag=16\/ag=17\/ag=18\/ag=19\/ag=20\/ag=21\/ag=22:=by have hk:¬(ag<1\/ag>22):=hk;omega
 rcases hr with h|h|h|h|h|h|h|h|h|h|h|h|h|h|h|h|h|h|h|h|h|h
 .subst h;have dK:fK k p ⟨(p:Nat),1,fd,fI,n,bv,a8,cJ,data⟩=fc k p ⟨(p:Nat),1,fd,fI,n,bv,a8,cJ,data⟩:=by rw[fK,if_neg aC,if_neg aC,if_neg aC,if_neg aC,if_neg aC,if_neg aC,if_neg aC,if_neg aC]
  rw[dK];refine dO (jA k p hi.w _ (by simp[q9]) hi.q) 4 1 rfl rfl rfl rfl ?_
  refine⟨_,View.o1 6 [0,2,3,4,5] [] ?_,hs _ dK⟩
  .exact .au
 .subst h;have dK:fK k p ⟨(p:Nat),2,fd,fI,n,bv,a8,cJ,data⟩=gw k p ⟨(p:Nat),2,fd,fI,n,bv,a8,cJ,data⟩:=by rw[fK,if_pos aC]
  rw[dK];refine dO (zM k p hi.w _ hi.op) 4 1 rfl rfl rfl rfl ?_;refine⟨_,View.o1 6 [0,2,3,4,5] [] ?_,hs _ dK⟩
  .exact .au
 .subst h;have dK:fK k p ⟨(p:Nat),3,fd,fI,n,bv,a8,cJ,data⟩=gw k p ⟨(p:Nat),3,fd,fI,n,bv,a8,cJ,data⟩:=by rw[fK,if_pos aC]
  rw[dK];refine dO (zM k p hi.w _ hi.op) 4 1 rfl rfl rfl rfl ?_;refine⟨_,View.o1 6 [0,2,3,4,5] [] ?_,hs _ dK⟩
  .exact .au
 .subst h;have dK:fK k p ⟨(p:Nat),4,fd,fI,n,bv,a8,cJ,data⟩=ik k p ⟨(p:Nat),4,fd,fI,n,bv,a8,cJ,data⟩:=by rw[fK,if_neg aC,if_pos aC]
  rw[dK];refine dO (q8 k p hi.w _ (.inl rfl) hd) 4 1 rfl rfl rfl rfl ?_;refine⟨_,View.o1 6 [0,2,3,4,5] [] ?_,hs _ dK⟩
  .exact .au
 .subst h;have dK:fK k p ⟨(p:Nat),5,fd,fI,n,bv,a8,cJ,data⟩=ik k p ⟨(p:Nat),5,fd,fI,n,bv,a8,cJ,data⟩:=by rw[fK,if_neg aC,if_pos aC]
  rw[dK];refine dO (q8 k p hi.w _ (.inr (.inl rfl)) hd) 4 1 rfl rfl rfl rfl ?_;refine⟨_,View.o1 6 [0,2,3,4,5] [] ?_,hs _ dK⟩
  .exact .au
 .subst h;have dK:fK k p ⟨(p:Nat),6,fd,fI,n,bv,a8,cJ,data⟩=ik k p ⟨(p:Nat),6,fd,fI,n,bv,a8,cJ,data⟩:=by rw[fK,if_neg aC,if_pos aC]
  rw[dK];refine dO (q8 k p hi.w _ (.inr (.inr rfl)) hd) 4 1 rfl rfl rfl rfl ?_;refine⟨_,View.o1 6 [0,2,3,4,5] [] ?_,hs _ dK⟩
  .exact .au
 .subst h;have dK:fK k p ⟨(p:Nat),7,fd,fI,n,bv,a8,cJ,data⟩=mc k p ⟨(p:Nat),7,fd,fI,n,bv,a8,cJ,data⟩:=by rw[fK,if_neg aC,if_neg aC,if_pos aC]
  rw[dK];refine dO (uc k p hi.w _) 4 1 rfl rfl rfl rfl ?_;refine⟨_,View.o1 6 [0,2,3,4,5] [] ?_,hs _ dK⟩
  .exact .au
 .subst h;have dK:fK k p ⟨(p:Nat),8,fd,fI,n,bv,a8,cJ,data⟩=mc k p ⟨(p:Nat),8,fd,fI,n,bv,a8,cJ,data⟩:=by rw[fK,if_neg aC,if_neg aC,if_pos aC]
  rw[dK];refine dO (uc k p hi.w _) 4 1 rfl rfl rfl rfl ?_;refine⟨_,View.o1 6 [0,2,3,4,5] [] ?_,hs _ dK⟩
  .exact .au
 .subst h;have dK:fK k p ⟨(p:Nat),9,fd,fI,n,bv,a8,cJ,data⟩=mc k p ⟨(p:Nat),9,fd,fI,n,bv,a8,cJ,data⟩:=by rw[fK,if_neg aC,if_neg aC,if_pos aC]
  rw[dK];refine dO (uc k p hi.w _) 4 1 rfl rfl rfl rfl ?_;refine⟨_,View.o1 6 [0,2,3,4,5] [] ?_,hs _ dK⟩
  .exact .au
 .subst h;have dK:fK k p ⟨(p:Nat),10,fd,fI,n,bv,a8,cJ,data⟩=lu k p ⟨(p:Nat),10,fd,fI,n,bv,a8,cJ,data⟩:=by rw[fK,if_neg aC,if_neg aC,if_neg aC,if_pos aC]
  rw[dK];refine dO (xF k p hi.w _) 4 1 rfl rfl rfl rfl ?_;refine⟨_,View.o1 6 [0,2,3,4,5] [] ?_,hs _ dK⟩
  .exact .au
 .subst h;have dK:fK k p ⟨(p:Nat),11,fd,fI,n,bv,a8,cJ,data⟩=lu k p ⟨(p:Nat),11,fd,fI,n,bv,a8,cJ,data⟩:=by rw[fK,if_neg aC,if_neg aC,if_neg aC,if_pos aC]
  rw[dK];refine dO (xF k p hi.w _) 4 1 rfl rfl rfl rfl ?_;refine⟨_,View.o1 6 [0,2,3,4,5] [] ?_,hs _ dK⟩
  .exact .au
 .subst h;have dK:fK k p ⟨(p:Nat),12,fd,fI,n,bv,a8,cJ,data⟩=kj k p ⟨(p:Nat),12,fd,fI,n,bv,a8,cJ,data⟩:=by rw[fK,if_neg aC,if_neg aC,if_neg aC,if_neg aC,if_pos aC]
  rw[dK];refine dO (ud k p hi.w _) 4 1 rfl rfl rfl rfl ?_;refine⟨_,View.o1 6 [0,2,3,4,5] [] ?_,hs _ dK⟩
  .exact .au
 .subst h;have dK:fK k p ⟨(p:Nat),13,fd,fI,n,bv,a8,cJ,data⟩=kj k p ⟨(p:Nat),13,fd,fI,n,bv,a8,cJ,data⟩:=by rw[fK,if_neg aC,if_neg aC,if_neg aC,if_neg aC,if_pos aC]
  rw[dK];refine dO (ud k p hi.w _) 4 1 rfl rfl rfl rfl ?_;refine⟨_,View.o1 6 [0,2,3,4,5] [] ?_,hs _ dK⟩
  .exact .au
 .subst h;have dK:fK k p ⟨(p:Nat),14,fd,fI,n,bv,a8,cJ,data⟩=kj k p ⟨(p:Nat),14,fd,fI,n,bv,a8,cJ,data⟩:=by rw[fK,if_neg aC,if_neg aC,if_neg aC,if_neg aC,if_pos aC]
  rw[dK];refine dO (ud k p hi.w _) 4 1 rfl rfl rfl rfl ?_;refine⟨_,View.o1 6 [0,2,3,4,5] [] ?_,hs _ dK⟩
  .exact .au
 .subst h;have dK:fK k p ⟨(p:Nat),15,fd,fI,n,bv,a8,cJ,data⟩=jR k p:=by rw[fK,if_neg aC,if_neg aC,if_neg aC,if_neg aC,if_neg aC,if_pos aC]
  rw[dK];refine N7 k p hi.w hi.pr 4 rfl ?_;refine⟨_,View.o1 6 [0,2,3,4,5] [] ?_,hs _ dK⟩
  .exact .au
 .subst h;have dK:fK k p ⟨(p:Nat),16,fd,fI,n,bv,a8,cJ,data⟩=kn k p ⟨(p:Nat),16,fd,fI,n,bv,a8,cJ,data⟩:=by rw[fK,if_neg aC,if_neg aC,if_neg aC,if_neg aC,if_neg aC,if_neg aC,if_pos aC]
  rw[dK];refine dO (Ke k p hi.w _ hd) 4 1 rfl rfl rfl rfl ?_;refine⟨_,View.o1 6 [0,2,3,4,5] [] ?_,hs _ dK⟩
  .exact .au
 .subst h;have dK:fK k p ⟨(p:Nat),17,fd,fI,n,bv,a8,cJ,data⟩=jl k p ⟨(p:Nat),17,fd,fI,n,bv,a8,cJ,data⟩:=by rw[fK,if_neg aC,if_neg aC,if_neg aC,if_neg aC,if_neg aC,if_neg aC,if_neg aC,if_pos aC]
  rw[dK];refine dO (Kf k p hi.w _) 4 1 rfl rfl rfl rfl ?_;refine⟨_,View.o1 6 [0,2,3,4,5] [] ?_,hs _ dK⟩
  .exact .au
 .subst h;have dK:fK k p ⟨(p:Nat),18,fd,fI,n,bv,a8,cJ,data⟩=fc k p ⟨(p:Nat),18,fd,fI,n,bv,a8,cJ,data⟩:=by rw[fK,if_neg aC,if_neg aC,if_neg aC,if_neg aC,if_neg aC,if_neg aC,if_neg aC,if_neg aC]
  rw[dK];refine dO (jA k p hi.w _ (by simp[q9]) hi.q) 4 1 rfl rfl rfl rfl ?_
  refine⟨_,View.o1 6 [0,2,3,4,5] [] ?_,hs _ dK⟩
  .exact .au
 .subst h;have dK:fK k p ⟨(p:Nat),19,fd,fI,n,bv,a8,cJ,data⟩=fc k p ⟨(p:Nat),19,fd,fI,n,bv,a8,cJ,data⟩:=by rw[fK,if_neg aC,if_neg aC,if_neg aC,if_neg aC,if_neg aC,if_neg aC,if_neg aC,if_neg aC]
  rw[dK];refine dO (jA k p hi.w _ (by simp[q9]) hi.q) 4 1 rfl rfl rfl rfl ?_
  refine⟨_,View.o1 6 [0,2,3,4,5] [] ?_,hs _ dK⟩
  .exact .au
 .subst h;have dK:fK k p ⟨(p:Nat),20,fd,fI,n,bv,a8,cJ,data⟩=fc k p ⟨(p:Nat),20,fd,fI,n,bv,a8,cJ,data⟩:=by rw[fK,if_neg aC,if_neg aC,if_neg aC,if_neg aC,if_neg aC,if_neg aC,if_neg aC,if_neg aC]
  rw[dK];refine dO (jA k p hi.w _ (by simp[q9]) hi.q) 4 1 rfl rfl rfl rfl ?_
  refine⟨_,View.o1 6 [0,2,3,4,5] [] ?_,hs _ dK⟩
  .exact .au
 .subst h;have dK:fK k p ⟨(p:Nat),21,fd,fI,n,bv,a8,cJ,data⟩=fc k p ⟨(p:Nat),21,fd,fI,n,bv,a8,cJ,data⟩:=by rw[fK,if_neg aC,if_neg aC,if_neg aC,if_neg aC,if_neg aC,if_neg aC,if_neg aC,if_neg aC]
  rw[dK];refine dO (jA k p hi.w _ (by simp[q9]) hi.q) 4 1 rfl rfl rfl rfl ?_
  refine⟨_,View.o1 6 [0,2,3,4,5] [] ?_,hs _ dK⟩
  .exact .au
 .subst h;have dK:fK k p ⟨(p:Nat),22,fd,fI,n,bv,a8,cJ,data⟩=fc k p ⟨(p:Nat),22,fd,fI,n,bv,a8,cJ,data⟩:=by rw[fK,if_neg aC,if_neg aC,if_neg aC,if_neg aC,if_neg aC,if_neg aC,if_neg aC,if_neg aC]
  rw[dK];refine dO (jA k p hi.w _ (by simp[q9]) hi.q) 4 1 rfl rfl rfl rfl ?_
  refine⟨_,View.o1 6 [0,2,3,4,5] [] ?_,hs _ dK⟩
  .exact .au
theorem Ul(prog:List dq)(k:Kr)(p:Nat)(hp:p<k.ps.length)(c:Cl)(hc:c.bb=p)(hk:¬(c.ag<1\/c.ag>22))(hi:Oh k p c)(hd:c.data.length<=4194304)(R:Kr×An)(hR:R=if iV k.ps p=true/\((ug prog (nR c)).1≠1\/c.ag=2)then(k,An.no 9)else Po k (fK k p c)):
  aw Tryz.prog 0 XJ (QD R)
   ⟨kz 116 [(0,sL prog),(4,.rv (.one (.ptr 0 0))),(5,.rv (.one (.ptr 1 0))),(6,.rv (.one (.ptr 2 0))),(7,.rv (.one (.ptr 3 0)))],[kB k,cB c,z3B,iT]⟩:=by
 have hs:=Uk k p hp c hc hk hi hd;have hf:iV k.ps p=k.ps[p].fenced:=by rw[iV,vl hp]
 refine af (x:=[.val (.bool k.ps[p].aP),.val (.bool k.ps[p].fenced),.val (.int .i64 k.ps[p].code),yC k.ps[p].aU]) (by rw[hc];exact dy hp) ?_
 rw[hf]at hR;generalize k.ps[p].fenced=fen at hR;cases fen with
 |false=>
  rw[if_neg aC]at hR;subst hR;refine⟨_,View.o1 4 [0,1,2,3] [] ?_,hs⟩
  .exact .au
 |true=>
  refine Ki c ?_;refine Uj prog (nR c) ?_;generalize ug prog (nR c)=rr at hR;obtain⟨n,st⟩:=rr;refine bt (λhn=>?_) (λhn=>?_)
  .have hn:n≠1:=hn;rw[if_pos ⟨rfl,.inl hn⟩]at hR;subst hR;exact zU
  have hn:¬n≠1:=λh=>h hn
  refine bs (λh2=>?_) (λh2=>?_)
  .have h2:c.ag=2:=h2;rw[if_pos ⟨rfl,.inr h2⟩]at hR;subst hR;exact zU
  have h2:¬c.ag=2:=h2;rw[if_neg (λh=>h.2.elim hn h2)]at hR
  subst hR;refine⟨_,View.o1 4 [0,1,2,3] [] ?_,hs⟩
  .exact .au
theorem QN(prog:List dq)(k:Kr)(c:Cl)(hi:∀(p:Nat)(hp:p<k.ps.length),c.bb=p->k.ps[p].aP=true->Oh k p c)(hd:c.data.length<=4194304):
  body Tryz.prog c19 [sL prog,ez k.l k.ops k.ps,c.cv] [] (λr m=>cL m r (Vd (hC prog k c))):=by
 refine oX k.l k.ops k.ps c.bb ?_;cases hl:fj k.ps c.bb with
 |false=>
  rw[hC,if_pos hl];exact zU
 |true=>
  obtain⟨p,hc,hp,b9⟩:=oY hl;have e0:hC prog k c=if c.ag<1\/c.ag>22 then(k,An.no 1)
   else if iV k.ps p=true/\((ug prog (nR c)).1≠1\/c.ag=2)then(k,An.no 9)else Po k (fK k p c):=by
   rw[hC,if_neg (by rw[hl];simp),hc,aae]
  rw[e0];refine aN (λh1=>?_) (λh1=>?_)
  .have h1:c.ag<1:=h1;rw[if_pos (.inl h1)];exact zU
  have h1:¬c.ag<1:=h1;refine aN (λh2=>?_) (λh2=>?_)
  .have h2:c.ag>22:=h2;rw[if_pos (.inr h2)];exact zU
  have h2:¬c.ag>22:=h2;rw[if_neg om];refine⟨_,View.o1 4 [0,1,2,3] [] ?_,Ul prog k p hp c hc om (hi p hp hc b9) hd _ rfl⟩
  .exact .au
theorem XN(prog:List dq)(k:Kr)(c:Cl)(hi:∀(p:Nat)(hp:p<k.ps.length),c.bb=p->k.ps[p].aP=true->Oh k p c)(hd:c.data.length<=4194304){m:Mem}{K:CV->Mem->Prop}(h:K (Vd (hC prog k c)) m):
  ap Tryz.prog 19 [sL prog,ez k.l k.ops k.ps,c.cv] m K:=
 be (b8 func19 l19 (QN prog k c hi hd)) (by simp[ez,dk,eX,gl,sL,Cl.cv,Cl.enc,CV.dv,CC.dv,RV.dv]) λr m1 hf=>⟨_,hf,h⟩
end Kn
end Go.Proofs.YtodckkkbiidffaaGreatDoor
