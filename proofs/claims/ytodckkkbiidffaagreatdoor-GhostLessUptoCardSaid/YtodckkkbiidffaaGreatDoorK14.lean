/- Part 14 of 16. -/
import Derived.Test.YtodckkkbiidffaaGreatDoorK11
import Derived.Test.YtodckkkbiidffaaGreatDoorK12
import Derived.Test.YtodckkkbiidffaaGreatDoorK13
set_option linter.unusedVariables false
set_option linter.unusedSimpArgs false
set_option maxRecDepth 100000
set_option maxHeartbeats 0
namespace Go.Proofs.YtodckkkbiidffaaGreatDoor
open Proofs.Tryz
open Go.AM Go.ChangeShapes Go.WideShapes Go.ChangeAt Go.RowKit
structure x9(l:List Obj):Prop where
 oB:l5 l
 en:∀o,o∈l->∃es:List NE,o.ak=es.map gl/\FT es/\es.length<=4194304/\∀e,e∈es->0<=e.2/\e.2<(l.length:Int)
def Ov(R:List Obj×Int)(r:CV)(m:Mem):Prop:=∃r' m',View 0 ⟨[r],m⟩ ⟨[r'],m'⟩/\r'= .bD [ns R.1,cK R.2]/\m'=[]
theorem gN{R:List Obj×Int}{m:Mem}(e:Int)(h:R=([],e)):Ov R (.bD [.one .aO,cK e]) m:=by subst h;refine⟨_,_,View.of m.length [] [] rfl rfl rfl rfl rfl rfl (.put (Yu (.one (.fQ (.aO 9))) (.one (.bb (.ah _)))) .nil) (.nil _),rfl,rfl⟩
theorem sX{l:List Obj}{n p:Nat}(hn:n<l.length)(hp:p<l.length){name:ByteArray}{E:List (List Dt)}(hE:E=(iZ (name,(p:Int)) (l[n].ak.map oo)).map gl){q:Obj}(hq:q={l[p]with al:=IntKind.i64.wrap (l[p].al+1),up:=if l[p].ag=2 then(n:Int)else l[p].up}):
  ∃o2,(l.set p q)[n]? =some o2/\(l.set p q).set n {o2 with ak:=E}=kh l n p name:=by
 subst hE;unfold kh;rw[vU hn];simp only[];by_cases h:p=n
 .subst h;rw[TH hn,TH hn];refine⟨_,rfl,?_⟩;simp only[ac9];subst hq;rfl
 .rw[U7 h,vU hn,U7 (λe=>h e.symm),vU hp]
  refine⟨_,rfl,?_⟩;simp only[];rw[List.set_comm _ _ h,<-hq]
theorem D5(l:List Obj)(hs:x9 l)(cL bm:Int)(name:ByteArray)(b:Bool)(hN:∀{m:Mem}{K:CV->Mem->Prop},K (aD b) m->ap prog 106 [fb name] m K):
  body prog c112 [cC l,am .i64 cL,fb name,am .i64 bm] [] (Ov (cQ b l cL name bm)):=by
 have hE:∀R,R=cQ b l cL name bm->body prog c112 [cC l,am .i64 cL,fb name,am .i64 bm] [] (Ov R)->body prog c112 [cC l,am .i64 cL,fb name,am .i64 bm] [] (Ov (cQ b l cL name bm)):=λR h h2=>h▸h2
 refine aN (λh1=>?_) (λh1=>?_)
 .exact gN 6 (by unfold cQ;rw[x5 h1];rfl)
 obtain⟨n,rfl⟩:∃n:Nat,cL=n:=⟨cL.toNat,by have h1:¬cL<0:=h1;omega⟩
 refine aN (λh2=>?_) (λh2=>?_)
 .have h2:(n:Int)>=((l.map Obj.enc).length:Int):=h2;rw[Pj]at h2;exact gN 6 (by unfold cQ;rw[x6 h2];rfl)
 have h2:¬(n:Int)>=((l.map Obj.enc).length:Int):=h2;rw[Pj]at h2;have hn:n<l.length:=om;have PY:=jc hn;refine af PY ?_;refine bs (λh3=>?_) (λh3=>?_)
 .exact gN 6 (by unfold cQ;rw[x7 hn h3];rfl)
 have h3:l[n].ag≠0:=h3;have d1:=x8 hn h3;refine aN (λh4=>?_) (λh4=>?_)
 .exact gN 6 (by unfold cQ;rw[d1,x5 h4];rfl)
 obtain⟨p,rfl⟩:∃p:Nat,bm=p:=⟨bm.toNat,by have h4:¬bm<0:=h4;omega⟩
 refine aN (λh5=>?_) (λh5=>?_)
 .have h5:(p:Int)>=((l.map Obj.enc).length:Int):=h5;rw[Pj]at h5;exact gN 6 (by unfold cQ;rw[d1,x6 h5];rfl)
 have h5:¬(p:Int)>=((l.map Obj.enc).length:Int):=h5;rw[Pj]at h5;have hp:p<l.length:=om;have hgp:=jc hp;refine af hgp ?_;refine bs (λh6=>?_) (λh6=>?_)
 .exact gN 6 (by unfold cQ;rw[d1,x7 hp h6];rfl)
 have h6:l[p].ag≠0:=h6;have d2:=x8 hp h6;have hR:cQ b l n name p=Ap b l[n] (kh l n p name) name:=by unfold cQ;rw[if_pos d1,if_pos d2,Y6,Y6,vU hn]
 rw[hR];unfold Ap;refine af PY ?_;refine bx (λh7=>?_) (λh7=>?_)
 .exact gN 11 (if_pos h7)
 have h7:l[n].ag=2:=by simpa using h7
 rw[if_neg (by rw[h7];simp)]
 refine af PY ?_;refine bs (λh8=>?_) (λh8=>?_)
 .exact gN 6 (if_pos h8)
 have h8:l[n].al≠0:=h8;rw[if_neg h8];refine hN ?_;cases b with
 |false=>exact gN 7 (if_pos rfl)
 |true=>
 rw[if_neg aE];obtain⟨es,he,BT,Ri,cI⟩:=hs.en _ (aaw hn);have Tt:l[n].ak.map oo=es:=by rw[he,nV]
 refine D0 l n hn h7 es he om name ?_;have Z2:xX l es n name=fT es name:=Al BT name;rw[Z2,Tt];refine aN (λh9=>?_) (λh9=>?_)
 .exact gN 7 (if_pos h9)
 rw[if_neg h9];refine af PY ?_;refine aN (λVc=>?_) (λVc=>?_)
 .exact gN 15 (if_pos (by have Vc:(l[n].ak.length:Int)>=8:=Vc;omega))
 have Vc:¬(l[n].ak.length:Int)>=8:=Vc;rw[if_neg om];have ach:BH es name=false:=by
  have h9:¬fT es name>=0:=h9;rw[<-Z2]at h9;cases hb:BH es name with
  |false=>rfl
  |true=>
   exfalso;apply h9;unfold xX;rw[if_pos hb];unfold BH at hb;cases hg:es[rk es name]? with
   |none=>rw[hg]at hb;cases hb
   |some e=>exact(cI e (Tp hg)).1
 have oA:∀Q,cF (bQ n Q 0 l) n=some (dv l[n] (.row Q 2 0 none) l[n].al l[n].up):=λQ=>by rw[aT,gv,vU hn,aaP,aaD,kY,if_pos rfl]
 have Wh:BR l n l.length= .row 2 (aa (es.map c9)):=by
  unfold BR;rw[show Nat.blt n l.length=true by simpa using hn]
  show Bk.row 2 (aa (match l[n]? with|some o=>o.ak|none=>[]))=_
  rw[vU hn];show Bk.row 2 (aa l[n].ak)=_;rw[he];rfl
 have Yw:∀Q,lenOf (bQ n Q 0 l).length 0 none=l.length:=λQ=>gu n Q l 0
 have t6:∀Q(k:Nat),k<l.length->dZ (k:Nat) (lenOf (bQ n Q 0 l).length 0 none)=some k:=λQ k hk=>bZ (by rw[Yw];exact hk)
 refine BS l hs.oB n ?_;rw[Wh];refine af (t6 1 n hn) ?_;refine af (oA 1) ?_;refine UR es om name 139 (λe m K h=>U0 e name h) (id:=1) rfl ?_
 refine af (t6 1 n hn) ?_;refine af (oA 1) ?_;have Uq:rk es name<=es.length:=(po BT name es.length 0 es.length om om om (λk e hk=>absurd hk (aaU k)) (λk e hk he=>by have:=(Km.1 he).1;omega)).1
 refine KA (es.map c9) (c9 (name,(p:Int))) (rk es name) (by rw[Pj];exact Uq) (by rw[Pj];exact Ri) 1 2 rfl rfl rfl rfl ?_
 refine af (t6 1 n hn) ?_;refine af (oA 1) ?_;have mG:aV (bQ n 1 0 l) n (dv l[n] (.row 3 2 0 none) l[n].al l[n].up)=bQ n 3 0 l:=by have:=GB (p:=n) (Q:=1) (Q':=3) (vU hn);rw[<-this,kY,if_pos rfl]
 have KB:(es.map c9).take (rk es name)++c9 (name,(p:Int))::(es.map c9).drop (rk es name)=(iZ (name,(p:Int)) (l[n].ak.map oo)).map gl:=by rw[Tt,U4 BT ach,abm,aaL,adh,adZ];rfl
 have jL:∀L2:List Obj,L2=kh l n p name->aw prog 0 ab1 (oO prog c112.l8 (Ov (kh l n p name,0))) ⟨kS 128 [(10,cC L2)],[]⟩:=λL2 h=>by subst h;exact⟨_,_,View.o 0 [] [] (.eq rfl .nil) (.nil _),rfl,rfl⟩
 by_cases BX:p=n
 .have Yx:cF (bQ n 3 0 l) p=some (dv l[p] (.row 3 2 0 none) l[p].al l[p].up):=by rw[aT,gv,vU hp,aaP,aaD,kY,if_pos BX]
  have o4:aV (aV (bQ n 1 0 l) n (dv l[n] (.row 3 2 0 none) l[n].al l[n].up)) p (dv l[p] (.row 3 2 0 none) (IntKind.i64.wrap (l[p].al+1)) l[p].up)=bQ n 3 0 (l.set p {l[p]with al:=IntKind.i64.wrap (l[p].al+1)}):=by
   rw[mG];have:=p6 (p:=n) (Q:=3) (o:={l[p]with al:=IntKind.i64.wrap (l[p].al+1)}) hp
   rw[<-this,kY,if_pos BX]
  have fg:∀l2:List Obj,l2.length=l.length->dZ (p:Nat) (lenOf (bQ n 3 0 l2).length 0 none)=some p:=λl2 h=>bZ (by rw[show lenOf (bQ n 3 0 l2).length 0 none=l2.length from gu n 3 l2 0,h];exact hp)
  have wo:cF (aV (aV (bQ n 1 0 l) n (dv l[n] (.row 3 2 0 none) l[n].al l[n].up)) p (dv l[p] (.row 3 2 0 none) (IntKind.i64.wrap (l[p].al+1)) l[p].up)) p=some (dv l[p] (.row 3 2 0 none) (IntKind.i64.wrap (l[p].al+1)) l[p].up):=by
   rw[aY,aT,TH (by rw[mG,gu];exact hp)]
  refine af (by rw[mG];exact fg l rfl:dZ (p:Nat) (lenOf (aV (bQ n 1 0 l) n (dv l[n] (.row 3 2 0 none) l[n].al l[n].up)).length 0 none)=some p) ?_
  refine af (by rw[mG];exact Yx:cF (aV (bQ n 1 0 l) n (dv l[n] (.row 3 2 0 none) l[n].al l[n].up)) p=some (dv l[p] (.row 3 2 0 none) l[p].al l[p].up)) ?_
  refine af (by rw[mG];exact fg l rfl:dZ (p:Nat) (lenOf (aV (bQ n 1 0 l) n (dv l[n] (.row 3 2 0 none) l[n].al l[n].up)).length 0 none)=some p) ?_
  refine af (by rw[mG];exact Yx:cF (aV (bQ n 1 0 l) n (dv l[n] (.row 3 2 0 none) l[n].al l[n].up)) p=some (dv l[p] (.row 3 2 0 none) l[p].al l[p].up)) ?_
  refine af (by rw[o4];exact fg _ (aaF ..):dZ (p:Nat) (lenOf (aV (aV (bQ n 1 0 l) n (dv l[n] (.row 3 2 0 none) l[n].al l[n].up)) p (dv l[p] (.row 3 2 0 none) (IntKind.i64.wrap (l[p].al+1)) l[p].up)).length 0 none)=some p) ?_
  refine af wo ?_;refine bs (λhk=>?_) (λhk=>?_)
  .have hk:l[p].ag=2:=hk;have Ow:aV (aV (aV (bQ n 1 0 l) n (dv l[n] (.row 3 2 0 none) l[n].al l[n].up)) p (dv l[p] (.row 3 2 0 none) (IntKind.i64.wrap (l[p].al+1)) l[p].up)) p (dv l[p] (.row 3 2 0 none) (IntKind.i64.wrap (l[p].al+1)) (n:Nat))=bQ n 3 0 (l.set p {l[p]with al:=IntKind.i64.wrap (l[p].al+1),up:=(n:Int)}):=by
    rw[o4];have:=p6 (p:=n) (Q:=3) (l:=l.set p {l[p]with al:=IntKind.i64.wrap (l[p].al+1)}) (k:=p) (o:={l[p]with al:=IntKind.i64.wrap (l[p].al+1),up:=(n:Int)}) (by rw[aaF];exact hp)
    rw[ac9]at this;rw[<-this,kY,if_pos BX]
   refine af (by rw[o4];exact fg _ (aaF ..):dZ (p:Nat) (lenOf (aV (aV (bQ n 1 0 l) n (dv l[n] (.row 3 2 0 none) l[n].al l[n].up)) p (dv l[p] (.row 3 2 0 none) (IntKind.i64.wrap (l[p].al+1)) l[p].up)).length 0 none)=some p) ?_
   refine af wo ?_;obtain⟨o2,ia,d9⟩:=sX (name:=name) hn hp KB (q:={l[p]with al:=IntKind.i64.wrap (l[p].al+1),up:=(n:Int)}) (by rw[if_pos hk])
   refine⟨_,View.o 4 [] [0,3] ?_ (.nil _),jL _ d9⟩
   iterate 10 refine .aA ?_
   refine .put (.rv (.one (.fQ (p:=none) (IC (Z:=λk=>br [0,3] k=true) rfl (by show some (Bk.row 9 _)=some (Bk.row 9 _);congr 1;exact congrArg _ Ow) rfl rfl ia)))) ?_
   repeat(first|exact .nil|refine .aA ?_)
  .have hk:l[p].ag≠2:=hk;obtain⟨o2,ia,d9⟩:=sX (name:=name) hn hp KB (q:={l[p]with al:=IntKind.i64.wrap (l[p].al+1)}) (by rw[if_neg hk])
   refine⟨_,View.o 4 [] [0,3] ?_ (.nil _),jL _ d9⟩
   iterate 10 refine .aA ?_
   refine .put (.rv (.one (.fQ (p:=none) (IC (Z:=λk=>br [0,3] k=true) rfl (by show some (Bk.row 9 _)=some (Bk.row 9 _);congr 1;exact congrArg _ o4) rfl rfl ia)))) ?_
   repeat(first|exact .nil|refine .aA ?_)
 .have Yx:cF (bQ n 3 0 l) p=some (dv l[p] (.ah (.sl 2 l[p].ak)) l[p].al l[p].up):=by rw[aT,gv,vU hp,aaP,aaD,kY,if_neg BX]
  have o4:aV (aV (bQ n 1 0 l) n (dv l[n] (.row 3 2 0 none) l[n].al l[n].up)) p (dv l[p] (.ah (.sl 2 l[p].ak)) (IntKind.i64.wrap (l[p].al+1)) l[p].up)=bQ n 3 0 (l.set p {l[p]with al:=IntKind.i64.wrap (l[p].al+1)}):=by
   rw[mG];have:=p6 (p:=n) (Q:=3) (o:={l[p]with al:=IntKind.i64.wrap (l[p].al+1)}) hp
   rw[<-this,kY,if_neg BX]
  have fg:∀l2:List Obj,l2.length=l.length->dZ (p:Nat) (lenOf (bQ n 3 0 l2).length 0 none)=some p:=λl2 h=>bZ (by rw[show lenOf (bQ n 3 0 l2).length 0 none=l2.length from gu n 3 l2 0,h];exact hp)
  have wo:cF (aV (aV (bQ n 1 0 l) n (dv l[n] (.row 3 2 0 none) l[n].al l[n].up)) p (dv l[p] (.ah (.sl 2 l[p].ak)) (IntKind.i64.wrap (l[p].al+1)) l[p].up)) p=some (dv l[p] (.ah (.sl 2 l[p].ak)) (IntKind.i64.wrap (l[p].al+1)) l[p].up):=by
   rw[aY,aT,TH (by rw[mG,gu];exact hp)]
  refine af (by rw[mG];exact fg l rfl:dZ (p:Nat) (lenOf (aV (bQ n 1 0 l) n (dv l[n] (.row 3 2 0 none) l[n].al l[n].up)).length 0 none)=some p) ?_
  refine af (by rw[mG];exact Yx:cF (aV (bQ n 1 0 l) n (dv l[n] (.row 3 2 0 none) l[n].al l[n].up)) p=some (dv l[p] (.ah (.sl 2 l[p].ak)) l[p].al l[p].up)) ?_
  refine af (by rw[mG];exact fg l rfl:dZ (p:Nat) (lenOf (aV (bQ n 1 0 l) n (dv l[n] (.row 3 2 0 none) l[n].al l[n].up)).length 0 none)=some p) ?_
  refine af (by rw[mG];exact Yx:cF (aV (bQ n 1 0 l) n (dv l[n] (.row 3 2 0 none) l[n].al l[n].up)) p=some (dv l[p] (.ah (.sl 2 l[p].ak)) l[p].al l[p].up)) ?_
  refine af (by rw[o4];exact fg _ (aaF ..):dZ (p:Nat) (lenOf (aV (aV (bQ n 1 0 l) n (dv l[n] (.row 3 2 0 none) l[n].al l[n].up)) p (dv l[p] (.ah (.sl 2 l[p].ak)) (IntKind.i64.wrap (l[p].al+1)) l[p].up)).length 0 none)=some p) ?_
  refine af wo ?_;refine bs (λhk=>?_) (λhk=>?_)
  .have hk:l[p].ag=2:=hk;have Ow:aV (aV (aV (bQ n 1 0 l) n (dv l[n] (.row 3 2 0 none) l[n].al l[n].up)) p (dv l[p] (.ah (.sl 2 l[p].ak)) (IntKind.i64.wrap (l[p].al+1)) l[p].up)) p (dv l[p] (.ah (.sl 2 l[p].ak)) (IntKind.i64.wrap (l[p].al+1)) (n:Nat))=bQ n 3 0 (l.set p {l[p]with al:=IntKind.i64.wrap (l[p].al+1),up:=(n:Int)}):=by
    rw[o4];have:=p6 (p:=n) (Q:=3) (l:=l.set p {l[p]with al:=IntKind.i64.wrap (l[p].al+1)}) (k:=p) (o:={l[p]with al:=IntKind.i64.wrap (l[p].al+1),up:=(n:Int)}) (by rw[aaF];exact hp)
    rw[ac9]at this;rw[<-this,kY,if_neg BX]
   refine af (by rw[o4];exact fg _ (aaF ..):dZ (p:Nat) (lenOf (aV (aV (bQ n 1 0 l) n (dv l[n] (.row 3 2 0 none) l[n].al l[n].up)) p (dv l[p] (.ah (.sl 2 l[p].ak)) (IntKind.i64.wrap (l[p].al+1)) l[p].up)).length 0 none)=some p) ?_
   refine af wo ?_;obtain⟨o2,ia,d9⟩:=sX (name:=name) hn hp KB (q:={l[p]with al:=IntKind.i64.wrap (l[p].al+1),up:=(n:Int)}) (by rw[if_pos hk])
   refine⟨_,View.o 4 [] [0,3] ?_ (.nil _),jL _ d9⟩
   iterate 10 refine .aA ?_
   refine .put (.rv (.one (.fQ (p:=none) (IC (Z:=λk=>br [0,3] k=true) rfl (by show some (Bk.row 9 _)=some (Bk.row 9 _);congr 1;exact congrArg _ Ow) rfl rfl ia)))) ?_
   repeat(first|exact .nil|refine .aA ?_)
  .have hk:l[p].ag≠2:=hk;obtain⟨o2,ia,d9⟩:=sX (name:=name) hn hp KB (q:={l[p]with al:=IntKind.i64.wrap (l[p].al+1)}) (by rw[if_neg hk])
   refine⟨_,View.o 4 [] [0,3] ?_ (.nil _),jL _ d9⟩
   iterate 10 refine .aA ?_
   refine .put (.rv (.one (.fQ (p:=none) (IC (Z:=λk=>br [0,3] k=true) rfl (by show some (Bk.row 9 _)=some (Bk.row 9 _);congr 1;exact congrArg _ o4) rfl rfl ia)))) ?_
   repeat(first|exact .nil|refine .aA ?_)
theorem KC(l:List Obj)(hs:x9 l)(cL bm:Int)(name:ByteArray)(b:Bool)(hN:∀{m:Mem}{K:CV->Mem->Prop},K (aD b) m->ap prog 106 [fb name] m K){m:Mem}{K:CV->Mem->Prop}(h:K (.bD [ns (cQ b l cL name bm).1,cK (cQ b l cL name bm).2]) m):ap prog 112 [cC l,am .i64 cL,fb name,am .i64 bm] m K:=by
 refine bh (K0:=λr m=>r= .bD [ns (cQ b l cL name bm).1,cK (cQ b l cL name bm).2]/\m=[]) (bJ (ct func112 l112 (D5 l hs cL bm name b hN)) λr m1⟨r',m',hv,h1,h2⟩=>⟨r',m',hv,h1,h2⟩) (by simp[cC,am,fb,CV.dB,CC.dB]) λr m1 hr=>?_
 obtain⟨rfl,rfl⟩:=hr;exact⟨_,cV.self rfl,h⟩
def c28:LF:= ⟨3,[.tmp 0],(.seq (.ai [qu 0 (.aM qe)]) (.seq (.ai [qu 1 (.build [qd 0,.aO,.aO,(.ah (.val (.string ⟨#[]⟩))),qd 0,.aO,qd 0,qd 0,qd 0] [(0,1,qi 2),(7,1,qi 1),(4,1,(qi (-1))),(6,1,(qi (-1)))]),qu 2 (.od 9 [qd 0,.aO,.aO,(.ah (.val (.string ⟨#[]⟩))),qd 0,.aO,qd 0,qd 0,qd 0] 1 [(0,1)]),qm 0 2]) .ret))⟩
def c68:LF:= ⟨90,[.tmp 6,.tmp 7,.tmp 8],(.seq (.ai [qu 5 (.box 2),qu 6 (.aM qe),qu 7 (.aM (qi 0)),qu 8 (.aM (qi 0))]) (.seq (.seq (.ai [qm 11 1,qu 12 (.aJ .lss 11 (qi 0)),qm 13 12,qg 14 (.aM 1) 13 false,qg 15 (.aM 0) 13 false,qg 16 (.len 1 15) 13 false,qg 17 (.aJ .geq 14 16) 13 false,qu 18 (.pick 13 (qb true) 17),qm 19 18,qg 20 (.aM 0) 19 false,qg 21 (.aM 1) 19 false,qg 22 (.cz 9 20 21) 19 false,qg 23 (.b8 0 22) 19 false,qg 24 (.load false 1 23) 19 false,qg 25 (.aJ .eql 24 (qi 0)) 19 false,qu 26 (.pick 19 (qb true) 25)]) (.cond 26 (.seq (.ai [qu 6 (.aM qe),qu 7 (.aM (qi 0)),qu 8 (.aM (qi 6))]) .ret) .skip)) (.seq (.seq (.ai [qm 27 0,qm 28 1,qu 29 (.cz 9 27 28),qf 30 0 29,ql 31 30,qu 32 (.aJ .neq 31 (qi 2))]) (.cond 32 (.seq (.ai [qu 6 (.aM qe),qu 7 (.aM (qi 0)),qu 8 (.aM (qi 11))]) .ret) .skip)) (.seq (.ai [qm 33 0,qm 34 1,ql 35 5,qu 36 (qc 108 [33,34,35]),qm 9 36]) (.seq (.block 0 (.seq (.ai [qm 38 9,qu 39 (.aJ .lss 38 (qi 0)),qm 37 39]) (.cond 37 (.seq (.ai [qu 6 (.aM qe),qu 7 (.aM (qi 0)),qu 8 (.aM (qi 6))]) .ret) (.seq (.ai [qm 41 0,qm 42 9,qu 43 (.cz 9 41 42),qf 44 0 43,ql 45 44,qu 46 (.aJ .eql 45 (qi 2)),qm 47 46,qg 48 (.aM 0) 47 true,qg 49 (.aM 9) 47 true,qg 50 (.cz 9 48 49) 47 true,qg 51 (.b8 2 50) 47 true,qg 52 (.load false 1 51) 47 true,qg 53 (.len 1 52) 47 true,qg 54 (.aJ .gtr 53 (qi 0)) 47 true,qu 55 (.pick 47 54 (qb false)),qm 40 55]) (.cond 40 (.seq (.ai [qu 6 (.aM qe),qu 7 (.aM (qi 0)),qu 8 (.aM (qi 18))]) .ret) .skip))))) (.seq (.ai [qm 56 0,qu 57 (qc 98 [56]),qm 10 57]) (.seq (.ai [qm 58 10,qm 59 1,qm 60 10,qm 61 1,qu 62 (.cz 9 60 61),qf 63 2 62,ql 64 63,qu 65 (.fn 110 [5]),qu 66 (qc 109 [64,65]),qu 67 (.cz 9 58 59),qf 68 2 67,qw (.store 1 68 66)]) (.seq (.ai [qm 69 10,qm 70 9,qu 71 (.cz 9 69 70),qf 72 7 71,ql 73 72,qu 74 (.aJ .sub 73 (qi 1)),qu 75 (.cz 9 69 70),qf 76 7 75,qw (.store 1 76 74)]) (.seq (.seq (.ai [qm 77 10,qm 78 9,qu 79 (.cz 9 77 78),qf 80 0 79,ql 81 80,qu 82 (.aJ .eql 81 (qi 2))]) (.cond 82 (.ai [qm 83 10,qm 84 9,qm 85 9,qu 86 (.cz 9 83 84),qf 87 8 86,qw (.store 1 87 85)]) .skip)) (.cX (.seq (.ai [qm 88 10,qm 89 9,qm 6 88,qm 7 89,qu 8 (.aM (qi 0))]) .ret)))))))))))⟩
def c109:LF:= ⟨42,[.tmp 4],(.seq (.ai [qu 4 (.aM qe)]) (.seq (.ai [qm 8 0,qm 9 1,qu 10 (qc 137 [8,9]),qm 5 10]) (.seq (.seq (.ai [qm 11 5,qu 12 (.aJ .eql 11 (qi (-1)))]) (.cond 12 (.seq (.ai [qm 13 0,qm 4 13]) .ret) .skip)) (.seq (.seq (.ai [qm 14 5,qu 15 (.aJ .add 14 (qi 1)),qm 6 15]) (.block 0 (.loop (.seq (.seq (.ai [qm 16 6,qm 17 0,qu 18 (.len 1 17),qu 19 (.aJ .lss 16 18)]) (.cond 19 .skip (.exit 0))) (.seq (.block 1 (.seq (.ai [qm 22 0,qm 23 6,qu 24 (.cz 2 22 23),qL 25 2 24,qu 7 (.alloc [(.ah (.val (.string ⟨#[]⟩))),qd 0]),qw (.store 2 7 25)]) (.seq (.ai [qm 26 1,qL 27 2 7,qu 28 (.call 26 [27]),qu 29 (.un .not 28)]) (.cond 29 (.seq (.ai [qm 30 0,qm 31 5,qL 32 2 7,qu 33 (.cz 2 30 31),qw (.store 2 33 32)]) (.ai [qm 34 5,qu 35 (.aJ .add 34 (qi 1)),qm 5 35])) .skip)))) (.ai [qm 20 6,qu 21 (.aJ .add 20 (qi 1)),qm 6 21])))))) (.seq (.ai [qm 36 0,qm 37 5,qu 38 (.oG 2 36 (some 37) none none),qw (.VS 2 [(.ah (.val (.string ⟨#[]⟩))),qd 0] 38)]) (.seq (.ai [qm 39 0,qm 40 5,qu 41 (.oG 2 39 none (some 40) none),qm 4 41]) .ret))))))⟩
def c110:LF:= ⟨8,[.tmp 3],(.seq (.ai [qu 2 (.box 0),qu 3 (.aM (qb false))]) (.seq (.ai [qf 4 0 2,ql 5 4,ql 6 1,qu 7 (.aJ .eql 5 6),qm 3 7]) .ret))⟩
def c137:LF:= ⟨19,[.tmp 4],(.seq (.ai [qu 4 (.aM (qi 0))]) (.seq (.seq (.ai [qm 6 0,qu 7 (.len 1 6),qu 8 (.aM (qi 0))]) (.block 0 (.loop (.seq (.ai [qu 9 (.aJ .lss 8 7)]) (.seq (.cond 9 .skip (.exit 0)) (.seq (.block 1 (.seq (.ai [qm 10 8,qm 5 10]) (.seq (.ai [qm 11 1,qm 12 0,qm 13 5,qu 14 (.cz 2 12 13),qL 15 2 14,qu 16 (.call 11 [15])]) (.cond 16 (.seq (.ai [qm 17 5,qm 4 17]) .ret) .skip)))) (.ai [qu 18 (.aJ .add 8 (qi 1)),qm 8 18]))))))) (.seq (.ai [qu 4 (.aM (qi (-1)))]) .ret)))⟩
theorem l110:bz prog f110=some c110:=by kernel_rfl
theorem l137:bz prog f137=some c137:=by kernel_rfl
theorem l109:bz prog f109=some c109:=by kernel_rfl
theorem l68:bz prog f68=some c68.er:=by kernel_rfl
theorem l28:bz prog Tryz.f28=some c28:=by kernel_rfl
def G88:LC:=unW (nz (nz (nz (nz (nz (nz (nz (nz (nz c68.code)))))))))
def Ox(name:ByteArray):Bk:= .var [.ah (.val (.string name))]
theorem D6(e:NE)(name:ByteArray):body prog c110 [xQ e,.rv (.one (.ptr 0 0))] [.var ([Dt.val (.string name)].map .ah)] (λr m=>r=aD (e.1.toList==name.toList)/\∃ex,m= .var ([Dt.val (.string name)].map .ah)::ex):=by exact⟨rfl,_,rfl⟩
theorem Oy(e:NE)(name:ByteArray)(K:CV->Mem->Prop)(h:K (aD (e.1.toList==name.toList)) [.var ([Dt.val (.string name)].map .ah)]):ap prog 110 [xQ e,.rv (.one (.ptr 0 0))] [.var ([Dt.val (.string name)].map .ah)] K:=
 eY rfl (aZ func110 l110 (D6 e name)) h
theorem GC{es:List NE}{k:Nat}(h:k<es.length):cF (aa (es.map c9)) k=some [.ah (.val (.string es[k].1)),.ah (.val (.int .i64 es[k].2))]:=by rw[aT];simp[aa,h,c9]
theorem KD(es:List NE):lenOf (aa (es.map c9)).length 0 none=es.length:=by show(aa (es.map c9)).length=_;simp[aa]
theorem D7(es:List NE)(hl:es.length<=4194304)(name:ByteArray)(j:Nat)(hj:j<es.length)(hjn:es[j].1.toList=name.toList)(hb:∀(i:Nat)e,i<j->es[i]? =some e->e.1.toList≠name.toList):
  body prog c137 [.rv (.one (.row 0 2 0 none)),.rv (.one (.fn 110 [1]))] [.row 2 (aa (es.map c9)),Ox name] (λr m=>r=am .i64 (j:Nat)/\m=[.row 2 (aa (es.map c9)),Ox name]):=by
 refine bc (λk=>k<=j) [0,1] (λk=>[(7,am .i64 (es.length:Nat)),(8,am .i64 (k:Nat))]) (λ_=>[.row 2 (aa (es.map c9)),Ox name]) (λk=>j-k) 0 (aaj _) ?_ (λk hk=>?_)
 .refine View.o 2 [0,1] [] ?_ ?_
  .repeat(first|exact .nil|refine .aA ?_|refine .eq rfl ?_|refine .put (.bb (by rw[KD];rfl)) ?_)
  .exact .pr rfl rfl rfl (.pt rfl rfl (.gC (ds:=[.val (.string name)]) rfl) (.nil _))
 have hk:k<=j:=hk;have gA:k<es.length:=om;refine cN (decide_eq_true (by show(k:Int)<(es.length:Int);omega)) ?_
 refine af (bZ (by rw[KD];exact gA):dZ (k:Nat) (lenOf (aa (es.map c9)).length 0 none)=some k) ?_
 refine af (GC gA) ?_;refine fA (args0:=[xQ es[k],.rv (.one (.ptr 0 0))]) (cs:=[.val (.string name)]) 1 rfl rfl (r0:=aD (es[k].1.toList==name.toList)) rfl (λK hK=>Oy es[k] name K hK) ?_
 refine aG (λh=>?_) (λh=>?_)
 .have h:es[k].1.toList=name.toList:=by simpa using h
  have:k=j:=by
   rcases aaf k j with h2|h2
   .exact absurd h (hb k _ h2 (vU gA))
   .omega
  subst this;exact⟨rfl,rfl⟩
 .have dh:k≠j:=λe=>by subst e;rw[hjn]at h;simp at h
  refine⟨k+1,(by show k+1<=j;omega),(show j-(k+1)<j-k by omega),View.o2 2 [0,1] [] ?_⟩
  .exact .pr rfl rfl rfl (.pt rfl rfl (.gC (ds:=[.val (.string name)]) rfl) (.nil _))
structure StD where
 t:Nat
 y:NE
def lF(a b:List NE)(t:Nat)(y:NE):List NE:=a++b.take t++y::b.drop t
theorem Oz{a b:List NE}{t:Nat}(h:t<=b.length)(y:NE):(lF a b t y).length=a.length+b.length+1:=by simp[lF];omega
theorem KE{a b:List NE}{t:Nat}(h:t<b.length)(y:NE):(lF a b t y).set (a.length+t) b[t]=lF a b (t+1) b[t]/\(lF a b t y)[a.length+1+t]? =some b[t]:=by
 have h1:(a++b.take t).length=a.length+t:=by simp;omega
 have hd:b.drop t=b[t]::b.drop (t+1):=adt h;constructor
 .unfold lF;rw[adH _ _ om,h1,ac3,adW,adb h,hd];simp only[ac0,List.singleton_append]
 .unfold lF;rw[ZZ om,h1,show a.length+1+t-(a.length+t)=1 by omega,hd]
  rfl
def Rj:NE:=(⟨#[]⟩,0)
theorem KF(a b:List NE)(x:NE)(hl:a.length+b.length<=4194303)(name:ByteArray)(hx:x.1.toList=name.toList)(ha:∀e,e∈a->e.1.toList≠name.toList)(hb:∀e,e∈b->e.1.toList≠name.toList):
  body prog c109 [.rv (.one (.row 0 2 0 none)),.rv (.one (.fn 110 [1]))] [.row 2 (aa ((a++x::b).map c9)),Ox name]
  (λr m=>r= .rv (.one (.row 0 2 0 (some (a.length+b.length))))/\m=[.row 2 (aa ((a++b++ [Rj]).map c9)),Ox name]):=by
 have hlen:(a++x::b).length=a.length+b.length+1:=by simp;omega
 refine(aZ func137 l137 (D7 (a++x::b) om name a.length om (by simp[hx]) (λi e hi he=>?_))).mono λr m⟨hr,hm⟩=>?_
 .rw[aac hi]at he;exact ha e (Tp he)
 subst hr hm;refine bc (λs:StD=>s.t<=b.length) [0,1] (λs=>[(5,am .i64 ((a.length+s.t:Nat):Int)),(6,am .i64 ((a.length+1+s.t:Nat):Int))]) (λs=>[.row 2 (aa ((lF a b s.t s.y).map c9)),Ox name]) (λs=>b.length-s.t) ⟨0,x⟩ (aaj _) ?_ (λs hs=>?_)
 .refine View.o 2 [0,1] [] ?_ ?_
  .repeat(first|exact .nil|refine .aA ?_|refine .eq rfl ?_|refine .put (.bb (cj om).symm) ?_)
  .exact .pt rfl rfl (.bL (by show aa _=aa _;simp[lF])) (.pt rfl rfl (.gC (ds:=[.val (.string name)]) rfl) (.nil _))
 obtain⟨t,y⟩:=s;have hs:t<=b.length:=hs;have mw:=Oz (a:=a) hs y;refine aN (λh=>?_) (λh=>?_)
 .have h:((a.length+1+t:Nat):Int)<((lenOf (aa ((lF a b t y).map c9)).length 0 none:Nat):Int):=h;rw[KD,mw]at h;have ht:t<b.length:=om;obtain⟨n1,n2⟩:=KE (a:=a) ht y;have mh:a.length+1+t<(lF a b t y).length:=om;have kD:(lF a b t y)[a.length+1+t]=b[t]:=by rw[vU mh]at n2;exact adN n2
  have hr:=GC mh;rw[kD]at hr;refine af (bZ (by rw[KD];exact mh):dZ ((a.length+1+t:Nat):Int) (lenOf (aa ((lF a b t y).map c9)).length 0 none)=some (a.length+1+t)) ?_
  refine af hr ?_;have dh:=hb b[t] (aaw ht);generalize hbt:b[t]=v at n1 dh;refine fA (args0:=[xQ v,.rv (.one (.ptr 0 0))]) (cs:=[.val (.string name)]) 1 rfl rfl (r0:=aD (v.1.toList==name.toList)) rfl (λK hK=>Oy v name K hK) ?_
  refine cN (by simpa using dh) ?_
  refine af (bZ (by rw[KD,mw];omega):dZ ((a.length+t:Nat):Int) (lenOf (aa ((lF a b t y).map c9)).length 0 none)=some (a.length+t)) ?_
  refine af (GC (by rw[mw];omega):cF (aa ((lF a b t y).map c9)) (a.length+t)=_) ?_
  have jC:aV (aa ((lF a b t y).map c9)) (a.length+t) [.ah (.val (.string v.1)),.ah (.val (.int .i64 v.2))]=aa ((lF a b (t+1) v).map c9):=by rw[<-n1,aY,abv];simp[aa,abv,c9]
  have e1:=cj (k:=a.length+t) om;have e2:=cj (k:=a.length+1+t) om;refine⟨⟨t+1,v⟩,ht,(show b.length-(t+1)<b.length-t by omega),View.o 3 [0,1] [] ?_ ?_⟩
  .repeat(first|exact .nil|refine .aA ?_|refine .put (.bb e1.symm) ?_|refine .put (.bb e2.symm) ?_|refine .eq rfl ?_)
  .exact .pt rfl rfl (.bL jC) (.pt rfl rfl (.gC (ds:=[.val (.string name)]) rfl) (.nil _))
 .have h:¬((a.length+1+t:Nat):Int)<((lenOf (aa ((lF a b t y).map c9)).length 0 none:Nat):Int):=h;rw[KD,mw]at h;have ht:t=b.length:=om;subst ht;have Z3:(aa ((lF a b b.length y).map c9)).length=a.length+b.length+1:=by rw[<-mw];simp[aa]
  have d9:cU (aa ((lF a b b.length y).map c9)) (a.length+b.length) [[.ah (.val (.string ⟨#[]⟩)),.ah (.val (.int .i64 0))]]=aa ((a++b++ [Rj]).map c9):=by
   have h1:aa ((lF a b b.length y).map c9)=aa ((a++b).map c9)++ [[.ah (.val (.string y.1)),.ah (.val (.int .i64 y.2))]]:=by simp[lF,aa,c9]
   have h2:(aa ((a++b).map c9)).length=a.length+b.length:=by simp[aa]
   rw[h1,cU,List.take_left' h2,adD (by rw[aa3,h2];simp)]
   simp[aa,c9,Rj]
  generalize hX:aa ((lF a b b.length y).map c9)=X at Z3 d9;have Z4:lenOf X.length 0 none=a.length+b.length+1:=Z3;refine cN (t:=(Nat.ble (a.length+b.length) (lenOf X.length 0 none)&&Nat.ble (lenOf X.length 0 none) (X.length-0))) (by rw[Z4,Z3];simp[aa9]) ?_
  have Tu:cU X (a.length+b.length) (gI (lenOf X.length 0 none-(a.length+b.length)) [.ah (.val (.string ⟨#[]⟩)),.ah (.val (.int .i64 0))])=aa ((a++b++ [Rj]).map c9):=by
   rw[Z4,show a.length+b.length+1-(a.length+b.length)=1 by omega]
   exact d9
  refine cN (t:=Nat.ble (lenOf X.length 0 none) X.length) (by rw[Z4,Z3];simp[aa9]) ?_
  refine cN (t:=Nat.blt (a.length+b.length) (lenOf X.length 0 none)) (by rw[Z4,abJ];omega) ?_
  refine cN (t:=(Nat.ble 0 (a.length+b.length)&&Nat.ble (a.length+b.length) ((cU X (a.length+b.length) (gI (lenOf X.length 0 none-(a.length+b.length)) [.ah (.val (.string ⟨#[]⟩)),.ah (.val (.int .i64 0))])).length-0))) (by rw[Tu];simp[aa,aa9]) ?_
  exact⟨rfl,congrArg (λz=>[Bk.row 2 z,Ox name]) Tu⟩
theorem ID(a b:List NE)(x:NE)(hl:a.length+b.length<=4194303)(name:ByteArray)(hx:x.1.toList=name.toList)(ha:∀e,e∈a->e.1.toList≠name.toList)(hb:∀e,e∈b->e.1.toList≠name.toList){m:Mem}{K:CV->Mem->Prop}(i j:Nat)(p9:fJ [i,j]=true)(aC:eP m.length [i,j]=true)(hi:cF m i=some (.row 2 (aa ((a++x::b).map c9))))(hj:cF m j=some (Ox name))(h:K (.rv (.one (.row i 2 0 (some (a.length+b.length))))) (c6 m [i,j] [.row 2 (aa ((a++b++ [Rj]).map c9)),Ox name])):ap prog 109 [.rv (.one (.row i 2 0 none)),.rv (.one (.fn 110 [j]))] m K:=by
 refine bu [i,j] m.length rfl rfl p9 aC (args0:=[.rv (.one (.row 0 2 0 none)),.rv (.one (.fn 110 [1]))]) rfl (m0:=[.row 2 (aa ((a++x::b).map c9)),Ox name]) (λk b' hk=>?_) (aZ func109 l109 (KF a b x hl name hx ha hb)) (λr1 m1 hr=>?_)
 .match k,hk with
  |0,hk=>cases hk;exact .inr ⟨λh=>h,_,by rw[aT]at hi;exact hi,.bL rfl⟩
  |1,hk=>cases hk;exact .inr ⟨λh=>h,_,by rw[aT]at hj;exact hj,.gC (ds:=[.val (.string name)]) rfl⟩
  |n+2,hk=>simp at hk
 .obtain⟨rfl,rfl⟩:=hr;refine⟨aE,?_⟩;show K (.rv (.one (.row i 2 0 (some (a.length+b.length))))) (c6 m [i,j] [.row 2 ((aa ((a++b++ [Rj]).map c9)).map (λcs=>cs.map (CC.bb (sg [i,j] m.length)))),Ox name])
  rw[iy];exact h
def mO(p:Nat)(c:CC)(k:Nat)(o:Obj):List CC:= (dv o (if k=p then c else .ah (.sl 2 o.ak)) o.al o.up)
def bS(p:Nat)(c:CC)(l:List Obj):List (List CC):=(l.zipIdx.map λx=>mO p c x.2 x.1)
theorem fM(p:Nat)(c:CC)(l:List Obj)(i:Nat):(bS p c l)[i]? =(l[i]?).map (mO p c i):=by
 simp only[bS,Tm,List.getElem?_zipIdx,aaP];cases l[i]? <;>rfl
theorem iF(p:Nat)(c:CC)(l:List Obj):(bS p c l).length=l.length:=by simp[bS]
theorem IE(p Q:Nat)(l:List Obj):bQ p Q 0 l=bS p (.row Q 2 0 none) l:=by apply abr;intro i;rw[gv,fM,aaP];rfl
theorem iG{p:Nat}{c:CC}{l:List Obj}{k:Nat}{o:Obj}(hk:k<l.length):aV (bS p c l) k (mO p c k o)=bS p c (l.set k o):=by
 rw[aY];apply abr;intro i;rw[fM];by_cases h:k=i
 .subst h;rw[TH (by rw[iF];exact hk),TH hk]
  rfl
 .rw[U7 h,U7 h,fM]
theorem GD{p:Nat}{c c':CC}{l:List Obj}{o:Obj}(hp:l[p]? =some o):aV (bS p c l) p (mO p c' p o)=bS p c' l:=by
 have jZ:=(Km.1 hp).1;rw[aY];apply abr;intro i;rw[fM];by_cases h:p=i
 .subst h;rw[TH (by rw[iF];exact jZ),hp]
  rfl
 .rw[U7 h,fM];cases l[i]? with
  |none=>rfl
  |some x=>
   have h2:¬i=p:=λe=>h e.symm
   simp only[aaD,mO,if_neg h2]
theorem D8{m:Mem}{Z:Nat->Prop}{pp:Option Nat}{id p:Nat}{c:CC}{l:List Obj}{o:Obj}{E:List (List Dt)}(hz:Z id)(hm:m[id]? =some (.row 9 (bS p c l)))(hq:d5 m Z (some id) c (.sl 2 E))(hp:l[p]? =some o):
  d5 m Z pp (.row id 9 0 none) (dm (l.set p {o with ak:=E})):=by
 have jZ:=(Km.1 hp).1;have key:∀(i:Nat)cs es,(bS p c l)[i]? =some cs->((l.set p {o with ak:=E}).map Obj.enc)[i]? =some es->kN m Z (some id) cs es:=by
  intro i cs es h1 h2;rw[fM]at h1;rw[Tm]at h2;by_cases h:p=i
  .subst h;rw[TH jZ]at h2;rw[hp]at h1;cases h1;cases h2;simp only[mO,if_pos,Obj.enc];exact .cons (.ah _) (.cons (.ah _) (.cons hq (.cons (.ah _) (.cons (.ah _) (.cons (.ah _) (.cons (.ah _) (.cons (.ah _) (.cons (.ah _) .nil))))))))
  .rw[U7 h]at h2;cases hx:l[i]? with
   |none=>rw[hx]at h1;cases h1
   |some x=>
    rw[hx]at h1 h2;cases h1;cases h2;have h3:¬i=p:=λe=>h e.symm
    simp only[mO,if_neg h3,Obj.enc];exact .cons (.ah _) (.cons (.ah _) (.cons (.ah _) (.cons (.ah _) (.cons (.ah _) (.cons (.ah _) (.cons (.ah _) (.cons (.ah _) (.cons (.ah _) .nil))))))))
 exact d5.row id 9 0 none _ _ hz hm (by rw[iF,Pj,aaF]) (λi cs es h1 h2=>(key i cs es h1 h2).len) (λi cs es j c d h1 h2 h3 h4=>(key i cs es h1 h2).get j c d h3 h4)
def lG(l:List Obj)(n k:Nat)(name:ByteArray):List Obj:=match l[n]? with
 |none=>l
 |some o=>match (l.set n {o with ak:=((o.ak.map oo).filter λe=>decide (e.1.toList≠name.toList)).map gl})[k]? with
  |none=>l
  |some q=>(l.set n {o with ak:=((o.ak.map oo).filter λe=>decide (e.1.toList≠name.toList)).map gl}).set k {q with al:=IntKind.i64.wrap (q.al-1),up:=if q.ag=2 then(k:Int)else q.up}
def ya(o:Obj)(l:List Obj)(n:Nat)(name:ByteArray):List Obj×Int×Int:=
 if o.ag≠2 then([],0,11)else if fT (o.ak.map oo) name<0 then([],0,6)else match l[(fT (o.ak.map oo) name).toNat]? with
  |none=>([],0,6)
  |some q=>if q.ag=2/\q.ak.length>0 then([],0,18)else(lG l n (fT (o.ak.map oo) name).toNat name,fT (o.ak.map oo) name,0)
def cT(l:List Obj)(cL:Int)(name:ByteArray):List Obj×Int×Int:=
 if qp l cL 0=true then(match l[cL.toNat]? with
  |none=>([],0,6)
  |some o=>ya o l cL.toNat name)else([],0,6)
theorem kj{l:List Obj}{n k:Nat}(hn:n<l.length)(hk:k<l.length){name:ByteArray}{E:List (List Dt)}(hE:E=((l[n].ak.map oo).filter λe=>decide (e.1.toList≠name.toList)).map gl){q:Obj}(hq:q={l[k]with al:=IntKind.i64.wrap (l[k].al-1),up:=if l[k].ag=2 then(k:Int)else l[k].up}):
  ∃o2,(l.set k q)[n]? =some o2/\(l.set k q).set n {o2 with ak:=E}=lG l n k name:=by
 subst hE;unfold lG;rw[vU hn];simp only[];by_cases h:k=n
 .subst h;rw[TH hn,TH hn];refine⟨_,rfl,?_⟩;simp only[ac9];subst hq;rfl
 .rw[U7 h,vU hn,U7 (λe=>h e.symm),vU hk]
  refine⟨_,rfl,?_⟩;simp only[];rw[List.set_comm _ _ h,<-hq]
theorem KG{es:List NE}(hs:FT es){name:ByteArray}(h:¬fT es name<0)(cI:∀e,e∈es->0<=e.2):∃a x b,es=a++x::b/\x.1.toList=name.toList/\x.2=fT es name/\(∀e,e∈a->e.1.toList≠name.toList)/\(∀e,e∈b->e.1.toList≠name.toList)/\es.filter (λe=>decide (e.1.toList≠name.toList))=a++b:=by
 rcases i3 es name with⟨x,hx,h1,h2⟩|⟨h2,_⟩
 .obtain⟨a,b,rfl⟩:=List.append_of_mem hx;have hu:∀y,y∈a++x::b->y.1.toList=name.toList->y=x:=λy hy he=>xx hs hy hx (he.trans h1.symm)
  have hp:=hs;unfold FT at hp;rw[List.pairwise_append,adi]at hp;have hna:∀e,e∈a->e.1.toList≠name.toList:=λe he h3=>by have:=hp.2.2 e he x aE;rw[Br,h3,<-h1,o6]at this;cases this
  have hnb:∀e,e∈b->e.1.toList≠name.toList:=λe he h3=>by have:=hp.2.1.1 e he;rw[Br,h3,<-h1,o6]at this;cases this
  refine⟨a,x,b,rfl,h1,h2.symm,hna,hnb,?_⟩;rw[adV,ab0,if_neg (by simpa using h1),adf.2 (λe he=>by simpa using hna e he),adf.2 (λe he=>by simpa using hnb e he)]
 .rw[h2]at h;omega
def Vd(R:List Obj×Int×Int)(r:CV)(m:Mem):Prop:=∃r' m',View 0 ⟨[r],m⟩ ⟨[r'],m'⟩/\r'= .bD [ns R.1,cK R.2.1,cK R.2.2]/\m'=[]
theorem nB{R:List Obj×Int×Int}{m:Mem}(e:Int)(h:R=([],0,e)):Vd R (.bD [.one .aO,cK 0,cK e]) m:=by subst h;exact⟨_,_,View.of m.length [] [] rfl rfl rfl rfl rfl rfl (.put (Yv (.one (.fQ (.aO 9))) (.one (.bb (.ah _))) (.one (.bb (.ah _)))) .nil) (.nil _),rfl,rfl⟩
theorem BY(l:List Obj)(hs:x9 l)(cL:Int)(name:ByteArray):body prog c68 [cC l,am .i64 cL,fb name] [] (Vd (cT l cL name)):=by
 refine aN (λh1=>?_) (λh1=>?_)
 .exact nB 6 (by unfold cT;rw[x5 h1];rfl)
 obtain⟨n,rfl⟩:∃n:Nat,cL=n:=⟨cL.toNat,by have h1:¬cL<0:=h1;omega⟩
 refine aN (λh2=>?_) (λh2=>?_)
 .have h2:(n:Int)>=((l.map Obj.enc).length:Int):=h2;rw[Pj]at h2;exact nB 6 (by unfold cT;rw[x6 h2];rfl)
 have h2:¬(n:Int)>=((l.map Obj.enc).length:Int):=h2;rw[Pj]at h2;have hn:n<l.length:=om;have PY:=jc hn;refine af PY ?_;refine bs (λh3=>?_) (λh3=>?_)
 .exact nB 6 (by unfold cT;rw[x7 hn h3];rfl)
 have h3:l[n].ag≠0:=h3;have hR:cT l n name=ya l[n] l n name:=by unfold cT;rw[if_pos (x8 hn h3),Y6,vU hn]
 rw[hR];unfold ya;refine af PY ?_;refine bx (λh7=>?_) (λh7=>?_)
 .exact nB 11 (if_pos h7)
 have h7:l[n].ag=2:=by simpa using h7
 rw[if_neg (by rw[h7];simp)]
 obtain⟨es,he,BT,Ri,cI⟩:=hs.en _ (aaw hn);have Tt:l[n].ak.map oo=es:=by rw[he,nV]
 refine D0 l n hn h7 es he om name ?_;have Z2:xX l es n name=fT es name:=Al BT name;rw[Z2,Tt];refine aN (λh9=>?_) (λh9=>?_)
 .exact nB 6 (if_pos h9)
 have h9:¬fT es name<0:=h9;rw[if_neg h9];obtain⟨a,x,b,EV,hx,VZ,ha,hb,aci⟩:=KG BT h9 λe he=>(cI e he).1
 have hxr:=cI x (by rw[EV];simp)
 obtain⟨k,hk⟩:∃k:Nat,fT es name=k:=⟨(fT es name).toNat,om⟩;have gA:k<l.length:=om;have U3:=jc gA;rw[hk,Y6,vU gA];simp only[];have Yy:a.length+b.length<=4194303:=by rw[EV]at Ri;simp at Ri;omega
 have oA:∀c,cF (bS n c l) n=some (dv l[n] c l[n].al l[n].up):=λc=>by rw[aT,fM,vU hn,aaD,mO,if_pos rfl]
 have Wh:BR l n l.length= .row 2 (aa ((a++x::b).map c9)):=by
  unfold BR;rw[show Nat.blt n l.length=true by simpa using hn]
  show Bk.row 2 (aa (match l[n]? with|some o=>o.ak|none=>[]))=_
  rw[vU hn];show Bk.row 2 (aa l[n].ak)=_;rw[he,EV];rfl
 have fg:∀(c:CC)(l2:List Obj)(j:Nat),l2.length=l.length->j<l.length->dZ (j:Nat) (lenOf (bS n c l2).length 0 none)=some j:=λc l2 j h hj=>bZ (by rw[show lenOf (bS n c l2).length 0 none=l2.length from iF n c l2,h];exact hj)
 have KB:((a++b).map c9)=((l[n].ak.map oo).filter λe=>decide (e.1.toList≠name.toList)).map gl:=by rw[Tt,aci];rfl
 have jL:∀L2:List Obj,L2=lG l n k name->aw prog 0 G88 (oO prog c68.l8 (Vd (lG l n k name,(k:Int),0))) ⟨kS 90 [(9,am .i64 (k:Nat)),(10,cC L2)],[]⟩:=λL2 h=>by subst h;exact⟨_,_,View.o 0 [] [] (.eq rfl .nil) (.nil _),rfl,rfl⟩
 have mG:(aV (bS n (.row 2 2 0 none) l) n (dv l[n] (.row 2 2 0 (some (a.length+b.length))) l[n].al l[n].up))=bS n (.row 2 2 0 (some (a.length+b.length))) l:=by have:=GD (p:=n) (c:= .row 2 2 0 none) (c':= .row 2 2 0 (some (a.length+b.length))) (vU hn);rw[<-this,mO,if_pos rfl]
 have iN:b9 ((a++b++ [Rj]).map c9) 0 (some (a.length+b.length))=(a++b).map c9:=by show((a++b++ [Rj]).map c9).take (a.length+b.length)=_;rw[abm,List.take_left' aE]
 have hq:∀m:Mem,m[2]? =some (.row 2 (aa ((a++b++ [Rj]).map c9)))->d5 m (λk=>br [1,2] k=true) (some 1) (.row 2 2 0 (some (a.length+b.length))) (.sl 2 ((a++b).map c9)):=λm hm=>by
  have:=d5.fl (Z:=λk=>br [1,2] k=true) (p:=some 1) rfl hm 0 (some (a.length+b.length))
  rw[iN]at this;exact this
 refine af U3 ?_;refine bs (λu9=>?_) (λu9=>?_)
 .refine af U3 ?_;refine aN (λqD=>?_) (λqD=>?_)
  .exact nB 18 (if_pos ⟨u9,by have qD:(l[k].ak.length:Int)>0:=qD;omega⟩)
  .rw[if_neg (λh=>qD (by show(l[k].ak.length:Int)>0;omega))]
   refine BS l hs.oB n ?_;rw[Wh,IE];refine af (fg (.row 2 2 0 none) l n rfl hn) ?_;refine af (oA (.row 2 2 0 none)) ?_;refine ID a b x Yy name hx ha hb 2 0 rfl rfl rfl rfl ?_;refine af (fg (.row 2 2 0 none) l n rfl hn) ?_;refine af (oA (.row 2 2 0 none)) ?_;by_cases GF:k=n
   .have OA:cF (bS n (.row 2 2 0 (some (a.length+b.length))) l) k=some (dv l[k] (.row 2 2 0 (some (a.length+b.length))) l[k].al l[k].up):=by rw[aT,fM,vU gA,aaD,mO,if_pos GF]
    have o4:(aV (aV (bS n (.row 2 2 0 none) l) n (dv l[n] (.row 2 2 0 (some (a.length+b.length))) l[n].al l[n].up)) k (dv l[k] (.row 2 2 0 (some (a.length+b.length))) (IntKind.i64.wrap (l[k].al-1)) l[k].up))=bS n (.row 2 2 0 (some (a.length+b.length))) (l.set k {l[k]with al:=(IntKind.i64.wrap (l[k].al-1))}):=by
     rw[mG];have:=iG (p:=n) (c:= .row 2 2 0 (some (a.length+b.length))) (o:={l[k]with al:=(IntKind.i64.wrap (l[k].al-1))}) gA
     rw[<-this,mO,if_pos GF]
    have wo:cF (aV (aV (bS n (.row 2 2 0 none) l) n (dv l[n] (.row 2 2 0 (some (a.length+b.length))) l[n].al l[n].up)) k (dv l[k] (.row 2 2 0 (some (a.length+b.length))) (IntKind.i64.wrap (l[k].al-1)) l[k].up)) k=some (dv l[k] (.row 2 2 0 (some (a.length+b.length))) (IntKind.i64.wrap (l[k].al-1)) l[k].up):=by
     rw[aY,aT,TH (by rw[mG,iF];exact gA)]
    refine af (by rw[mG];exact fg _ l k rfl gA:dZ (k:Nat) (lenOf (aV (bS n (.row 2 2 0 none) l) n (dv l[n] (.row 2 2 0 (some (a.length+b.length))) l[n].al l[n].up)).length 0 none)=some k) ?_
    refine af (by rw[mG];exact OA:cF (aV (bS n (.row 2 2 0 none) l) n (dv l[n] (.row 2 2 0 (some (a.length+b.length))) l[n].al l[n].up)) k=some (dv l[k] (.row 2 2 0 (some (a.length+b.length))) l[k].al l[k].up)) ?_
    refine af (by rw[mG];exact fg _ l k rfl gA:dZ (k:Nat) (lenOf (aV (bS n (.row 2 2 0 none) l) n (dv l[n] (.row 2 2 0 (some (a.length+b.length))) l[n].al l[n].up)).length 0 none)=some k) ?_
    refine af (by rw[mG];exact OA:cF (aV (bS n (.row 2 2 0 none) l) n (dv l[n] (.row 2 2 0 (some (a.length+b.length))) l[n].al l[n].up)) k=some (dv l[k] (.row 2 2 0 (some (a.length+b.length))) l[k].al l[k].up)) ?_
    refine af (by rw[o4];exact fg _ _ k (aaF ..) gA:dZ (k:Nat) (lenOf (aV (aV (bS n (.row 2 2 0 none) l) n (dv l[n] (.row 2 2 0 (some (a.length+b.length))) l[n].al l[n].up)) k (dv l[k] (.row 2 2 0 (some (a.length+b.length))) (IntKind.i64.wrap (l[k].al-1)) l[k].up)).length 0 none)=some k) ?_
    refine af wo ?_;refine bs (λrq=>?_) (λrq=>?_)
    .have rq:l[k].ag=2:=rq;have Ow:(aV (aV (aV (bS n (.row 2 2 0 none) l) n (dv l[n] (.row 2 2 0 (some (a.length+b.length))) l[n].al l[n].up)) k (dv l[k] (.row 2 2 0 (some (a.length+b.length))) (IntKind.i64.wrap (l[k].al-1)) l[k].up)) k (dv l[k] (.row 2 2 0 (some (a.length+b.length))) (IntKind.i64.wrap (l[k].al-1)) (k:Nat)))=bS n (.row 2 2 0 (some (a.length+b.length))) (l.set k {l[k]with al:=(IntKind.i64.wrap (l[k].al-1)),up:=(k:Int)}):=by
      rw[o4];have:=iG (p:=n) (c:= .row 2 2 0 (some (a.length+b.length))) (l:=l.set k {l[k]with al:=(IntKind.i64.wrap (l[k].al-1))}) (k:=k) (o:={l[k]with al:=(IntKind.i64.wrap (l[k].al-1)),up:=(k:Int)}) (by rw[aaF];exact gA)
      rw[ac9]at this;rw[<-this,mO,if_pos GF]
     refine af (by rw[o4];exact fg _ _ k (aaF ..) gA:dZ (k:Nat) (lenOf (aV (aV (bS n (.row 2 2 0 none) l) n (dv l[n] (.row 2 2 0 (some (a.length+b.length))) l[n].al l[n].up)) k (dv l[k] (.row 2 2 0 (some (a.length+b.length))) (IntKind.i64.wrap (l[k].al-1)) l[k].up)).length 0 none)=some k) ?_
     refine af wo ?_;obtain⟨o2,ia,d9⟩:=kj (name:=name) hn gA KB (q:={l[k]with al:=(IntKind.i64.wrap (l[k].al-1)),up:=(k:Int)}) (by rw[if_pos rq])
     refine⟨_,View.o 3 [] [1,2] ?_ (.nil _),jL _ d9⟩
     iterate 9 refine .aA ?_
     refine .eq rfl ?_;refine .put (.rv (.one (.fQ (p:=none) (D8 (Z:=λk=>br [1,2] k=true) rfl (by show some (Bk.row 9 _)=some (Bk.row 9 _);congr 1;exact congrArg _ Ow) (hq _ rfl) ia)))) ?_
     repeat(first|exact .nil|refine .aA ?_)
    .have rq:l[k].ag≠2:=rq;obtain⟨o2,ia,d9⟩:=kj (name:=name) hn gA KB (q:={l[k]with al:=(IntKind.i64.wrap (l[k].al-1))}) (by rw[if_neg rq])
     refine⟨_,View.o 3 [] [1,2] ?_ (.nil _),jL _ d9⟩
     iterate 9 refine .aA ?_
     refine .eq rfl ?_;refine .put (.rv (.one (.fQ (p:=none) (D8 (Z:=λk=>br [1,2] k=true) rfl (by show some (Bk.row 9 _)=some (Bk.row 9 _);congr 1;exact congrArg _ o4) (hq _ rfl) ia)))) ?_
     repeat(first|exact .nil|refine .aA ?_)
   .have OA:cF (bS n (.row 2 2 0 (some (a.length+b.length))) l) k=some (dv l[k] (.ah (.sl 2 l[k].ak)) l[k].al l[k].up):=by rw[aT,fM,vU gA,aaD,mO,if_neg GF]
    have o4:(aV (aV (bS n (.row 2 2 0 none) l) n (dv l[n] (.row 2 2 0 (some (a.length+b.length))) l[n].al l[n].up)) k (dv l[k] (.ah (.sl 2 l[k].ak)) (IntKind.i64.wrap (l[k].al-1)) l[k].up))=bS n (.row 2 2 0 (some (a.length+b.length))) (l.set k {l[k]with al:=(IntKind.i64.wrap (l[k].al-1))}):=by
     rw[mG];have:=iG (p:=n) (c:= .row 2 2 0 (some (a.length+b.length))) (o:={l[k]with al:=(IntKind.i64.wrap (l[k].al-1))}) gA
     rw[<-this,mO,if_neg GF]
    have wo:cF (aV (aV (bS n (.row 2 2 0 none) l) n (dv l[n] (.row 2 2 0 (some (a.length+b.length))) l[n].al l[n].up)) k (dv l[k] (.ah (.sl 2 l[k].ak)) (IntKind.i64.wrap (l[k].al-1)) l[k].up)) k=some (dv l[k] (.ah (.sl 2 l[k].ak)) (IntKind.i64.wrap (l[k].al-1)) l[k].up):=by
     rw[aY,aT,TH (by rw[mG,iF];exact gA)]
    refine af (by rw[mG];exact fg _ l k rfl gA:dZ (k:Nat) (lenOf (aV (bS n (.row 2 2 0 none) l) n (dv l[n] (.row 2 2 0 (some (a.length+b.length))) l[n].al l[n].up)).length 0 none)=some k) ?_
    refine af (by rw[mG];exact OA:cF (aV (bS n (.row 2 2 0 none) l) n (dv l[n] (.row 2 2 0 (some (a.length+b.length))) l[n].al l[n].up)) k=some (dv l[k] (.ah (.sl 2 l[k].ak)) l[k].al l[k].up)) ?_
    refine af (by rw[mG];exact fg _ l k rfl gA:dZ (k:Nat) (lenOf (aV (bS n (.row 2 2 0 none) l) n (dv l[n] (.row 2 2 0 (some (a.length+b.length))) l[n].al l[n].up)).length 0 none)=some k) ?_
    refine af (by rw[mG];exact OA:cF (aV (bS n (.row 2 2 0 none) l) n (dv l[n] (.row 2 2 0 (some (a.length+b.length))) l[n].al l[n].up)) k=some (dv l[k] (.ah (.sl 2 l[k].ak)) l[k].al l[k].up)) ?_
    refine af (by rw[o4];exact fg _ _ k (aaF ..) gA:dZ (k:Nat) (lenOf (aV (aV (bS n (.row 2 2 0 none) l) n (dv l[n] (.row 2 2 0 (some (a.length+b.length))) l[n].al l[n].up)) k (dv l[k] (.ah (.sl 2 l[k].ak)) (IntKind.i64.wrap (l[k].al-1)) l[k].up)).length 0 none)=some k) ?_
    refine af wo ?_;refine bs (λrq=>?_) (λrq=>?_)
    .have rq:l[k].ag=2:=rq;have Ow:(aV (aV (aV (bS n (.row 2 2 0 none) l) n (dv l[n] (.row 2 2 0 (some (a.length+b.length))) l[n].al l[n].up)) k (dv l[k] (.ah (.sl 2 l[k].ak)) (IntKind.i64.wrap (l[k].al-1)) l[k].up)) k (dv l[k] (.ah (.sl 2 l[k].ak)) (IntKind.i64.wrap (l[k].al-1)) (k:Nat)))=bS n (.row 2 2 0 (some (a.length+b.length))) (l.set k {l[k]with al:=(IntKind.i64.wrap (l[k].al-1)),up:=(k:Int)}):=by
      rw[o4];have:=iG (p:=n) (c:= .row 2 2 0 (some (a.length+b.length))) (l:=l.set k {l[k]with al:=(IntKind.i64.wrap (l[k].al-1))}) (k:=k) (o:={l[k]with al:=(IntKind.i64.wrap (l[k].al-1)),up:=(k:Int)}) (by rw[aaF];exact gA)
      rw[ac9]at this;rw[<-this,mO,if_neg GF]
     refine af (by rw[o4];exact fg _ _ k (aaF ..) gA:dZ (k:Nat) (lenOf (aV (aV (bS n (.row 2 2 0 none) l) n (dv l[n] (.row 2 2 0 (some (a.length+b.length))) l[n].al l[n].up)) k (dv l[k] (.ah (.sl 2 l[k].ak)) (IntKind.i64.wrap (l[k].al-1)) l[k].up)).length 0 none)=some k) ?_
     refine af wo ?_;obtain⟨o2,ia,d9⟩:=kj (name:=name) hn gA KB (q:={l[k]with al:=(IntKind.i64.wrap (l[k].al-1)),up:=(k:Int)}) (by rw[if_pos rq])
     refine⟨_,View.o 3 [] [1,2] ?_ (.nil _),jL _ d9⟩
     iterate 9 refine .aA ?_
     refine .eq rfl ?_;refine .put (.rv (.one (.fQ (p:=none) (D8 (Z:=λk=>br [1,2] k=true) rfl (by show some (Bk.row 9 _)=some (Bk.row 9 _);congr 1;exact congrArg _ Ow) (hq _ rfl) ia)))) ?_
     repeat(first|exact .nil|refine .aA ?_)
    .have rq:l[k].ag≠2:=rq;obtain⟨o2,ia,d9⟩:=kj (name:=name) hn gA KB (q:={l[k]with al:=(IntKind.i64.wrap (l[k].al-1))}) (by rw[if_neg rq])
     refine⟨_,View.o 3 [] [1,2] ?_ (.nil _),jL _ d9⟩
     iterate 9 refine .aA ?_
     refine .eq rfl ?_;refine .put (.rv (.one (.fQ (p:=none) (D8 (Z:=λk=>br [1,2] k=true) rfl (by show some (Bk.row 9 _)=some (Bk.row 9 _);congr 1;exact congrArg _ o4) (hq _ rfl) ia)))) ?_
     repeat(first|exact .nil|refine .aA ?_)
 .rw[if_neg (λh=>u9 h.1)]
  refine BS l hs.oB n ?_;rw[Wh,IE];refine af (fg (.row 2 2 0 none) l n rfl hn) ?_;refine af (oA (.row 2 2 0 none)) ?_;refine ID a b x Yy name hx ha hb 2 0 rfl rfl rfl rfl ?_;refine af (fg (.row 2 2 0 none) l n rfl hn) ?_;refine af (oA (.row 2 2 0 none)) ?_;by_cases GF:k=n
  .have OA:cF (bS n (.row 2 2 0 (some (a.length+b.length))) l) k=some (dv l[k] (.row 2 2 0 (some (a.length+b.length))) l[k].al l[k].up):=by rw[aT,fM,vU gA,aaD,mO,if_pos GF]
   have o4:(aV (aV (bS n (.row 2 2 0 none) l) n (dv l[n] (.row 2 2 0 (some (a.length+b.length))) l[n].al l[n].up)) k (dv l[k] (.row 2 2 0 (some (a.length+b.length))) (IntKind.i64.wrap (l[k].al-1)) l[k].up))=bS n (.row 2 2 0 (some (a.length+b.length))) (l.set k {l[k]with al:=(IntKind.i64.wrap (l[k].al-1))}):=by
    rw[mG];have:=iG (p:=n) (c:= .row 2 2 0 (some (a.length+b.length))) (o:={l[k]with al:=(IntKind.i64.wrap (l[k].al-1))}) gA
    rw[<-this,mO,if_pos GF]
   have wo:cF (aV (aV (bS n (.row 2 2 0 none) l) n (dv l[n] (.row 2 2 0 (some (a.length+b.length))) l[n].al l[n].up)) k (dv l[k] (.row 2 2 0 (some (a.length+b.length))) (IntKind.i64.wrap (l[k].al-1)) l[k].up)) k=some (dv l[k] (.row 2 2 0 (some (a.length+b.length))) (IntKind.i64.wrap (l[k].al-1)) l[k].up):=by
    rw[aY,aT,TH (by rw[mG,iF];exact gA)]
   refine af (by rw[mG];exact fg _ l k rfl gA:dZ (k:Nat) (lenOf (aV (bS n (.row 2 2 0 none) l) n (dv l[n] (.row 2 2 0 (some (a.length+b.length))) l[n].al l[n].up)).length 0 none)=some k) ?_
   refine af (by rw[mG];exact OA:cF (aV (bS n (.row 2 2 0 none) l) n (dv l[n] (.row 2 2 0 (some (a.length+b.length))) l[n].al l[n].up)) k=some (dv l[k] (.row 2 2 0 (some (a.length+b.length))) l[k].al l[k].up)) ?_
   refine af (by rw[mG];exact fg _ l k rfl gA:dZ (k:Nat) (lenOf (aV (bS n (.row 2 2 0 none) l) n (dv l[n] (.row 2 2 0 (some (a.length+b.length))) l[n].al l[n].up)).length 0 none)=some k) ?_
   refine af (by rw[mG];exact OA:cF (aV (bS n (.row 2 2 0 none) l) n (dv l[n] (.row 2 2 0 (some (a.length+b.length))) l[n].al l[n].up)) k=some (dv l[k] (.row 2 2 0 (some (a.length+b.length))) l[k].al l[k].up)) ?_
   refine af (by rw[o4];exact fg _ _ k (aaF ..) gA:dZ (k:Nat) (lenOf (aV (aV (bS n (.row 2 2 0 none) l) n (dv l[n] (.row 2 2 0 (some (a.length+b.length))) l[n].al l[n].up)) k (dv l[k] (.row 2 2 0 (some (a.length+b.length))) (IntKind.i64.wrap (l[k].al-1)) l[k].up)).length 0 none)=some k) ?_
   refine af wo ?_;refine bs (λrq=>?_) (λrq=>?_)
   .have rq:l[k].ag=2:=rq;have Ow:(aV (aV (aV (bS n (.row 2 2 0 none) l) n (dv l[n] (.row 2 2 0 (some (a.length+b.length))) l[n].al l[n].up)) k (dv l[k] (.row 2 2 0 (some (a.length+b.length))) (IntKind.i64.wrap (l[k].al-1)) l[k].up)) k (dv l[k] (.row 2 2 0 (some (a.length+b.length))) (IntKind.i64.wrap (l[k].al-1)) (k:Nat)))=bS n (.row 2 2 0 (some (a.length+b.length))) (l.set k {l[k]with al:=(IntKind.i64.wrap (l[k].al-1)),up:=(k:Int)}):=by
     rw[o4];have:=iG (p:=n) (c:= .row 2 2 0 (some (a.length+b.length))) (l:=l.set k {l[k]with al:=(IntKind.i64.wrap (l[k].al-1))}) (k:=k) (o:={l[k]with al:=(IntKind.i64.wrap (l[k].al-1)),up:=(k:Int)}) (by rw[aaF];exact gA)
     rw[ac9]at this;rw[<-this,mO,if_pos GF]
    refine af (by rw[o4];exact fg _ _ k (aaF ..) gA:dZ (k:Nat) (lenOf (aV (aV (bS n (.row 2 2 0 none) l) n (dv l[n] (.row 2 2 0 (some (a.length+b.length))) l[n].al l[n].up)) k (dv l[k] (.row 2 2 0 (some (a.length+b.length))) (IntKind.i64.wrap (l[k].al-1)) l[k].up)).length 0 none)=some k) ?_
    refine af wo ?_;obtain⟨o2,ia,d9⟩:=kj (name:=name) hn gA KB (q:={l[k]with al:=(IntKind.i64.wrap (l[k].al-1)),up:=(k:Int)}) (by rw[if_pos rq])
    refine⟨_,View.o 3 [] [1,2] ?_ (.nil _),jL _ d9⟩
    iterate 9 refine .aA ?_
    refine .eq rfl ?_;refine .put (.rv (.one (.fQ (p:=none) (D8 (Z:=λk=>br [1,2] k=true) rfl (by show some (Bk.row 9 _)=some (Bk.row 9 _);congr 1;exact congrArg _ Ow) (hq _ rfl) ia)))) ?_
    repeat(first|exact .nil|refine .aA ?_)
   .have rq:l[k].ag≠2:=rq;obtain⟨o2,ia,d9⟩:=kj (name:=name) hn gA KB (q:={l[k]with al:=(IntKind.i64.wrap (l[k].al-1))}) (by rw[if_neg rq])
    refine⟨_,View.o 3 [] [1,2] ?_ (.nil _),jL _ d9⟩
    iterate 9 refine .aA ?_
    refine .eq rfl ?_;refine .put (.rv (.one (.fQ (p:=none) (D8 (Z:=λk=>br [1,2] k=true) rfl (by show some (Bk.row 9 _)=some (Bk.row 9 _);congr 1;exact congrArg _ o4) (hq _ rfl) ia)))) ?_
    repeat(first|exact .nil|refine .aA ?_)
  .have OA:cF (bS n (.row 2 2 0 (some (a.length+b.length))) l) k=some (dv l[k] (.ah (.sl 2 l[k].ak)) l[k].al l[k].up):=by rw[aT,fM,vU gA,aaD,mO,if_neg GF]
   have o4:(aV (aV (bS n (.row 2 2 0 none) l) n (dv l[n] (.row 2 2 0 (some (a.length+b.length))) l[n].al l[n].up)) k (dv l[k] (.ah (.sl 2 l[k].ak)) (IntKind.i64.wrap (l[k].al-1)) l[k].up))=bS n (.row 2 2 0 (some (a.length+b.length))) (l.set k {l[k]with al:=(IntKind.i64.wrap (l[k].al-1))}):=by
    rw[mG];have:=iG (p:=n) (c:= .row 2 2 0 (some (a.length+b.length))) (o:={l[k]with al:=(IntKind.i64.wrap (l[k].al-1))}) gA
    rw[<-this,mO,if_neg GF]
   have wo:cF (aV (aV (bS n (.row 2 2 0 none) l) n (dv l[n] (.row 2 2 0 (some (a.length+b.length))) l[n].al l[n].up)) k (dv l[k] (.ah (.sl 2 l[k].ak)) (IntKind.i64.wrap (l[k].al-1)) l[k].up)) k=some (dv l[k] (.ah (.sl 2 l[k].ak)) (IntKind.i64.wrap (l[k].al-1)) l[k].up):=by
    rw[aY,aT,TH (by rw[mG,iF];exact gA)]
   refine af (by rw[mG];exact fg _ l k rfl gA:dZ (k:Nat) (lenOf (aV (bS n (.row 2 2 0 none) l) n (dv l[n] (.row 2 2 0 (some (a.length+b.length))) l[n].al l[n].up)).length 0 none)=some k) ?_
   refine af (by rw[mG];exact OA:cF (aV (bS n (.row 2 2 0 none) l) n (dv l[n] (.row 2 2 0 (some (a.length+b.length))) l[n].al l[n].up)) k=some (dv l[k] (.ah (.sl 2 l[k].ak)) l[k].al l[k].up)) ?_
   refine af (by rw[mG];exact fg _ l k rfl gA:dZ (k:Nat) (lenOf (aV (bS n (.row 2 2 0 none) l) n (dv l[n] (.row 2 2 0 (some (a.length+b.length))) l[n].al l[n].up)).length 0 none)=some k) ?_
   refine af (by rw[mG];exact OA:cF (aV (bS n (.row 2 2 0 none) l) n (dv l[n] (.row 2 2 0 (some (a.length+b.length))) l[n].al l[n].up)) k=some (dv l[k] (.ah (.sl 2 l[k].ak)) l[k].al l[k].up)) ?_
   refine af (by rw[o4];exact fg _ _ k (aaF ..) gA:dZ (k:Nat) (lenOf (aV (aV (bS n (.row 2 2 0 none) l) n (dv l[n] (.row 2 2 0 (some (a.length+b.length))) l[n].al l[n].up)) k (dv l[k] (.ah (.sl 2 l[k].ak)) (IntKind.i64.wrap (l[k].al-1)) l[k].up)).length 0 none)=some k) ?_
   refine af wo ?_;refine bs (λrq=>?_) (λrq=>?_)
   .have rq:l[k].ag=2:=rq;have Ow:(aV (aV (aV (bS n (.row 2 2 0 none) l) n (dv l[n] (.row 2 2 0 (some (a.length+b.length))) l[n].al l[n].up)) k (dv l[k] (.ah (.sl 2 l[k].ak)) (IntKind.i64.wrap (l[k].al-1)) l[k].up)) k (dv l[k] (.ah (.sl 2 l[k].ak)) (IntKind.i64.wrap (l[k].al-1)) (k:Nat)))=bS n (.row 2 2 0 (some (a.length+b.length))) (l.set k {l[k]with al:=(IntKind.i64.wrap (l[k].al-1)),up:=(k:Int)}):=by
     rw[o4];have:=iG (p:=n) (c:= .row 2 2 0 (some (a.length+b.length))) (l:=l.set k {l[k]with al:=(IntKind.i64.wrap (l[k].al-1))}) (k:=k) (o:={l[k]with al:=(IntKind.i64.wrap (l[k].al-1)),up:=(k:Int)}) (by rw[aaF];exact gA)
     rw[ac9]at this;rw[<-this,mO,if_neg GF]
    refine af (by rw[o4];exact fg _ _ k (aaF ..) gA:dZ (k:Nat) (lenOf (aV (aV (bS n (.row 2 2 0 none) l) n (dv l[n] (.row 2 2 0 (some (a.length+b.length))) l[n].al l[n].up)) k (dv l[k] (.ah (.sl 2 l[k].ak)) (IntKind.i64.wrap (l[k].al-1)) l[k].up)).length 0 none)=some k) ?_
    refine af wo ?_;obtain⟨o2,ia,d9⟩:=kj (name:=name) hn gA KB (q:={l[k]with al:=(IntKind.i64.wrap (l[k].al-1)),up:=(k:Int)}) (by rw[if_pos rq])
    refine⟨_,View.o 3 [] [1,2] ?_ (.nil _),jL _ d9⟩
    iterate 9 refine .aA ?_
    refine .eq rfl ?_;refine .put (.rv (.one (.fQ (p:=none) (D8 (Z:=λk=>br [1,2] k=true) rfl (by show some (Bk.row 9 _)=some (Bk.row 9 _);congr 1;exact congrArg _ Ow) (hq _ rfl) ia)))) ?_
    repeat(first|exact .nil|refine .aA ?_)
   .have rq:l[k].ag≠2:=rq;obtain⟨o2,ia,d9⟩:=kj (name:=name) hn gA KB (q:={l[k]with al:=(IntKind.i64.wrap (l[k].al-1))}) (by rw[if_neg rq])
    refine⟨_,View.o 3 [] [1,2] ?_ (.nil _),jL _ d9⟩
    iterate 9 refine .aA ?_
    refine .eq rfl ?_;refine .put (.rv (.one (.fQ (p:=none) (D8 (Z:=λk=>br [1,2] k=true) rfl (by show some (Bk.row 9 _)=some (Bk.row 9 _);congr 1;exact congrArg _ o4) (hq _ rfl) ia)))) ?_
    repeat(first|exact .nil|refine .aA ?_)
theorem GG(l:List Obj)(hs:x9 l)(cL:Int)(name:ByteArray){m:Mem}{K:CV->Mem->Prop}(h:K (.bD [ns (cT l cL name).1,cK (cT l cL name).2.1,cK (cT l cL name).2.2]) m):ap prog 68 [cC l,am .i64 cL,fb name] m K:=by
 refine bh (K0:=λr m=>r= .bD [ns (cT l cL name).1,cK (cT l cL name).2.1,cK (cT l cL name).2.2]/\m=[]) (bJ (ct func68 l68 (BY l hs cL name)) λr m1⟨r',m',hv,h1,h2⟩=>⟨r',m',hv,h1,h2⟩) (by simp[cC,am,fb,CV.dB,CC.dB]) λr m1 hr=>?_
 obtain⟨rfl,rfl⟩:=hr;exact⟨_,cV.self rfl,h⟩
theorem GH(o:Obj)(hf:o.data.length<=4194304)(dj n:Int):body prog c57 [o.cv,am .i64 dj,am .i64 n] [] (λr m=>cV m r (.bD [byR (kg o.ag o.data dj n).1,cK (kg o.ag o.data dj n).2])):=by
 obtain⟨ag,data,ak,target,bp,ar,ba,al,up⟩:=o;have hf:data.length<=4194304:=hf;show body prog c57 _ [] (λr m=>cV m r (.bD [byR (kg ag data dj n).1,cK (kg ag data dj n).2]))
 refine bs (λh1=>?_) (λh1=>?_)
 .rw[kg,if_pos h1];exact kW (.one (.aO 1))
 refine bx (λh2=>?_) (λh2=>?_)
 .rw[kg,if_neg h1,if_pos h2];exact kW (.one (.aO 1))
 have hk:ag=1:=by simpa using h2
 refine aN (λh3=>?_) (λh3=>?_)
 .rw[kg,if_neg h1,if_neg (by simpa using hk),if_pos (.inl h3)]
  exact kW (.one (.aO 1))
 refine aN (λh4=>?_) (λh4=>?_)
 .rw[kg,if_neg h1,if_neg (by simpa using hk),if_pos (.inr h4)]
  exact kW (.one (.aO 1))
 rw[kg,if_neg h1,if_neg (by simpa using hk),if_neg (λh=>h.elim h3 h4)]
 have h3:¬dj<0:=h3;have h4:¬n<0:=h4;obtain⟨A,rfl⟩:∃A:Nat,dj=A:=⟨dj.toNat,om⟩;obtain⟨N,rfl⟩:∃N:Nat,n=N:=⟨n.toNat,om⟩;rw[show((A:Nat):Int).toNat=A from rfl,show((N:Nat):Int).toNat=N from rfl];have Jp:=nY A data.length;have hm2:=nY N (data.length-fB A data.length);have hL:qV (am .i64 (if(data.length:Int)<(A:Int)then(data.length:Int)else(A:Int)))=some (fB A data.length):=by rw[sU];rfl
 have hE:IntKind.i64.wrap ((if(data.length:Int)<(A:Int)then(data.length:Int)else(A:Int))+(if IntKind.i64.wrap ((data.length:Int)-(if(data.length:Int)<(A:Int)then(data.length:Int)else(A:Int)))<(N:Int)then IntKind.i64.wrap ((data.length:Int)-(if(data.length:Int)<(A:Int)then(data.length:Int)else(A:Int)))else(N:Int)))
   =((fB A data.length+fB N (data.length-fB A data.length):Nat):Int):=by
  rw[sU,show(data.length:Int)-((fB A data.length:Nat):Int)=((data.length-fB A data.length:Nat):Int) by omega,mr om,sU,
   show((fB A data.length:Nat):Int)+((fB N (data.length-fB A data.length):Nat):Int)=((fB A data.length+fB N (data.length-fB A data.length):Nat):Int) by omega,mr om]
 have hH:qV (am .i64 (IntKind.i64.wrap ((if(data.length:Int)<(A:Int)then(data.length:Int)else(A:Int))+(if IntKind.i64.wrap ((data.length:Int)-(if(data.length:Int)<(A:Int)then(data.length:Int)else(A:Int)))<(N:Int)then IntKind.i64.wrap ((data.length:Int)-(if(data.length:Int)<(A:Int)then(data.length:Int)else(A:Int)))else(N:Int)))))=some (fB A data.length+fB N (data.length-fB A data.length)):=by rw[hE];rfl
 refine af hL ?_;refine af hH ?_;refine cN (by rw[aab,aa9,aa9];show fB A data.length<=fB A data.length+fB N (data.length-fB A data.length)/\fB A data.length+fB N (data.length-fB A data.length)<=data.length;omega) ?_
 refine iE (Kq data A N) (by simp[Kq];omega) ?_
 exact kW (fu.self rfl)
theorem OB(o:Obj)(hf:o.data.length<=4194304)(dj n:Int){m:Mem}{K:CV->Mem->Prop}(h:K (.bD [byR (kg o.ag o.data dj n).1,cK (kg o.ag o.data dj n).2]) m):ap prog 57 [o.cv,am .i64 dj,am .i64 n] m K:=
 bh (aZ func57 l57 (GH o hf dj n)) (by simp[Obj.cv,Obj.enc,am,CV.dB,CC.dB,RV.dB]) λr m1 hf=>⟨_,hf,h⟩
def c56:LF:= ⟨44,[.cell true 2 6,.tmp 7,.tmp 8],(.seq (.ai [qu 6 (.alloc [qd 0,qd 0]),qu 7 (.aM (qi 0)),qu 8 (.aM (qi 0))]) (.seq (.bV [qm 12 0,qu 13 (.aP 12),qf 14 0 13,qf 15 2 14,ql 16 15,qm 17 0,qu 18 (.aP 17),qf 19 3 18,ql 20 19,qu 21 (.cz 4 16 20),qf 22 3 21,ql 23 22,qm 24 1,qm 25 2,qu 26 (qc 96 [23,24,25]),qm 11 26,qu 27 (.ext 11 0),qu 28 (.ext 11 1),qu 9 (.alloc [qd 0,qd 0]),qw (.store 2 9 27),qm 10 28] [(eK 14 0 (.ww (.cons 14 (some []) (eK 3 15 (.cons 18 (some [11,9,8,4]) (.cons 19 (some []) (.cons 20 none .nil))))) (.cons 18 (some [11,9,8,4]) (.cons 14 (some []) (eK 3 15 (.cons 19 (some []) (.cons 20 none .nil)))))))]) (.cX (.seq (.seq (.ai [qm 29 10,qu 30 (.aJ .neq 29 (qi 0))]) (.cond 30 (.seq (.ai [qu 31 (.build [qd 0,qd 0] []),qm 32 10,qw (.store 2 6 31),qu 7 (.aM (qi 0)),qm 8 32]) .ret) .skip)) (.seq (.bV [qL 33 2 9,qm 34 0,qu 35 (.aP 34),qf 36 0 35,qf 37 1 36,ql 38 37,qf 39 0 9,ql 40 39,qu 41 (.cz 2 38 40),qf 42 0 41,ql 43 42,qw (.store 2 6 33),qm 7 43,qu 8 (.aM (qi 0))] [(eK 11 0 (.cons 11 (some [10,8,7,5]) (.cons 12 none (.cons 13 none .nil))))]) .ret)))))⟩
def c63:LF:= ⟨30,[.tmp 6],(.seq (.ai [qu 6 (.aM (qi 0))]) (.seq (.seq (.ai [qm 7 2,qu 8 (.aJ .eql 7 (qi 0))]) (.cond 8 (.seq (.ai [qm 9 0,qm 10 0,qu 11 (.aP 10),qf 12 0 11,qL 13 3 12,qu 14 (qc 59 [13]),qu 15 (.aP 9),qf 16 0 15,qw (.store 3 16 14)]) (.bV [qm 17 0,qu 18 (.aP 17),qf 19 0 18,qf 20 2 19,ql 21 20,qm 22 0,qu 23 (.aP 22),qf 24 3 23,ql 25 24,qm 26 1,qu 27 (.cz 4 21 25),qf 28 3 27,qw (.store 1 28 26)] [(eK 12 0 (.cons 12 (some []) .nil))])) .skip)) (.seq (.ai [qm 29 2,qm 6 29]) .ret)))⟩
def c69:LF:= ⟨23,[.tmp 6],(.seq (.ai [qu 6 (.aM (qi 0))]) (.seq (.seq (.ai [qm 7 2,qu 8 (.aJ .eql 7 (qi 0))]) (.cond 8 (.seq (.ai [qm 9 0,qm 10 0,qu 11 (.aP 10),qf 12 0 11,qL 13 3 12,qu 14 (qc 59 [13]),qu 15 (.aP 9),qf 16 0 15,qw (.store 3 16 14)]) (.ai [qm 17 0,qm 18 1,qu 19 (.aP 17),qf 20 0 19,qf 21 0 20,qw (.store 1 21 18)])) .skip)) (.seq (.ai [qm 22 2,qm 6 22]) .ret)))⟩
namespace Kn
structure Cl where
 ba:Int
 ag:Int
 fd:Int
 fE:Int
 n:Int
 bA:Int
 aW:Int
 cE:bM.dQ
 data:List Int
structure An where
 eS:Int
 n:Int
 m:Int
 data:List (List Dt)
def An.no(e:Int):An:=⟨e,0,0,[]⟩
def An.enc(a:An):List Dt:=[.val (.int .i64 a.eS),.val (.int .i64 a.n),.val (.int .i64 a.m),.sl 1 a.data]
def An.rv(a:An):RV:= .agg (a.enc.map .ah)
def An.cv(a:An):CV:= .rv a.rv
def Cl.enc(c:Cl):List Dt:=[.val (.int .i64 c.ba),.val (.int .i64 c.ag),.val (.int .i64 c.fd),.val (.int .i64 c.fE),.val (.int .i64 c.n),.val (.int .i64 c.bA),.val (.int .i64 c.aW),.val (.string (bM.cG c.cE)),.sl 1 (jw c.data)]
def Cl.cv(c:Cl):CV:= .rv (.agg (c.enc.map .ah))
def cB(c:Cl):Bk:= .var (c.enc.map .ah)
def xC(k:Kr)(p:Nat):List Dt:=[dm k.l,ff k.ops,gG k.ps,.val (.int .i64 (p:Nat))]
def xB(k:Kr)(p:Nat):Bk:= .var ((xC k p).map .ah)
def l7(a b:Int):Int:=IntKind.i64.wrap ((BitVec.ofInt 64 a&&&BitVec.ofInt 64 b).toNat:Int)
def Rk(a b:Int):Int:=IntKind.i64.wrap ((BitVec.ofInt 64 a|||BitVec.ofInt 64 b).toNat:Int)
def gU(l:List eh)(fd need:Int):(Int×Int)×Int:=(((Tb.ov (l.map jm) fd need).1.dF,(Tb.ov (l.map jm) fd need).1.bU),(Tb.ov (l.map jm) fd need).2)
def cH(l:List eh)(fd:Int):(Int×Int)×Int:=(((Tb.dV (l.map jm) fd).1.dF,(Tb.dV (l.map jm) fd).1.bU),(Tb.dV (l.map jm) fd).2)
def ru(l:List eh)(fd:Int):List eh×Int:=((Tb.mL (l.map jm) fd).1.map It,(Tb.mL (l.map jm) fd).2)
def ut(l:List eh)(fd:Int):List eh×Int×Int:=((Tb.sL (l.map jm) fd).1.map It,(Tb.sL (l.map jm) fd).2.1,(Tb.sL (l.map jm) fd).2.2)
def vW(l:List eh)(fd n:Int):List eh×Int:=((Tb.xP (l.map jm) fd n).1.map It,(Tb.xP (l.map jm) fd n).2)
def Ve(c:Int×Int):RV:= .agg [.ah (.val (.int .i64 c.1)),.ah (.val (.int .i64 c.2))]
theorem uu(l:List eh):nu l=Tb.d6 (l.map jm):=by show _=CV.rv (.one (.ah (Tb.ri (l.map jm))));rw[Ai];rfl
theorem D9(l:List eh)(fd need:Int){m:Mem}{K:CV->Mem->Prop}(h:K (.bD [Ve (gU l fd need).1,cK (gU l fd need).2]) m):ap prog 96 [nu l,am .i64 fd,am .i64 need] m K:=by rw[uu];exact Tb.kX _ fd need h
theorem BZ(l:List eh)(fd:Int){m:Mem}{K:CV->Mem->Prop}(h:K (.bD [Ve (cH l fd).1,cK (cH l fd).2]) m):ap prog 73 [nu l,am .i64 fd] m K:=by rw[uu];exact Tb.xL _ fd h
theorem KH(l:List eh)(hl:l.length<=2097152)(fd:Int){m:Mem}{K:CV->Mem->Prop}(h:K (.bD [Ns (ru l fd).1,cK (ru l fd).2]) m):ap prog 60 [nu l,am .i64 fd] m K:=by
 rw[uu];refine Tb.NX _ (by simpa using hl) fd ?_
 rw[p4];exact h
theorem Rl(l:List eh)(hl:l.length<=2097152)(fd:Int){m:Mem}{K:CV->Mem->Prop}(h:K (.bD [Ns (ut l fd).1,cK (ut l fd).2.1,cK (ut l fd).2.2]) m):ap prog 61 [nu l,am .i64 fd] m K:=by
 rw[uu];refine Tb.UN _ (by simpa using hl) fd ?_
 rw[p4];exact h
theorem KJ(l:List eh)(hl:l.length<=2097152)(fd n:Int){m:Mem}{K:CV->Mem->Prop}(h:K (.bD [Ns (vW l fd n).1,cK (vW l fd n).2]) m):ap prog 62 [nu l,am .i64 fd,am .i64 n] m K:=by
 rw[uu];refine Tb.N1 _ (by simpa using hl) fd n ?_
 rw[p4];exact h
def dR(ops:List bH)(z:Int):Int:=match ops[z.toNat]? with|some o=>o.bm|none=>0
def pu(ops:List bH)(z:Int):Int:=match ops[z.toNat]? with|some o=>o.dj|none=>0
def bo(k:Kr)(p:Nat)(fd need:Int):(Int×Int)×Int×Int:=
 if(gU (an k.ps p) fd need).2≠0 then((0,0),0,(gU (an k.ps p) fd need).2)else((gU (an k.ps p) fd need).1,dR k.ops (gU (an k.ps p) fd need).1.1,0)
def eC(k:Kr)(p:Nat)(l:List eh)(e:Int):Kr:=if e=0 then⟨k.l,k.ops,cS k.ps p l⟩else k
def bv(k:Kr)(l:List Obj)(e:Int):Kr:=if e=0 then⟨l,k.ops,k.ps⟩else k
structure KW(k:Kr)(p:Nat):Prop where
 kr:dN k.l k.ops k.ps
 l40:k.l.length<=40
 EY:x9 k.l
 lk:nX (k.l.map Obj.ob)
 nm:∀o,o∈k.l->∀e,e∈o.ak.map oo->e.1.size<=12
 hp:p<k.ps.length
 cap:∀s,s∈an k.ps p->s.has=true->∃n j:Nat,s.dF=n/\n<k.ops.length/\dR k.ops n=j/\j<k.l.length
theorem eD{ps:List bi}{p:Nat}(hp:p<ps.length):an ps p=ps[p].aQ:=by rw[an,vU hp]
theorem yb{l:List eh}{fd need:Int}(h:(gU l fd need).2=0):∃s,s∈l/\s.has=true/\(gU l fd need).1=(s.dF,s.bU):=by
 unfold gU Tb.ov at h|-;split at h
 .simp at h
 .rename_i hn;rw[if_neg hn];unfold Tb.dV at h|-;cases hx:(if 0<=fd then(l.map jm)[fd.toNat]? else none)with
  |none=>rw[hx]at h;simp at h
  |some s=>
   rw[hx]at h;simp only at h|-;cases hh:s.has with
   |false=>rw[hh]at h;simp at h
   |true=>
    split at hx
    .rw[Tm]at hx;cases hy:l[fd.toNat]? with
     |none=>rw[hy]at hx;cases hx
     |some t=>
      rw[hy]at hx;simp only[aaD,aav]at hx;subst hx;exact⟨t,Tp hy,hh,rfl⟩
    .cases hx
theorem KW.at{k:Kr}{p:Nat}(h:KW k p){fd need:Int}(he:(gU (an k.ps p) fd need).2=0):∃n j:Nat,(gU (an k.ps p) fd need).1.1=n/\n<k.ops.length/\dR k.ops n=j/\j<k.l.length:=by
 obtain⟨s,hs,hh,e⟩:=yb he;obtain⟨n,j,h1,h2⟩:=h.cap s hs hh;exact⟨n,j,by rw[e];exact h1,h2⟩
theorem KW.held{k:Kr}{p:Nat}(h:KW k p){fd need:Int}(he:(bo k p fd need).2.2=0):∃n j:Nat,(bo k p fd need).1.1=n/\n<k.ops.length/\(bo k p fd need).2.1=j/\j<k.l.length/\dR k.ops n=j:=by
 unfold bo at he|-;split at he
 .rename_i hn;exact absurd he hn
 .rename_i hn;rw[if_neg hn];obtain⟨n,j,h1,h2,h3,h4⟩:=h.at (Decidable.of_not_not hn);exact⟨n,j,h1,h2,by show dR k.ops _=_;rw[h1];exact h3,h4,h3⟩
theorem KW.oB{k:Kr}{p:Nat}(h:KW k p):l5 k.l:=⟨h.kr.ll,λo ho=>(h.kr.sm o ho).oB⟩
theorem iH{m:Mem}{Z:Nat->Prop}{id esz:Nat}{p:Option Nat}{ds:List (List Dt)}(hz:Z id)(hm:m[id]? =some (.row esz (aa ds))):d5 m Z p (.row id esz 0 none) (.sl esz ds):=by
 refine d5.row id esz 0 none (aa ds) ds hz hm (by simp[aa]) (λi cs es h1 h2=>?_) (λi cs es j c d h1 h2 h3 h4=>?_)
 .simp only[aa,Tm,h2,aaD,aav]at h1;subst h1;simp
 .simp only[aa,Tm,h2,aaD,aav]at h1;subst h1;rw[Tm,h4]at h3;cases h3;exact .ah _
theorem nC(k:Kr)(p:Nat):xB k p≠.aS:=by intro h;cases h
theorem jz(c:Cl):cB c≠.aS:=by intro h;cases h
theorem Vf{Y:Nat->Nat}{m:Mem}{Z:Nat->Prop}{id p:Nat}{a b c:CC}{k:Kr}(ha:d5 m Z (some id) a (dm k.l))(hb:d5 m Z (some id) b (ff k.ops))(hc:d5 m Z (some id) c (gG k.ps)):
  mH Y m Z id (.var [a,b,c,.ah (.val (.int .i64 (p:Nat)))]) (xB k p):=
 fv.var (.cons (.fQ ha) (.cons (.fQ hb) (.cons (.fQ hc) (.cons (.bb (.ah _)) .nil))))
theorem IF{f:Nat}{args:List CV}(ha:∀Y,args.map (CV.bb Y)=args){k k':Kr}{p:Nat}{r0:CV}(hr:∀Y,r0.bb Y=r0)(hc:ap prog f (.rv (.one (.ptr 0 0))::args) [xB k p] (λr m=>r=r0/\m=[xB k' p])){m:Mem}(id:Nat)(hb:cF m id=some (xB k p)){K:CV->Mem->Prop}(hK:K r0 (aV m id (xB k' p))):ap prog f (.rv (.one (.ptr id 0))::args) m K:=by
 have hid:id<m.length:=by rw[aT]at hb;exact(Km.1 hb).1
 refine bu [id] m.length rfl rfl rfl (by simp[eP,hid]) (args0:= .rv (.one (.ptr 0 0))::args) (by rw[aaL,ha];rfl) (λi b' hi=>?_) hc (λr1 m1 xm=>?_)
 .cases i with
  |zero=>
   simp at hi;subst hi;refine .inr ⟨λh=>h,_,?_,.eq rfl (nC _ _)⟩
   rw[aT]at hb;exact hb
  |succ i=>simp at hi
 .obtain⟨rfl,rfl⟩:=xm;refine⟨Ym _,?_⟩;rw[hr];show K _ (c6 m [id] [xB k' p]);rw[Dz];exact hK
theorem Tv{f:Nat}{args:List CV}(ha:∀Y,args.map (CV.bb Y)=args){k k':Kr}{p:Nat}{c:Cl}{r0:CV}(hr:∀Y,r0.bb Y=r0)(hc:ap prog f (.rv (.one (.ptr 0 0)):: .rv (.one (.ptr 1 0))::args) [xB k p,cB c] (λr m=>r=r0/\m=[xB k' p,cB c])){m:Mem}(i j:Nat)(p9:fJ [i,j]=true)(aC:eP m.length [i,j]=true)(hi:cF m i=some (xB k p))(hj:cF m j=some (cB c)){K:CV->Mem->Prop}(hK:K r0 (c6 m [i,j] [xB k' p,cB c])):ap prog f (.rv (.one (.ptr i 0)):: .rv (.one (.ptr j 0))::args) m K:=by
 refine bu [i,j] m.length rfl rfl p9 aC (args0:= .rv (.one (.ptr 0 0)):: .rv (.one (.ptr 1 0))::args) (by rw[aaL,aaL,ha];rfl) (λn b' hn=>?_) hc (λr1 m1 xm=>?_)
 .match n,hn with
  |0,hn=>
   cases hn;refine .inr ⟨λh=>h,_,?_,.eq rfl (nC _ _)⟩
   rw[aT]at hi;exact hi
  |1,hn=>
   cases hn;refine .inr ⟨λh=>h,_,?_,.eq rfl (jz _)⟩
   rw[aT]at hj;exact hj
  |n+2,hn=>simp at hn
 .obtain⟨rfl,rfl⟩:=xm;refine⟨Ym _,?_⟩;rw[hr];exact hK
theorem l56:bz prog f56=some c56.er:=by kernel_rfl
def Rm(x:(Int×Int)×Int×Int):CV:= .bD [Ve x.1,cK x.2.1,cK x.2.2]
def acj:LC:=bN (bN c56.code)
def ack:LC:=rf acj
theorem Ea(k:Kr)(p:Nat)(hw:KW k p)(fd need:Int):
  aw prog 1 ack (oO prog c56.l8 (λr m=>r=Rm (bo k p fd need)/\∃ex,m=xB k p::ex))
   ⟨kS 44 [(0,.rv (.one (.ptr 0 0))),(6,.rv (.one (.ptr 1 0))),(9,.rv (.one (.ptr 2 0))),(10,am .i64 (gU (an k.ps p) fd need).2)],
    [xB k p,.var [.ah (.val (.int .i64 0)),.ah (.val (.int .i64 0))],.var [.ah (.val (.int .i64 (gU (an k.ps p) fd need).1.1)),.ah (.val (.int .i64 (gU (an k.ps p) fd need).1.2))]]⟩:=by
 have FK:= @KW.at k p hw fd need;have HV:bo k p fd need=if(gU (an k.ps p) fd need).2≠0 then((0,0),0,(gU (an k.ps p) fd need).2)else((gU (an k.ps p) fd need).1,dR k.ops (gU (an k.ps p) fd need).1.1,0):=rfl
 rw[HV];clear HV;generalize gU (an k.ps p) fd need=w at FK|-;obtain⟨⟨o,r⟩,e⟩:=w;refine bx (λhe=>?_) (λhe=>?_)
 .rw[if_pos he];exact⟨rfl,_,rfl⟩
 .have he:e=0:=he;subst he;obtain⟨n,j,h1,h2,h3,h4⟩:=FK rfl;have h1:o=n:=h1;subst h1;rw[if_neg aE];refine af (pZ h2) ?_;have ho:dR k.ops (n:Int)=k.ops[n].bm:=by rw[dR,Y6,vU h2]
  refine⟨⟨rfl,af (pZ h2) rfl,rfl,rfl,trivial⟩,?_⟩;show _=Rm ((_,_),dR k.ops (n:Int),0)/\_;rw[ho];exact⟨rfl,_,rfl⟩
theorem ui(k:Kr)(p:Nat)(hw:KW k p)(fd need:Int):
  body prog c56 [.rv (.one (.ptr 0 0)),am .i64 fd,am .i64 need] [xB k p] (λr m=>r=Rm (bo k p fd need)/\∃ex,m=xB k p::ex):=by
 have hg:=dG hw.hp;rw[<-eD hw.hp]at hg;refine af hg ?_;refine⟨?_,?_⟩
 .refine D9 _ fd need ?_;refine⟨trivial,⟨rfl,af hg rfl,rfl,rfl,trivial⟩,trivial,_,View.o1 3 [0,1,2] [] ?_,Ea k p hw fd need⟩
  .exact .au
 .refine⟨⟨rfl,af hg rfl,rfl,rfl,trivial⟩,?_⟩;refine D9 _ fd need ?_;refine⟨trivial,trivial,_,View.o1 3 [0,1,2] [] ?_,Ea k p hw fd need⟩
  .exact .au
theorem kX(k:Kr)(p:Nat)(hw:KW k p)(fd need:Int){m:Mem}(id:Nat)(hb:cF m id=some (xB k p)){K:CV->Mem->Prop}(hK:K (Rm (bo k p fd need)) m):
  ap prog 56 [.rv (.one (.ptr id 0)),am .i64 fd,am .i64 need] m K:=
 fA (args0:=[.rv (.one (.ptr 0 0)),am .i64 fd,am .i64 need]) (cs:=xC k p) id hb rfl rfl
  (λ_ hK=>eY rfl (ct func56 l56 (ui k p hw fd need)) hK) hK
theorem l63:bz prog f63=some c63:=by kernel_rfl
theorem l69:bz prog f69=some c69:=by kernel_rfl
def TX(Q:CV->Mem->Prop)(r:CV)(m:Mem):Prop:=∃r' m',View 1 ⟨[r],m⟩ ⟨[r'],m'⟩/\Q r' m'
theorem GJ{ps:List bi}{n:Nat}(hn:n<ps.length)(y:List eh):aV (aa (ps.map bi.enc)) n ((bi.enc ⟨ps[n].aL,ps[n].fenced,ps[n].code,y⟩).map .ah)=aa ((cS ps n y).map bi.enc):=by
 have:cS ps n y=ps.set n {ps[n]with aQ:=y}:=by rw[cS,vU hn]
 rw[this,aY,aa,aa,abv,abv]
theorem GK(k:Kr)(p:Nat)(hk:dN k.l k.ops k.ps)(hp:p<k.ps.length)(l:List eh)(e:Int):
  body prog c63 [.rv (.one (.ptr 0 0)),nu l,am .i64 e] [xB k p] (TX λr m=>r=am .i64 e/\m=[xB (eC k p l e) p]):=by
 refine bs (λhe=>?_) (λhe=>?_)
 .have he:e=0:=he;subst he;refine i4 k.l k.ops k.ps ⟨hk.ll,λo ho=>(hk.sm o ho).oB⟩ hk.lo hk.lp hk.sl hk.ne ?_
  refine af (mJ hp) ?_;refine af (bK bi.enc k.ps hp) ?_;refine⟨trivial,_,_,View.o 4 [0] [1,2,3] (.eq rfl .nil) (.pt rfl rfl (Vf (k:=eC k p l 0) (iH rfl rfl) (iH rfl rfl) (iH rfl ?_)) (.nil _)),rfl,rfl⟩;refine congrArg (λx=>some (Bk.row 4 x)) ?_
  exact GJ hp l
 .have he:¬e=0:=he;refine⟨_,_,View.o 1 [0] [] (.eq rfl .nil) (.pt rfl rfl (.eq rfl (nC _ _)) (.nil _)),rfl,?_⟩;rw[eC,if_neg he]
theorem Eb(k:Kr)(p:Nat)(hk:dN k.l k.ops k.ps)(hp:p<k.ps.length)(l:List eh)(e:Int){m:Mem}(id:Nat)(hb:cF m id=some (xB k p)){K:CV->Mem->Prop}(hK:K (am .i64 e) (aV m id (xB (eC k p l e) p))):
  ap prog 63 [.rv (.one (.ptr id 0)),nu l,am .i64 e] m K:=
 IF (args:=[nu l,am .i64 e]) (λ_=>rfl) (λ_=>rfl)
  (bJ (aZ func63 l63 (GK k p hk hp l e)) λr m1⟨r',m',hv,hq⟩=>⟨r',m',hv,hq⟩) id hb hK
theorem B0(k:Kr)(p:Nat)(hk:dN k.l k.ops k.ps)(l:List Obj)(e:Int):
  body prog c69 [.rv (.one (.ptr 0 0)),cC l,am .i64 e] [xB k p] (TX λr m=>r=am .i64 e/\m=[xB (bv k l e) p]):=by
 refine bs (λhe=>?_) (λhe=>?_)
 .have he:e=0:=he;subst he;refine i4 k.l k.ops k.ps ⟨hk.ll,λo ho=>(hk.sm o ho).oB⟩ hk.lo hk.lp hk.sl hk.ne ?_
  exact⟨_,_,View.o 4 [0] [1,2,3] (.eq rfl .nil) (.pt rfl rfl (Vf (k:=bv k l 0) (.ah _) (iH rfl rfl) (iH rfl rfl)) (.nil _)),rfl,rfl⟩
 .have he:¬e=0:=he;refine⟨_,_,View.o 1 [0] [] (.eq rfl .nil) (.pt rfl rfl (.eq rfl (nC _ _)) (.nil _)),rfl,?_⟩;rw[bv,if_neg he]
theorem nZ(k:Kr)(p:Nat)(hk:dN k.l k.ops k.ps)(l:List Obj)(e:Int){m:Mem}(id:Nat)(hb:cF m id=some (xB k p)){K:CV->Mem->Prop}(hK:K (am .i64 e) (aV m id (xB (bv k l e) p))):
  ap prog 69 [.rv (.one (.ptr id 0)),cC l,am .i64 e] m K:=
 IF (args:=[cC l,am .i64 e]) (λ_=>rfl) (λ_=>rfl)
  (bJ (aZ func69 l69 (B0 k p hk l e)) λr m1⟨r',m',hv,hq⟩=>⟨r',m',hv,hq⟩) id hb hK
end Kn
namespace Kn
def OC(k:Kr)(n:Nat)(bm bU:Int)(r:CV)(m:Mem):Prop:=∃r' m',View 0 ⟨[r],m⟩ ⟨[r'],m'⟩/\
 (((aF k n bm bU).2.2≠0/\r'= .bD [ke sO,cK 0,cK (aF k n bm bU).2.2]/\m'=[])\/
 ((aF k n bm bU).2.2=0/\r'= .bD [.agg [.row 0 9 0 none,.ah (ff (aF k n bm bU).1.ops),.ah (gG (aF k n bm bU).1.ps)],cK (aF k n bm bU).2.1,cK 0]/\m'=[.row 9 (aa ((aF k n bm bU).1.l.map Obj.enc))]))
theorem t3V{Y:Nat->Nat}{m:Mem}{Z:Nat->Prop}{a a' b b' c c':RV}(h1:yK Y m Z a a')(h2:yK Y m Z b b')(h0:yK Y m Z c c'):rK Y m Z (.bD [a,b,c]) (.bD [a',b',c']):=
 .bD rfl λi r r' e1 e2=>by
  match i,e1,e2 with
  |0,e1,e2=>cases e1;cases e2;exact h1
  |1,e1,e2=>cases e1;cases e2;exact h2
  |2,e1,e2=>cases e1;cases e2;exact h0
  |n+3,e1,e2=>simp at e1
theorem acl{Y:Nat->Nat}{m:Mem}{Z:Nat->Prop}{x y:Int}:rK Y m Z (.bD [.agg [.aO,.aO,.aO],cK x,cK y]) (.bD [ke sO,cK x,cK y]):=
 t3V (.agg rfl λi c c' h1 h2=>by
  match i,h1,h2 with
  |0,h1,h2=>cases h1;cases h2;exact .fQ (.aO 9)
  |1,h1,h2=>cases h1;cases h2;exact .fQ (.aO 2)
  |2,h1,h2=>cases h1;cases h2;exact .fQ (.aO 4)
  |n+3,h1,h2=>simp at h1) (.one (.bb (.ah _))) (.one (.bb (.ah _)))
def Q18(k:Kr)(n:Nat)(bm bU:Int):Ex->St->Prop:=oO prog c72.l8 (OC k n bm bU)
theorem Ec{k:Kr}{n:Nat}{bm bU e:Int}{m:Mem}(h:aF k n bm bU=(sO,0,e))(he:e≠0):OC k n bm bU (.bD [.agg [.aO,.aO,.aO],cK 0,cK e]) m:=by refine⟨_,[],View.of m.length [] [] rfl rfl rfl rfl rfl rfl (.put acl .nil) (.nil _),.inl ?_⟩;rw[h];exact⟨he,rfl,rfl⟩
theorem OD(k:Kr)(l:List Obj)(O:List bH)(ps:List bi)(n i:Nat)(hn:n<ps.length)(hi:i<O.length)(bm fd bU:Int)(y:List eh)(h:aF k n bm bU=(⟨l,O.set i ⟨bm,0⟩,cS ps n y⟩,fd,0)):
  aw prog 0 G60 (Q18 k n bm bU)
   ⟨kS 74 [(1,am .i64 (n:Nat)),(2,am .i64 bm),(8,.rv (.one (.ptr 0 0))),(11,am .i64 (i:Nat)),(12,nu y),(13,am .i64 fd),(15,.rv (.one (.ptr 4 0)))],M60 l O ps⟩:=by
 refine af (Bx hi) ?_;have ho:=bK bH.enc O hi;generalize O[i]=x at ho;obtain⟨xo,xa⟩:=x;refine af ho ?_;refine af (mJ hn) ?_;have hp:=bK bi.enc ps hn;have qk:cS ps n y=ps.set n {ps[n]with aQ:=y}:=by rw[cS,vU hn]
 rw[qk]at h;generalize ps[n]=z at hp h;obtain⟨aL,fenced,cd,aQ⟩:=z;refine af hp ?_;refine⟨.bD [.agg [.row 0 9 0 none,.ah (ff (O.set i ⟨bm,0⟩)),.ah (gG (ps.set n ⟨aL,fenced,cd,y⟩))],cK fd,cK 0],[.row 9 (aa (l.map Obj.enc))],
  View.o 5 [1] [2,3] (.put (t3V (.agg rfl λj c c' h1 h2=>?_) (.one (.bb (.ah _))) (.one (.bb (.ah _)))) .nil) (.pn rfl rfl rfl),.inr ⟨by rw[h],by rw[h],by rw[h]⟩⟩
 match j,h1,h2 with
 |0,h1,h2=>cases h1;cases h2;exact .bb (Y:=sg [1] 5) (.row 0 9 0 none)
 |1,h1,h2=>
  cases h1;cases h2;refine .fQ (iH rfl (congrArg (λx=>some (Bk.row 2 x)) ?_))
  show aV (aa (O.map bH.enc)) i ((bH.enc ⟨bm,0⟩).map .ah)=_;rw[aY,aa,aa,abv,abv]
 |2,h1,h2=>
  cases h1;cases h2;refine .fQ (iH rfl (congrArg (λx=>some (Bk.row 4 x)) ?_))
  show aV (aa (ps.map bi.enc)) n ((bi.enc ⟨aL,fenced,cd,y⟩).map .ah)=_;rw[aY,aa,aa,abv,abv]
 |n+3,h1,h2=>simp at h1
theorem OF(k:Kr)(hk:dN k.l k.ops k.ps)(n:Nat)(hn:n<k.ps.length)(bm bU:Int)(i:Nat)(hi:i=cY k.ops)(yU:i<=k.ops.length)(kF:¬(EW k.ops=none/\k.ops.length>=60)):
  aw prog 0 G30 (Q18 k n bm bU)
   ⟨kS 74 [(1,am .i64 (n:Nat)),(2,am .i64 bm),(3,am .i64 bU),(4,.rv (.one (.ptr 0 0))),(8,.rv (.one (.ptr 1 0))),(11,am .i64 (i:Nat))],[.var ((kC k.l k.ops k.ps).map .ah),.var [.aO,.aO,.aO]]⟩:=by
 have uj:an k.ps n=k.ps[n].aQ:=by rw[an,vU hn]
 have zK:=hk.sl _ (aaw hn);have UP:k.ops.length<=4194304:=hk.lo;have hS:aF k n bm bU=if(fw k.ps[n].aQ (i:Nat) bU).2.2≠0 then(sO,0,(fw k.ps[n].aQ (i:Nat) bU).2.2)
   else(⟨k.l,jy k.ops i ⟨bm,0⟩,cS k.ps n (fw k.ps[n].aQ (i:Nat) bU).1⟩,(fw k.ps[n].aQ (i:Nat) bU).2.1,0):=by
  rw[aF,if_neg kF,uj,<-hi]
 refine af (dG hn) ?_;generalize k.ps[n].aQ=S at zK hS;refine BF S om (i:Nat) bU ?_;generalize fw S (i:Nat) bU=A at hS;obtain⟨y,fd,e⟩:=A;refine bx (λhe=>?_) (λhe=>?_)
 .rw[if_pos he]at hS;exact Ec hS he
 have he:e=0:=he;subst he;rw[if_neg aE]at hS;refine i4 k.l k.ops k.ps ⟨hk.ll,λo ho=>(hk.sm o ho).oB⟩ hk.lo hk.lp hk.sl hk.ne ?_
 refine bs (λme=>?_) (λme=>?_)
 .have me:i=k.ops.length:=by have me:(i:Int)=((aa (k.ops.map bH.enc)).length:Int):=me;rw[bg,Pj]at me;omega
  have jC:jy k.ops i ⟨bm,0⟩=(k.ops++ [bH.mk 0 0]).set i ⟨bm,0⟩:=by rw[jy,if_pos me,me];simp
  rw[jC]at hS;refine⟨by simp only[b9,bg,Pj,aau,abl];omega,?_⟩
  refine⟨_,View.o1 8 [1,2,7,4,5] [] ?_,OD k k.l (k.ops++ [bH.mk 0 0]) k.ps n i hn (by simp;omega) bm fd bU y hS⟩
  .exact .pe rfl rfl rfl (.pr rfl rfl rfl (.pt rfl rfl (.bL (by simp[b9,aa,bH.enc])) (.pr rfl rfl rfl (.pm rfl rfl rfl))))
 .have aC:i<k.ops.length:=by have me:¬(i:Int)=((aa (k.ops.map bH.enc)).length:Int):=me;rw[bg,Pj]at me;omega
  have jC:jy k.ops i ⟨bm,0⟩=k.ops.set i ⟨bm,0⟩:=by rw[jy,if_neg om]
  rw[jC]at hS;refine⟨_,View.o1 6 [1,2,3,4,5] [] ?_,OD k k.l k.ops k.ps n i hn aC bm fd bU y hS⟩
  .exact .au
theorem B2(k:Kr)(hk:dN k.l k.ops k.ps)(n:Nat)(hn:n<k.ps.length)(bm bU:Int):body prog c72 [eI k.l k.ops k.ps,am .i64 (n:Nat),am .i64 bm,am .i64 bU] [] (OC k n bm bU):=by
 refine Ir k.ops hk.lo ?_;have UP:k.ops.length<=4194304:=hk.lo;cases ho:EW k.ops with
 |none=>
  have UQ:LS k.ops= -1:=by rw[LS,ho]
  have P1:cY k.ops=k.ops.length:=by rw[cY,ho];rfl
  rw[UQ];refine aN (λxN=>?_) (λxN=>?_)
  .have xN:k.ops.length>=60:=by have xN:((k.ops.map bH.enc).length:Int)>=60:=xN;rw[Pj]at xN;omega
   exact Ec (by rw[aF,if_pos ⟨ho,xN⟩]) (by decide)
  .have xN:¬k.ops.length>=60:=by have xN:¬((k.ops.map bH.enc).length:Int)>=60:=xN;rw[Pj]at xN;omega
   refine⟨_,View.o 2 [0,1] [] ?_ ?_,OF k hk n hn bm bU k.ops.length P1.symm (Ym _) (λh=>xN h.2)⟩
   .have hlen:am .i64 (((k.ops.map bH.enc).length:Nat):Int)=am .i64 ((k.ops.length:Nat):Int):=by rw[Pj]
    repeat(first|exact .nil|refine .aA ?_|refine .eq rfl ?_)
    refine .eq hlen.symm ?_;repeat(first|exact .nil|refine .aA ?_|refine .eq rfl ?_)
   .exact .au
 |some i=>
  have UQ:LS k.ops=(i:Nat):=by rw[LS,ho]
  have P1:cY k.ops=i:=by rw[cY,ho];rfl
  have yU:=BG ho;rw[UQ];refine⟨_,View.o1 2 [0,1] [] ?_,OF k hk n hn bm bU i P1.symm om (λh=>by rw[ho]at h;cases h.1)⟩
  .exact .au
theorem yc(k:Kr)(hk:dN k.l k.ops k.ps)(n:Nat)(hn:n<k.ps.length)(bm bU:Int){m:Mem}{K:CV->Mem->Prop}(h1:(aF k n bm bU).2.2≠0->K (.bD [ke sO,cK 0,cK (aF k n bm bU).2.2]) m)(h2:(aF k n bm bU).2.2=0->K (.bD [.agg [.row m.length 9 0 none,.ah (ff (aF k n bm bU).1.ops),.ah (gG (aF k n bm bU).1.ps)],cK (aF k n bm bU).2.1,cK 0]) (m++ [.row 9 (aa ((aF k n bm bU).1.l.map Obj.enc))])):
  ap prog 72 [eI k.l k.ops k.ps,am .i64 (n:Nat),am .i64 bm,am .i64 bU] m K:=by
 refine bu [] m.length rfl rfl rfl rfl rfl (λi b' hi=>by simp at hi)
  (bJ (ct func72 l72 (B2 k hk n hn bm bU)) λr m1⟨r',m',hv,hq⟩=>⟨r',m',hv,hq⟩) (λr m1 hp=>⟨aaj _,?_⟩)
 rcases hp with⟨e1,rfl,rfl⟩|⟨e1,rfl,rfl⟩
 .have:=h1 e1;show K _ (gJ m []);rw[cg,abO];exact this
 .have:=h2 e1;show K _ (gJ m [Bk.bb _ _]);rw[cg,Bk.jG];exact this
end Kn
def c70:LF:= ⟨42,[.tmp 6,.tmp 7],(.seq (.ai [qu 4 (.box 1),qu 5 (.box 2),qu 6 (.aM (qi 0)),qu 7 (.aM (qi 0))]) (.seq (.ai [qf 11 4 5,qw (.store 1 11 (qi (-1))),qf 12 6 5,qw (.store 1 12 (qi (-1)))]) (.seq (.bV [qm 14 0,qu 15 (.aP 14),qf 16 0 15,qf 17 0 16,ql 18 17,qL 19 9 5,qu 20 (qc 111 [18,19]),qm 13 20,qu 21 (.ext 13 0),qu 22 (.ext 13 1),qu 23 (.ext 13 2),qm 8 21,qm 9 22,qm 10 23] [(eK 6 0 (.cons 6 (some []) (eK 7 7 .nil)))]) (.seq (.seq (.ai [qm 24 10,qu 25 (.aJ .neq 24 (qi 0))]) (.cond 25 (.seq (.ai [qm 26 10,qu 6 (.aM (qi 0)),qm 7 26]) .ret) .skip)) (.seq (.ai [qm 28 8,qf 29 1 4,ql 30 29,qf 31 2 4,ql 32 31,qm 33 9,qu 34 (qc 112 [28,30,32,33]),qm 27 34,qu 35 (.ext 27 0),qu 36 (.ext 27 1),qm 8 35,qm 10 36]) (.seq (.ai [qm 37 9,qm 38 0,qm 39 8,qm 40 10,qu 41 (qc 69 [38,39,40]),qm 6 37,qm 7 41]) .ret))))))⟩
namespace Kn
def gS(o:Obj):Obj:={o with bp:= -1,ba:= -1}
def GL(f:R4):CV:= .rv (.agg ((Wd f).map .ah))
def B3(l:List Obj)(f:R4)(n:Int):List Obj×Int:=cQ (bM.gd f.name) l f.cL (bM.cG f.name) n
def b7(k:Kr)(f:R4)(o:Obj):Kr×Int×Int:=
 if(aH k.l (gS o)).2.2≠0 then(k,0,(aH k.l (gS o)).2.2)
 else(bv k (B3 (aH k.l (gS o)).1 f (aH k.l (gS o)).2.1).1 (B3 (aH k.l (gS o)).1 f (aH k.l (gS o)).2.1).2,(aH k.l (gS o)).2.1,(B3 (aH k.l (gS o)).1 f (aH k.l (gS o)).2.1).2)
structure Rn(o:Obj):Prop where
 sm:o.sm
 en:o.ak=[]
theorem Rn.gS{o:Obj}(h:Rn o):Rn (gS o):=⟨⟨h.sm.t,h.sm.d,h.sm.e,h.sm.q,h.sm.qd⟩,h.en⟩
theorem x9.make{l:List Obj}(h:x9 l){o:Obj}(ho:Rn o):x9 (aH l o).1:=by
 have key:∀l',(∀x,x∈l'->x∈l\/x=o)->l.length<=l'.length->l'.length<=4194304->x9 l':=λl' hm hl A2=>by
  refine⟨⟨A2,λx hx=>?_⟩,λx hx=>?_⟩
  .rcases hm x hx with hx|rfl
   .exact h.oB.2 x hx
   .exact ho.sm.oB
  .rcases hm x hx with hx|rfl
   .obtain⟨es,h1,h2,h3,h4⟩:=h.en x hx;exact⟨es,h1,h2,h3,λe he=>⟨(h4 e he).1,by have:=(h4 e he).2;omega⟩⟩
   .exact⟨[],ho.en,List.Pairwise.nil,aE,aE⟩
 have hf:=h.oB.1;unfold aH;split
 .rename_i k _;refine key _ (λx hx=>aaK hx) aE (by simpa using hf)
 .split
  .exact⟨⟨aE,aE⟩,aE⟩
  .refine key _ (λx hx=>by simpa using hx) aE (by simp only[aa3,aau,abl];omega)
theorem l70:bz prog f70=some c70:=by kernel_rfl
def Yz(a b:Int):CV:= .bD [cK a,cK b]
theorem Ed(k:Kr)(p:Nat)(hw:KW k p)(f:R4)(o:Obj)(ho:Rn o):
  body prog c70 [.rv (.one (.ptr 0 0)),GL f,o.cv] [xB k p] (TX λr m=>r=Yz (b7 k f o).2.1 (b7 k f o).2.2/\m=[xB (b7 k f o).1 p]):=by
 have hs:=x9.make hw.EY ho.gS;refine Bp k.l hw.oB (gS o) ?_;have hS:b7 k f o=if(aH k.l (gS o)).2.2≠0 then(k,0,(aH k.l (gS o)).2.2)
  else(bv k (B3 (aH k.l (gS o)).1 f (aH k.l (gS o)).2.1).1 (B3 (aH k.l (gS o)).1 f (aH k.l (gS o)).2.1).2,(aH k.l (gS o)).2.1,(B3 (aH k.l (gS o)).1 f (aH k.l (gS o)).2.1).2):=rfl
 rw[hS];clear hS;generalize aH k.l (gS o)=M at hs|-;obtain⟨l,n,e⟩:=M;refine⟨trivial,?_⟩;refine bx (λhe=>?_) (λhe=>?_)
 .rw[if_pos he];exact⟨_,_,View.o 3 [0] [] (.eq rfl .nil) (.pt rfl rfl (.eq rfl (nC _ _)) (.nil _)),rfl,rfl⟩
 .have he:e=0:=he;subst he;rw[if_neg aE];refine KC l hs f.cL n (bM.cG f.name) (bM.gd f.name) (λh=>bM.BL f.name h) ?_
  refine nZ k p hw.kr _ _ 0 rfl ?_;exact⟨_,_,View.o 3 [0] [] (.eq rfl .nil) (.pt rfl rfl (.eq rfl (nC _ _)) (.nil _)),rfl,rfl⟩
theorem uv(k:Kr)(p:Nat)(hw:KW k p)(f:R4)(o:Obj)(ho:Rn o){m:Mem}(id:Nat)(hb:cF m id=some (xB k p)){K:CV->Mem->Prop}(hK:K (Yz (b7 k f o).2.1 (b7 k f o).2.2) (aV m id (xB (b7 k f o).1 p))):ap prog 70 [.rv (.one (.ptr id 0)),GL f,o.cv] m K:=
 IF (args:=[GL f,o.cv]) (λ_=>rfl) (λ_=>rfl)
  (bJ (aZ func70 l70 (Ed k p hw f o ho)) λr m1⟨r',m',hv,hq⟩=>⟨r',m',hv,hq⟩) id hb hK
end Kn
def c55:LF:= ⟨117,[.cell true 4 8],(.seq (.ai [qu 8 (.alloc [qd 0,qd 0,qd 0,.aO])]) (.seq (.bV [qm 15 0,qu 16 (.aP 15),qf 17 0 16,qf 18 0 17,ql 19 18,qm 20 2,qm 21 1,qu 22 (.aP 21),qf 23 7 22,ql 24 23,qm 25 3,qu 26 (qc 67 [19,20,24,25,qb true]),qm 14 26,qu 27 (.ext 14 0),qu 28 (.ext 14 1),qu 9 (.alloc [qd 0,qd 0,(.ah (.val (.string ⟨#[]⟩)))]),qw (.store 3 9 27),qm 10 28] [(eK 11 0 (.ww (.cons 11 (some []) (eK 3 12 (.cons 15 (some [9,4]) (.cons 16 (some []) (.cons 17 none .nil))))) (.cons 15 (some [9,4]) (.cons 11 (some []) (eK 3 12 (.cons 16 (some []) (.cons 17 none .nil)))))))]) (.cX (.seq (.ai [qf 29 0 9,ql 30 29,qm 11 30]) (.seq (.block 0 (.seq (.ai [qm 32 10,qu 33 (.aJ .neq 32 (qi 0)),qm 31 33]) (.cond 31 .skip (.seq (.ai [qm 35 11,qu 36 (.aJ .lss 35 (qi 0)),qm 37 36,qg 38 (.aM 1) 37 true,qg 39 (.aP 38) 37 true,qg 40 (.b8 5 39) 37 true,qg 41 (.load false 1 40) 37 true,qg 42 (.aJ .and 41 (qi 1)) 37 true,qg 43 (.aJ .eql 42 (qi 0)) 37 true,qu 44 (.pick 37 43 (qb false)),qm 34 44]) (.cond 34 (.ai [qu 10 (.aM (qi 6))]) (.seq (.ai [qm 46 11,qu 47 (.aJ .lss 46 (qi 0)),qm 45 47]) (.cond 45 (.ai [qm 49 0,qL 50 3 9,qu 51 (.build [qd 0,.aO,.aO,(.ah (.val (.string ⟨#[]⟩))),qd 0,.aO,qd 0,qd 0,qd 0] [(0,1,qi 1)]),qu 52 (qc 70 [49,50,51]),qm 48 52,qu 53 (.ext 48 0),qu 54 (.ext 48 1),qm 11 53,qm 10 54]) (.seq (.ai [qm 56 1,qu 57 (.aP 56),qf 58 5 57,ql 59 58,qu 60 (.aJ .and 59 (qi 2)),qu 61 (.aJ .neq 60 (qi 0)),qm 62 61,qg 63 (.aM 0) 62 true,qg 64 (.aP 63) 62 true,qg 65 (.b8 0 64) 62 true,qg 66 (.b8 0 65) 62 true,qg 67 (.load false 1 66) 62 true,qg 68 (.aM 11) 62 true,qg 69 (.cz 9 67 68) 62 true,qg 70 (.b8 0 69) 62 true,qg 71 (.load false 1 70) 62 true,qg 72 (.aJ .eql 71 (qi 2)) 62 true,qu 73 (.pick 62 72 (qb false)),qm 55 73]) (.cond 55 (.ai [qu 10 (.aM (qi 12))]) .skip))))))))) (.cX (.seq (.seq (.ai [qm 74 10,qu 75 (.aJ .neq 74 (qi 0))]) (.cond 75 (.seq (.ai [qm 76 10,qu 77 (.build [qd 0,qd 0,qd 0,.aO] [(0,1,76)]),qw (.store 4 8 77)]) .ret) .skip)) (.seq (.bV [qm 79 0,qu 80 (.aP 79),qf 81 0 80,qL 82 3 81,qm 83 0,qu 84 (.aP 83),qf 85 3 84,ql 86 85,qm 87 11,qm 88 1,qu 89 (.aP 88),qf 90 6 89,ql 91 90,qu 92 (qc 72 [82,86,87,91]),qm 78 92,qu 93 (.ext 78 0),qu 94 (.ext 78 1),qu 95 (.ext 78 2),qu 12 (.alloc [.aO,.aO,.aO]),qw (.store 3 12 93),qm 13 94,qm 10 95] [(eK 13 0 (.ww (.cons 13 (some []) (eK 4 14 (.cons 18 (some [12,7,3]) (.cons 19 (some []) (.cons 20 none (.cons 21 none .nil)))))) (.cons 18 (some [12,7,3]) (.cons 13 (some []) (eK 4 14 (.cons 19 (some []) (.cons 20 none (.cons 21 none .nil))))))))]) (.cX (.seq (.seq (.ai [qm 96 10,qu 97 (.aJ .neq 96 (qi 0))]) (.cond 97 (.seq (.ai [qm 98 10,qu 99 (.build [qd 0,qd 0,qd 0,.aO] [(0,1,98)]),qw (.store 4 8 99)]) .ret) .skip)) (.cX (.seq (.seq (.ai [qm 100 1,qu 101 (.aP 100),qf 102 5 101,ql 103 102,qu 104 (.aJ .and 103 (qi 2)),qu 105 (.aJ .neq 104 (qi 0))]) (.cond 105 (.ai [qf 106 0 12,ql 107 106,qm 108 11,qu 109 (.cz 9 107 108),qf 110 1 109,qw (.store 1 110 qe)]) .skip)) (.seq (.ai [qm 111 0,qL 112 3 12,qu 113 (.aP 111),qf 114 0 113,qw (.store 3 114 112)]) (.seq (.ai [qm 115 13,qu 116 (.build [qd 0,qd 0,qd 0,.aO] [(1,1,115)]),qw (.store 4 8 116)]) .ret))))))))))))))⟩
namespace Kn
def pw:Obj:=⟨1,[],[],⟨#[]⟩,0,[],0,0,0⟩
theorem Aq:Rn pw:=⟨⟨⟨⟨[],rfl⟩,⟨[],rfl⟩,by simp[pw]⟩,by simp[pw],by simp[pw],by simp[pw],by simp[pw]⟩,rfl⟩
def gV(k:Kr)(aq:Int)(s:bM.dQ)(ax follow:Bool):R4:=qG (k.l.map Obj.ob) aq s ax follow
theorem sY(k:Kr)(p:Nat)(hw:KW k p)(aq:Int)(s:bM.dQ)(ax follow:Bool){m:Mem}{K:CV->Mem->Prop}(h:K (We (gV k aq s ax follow)) m):
  ap prog 67 [cC k.l,am .i64 aq,bM.vT s,aD ax,aD follow] m K:=by
 rw[show cC k.l=Bt (k.l.map Obj.ob)from congrArg (λd=>CV.rv (.one (.ah d))) (Vb k.l)]
 exact Rf _ hw.lk aq s ax follow h
def GM(l:List Obj)(z:Int):Int:=match l[z.toNat]? with|some o=>o.ag|none=>0
def bT(k:Kr)(c:Cl)(f:R4):Kr×Int×Int:=
 if f.eS≠0 then(k,f.bm,f.eS)
 else if f.bm<0 then(if l7 c.bA 1=0 then(k,f.bm,6)else b7 k f pw)
 else if l7 c.bA 2≠0/\GM k.l f.bm=2 then(k,f.bm,12)
 else(k,f.bm,0)
def lH(l:List Obj)(z:Int):List Obj:=match l[z.toNat]? with|some o=>l.set z.toNat {o with data:=[]}|none=>l
def jd(p:Nat)(c:Cl)(x:Kr×Int×Int):Kr×An:=
 if x.2.2≠0 then(x.1,An.no x.2.2)
 else if(aF x.1 p x.2.1 c.aW).2.2≠0 then(x.1,An.no (aF x.1 p x.2.1 c.aW).2.2)
 else(if l7 c.bA 2≠0 then⟨lH (aF x.1 p x.2.1 c.aW).1.l x.2.1,(aF x.1 p x.2.1 c.aW).1.ops,(aF x.1 p x.2.1 c.aW).1.ps⟩else(aF x.1 p x.2.1 c.aW).1,⟨0,(aF x.1 p x.2.1 c.aW).2.1,0,[]⟩)
def eM(k:Kr)(p:Nat)(c:Cl)(aq:Int)(ax:Bool):Kr×An:=jd p c (bT k c (gV k aq c.cE ax true))
theorem Ro{m:Mem}{Z:Nat->Prop}{p:Option Nat}{id:Nat}{l:List Obj}{k:Nat}{c:List CC}{x:Obj}(hc:kN m Z (some id) c x.enc)(hz:Z id)(hm:m[id]? =some (.row 9 (aV (aa (l.map Obj.enc)) k c))):
  d5 m Z p (.row id 9 0 none) (dm (l.set k x)):=by
 rw[aY]at hm;refine d5.row id 9 0 none _ _ hz hm (by simp[aa]) (λi cs es h1 h2=>?_) (λi cs es j c' d h1 h2 h3 h4=>?_)
 .rw[aaW]at h1;rw[Tm,aaW]at h2;by_cases e:k=i
  .subst e;rw[if_pos rfl]at h1 h2;split at h1
   .cases h1;split at h2
    .cases h2;exact hc.len
    .cases h2
   .cases h1
  .rw[if_neg e]at h1 h2;rw[aa,Tm,Tm]at h1;cases hx:l[i]? with
   |none=>rw[hx]at h2;cases h2
   |some y=>
    rw[hx]at h1 h2;cases h1;cases h2;simp
 .rw[aaW]at h1;rw[Tm,aaW]at h2;by_cases e:k=i
  .subst e;rw[if_pos rfl]at h1 h2;split at h1
   .cases h1;split at h2
    .cases h2;exact hc.get j c' d h3 h4
    .cases h2
   .cases h1
  .rw[if_neg e]at h1 h2;rw[aa,Tm,Tm]at h1;cases hx:l[i]? with
   |none=>rw[hx]at h2;cases h2
   |some y=>
    rw[hx]at h1 h2;cases h1;cases h2;rw[Tm,h4]at h3;cases h3;exact .ah _
theorem l55:bz prog f55=some c55.er:=by kernel_rfl
def C29:LC:=bN (bN c55.code)
def G29:LC:=rf C29
def C74:LC:=bN (bN G29)
def G74:LC:=rf C74
def C96:LC:=bN (bN G74)
def G96:LC:=rf C96
def acn:LC:=bN G96
def aco:LC:=rf acn
def je:Bk:= .var [.ah (.val (.int .i64 0)),.ah (.val (.int .i64 0)),.ah (.val (.int .i64 0)),.aO]
def TC(k:Kr)(p:Nat)(c:Cl)(a:An)(r:CV)(m:Mem):Prop:=∃r' m',View 2 ⟨[r],m⟩ ⟨[r'],m'⟩/\r'=a.cv/\m'=[xB k p,cB c]
def QC(l8:List Rv)(k:Kr)(p:Nat)(c:Cl)(a:An):Ex->St->Prop:=oO prog l8 (TC k p c a)
theorem OG{Y:Nat->Nat}{m:Mem}{Z:Nat->Prop}{e n x:Int}:rK Y m Z (.rv (.agg [.ah (.val (.int .i64 e)),.ah (.val (.int .i64 n)),.ah (.val (.int .i64 x)),.aO])) (An.cv ⟨e,n,x,[]⟩):=
 .rv (.agg rfl λi c c' h1 h2=>by
  match i,h1,h2 with
  |0,h1,h2=>cases h1;cases h2;exact .bb (.ah _)
  |1,h1,h2=>cases h1;cases h2;exact .bb (.ah _)
  |2,h1,h2=>cases h1;cases h2;exact .bb (.ah _)
  |3,h1,h2=>cases h1;cases h2;exact .fQ (.aO 1)
  |n+4,h1,h2=>simp at h1)
theorem da{k:Kr}{p:Nat}{c:Cl}{X:Mem}{e n x:Int}:TC k p c ⟨e,n,x,[]⟩ (.rv (.agg [.ah (.val (.int .i64 e)),.ah (.val (.int .i64 n)),.ah (.val (.int .i64 x)),.aO])) (xB k p::cB c::X):=
 ⟨_,_,View.of (X.length+2) [0,1] [] rfl rfl rfl rfl rfl (by simp[eP,Nat.blt]) (.put OG .nil) (.pt rfl rfl (.eq rfl (nC _ _)) (.pt rfl rfl (.eq rfl (jz _)) (.nil _))),rfl,rfl⟩
theorem OH{l:List Obj}{n:Nat}(h:n<l.length):dZ (n:Int) (lenOf (aa (l.map Obj.enc)).length 0 none)=some n:=bZ (by show n<(aa (l.map Obj.enc)).length;rw[bg,Pj];exact h)
theorem GN(k1:Kr)(p:Nat)(c:Cl)(O:Kr)(j:Nat)(hj:j<O.l.length)(fd:Int)(kf:Kr)(hk:kf=if l7 c.bA 2≠0 then⟨lH O.l j,O.ops,O.ps⟩else O):
  aw prog 2 aco (QC c55.l8 kf p c ⟨0,fd,0,[]⟩)
   ⟨kS 117 [(0,.rv (.one (.ptr 0 0))),(1,.rv (.one (.ptr 1 0))),(8,.rv (.one (.ptr 2 0))),(11,am .i64 (j:Nat)),(12,.rv (.one (.ptr 3 0))),(13,am .i64 fd)],
    [xB k1 p,cB c,je,.var [.row 4 9 0 none,.ah (ff O.ops),.ah (gG O.ps)],.row 9 (aa (O.l.map Obj.enc))]⟩:=by
 refine bx (λh2=>?_) (λh2=>?_)
 .have h2:l7 c.bA 2≠0:=h2;rw[if_pos h2]at hk;subst hk;refine af (OH hj) ?_;have ho:=bK Obj.enc O.l hj;have ht:lH O.l (j:Nat)=O.l.set j {O.l[j]with data:=[]}:=by rw[lH,Y6,vU hj]
  rw[ht];generalize O.l[j]=x at ho;obtain⟨ag,data,ak,target,bp,ar,ba,al,up⟩:=x;refine af ho ?_;refine⟨_,_,View.o 5 [0,1] [4] (.put OG .nil) (.pt rfl rfl (Vf (k:=⟨O.l.set j ⟨ag,[],ak,target,bp,ar,ba,al,up⟩,O.ops,O.ps⟩) (Ro (.cons (.ah _) (.cons (.aO 1) (.cons (.ah _) (.cons (.ah _) (.cons (.ah _) (.cons (.ah _) (.cons (.ah _) (.cons (.ah _) (.cons (.ah _) .nil))))))))) rfl rfl) (.ah _) (.ah _)) (.pt rfl rfl (.eq rfl (jz _)) (.nil _))),rfl,rfl⟩
 .have h2:¬l7 c.bA 2≠0:=λh=>h h2
  rw[if_neg h2]at hk;subst hk;exact⟨_,_,View.o 5 [0,1] [4] (.put OG .nil) (.pt rfl rfl (Vf (iH rfl rfl) (.ah _) (.ah _)) (.pt rfl rfl (.eq rfl (jz _)) (.nil _))),rfl,rfl⟩
theorem KK{k:Kr}{n:Nat}{bm bU:Int}(h:(aF k n bm bU).2.2=0):(aF k n bm bU).1.l=k.l:=by
 unfold aF at h|-;split at h
 .simp at h
 .rename_i h1;rw[if_neg h1];split at h
  .rename_i h2;exact absurd h h2
  .rename_i h2;rw[if_neg h2]
theorem yd(k1:Kr)(p:Nat)(c:Cl)(e:Int)(he:e≠0):
  aw prog 2 G96 (QC c55.l8 k1 p c (An.no e)) ⟨kS 117 [(0,.rv (.one (.ptr 0 0))),(1,.rv (.one (.ptr 1 0))),(8,.rv (.one (.ptr 2 0))),(10,am .i64 e)],[xB k1 p,cB c,je]⟩:=by
 refine bx (λh2=>?_) (λh2=>absurd h2 he)
 exact da (X:=[_])
theorem ye(k1:Kr)(p:Nat)(c:Cl)(O:Kr)(j:Nat)(hj:j<O.l.length)(fd:Int)(kf:Kr)(hk:kf=if l7 c.bA 2≠0 then⟨lH O.l j,O.ops,O.ps⟩else O):
  aw prog 2 G96 (QC c55.l8 kf p c ⟨0,fd,0,[]⟩)
   ⟨kS 117 [(0,.rv (.one (.ptr 0 0))),(1,.rv (.one (.ptr 1 0))),(8,.rv (.one (.ptr 2 0))),(10,am .i64 0),(11,am .i64 (j:Nat)),(12,.rv (.one (.ptr 3 0))),(13,am .i64 fd)],
    [xB k1 p,cB c,je,.var [.row 4 9 0 none,.ah (ff O.ops),.ah (gG O.ps)],.row 9 (aa (O.l.map Obj.enc))]⟩:=by
 refine⟨_,View.o1 5 [0,1,2,3,4] [] ?_,GN k1 p c O j hj fd kf hk⟩
 .exact .au
theorem KL(p:Nat)(c:Cl)(x:Kr×Int×Int)(hx:x.2.2=0->dN x.1.l x.1.ops x.1.ps/\p<x.1.ps.length/\∃j:Nat,x.2.1=j/\j<x.1.l.length):
  aw prog 2 G74 (QC c55.l8 (jd p c x).1 p c (jd p c x).2)
   ⟨kS 117 [(0,.rv (.one (.ptr 0 0))),(1,.rv (.one (.ptr 1 0))),(8,.rv (.one (.ptr 2 0))),(10,am .i64 x.2.2),(11,am .i64 x.2.1)],[xB x.1 p,cB c,je]⟩:=by
 obtain⟨k1,bm,e⟩:=x;refine bx (λh2=>?_) (λh2=>?_)
 .have h2:e≠0:=h2;have e1:jd p c (k1,bm,e)=(k1,An.no e):=by rw[jd,if_pos h2]
  rw[e1];exact da (X:=[_])
 have h2:e=0:=h2;subst h2;obtain⟨hk,hp,j,hj,mh⟩:=hx rfl;have hj:bm=(j:Nat):=hj;subst hj;have hS:jd p c (k1,(j:Int),0)=if(aF k1 p j c.aW).2.2≠0 then(k1,An.no (aF k1 p j c.aW).2.2)
  else(if l7 c.bA 2≠0 then⟨lH (aF k1 p j c.aW).1.l j,(aF k1 p j c.aW).1.ops,(aF k1 p j c.aW).1.ps⟩else(aF k1 p j c.aW).1,⟨0,(aF k1 p j c.aW).2.1,0,[]⟩):=by
  rw[jd,if_neg aE]
 rw[hS];have Bd:= @KK k1 p (j:Int) c.aW;refine⟨?_,?_⟩
 .refine yc k1 hk p hp (j:Int) c.aW (λhe=>?_) (λhe=>?_)
  .rw[if_pos he];refine⟨trivial,⟨rfl,rfl,rfl,trivial⟩,trivial,_,View.o1 4 [0,1,2] [] ?_,yd k1 p c _ he⟩
   .exact .au
  .rw[if_neg (by simp[he])]
   have hl:=Bd he;refine⟨trivial,⟨rfl,rfl,rfl,trivial⟩,trivial,_,View.o1 5 [0,1,2,4,3] [] ?_,ye k1 p c (aF k1 p j c.aW).1 j (by rw[hl];exact mh) _ _ rfl⟩
   .exact .au
 .refine⟨⟨rfl,rfl,rfl,trivial⟩,?_⟩;refine yc k1 hk p hp (j:Int) c.aW (λhe=>?_) (λhe=>?_)
  .rw[if_pos he];refine⟨trivial,trivial,_,View.o1 4 [0,1,2] [] ?_,yd k1 p c _ he⟩
   .exact .au
  .rw[if_neg (by simp[he])]
   have hl:=Bd he;refine⟨trivial,trivial,_,View.o1 5 [0,1,2,3,4] [] ?_,ye k1 p c (aF k1 p j c.aW).1 j (by rw[hl];exact mh) _ _ rfl⟩
   .exact .au
theorem B4(a b:CV)(k:Int)(t:ByteArray):lw [a,b,.rv (.agg [.ah (.val (.int .i64 k)),.aO,.aO,.ah (.val (.string t)),.ah (.val (.int .i64 0)),.aO,.ah (.val (.int .i64 0)),.ah (.val (.int .i64 0)),.ah (.val (.int .i64 0))])] [a,b,Obj.cv ⟨k,[],[],t,0,[],0,0,0⟩]:=
 .dC _ (.dC _ (.agg (.cons (.dC _) (.cons (.aO 1) (.cons (.aO 2) (.cons (.dC _) (.cons (.dC _) (.cons (.aO 4) (.cons (.dC _) (.cons (.dC _) (.cons (.dC _) .nil))))))))) .nil))
structure GO(k:Kr)(p:Nat)(c:Cl)(f:R4):Prop where
 fi:f.eS=0->f.bm<(k.l.length:Int)
 x:(bT k c f).2.2=0->dN (bT k c f).1.l (bT k c f).1.ops (bT k c f).1.ps/\p<(bT k c f).1.ps.length/\∃j:Nat,(bT k c f).2.1=j/\j<(bT k c f).1.l.length
theorem KM(k:Kr)(p:Nat)(hw:KW k p)(c:Cl)(f:R4)(hf:GO k p c f):
  aw prog 2 G29 (QC c55.l8 (jd p c (bT k c f)).1 p c (jd p c (bT k c f)).2)
   ⟨kS 117 [(0,.rv (.one (.ptr 0 0))),(1,.rv (.one (.ptr 1 0))),(8,.rv (.one (.ptr 2 0))),(9,.rv (.one (.ptr 3 0))),(10,am .i64 f.eS)],[xB k p,cB c,je,.var ((Wd f).map .ah)]⟩:=by
 have LU:=KL p c (bT k c f) hf.x;have Qk:=hf.fi;clear hf;obtain⟨bm,cL,name,eS⟩:=f;refine bx (λhe=>?_) (λhe=>?_)
 .have he:eS≠0:=he;have e1:bT k c ⟨bm,cL,name,eS⟩=(k,bm,eS):=by rw[bT,if_pos he]
  rw[e1]at LU|-;refine⟨_,View.o1 4 [0,1,2] [] ?_,LU⟩
  .exact .au
 have he:eS=0:=he;subst he;have Qk:bm<(k.l.length:Int):=Qk rfl;refine aN (λh1=>?_) (λh1=>?_)
 .have h1:bm<0:=h1;refine bs (λh2=>?_) (λh2=>?_)
  .have h2:l7 c.bA 1=0:=h2;have e1:bT k c ⟨bm,cL,name,0⟩=(k,bm,6):=by rw[bT,if_neg aE,if_pos h1,if_pos h2]
   rw[e1]at LU|-;refine⟨_,View.o1 4 [0,1,2] [] ?_,LU⟩
   .exact .au
  .have h2:¬l7 c.bA 1=0:=h2;have e1:bT k c ⟨bm,cL,name,0⟩=b7 k ⟨bm,cL,name,0⟩ pw:=by rw[bT,if_neg aE,if_pos h1,if_neg h2]
   rw[e1]at LU|-;refine cN (decide_eq_true h1) ?_;refine nk (B4 _ _ _ _) (uv k p hw ⟨bm,cL,name,0⟩ pw Aq 0 rfl ?_);refine⟨_,View.o1 4 [0,1,2] [] ?_,LU⟩
   .exact .au
 .have h1:¬bm<0:=h1;obtain⟨j,rfl⟩:∃j:Nat,bm=j:=⟨bm.toNat,om⟩;have hj:j<k.l.length:=om;have P2:GM k.l (j:Int)=k.l[j].ag:=by rw[GM,Y6,vU hj]
  refine bx (λh2=>?_) (λh2=>?_)
  .have h2:l7 c.bA 2≠0:=h2;refine af (jc hj) ?_;refine bs (λh3=>?_) (λh3=>?_)
   .have h3:k.l[j].ag=2:=h3;have e1:bT k c ⟨(j:Nat),cL,name,0⟩=(k,(j:Int),12):=by rw[bT,if_neg aE,if_neg h1,if_pos ⟨h2,by rw[<-h3,<-P2]⟩]
    rw[e1]at LU|-;refine⟨_,View.o1 4 [0,1,2] [] ?_,LU⟩
    .exact .au
   .have h3:¬k.l[j].ag=2:=h3;have e1:bT k c ⟨(j:Nat),cL,name,0⟩=(k,(j:Int),0):=by rw[bT,if_neg aE,if_neg h1,if_neg (by rw[P2];exact λh=>h3 h.2)]
    rw[e1]at LU|-;refine⟨_,View.o1 4 [0,1,2] [] ?_,LU⟩
    .exact .au
  .have h2:¬l7 c.bA 2≠0:=λh=>h h2
   have e1:bT k c ⟨(j:Nat),cL,name,0⟩=(k,(j:Int),0):=by rw[bT,if_neg aE,if_neg h1,if_neg (λh=>h2 h.1)]
   rw[e1]at LU|-;refine⟨_,View.o1 4 [0,1,2] [] ?_,LU⟩
   .exact .au
theorem GP(k:Kr)(p:Nat)(hw:KW k p)(c:Cl)(aq:Int)(ax:Bool)(hf:GO k p c (gV k aq c.cE ax true)):
  body prog c55 [.rv (.one (.ptr 0 0)),.rv (.one (.ptr 1 0)),am .i64 aq,aD ax] [xB k p,cB c] (TC (eM k p c aq ax).1 p c (eM k p c aq ax).2):=by
 have hs:=KM k p hw c _ hf;show body prog c55 _ _ (TC (jd p c (bT k c (gV k aq c.cE ax true))).1 p c (jd p c (bT k c (gV k aq c.cE ax true))).2);refine⟨?_,?_⟩
 .refine sY k p hw aq c.cE ax true ?_;refine⟨trivial,⟨rfl,rfl,trivial⟩,trivial,_,View.o1 4 [0,1,2,3] [] ?_,hs⟩
  .exact .au
 .refine⟨⟨rfl,rfl,trivial⟩,?_⟩;refine sY k p hw aq c.cE ax true ?_;refine⟨trivial,trivial,_,View.o1 4 [0,1,2,3] [] ?_,hs⟩
  .exact .au
theorem Ee(k:Kr)(p:Nat)(hw:KW k p)(c:Cl)(aq:Int)(ax:Bool)(hf:GO k p c (gV k aq c.cE ax true)){m:Mem}(i j:Nat)(p9:fJ [i,j]=true)(aC:eP m.length [i,j]=true)(hi:cF m i=some (xB k p))(hj:cF m j=some (cB c)){K:CV->Mem->Prop}(hK:K (eM k p c aq ax).2.cv (c6 m [i,j] [xB (eM k p c aq ax).1 p,cB c])):
  ap prog 55 [.rv (.one (.ptr i 0)),.rv (.one (.ptr j 0)),am .i64 aq,aD ax] m K:=
 Tv (args:=[am .i64 aq,aD ax]) (λ_=>rfl) (λ_=>rfl)
  (bJ (ct func55 l55 (GP k p hw c aq ax hf)) λr m1⟨r',m',hv,hq⟩=>⟨r',m',hv,hq⟩) i j p9 aC hi hj hK
end Kn
def c32:LF:= ⟨78,[.cell true 4 4],(.seq (.ai [qu 4 (.alloc [qd 0,qd 0,qd 0,.aO])]) (.seq (.seq (.ai [qm 9 1,qu 10 (.aP 9),qf 11 6 10,ql 12 11,qu 13 (qc 54 [12]),qu 14 (.un .not 13),qm 15 14,qg 16 (.aM 1) 15 false,qg 17 (.aP 16) 15 false,qg 18 (.b8 5 17) 15 false,qg 19 (.load false 1 18) 15 false,qg 20 (.aJ .lss 19 (qi 0)) 15 false,qu 21 (.pick 15 (qb true) 20),qm 22 21,qg 23 (.aM 1) 22 false,qg 24 (.aP 23) 22 false,qg 25 (.b8 5 24) 22 false,qg 26 (.load false 1 25) 22 false,qg 27 (.aJ .gtr 26 (qi 3)) 22 false,qu 28 (.pick 22 (qb true) 27)]) (.cond 28 (.seq (.ai [qu 29 (.build [qd 0,qd 0,qd 0,.aO] [(0,1,qi 3)]),qw (.store 4 4 29)]) .ret) .skip)) (.seq (.seq (.ai [qm 30 1,qu 31 (.aP 30),qf 32 1 31,ql 33 32,qu 34 (.aJ .eql 33 (qi 2))]) (.cond 34 (.seq (.ai [qm 35 0,qm 36 1,qu 37 (qc 55 [35,36,qi 0,qb false]),qw (.store 4 4 37)]) .ret) .skip)) (.seq (.ai [qm 38 1,qu 39 (.aP 38),qf 40 6 39,ql 41 40,qu 42 (.aJ .or (qi 8) 41),qm 5 42]) (.seq (.seq (.ai [qm 43 1,qu 44 (.aP 43),qf 45 5 44,ql 46 45,qu 47 (.aJ .and 46 (qi 1)),qu 48 (.aJ .neq 47 (qi 0))]) (.cond 48 (.ai [qm 49 5,qu 50 (.aJ .or 49 (qi 16)),qm 5 50]) .skip)) (.seq (.seq (.ai [qm 51 1,qu 52 (.aP 51),qf 53 5 52,ql 54 53,qu 55 (.aJ .and 54 (qi 2)),qu 56 (.aJ .neq 55 (qi 0))]) (.cond 56 (.ai [qm 57 5,qu 58 (.aJ .or 57 (qi 2)),qm 5 58]) .skip)) (.cX (.seq (.ai [qm 60 0,qm 61 1,qu 62 (.aP 61),qf 63 2 62,ql 64 63,qm 65 5,qu 66 (qc 56 [60,64,65]),qm 59 66,qu 67 (.ext 59 0),qu 68 (.ext 59 1),qu 69 (.ext 59 2),qu 6 (.alloc [qd 0,qd 0]),qw (.store 2 6 67),qm 7 68,qm 8 69]) (.seq (.seq (.ai [qm 70 8,qu 71 (.aJ .neq 70 (qi 0))]) (.cond 71 (.seq (.ai [qm 72 8,qu 73 (.build [qd 0,qd 0,qd 0,.aO] [(0,1,72)]),qw (.store 4 4 73)]) .ret) .skip)) (.seq (.ai [qm 74 0,qm 75 1,qm 76 7,qu 77 (qc 55 [74,75,76,qb true]),qw (.store 4 4 77)]) .ret))))))))))⟩
namespace Kn
def km(c:Cl):Int:=if l7 c.bA 2≠0 then Rk (if l7 c.bA 1≠0 then Rk (Rk 8 c.aW) 16 else Rk 8 c.aW) 2 else(if l7 c.bA 1≠0 then Rk (Rk 8 c.aW) 16 else Rk 8 c.aW)
def fx(k:Kr)(p:Nat)(c:Cl):Kr×An:=
 if Tb.fm c.aW=false\/c.bA<0\/c.bA>3 then(k,An.no 3)
 else if c.ag=2 then eM k p c 0 false
 else if(bo k p c.fd (km c)).2.2≠0 then(k,An.no (bo k p c.fd (km c)).2.2)
 else eM k p c (bo k p c.fd (km c)).2.1 true
theorem GQ{k:Kr}{p:Nat}{c:Cl}{X:Mem}{a:An}:TC k p c a a.cv (xB k p::cB c::X):=
 ⟨_,_,View.of (X.length+2) [0,1] [] rfl rfl rfl rfl rfl (by simp[eP,Nat.blt]) (.eq rfl .nil) (.pt rfl rfl (.eq rfl (nC _ _)) (.pt rfl rfl (.eq rfl (jz _)) (.nil _))),rfl,rfl⟩
theorem l32:bz prog f32=some c32.er:=by kernel_rfl
def acp:LC:=bN (bN (bN (bN (bN (bN c32.code)))))
def YA:LC:=rf acp
theorem OI(k:Kr)(p:Nat)(hw:KW k p)(c:Cl)(need:Int)(hf:∀aq,GO k p c (gV k aq c.cE true true))(R:Kr×An)(hR:R=if(bo k p c.fd need).2.2≠0 then(k,An.no (bo k p c.fd need).2.2)else eM k p c (bo k p c.fd need).2.1 true):
  aw prog 2 YA (QC c32.l8 R.1 p c R.2) ⟨kS 78 [(0,.rv (.one (.ptr 0 0))),(1,.rv (.one (.ptr 1 0))),(4,.rv (.one (.ptr 2 0))),(5,am .i64 need)],[xB k p,cB c,je]⟩:=by
 refine kX k p hw c.fd need 0 rfl ?_;generalize bo k p c.fd need=w at hR|-;obtain⟨⟨o,r⟩,b,e⟩:=w;refine bx (λhe=>?_) (λhe=>?_)
 .have he:e≠0:=he;rw[if_pos he]at hR;subst hR;exact da (X:=[_,_])
 .have he:e=0:=he;subst he;rw[if_neg aE]at hR;subst hR;refine Ee k p hw c b true (hf b) 0 1 rfl rfl rfl rfl ?_;exact GQ (X:=[_,_])
theorem KN(k:Kr)(p:Nat)(hw:KW k p)(c:Cl)(hf:∀aq ax,GO k p c (gV k aq c.cE ax true)):
  body prog c32 [.rv (.one (.ptr 0 0)),.rv (.one (.ptr 1 0))] [xB k p,cB c] (TC (fx k p c).1 p c (fx k p c).2):=by
 have hv:∀need R,R=(if(bo k p c.fd need).2.2≠0 then(k,An.no (bo k p c.fd need).2.2)else eM k p c (bo k p c.fd need).2.1 true)->
  aw prog 2 YA (QC c32.l8 R.1 p c R.2) ⟨kS 78 [(0,.rv (.one (.ptr 0 0))),(1,.rv (.one (.ptr 1 0))),(4,.rv (.one (.ptr 2 0))),(5,am .i64 need)],[xB k p,cB c,je]⟩:=λneed R hR=>OI k p hw c need (λb=>hf b true) R hR
 refine Tb.xM c.aW ?_;cases hr:Tb.fm c.aW with
 |false=>
  have e1:fx k p c=(k,An.no 3):=by rw[fx,if_pos (.inl hr)]
  rw[e1];exact da (X:=[_])
 |true=>
  refine aN (λh1=>?_) (λh1=>?_)
  .have h1:c.bA<0:=h1;have e1:fx k p c=(k,An.no 3):=by rw[fx,if_pos (.inr (.inl h1))]
   rw[e1];exact da (X:=[_])
  have h1:¬c.bA<0:=h1;refine aN (λh2=>?_) (λh2=>?_)
  .have h2:c.bA>3:=h2;have e1:fx k p c=(k,An.no 3):=by rw[fx,if_pos (.inr (.inr h2))]
   rw[e1];exact da (X:=[_])
  have h2:¬c.bA>3:=h2;have e0:fx k p c=if c.ag=2 then eM k p c 0 false
   else if(bo k p c.fd (km c)).2.2≠0 then(k,An.no (bo k p c.fd (km c)).2.2)
   else eM k p c (bo k p c.fd (km c)).2.1 true:=by rw[fx,if_neg (by simp[hr,h1,h2])]
  rw[e0];refine bs (λh3=>?_) (λh3=>?_)
  .have h3:c.ag=2:=h3;rw[if_pos h3];refine Ee k p hw c 0 false (hf 0 false) 0 1 rfl rfl rfl rfl ?_;exact GQ (X:=[_])
  have h3:¬c.ag=2:=h3;rw[if_neg h3];refine bx (λh4=>?_) (λh4=>?_)
  .have h4:l7 c.bA 1≠0:=h4;refine bx (λh5=>?_) (λh5=>?_)
   .have h5:l7 c.bA 2≠0:=h5;refine⟨_,View.o 3 [0,1,2] [] ?_ ?_,hv (km c) _ rfl⟩
    .rw[km,if_pos h4,if_pos h5];repeat(first|exact .nil|refine .aA ?_|refine .eq rfl ?_)
    .exact .au
   .have h5:¬l7 c.bA 2≠0:=λh=>h h5
    refine⟨_,View.o 3 [0,1,2] [] ?_ ?_,hv (km c) _ rfl⟩
    .rw[km,if_pos h4,if_neg h5];repeat(first|exact .nil|refine .aA ?_|refine .eq rfl ?_)
    .exact .au
  .have h4:¬l7 c.bA 1≠0:=λh=>h h4
   refine bx (λh5=>?_) (λh5=>?_)
   .have h5:l7 c.bA 2≠0:=h5;refine⟨_,View.o 3 [0,1,2] [] ?_ ?_,hv (km c) _ rfl⟩
    .rw[km,if_neg h4,if_pos h5];repeat(first|exact .nil|refine .aA ?_|refine .eq rfl ?_)
    .exact .au
   .have h5:¬l7 c.bA 2≠0:=λh=>h h5
    refine⟨_,View.o 3 [0,1,2] [] ?_ ?_,hv (km c) _ rfl⟩
    .rw[km,if_neg h4,if_neg h5];repeat(first|exact .nil|refine .aA ?_|refine .eq rfl ?_)
    .exact .au
theorem dX{f:Nat}{k k':Kr}{p:Nat}{c:Cl}{a:An}(hc:ap prog f [.rv (.one (.ptr 0 0)),.rv (.one (.ptr 1 0))] [xB k p,cB c] (TC k' p c a)){m:Mem}(i j:Nat)(p9:fJ [i,j]=true)(aC:eP m.length [i,j]=true)(hi:cF m i=some (xB k p))(hj:cF m j=some (cB c)){K:CV->Mem->Prop}(hK:K a.cv (c6 m [i,j] [xB k' p,cB c])):ap prog f [.rv (.one (.ptr i 0)),.rv (.one (.ptr j 0))] m K:=
 Tv (args:=[]) (λ_=>rfl) (λ_=>rfl) (bJ hc λr m1⟨r',m',hv,hq⟩=>⟨r',m',hv,hq⟩) i j p9 aC hi hj hK
theorem Ar(k:Kr)(p:Nat)(hw:KW k p)(c:Cl)(hf:∀aq ax,GO k p c (gV k aq c.cE ax true)):ap prog 32 [.rv (.one (.ptr 0 0)),.rv (.one (.ptr 1 0))] [xB k p,cB c] (TC (fx k p c).1 p c (fx k p c).2):=
 ct func32 l32 (KN k p hw c hf)
end Kn
def c33:LF:= ⟨172,[.cell true 4 4],(.seq (.ai [qu 4 (.alloc [qd 0,qd 0,qd 0,.aO])]) (.seq (.ai [qu 15 (.rN),qw (.tz (.i .i64) 15 (qi 4) (qi 1)),qw (.tz (.i .i64) 15 (qi 5) (qi 2)),qw (.tz (.i .i64) 15 (qi 6) (qi 4)),qm 16 15,qm 17 1,qu 18 (.aP 17),qf 19 1 18,ql 20 19,qu 21 (.yQ (.one (qd 0)) (.i .i64) 16 20 false),qm 5 21]) (.cX (.seq (.ai [qm 23 0,qm 24 1,qu 25 (.aP 24),qf 26 2 25,ql 27 26,qm 28 5,qu 29 (qc 56 [23,27,28]),qm 22 29,qu 30 (.ext 22 0),qu 31 (.ext 22 1),qu 32 (.ext 22 2),qu 6 (.alloc [qd 0,qd 0]),qw (.store 2 6 30),qm 7 31,qm 8 32]) (.seq (.seq (.ai [qm 33 8,qu 34 (.aJ .neq 33 (qi 0))]) (.cond 34 (.seq (.ai [qm 35 8,qu 36 (.build [qd 0,qd 0,qd 0,.aO] [(0,1,35)]),qw (.store 4 4 36)]) .ret) .skip)) (.seq (.bV [qm 37 0,qu 38 (.aP 37),qf 39 0 38,qf 40 1 39,ql 41 40,qf 42 0 6,ql 43 42,qu 44 (.cz 2 41 43),qf 45 1 44,ql 46 45,qm 9 46] [eK 11 0 .nil]) (.seq (.ai [qu 47 (.build [qd 0,qd 0,qd 0,.aO] []),qu 10 (.alloc [qd 0,qd 0,qd 0,.aO]),qw (.store 4 10 47)]) (.seq (.seq (.ai [qm 48 1,qu 49 (.aP 48),qf 50 1 49,ql 51 50]) (.block 0 (.seq (.ai [qu 70 (.aJ .eql 51 (qi 4)),qm 69 70]) (.cond 69 (.seq (.bV [qm 72 0,qu 73 (.aP 72),qf 74 0 73,qf 75 0 74,ql 76 75,qm 77 7,qu 78 (.cz 9 76 77),qL 79 9 78,qm 80 9,qm 81 1,qu 82 (.aP 81),qf 83 4 82,ql 84 83,qu 85 (qc 57 [79,80,84]),qm 71 85,qu 86 (.ext 71 0),qu 87 (.ext 71 1),qm 11 86,qm 12 87] [(eK 13 0 (.cons 13 (some []) (eK 5 14 .nil)))]) (.seq (.seq (.ai [qm 88 12,qu 89 (.aJ .neq 88 (qi 0))]) (.cond 89 (.seq (.ai [qm 90 12,qu 91 (.build [qd 0,qd 0,qd 0,.aO] [(0,1,90)]),qw (.store 4 4 91)]) .ret) .skip)) (.seq (.ai [qm 92 9,qm 93 11,qu 94 (.len 1 93),qu 95 (.aJ .add 92 94),qm 9 95]) (.ai [qm 96 11,qu 97 (.len 1 96),qm 98 11,qf 99 1 10,qw (.store 1 99 97),qf 100 3 10,qw (.store 1 100 98)])))) (.seq (.ai [qu 102 (.aJ .eql 51 (qi 5)),qm 101 102]) (.cond 101 (.seq (.bV [qm 104 0,qu 105 (.aP 104),qf 106 0 105,qf 107 0 106,ql 108 107,qm 109 7,qu 110 (.cz 9 108 109),qL 111 9 110,qm 112 9,qm 113 1,qu 114 (.aP 113),qf 115 8 114,ql 116 115,qu 117 (qc 58 [111,112,116]),qm 103 117,qu 118 (.ext 103 0),qu 119 (.ext 103 1),qu 13 (.alloc [qd 0,.aO,.aO,(.ah (.val (.string ⟨#[]⟩))),qd 0,.aO,qd 0,qd 0,qd 0]),qw (.store 9 13 118),qm 14 119] [(eK 13 0 (.ww (.cons 13 (some []) (eK 3 14 (.cons 17 (some [12,7,6,4]) (.cons 18 (some []) (.cons 19 none .nil))))) (.cons 17 (some [12,7,6,4]) (.cons 13 (some []) (eK 3 14 (.cons 18 (some []) (.cons 19 none .nil)))))))]) (.cX (.seq (.seq (.ai [qm 120 14,qu 121 (.aJ .neq 120 (qi 0))]) (.cond 121 (.seq (.ai [qm 122 14,qu 123 (.build [qd 0,qd 0,qd 0,.aO] [(0,1,122)]),qw (.store 4 4 123)]) .ret) .skip)) (.seq (.ai [qm 124 0,qm 125 0,qu 126 (.aP 125),qf 127 0 126,qL 128 3 127,qu 129 (qc 59 [128]),qu 130 (.aP 124),qf 131 0 130,qw (.store 3 131 129)]) (.seq (.bV [qm 132 0,qu 133 (.aP 132),qf 134 0 133,qf 135 0 134,ql 136 135,qm 137 7,qL 138 9 13,qu 139 (.cz 9 136 137),qw (.store 9 139 138)] [(eK 8 0 (.cons 8 (some []) .nil))]) (.seq (.ai [qm 140 9,qm 141 1,qu 142 (.aP 141),qf 143 8 142,ql 144 143,qu 145 (.len 1 144),qu 146 (.aJ .add 140 145),qm 9 146]) (.ai [qm 147 1,qu 148 (.aP 147),qf 149 8 148,ql 150 149,qu 151 (.len 1 150),qf 152 1 10,qw (.store 1 152 151)]))))))) (.seq (.seq (.ai [qm 52 1,qu 53 (.aP 52),qf 54 4 53,ql 55 54,qu 56 (.aJ .lss 55 (qi 0)),qm 57 56,qg 58 (.aM 1) 57 false,qg 59 (.aP 58) 57 false,qg 60 (.b8 4 59) 57 false,qg 61 (.load false 1 60) 57 false,qg 62 (.aJ .gtr 61 (qi 60)) 57 false,qu 63 (.pick 57 (qb true) 62)]) (.cond 63 (.seq (.ai [qu 64 (.build [qd 0,qd 0,qd 0,.aO] [(0,1,qi 3)]),qw (.store 4 4 64)]) .ret) .skip)) (.ai [qm 65 1,qu 66 (.aP 65),qf 67 4 66,ql 68 67,qm 9 68])))))))) (.cX (.seq (.ai [qm 153 0,qm 154 0,qu 155 (.aP 154),qf 156 0 155,qL 157 3 156,qu 158 (qc 59 [157]),qu 159 (.aP 153),qf 160 0 159,qw (.store 3 160 158)]) (.seq (.bV [qm 161 0,qu 162 (.aP 161),qf 163 0 162,qf 164 1 163,ql 165 164,qf 166 0 6,ql 167 166,qm 168 9,qu 169 (.cz 2 165 167),qf 170 1 169,qw (.store 1 170 168)] [(eK 10 0 (.cons 10 (some []) .nil))]) (.seq (.ai [qL 171 4 10,qw (.store 4 4 171)]) .ret))))))))))))⟩
namespace Kn
def lI(l:List Obj)(z:Int):Obj:=(l[z.toNat]?).getD ij
def px(k:Kr)(z a:Int):Kr:=⟨k.l,(match k.ops[z.toNat]? with|some o=>k.ops.set z.toNat {o with dj:=a}|none=>k.ops),k.ps⟩
def setObj(k:Kr)(z:Int)(o:Obj):Kr:=⟨k.l.set z.toNat o,k.ops,k.ps⟩
def B5(a b:Int):Int:=IntKind.i64.wrap (a+b)
def ow(ag:Int):Int:=if ag=4 then 1 else if ag=5 then 2 else 4
def py(k:Kr)(n:Int)(dj:Int)(r:List (List Dt)×Int):Kr×An:=
 if r.2≠0 then(k,An.no r.2)else(px k n (B5 dj r.1.length),⟨0,r.1.length,0,r.1⟩)
def mP(k:Kr)(n:Int)(bm:Int)(dj:Int)(len:Nat)(r:Obj×Int):Kr×An:=
 if r.2≠0 then(k,An.no r.2)else(px (setObj k bm r.1) n (B5 dj len),⟨0,len,0,[]⟩)
def n8(k:Kr)(n:Int)(dj:Int):Kr×An:=
 if dj<0\/dj>60 then(k,An.no 3)else(px k n dj,⟨0,0,0,[]⟩)
def kI(k:Kr)(c:Cl)(w:(Int×Int)×Int×Int):Kr×An:=
 if w.2.2≠0 then(k,An.no w.2.2)
 else if c.ag=4 then py k w.1.1 (pu k.ops w.1.1) (kg (lI k.l w.2.1).ag (lI k.l w.2.1).data (pu k.ops w.1.1) c.n)
 else if c.ag=5 then mP k w.1.1 w.2.1 (pu k.ops w.1.1) c.data.length (fo (lI k.l w.2.1) (pu k.ops w.1.1) (jw c.data))
 else n8 k w.1.1 c.n
def gg(k:Kr)(p:Nat)(c:Cl):Kr×An:=kI k c (bo k p c.fd (ow c.ag))
theorem uw{l:List Obj}{n:Nat}(h:n<l.length):lI l (n:Int)=l[n]:=by rw[lI,Y6,vU h];rfl
def Wi(d:List Int)(A:Nat)(b:List Int):List Int:=if b.length=0 then d else cU (d++List.replicate (A+b.length-d.length) 0) A b
theorem GR(d b:List Int)(A:Nat):qH (jw d) A (jw b)=jw (Wi d A b):=by
 have hl:∀x:List Int,(jw x).length=x.length:=λx=>by simp[jw]
 have hz:∀n,List.replicate n zb=jw (List.replicate n 0):=λn=>by simp[jw,zb]
 unfold qH Wi;rw[hl];split
 .rfl
 .unfold UX cU;rw[hl,hz,hl];simp only[jw,abm,adh,adZ]
theorem IG(d b:List Int)(A:Nat)(hb:b.length<=60)(hA:A+b.length<=60):(Wi d A b).length<=60\/(Wi d A b).length<=d.length:=by
 unfold Wi;split
 .exact .inr (Ym _)
 .unfold cU;simp only[aa3,aaA,abz,List.length_replicate];omega
theorem sZ{o:Obj}(ho:o.sm){dj:Int}{b:List Int}(h:(fo o dj (jw b)).2=0):(fo o dj (jw b)).1.sm/\o.ag=1/\0<=dj/\dj<=60/\(b.length:Int)<=60-dj/\(fo o dj (jw b)).1={o with data:=qH o.data dj.toNat (jw b)}:=by
 have hl:(jw b).length=b.length:=by simp[jw]
 unfold fo at h|-;split at h
 .simp at h
 .rename_i h1;split at h
  .simp at h
  .rename_i h2;split at h
   .simp at h
   .rename_i h3;split at h
    .simp at h
    .rename_i h4;rw[if_neg h1,if_neg h2,if_neg h3,if_neg h4];rw[hl]at h4;obtain⟨⟨⟨d,hd⟩,wT,ht3⟩,mw,he,hq,hqd⟩:=ho;refine⟨⟨⟨⟨Wi d dj.toNat b,?_⟩,wT,ht3⟩,?_,he,hq,hqd⟩,om,om,om,om,rfl⟩
     .show qH o.data dj.toNat (jw b)=_;rw[hd,GR]
     .show(qH o.data dj.toNat (jw b)).length<=64;rw[hd,GR,show ∀x:List Int,(jw x).length=x.length from λx=>by simp[jw]]
      have agY:d.length<=64:=by rw[hd]at mw;simpa[jw]using mw
      have:=IG d b dj.toNat om om;omega
theorem dN.KO{k:Kr}(h:dN k.l k.ops k.ps){z:Int}{o:Obj}(ho:o.sm):dN (setObj k z o).l (setObj k z o).ops (setObj k z o).ps:=by
 refine⟨λx hx=>?_,by simpa[setObj]using h.ll,h.lo,h.lp,h.sl,h.ne⟩
 rcases aaK hx with hx|rfl
 .exact h.sm x hx
 .exact ho
theorem l33:bz prog f33=some c33.er:=by kernel_rfl
def acq:LC:=bN (bN c33.code)
def Vg:LC:=rf acq
def YB:LC:=bN (bN (bN (bN (bN Vg))))
def acr:LC:=rf YB
theorem rx(k:Kr)(hk:dN k.l k.ops k.ps)(p:Nat)(c:Cl)(n:Nat)(hn:n<k.ops.length)(r dj:Int)(a:An):
  aw prog 2 acr (QC c33.l8 (px k n dj) p c a)
   ⟨kS 172 [(0,.rv (.one (.ptr 0 0))),(1,.rv (.one (.ptr 1 0))),(4,.rv (.one (.ptr 2 0))),(6,.rv (.one (.ptr 3 0))),(9,am .i64 dj),(10,.rv (.one (.ptr 4 0)))],
    [xB k p,cB c,je,.var [.ah (.val (.int .i64 (n:Nat))),.ah (.val (.int .i64 r))],.var (a.enc.map .ah)]⟩:=by
 refine i4 k.l k.ops k.ps ⟨hk.ll,λo ho=>(hk.sm o ho).oB⟩ hk.lo hk.lp hk.sl hk.ne ?_
 refine af (Bx hn) ?_;have ho:=bK bH.enc k.ops hn;have hs:px k n dj=⟨k.l,k.ops.set n {k.ops[n]with dj:=dj},k.ps⟩:=by rw[px,Y6,vU hn]
 rw[hs];generalize k.ops[n]=x at ho;obtain⟨xo,xa⟩:=x;refine af ho ?_;refine⟨trivial,_,_,View.o 8 [0,1] [5,6,7] (.eq rfl .nil) (.pt rfl rfl (Vf (k:=⟨k.l,k.ops.set n ⟨xo,dj⟩,k.ps⟩) (iH rfl rfl) (iH rfl (congrArg (λx=>some (Bk.row 2 x)) ?_)) (iH rfl rfl)) (.pt rfl rfl (.eq rfl (jz _)) (.nil _))),rfl,rfl⟩
 show aV (aa (k.ops.map bH.enc)) n ((bH.enc ⟨xo,dj⟩).map .ah)=_;rw[aY,aa,aa,abv,abv]
def unB:LC->LC
 | .block _ b=>b
 |x=>x
def acs:LC:=match unB (bN (XU (bN (bN (bN (bN Vg))))))with
 | .seq _ (.cond _ _ (.seq _ (.cond _ (.seq _ g) _)))=>g
 |x=>x
def acu:LC:=rf acs
def GS(a b d:Int)(x:Int):Prop:=x=a\/x=b\/x=d
theorem Tw{Y:Nat->Nat}{m:Mem}{Z:Nat->Prop}{id:Nat}{e n x:Int}:mH Y m Z id (.var [.ah (.val (.int .i64 e)),.ah (.val (.int .i64 n)),.ah (.val (.int .i64 x)),.aO]) (.var ((An.enc ⟨e,n,x,[]⟩).map .ah)):=
 fv.var (.cons (.bb (.ah _)) (.cons (.bb (.ah _)) (.cons (.bb (.ah _)) (.cons (.fQ (.aO 1)) .nil))))
theorem GU(k:Kr)(p:Nat)(hw:KW k p)(c:Cl)(n j:Nat)(hn:n<k.ops.length)(hj:j<k.l.length)(r dj:Int)(o':Obj)(e:Int)(ho:e=0->o'.sm):
  aw prog 2 acu (E9 0 (TY (aw prog 2 YB) (QC c33.l8 (mP k n j dj c.data.length (o',e)).1 p c (mP k n j dj c.data.length (o',e)).2)))
   ⟨kS 172 [(0,.rv (.one (.ptr 0 0))),(1,.rv (.one (.ptr 1 0))),(4,.rv (.one (.ptr 2 0))),(6,.rv (.one (.ptr 3 0))),(7,am .i64 (j:Nat)),(9,am .i64 dj),(10,.rv (.one (.ptr 4 0))),(13,.rv (.one (.ptr 5 0))),(14,am .i64 e)],
    [xB k p,cB c,je,.var [.ah (.val (.int .i64 (n:Nat))),.ah (.val (.int .i64 r))],.var [.ah (.val (.int .i64 0)),.ah (.val (.int .i64 0)),.ah (.val (.int .i64 0)),.aO],.var (o'.enc.map .ah)]⟩:=by
 refine bx (λhe=>?_) (λhe=>?_)
 .have he:e≠0:=he;rw[mP,if_pos he];exact da (X:=[_,_,_,_])
 have he:e=0:=he;subst he;have ho:=ho rfl;rw[mP,if_neg aE];refine i4 k.l k.ops k.ps hw.oB hw.kr.lo hw.kr.lp hw.kr.sl hw.kr.ne ?_;refine af (OH hj) ?_;refine af (bK Obj.enc k.l hj) ?_;refine⟨trivial,?_⟩;have hx:aV (aa (k.l.map Obj.enc)) j (o'.enc.map .ah)=aa ((setObj k j o').l.map Obj.enc):=nU Obj.enc k.l j o';refine⟨_,View.o 9 [0,1,2,3,4] [6,7,8] ?_ ?_,rx (setObj k j o') (dN.KO hw.kr ho) p c n hn r (B5 dj c.data.length) ⟨0,c.data.length,0,[]⟩⟩
 .have hl:∀x:List Int,(jw x).length=x.length:=λx=>by simp[jw]
  have h9:am .i64 (IntKind.i64.wrap (dj+((jw c.data).length:Nat)))=am .i64 (B5 dj c.data.length):=by rw[hl];rfl
  repeat(first|exact .nil|refine .aA ?_|refine .eq rfl ?_|refine .eq h9.symm ?_)
 .have h9:((jw c.data).length:Int)=(c.data.length:Int):=by simp[jw]
  refine .pt rfl rfl (Vf (k:=setObj k j o') (iH rfl (congrArg (λx=>some (Bk.row 9 x)) hx)) (iH rfl rfl) (iH rfl rfl)) (.pt rfl rfl (.eq rfl (jz _)) (.pt rfl rfl (.eq rfl (by simp[je])) (.pe rfl rfl rfl (.pt rfl rfl ?_ (.nil _)))))
  rw[<-h9];exact Tw
theorem Rp{ops:List bH}{n:Nat}(h:n<ops.length):pu ops (n:Int)=ops[n].dj:=by rw[pu,Y6,vU h]
theorem KP(k:Kr)(p:Nat)(hw:KW k p)(c:Cl)(need:Int)(u9:GS 4 5 6 c.ag)(hd:c.data.length<=4194304):
  aw prog 2 Vg (QC c33.l8 (kI k c (bo k p c.fd need)).1 p c (kI k c (bo k p c.fd need)).2)
   ⟨kS 172 [(0,.rv (.one (.ptr 0 0))),(1,.rv (.one (.ptr 1 0))),(4,.rv (.one (.ptr 2 0))),(5,am .i64 need)],[xB k p,cB c,je]⟩:=by
 refine kX k p hw c.fd need 0 rfl ?_;have hh:= @KW.held k p hw c.fd need;generalize bo k p c.fd need=w at hh|-;obtain⟨⟨o,r⟩,b,e⟩:=w;refine bx (λhe=>?_) (λhe=>?_)
 .have he:e≠0:=he;have e1:kI k c ((o,r),b,e)=(k,An.no e):=by rw[kI,if_pos he]
  rw[e1];exact da (X:=[_,_])
 have he:e=0:=he;subst he;obtain⟨n,j,h1,h2,h3,h4,h5⟩:=hh rfl;have h1:o=n:=h1;have h3:b=j:=h3;subst h1 h3;have kT:=(hw.kr.sm _ (aaw h4)).oB;have Fk:=hw.kr.sm _ (aaw h4);have P4:=uw h4;refine af (pZ h2) ?_;have hS:kI k c ((((n:Nat):Int),r),((j:Nat):Int),0)=if c.ag=4 then py k n k.ops[n].dj (kg k.l[j].ag k.l[j].data k.ops[n].dj c.n)
  else if c.ag=5 then mP k n j k.ops[n].dj c.data.length (fo k.l[j] k.ops[n].dj (jw c.data))else n8 k n c.n:=by
  rw[kI,if_neg aE,P4,Rp h2]
 rw[hS];refine bs (λk4=>?_) (λk4=>?_)
 .have k4:c.ag=4:=k4;rw[if_pos k4];refine af (jc h4) ?_;refine OB k.l[j] kT.1 k.ops[n].dj c.n ?_;generalize kg k.l[j].ag k.l[j].data k.ops[n].dj c.n=R;obtain⟨d,e⟩:=R;refine⟨trivial,?_⟩;refine bx (λhe=>?_) (λhe=>?_)
  .have he:e≠0:=he;rw[py,if_pos he];exact da (X:=[_,_,_])
  .have he:e=0:=he;subst he;rw[py,if_neg aE];refine⟨_,View.o1 5 [0,1,2,3,4] [] ?_,rx k hw.kr p c n h2 r (B5 k.ops[n].dj d.length) ⟨0,d.length,0,d⟩⟩
   .exact .au
 have k4:¬c.ag=4:=k4;rw[if_neg k4];refine bs (λk5=>?_) (λk5=>?_)
 .have k5:c.ag=5:=k5;rw[if_pos k5];have hb:(jw c.data).length<=4194304:=by simpa[jw]using hd
  have CB:=λ(h:(fo k.l[j] k.ops[n].dj (jw c.data)).2=0)=>(sZ Fk h).1
  have hg:=jc h4;have YC:=λo' e(h:e=0->Obj.sm o')=>GU k p hw c n j h2 h4 r k.ops[n].dj o' e h
  refine af hg ?_;refine⟨?_,?_⟩
  .refine DY k.l[j] kT k.ops[n].dj (jw c.data) hb ?_;generalize fo k.l[j] k.ops[n].dj (jw c.data)=R at CB|-;obtain⟨o',e⟩:=R;refine⟨trivial,⟨rfl,rfl,af hg rfl,rfl,trivial⟩,trivial,_,View.o1 6 [0,1,2,3,4,5] [] ?_,YC o' e CB⟩
   .exact .au
  .refine⟨⟨rfl,rfl,af hg rfl,rfl,trivial⟩,?_⟩;refine DY k.l[j] kT k.ops[n].dj (jw c.data) hb ?_;generalize fo k.l[j] k.ops[n].dj (jw c.data)=R at CB|-;obtain⟨o',e⟩:=R;refine⟨trivial,trivial,_,View.o1 6 [0,1,2,3,4,5] [] ?_,YC o' e CB⟩
   .exact .au
 .have k5:¬c.ag=5:=k5;rw[if_neg k5];refine aN (λh6=>?_) (λh6=>?_)
  .have h6:c.n<0:=h6;rw[n8,if_pos (.inl h6)];exact da (X:=[_,_,_])
  have h6:¬c.n<0:=h6;refine aN (λh7=>?_) (λh7=>?_)
  .have h7:c.n>60:=h7;rw[n8,if_pos (.inr h7)];exact da (X:=[_,_,_])
  have h7:¬c.n>60:=h7;rw[n8,if_neg om];refine⟨_,View.o1 5 [0,1,2,3,4] [] ?_,rx k hw.kr p c n h2 r c.n ⟨0,0,0,[]⟩⟩
  .exact .pt rfl rfl (.eq rfl (nC _ _)) (.pt rfl rfl (.eq rfl (jz _)) (.pt rfl rfl (.eq rfl (by simp[je])) (.pe rfl rfl rfl (.pt rfl rfl Tw (.nil _)))))
theorem GV(k:Kr)(p:Nat)(hw:KW k p)(c:Cl)(u9:GS 4 5 6 c.ag)(hd:c.data.length<=4194304):
  body prog c33 [.rv (.one (.ptr 0 0)),.rv (.one (.ptr 1 0))] [xB k p,cB c] (TC (gg k p c).1 p c (gg k p c).2):=by
 have hs:=λneed=>KP k p hw c need u9 hd
 have Tx:gg k p c=kI k c (bo k p c.fd (ow c.ag)):=rfl;rw[Tx];clear Tx;obtain⟨ba,ag,fd,fE,n,bA,aW,cE,data⟩:=c;rcases u9 with h|h|h
 .have h:ag=4:=h;subst h;refine⟨_,View.o1 4 [0,1,2] [] ?_,hs 1⟩
  .exact .au
 .have h:ag=5:=h;subst h;refine⟨_,View.o1 4 [0,1,2] [] ?_,hs 2⟩
  .exact .au
 .have h:ag=6:=h;subst h;refine⟨_,View.o1 4 [0,1,2] [] ?_,hs 4⟩
  .exact .au
theorem ry(k:Kr)(p:Nat)(hw:KW k p)(c:Cl)(u9:GS 4 5 6 c.ag)(hd:c.data.length<=4194304):ap prog 33 [.rv (.one (.ptr 0 0)),.rv (.one (.ptr 1 0))] [xB k p,cB c] (TC (gg k p c).1 p c (gg k p c).2):=
 ct func33 l33 (GV k p hw c u9 hd)
end Kn
def c34:LF:= ⟨66,[.cell true 4 4],(.seq (.ai [qu 4 (.alloc [qd 0,qd 0,qd 0,.aO])]) (.seq (.bV [qm 8 0,qu 9 (.aP 8),qf 10 0 9,qf 11 2 10,ql 12 11,qm 13 0,qu 14 (.aP 13),qf 15 3 14,ql 16 15,qu 17 (.cz 4 12 16),qf 18 3 17,ql 19 18,qm 5 19] [eK 13 0 .nil]) (.seq (.ai [qu 6 (.aM (qi 0))]) (.seq (.ai [qu 7 (.aM (qi 0))]) (.seq (.seq (.ai [qm 20 1,qu 21 (.aP 20),qf 22 1 21,ql 23 22]) (.block 0 (.seq (.ai [qu 38 (.aJ .eql 23 (qi 7)),qm 37 38]) (.cond 37 (.ai [qm 40 5,qm 41 1,qu 42 (.aP 41),qf 43 2 42,ql 44 43,qu 45 (qc 60 [40,44]),qm 39 45,qu 46 (.ext 39 0),qu 47 (.ext 39 1),qm 5 46,qm 7 47]) (.seq (.ai [qu 49 (.aJ .eql 23 (qi 8)),qm 48 49]) (.cond 48 (.ai [qm 51 5,qm 52 1,qu 53 (.aP 52),qf 54 2 53,ql 55 54,qu 56 (qc 61 [51,55]),qm 50 56,qu 57 (.ext 50 0),qu 58 (.ext 50 1),qu 59 (.ext 50 2),qm 5 57,qm 6 58,qm 7 59]) (.bV [qm 25 5,qm 26 1,qu 27 (.aP 26),qf 28 2 27,ql 29 28,qm 30 1,qu 31 (.aP 30),qf 32 6 31,ql 33 32,qu 34 (qc 62 [25,29,33]),qm 24 34,qu 35 (.ext 24 0),qu 36 (.ext 24 1),qm 5 35,qm 7 36] [(eK 9 0 (.cons 9 (some []) (eK 5 10 .nil)))]))))))) (.cX (.seq (.ai [qm 60 0,qm 61 5,qm 62 7,qu 63 (qc 63 [60,61,62]),qm 64 6,qu 65 (.build [qd 0,qd 0,qd 0,.aO] [(0,1,63),(1,1,64)]),qw (.store 4 4 65)]) .ret)))))))⟩
namespace Kn
def Ef(k:Kr)(p:Nat)(x:List eh×Int×Int):Kr×An:=(eC k p x.1 x.2.2,⟨x.2.2,x.2.1,0,[]⟩)
def jg(l:List eh)(c:Cl):List eh×Int×Int:=
 if c.ag=7 then((ru l c.fd).1,0,(ru l c.fd).2)else if c.ag=8 then ut l c.fd else((vW l c.fd c.aW).1,0,(vW l c.fd c.aW).2)
def iI(k:Kr)(p:Nat)(c:Cl):Kr×An:=Ef k p (jg (an k.ps p) c)
theorem l34:bz prog f34=some c34.er:=by kernel_rfl
def acv:LC:=bN (bN (bN (bN (bN c34.code))))
def acw:LC:=rf acv
theorem OJ(k:Kr)(p:Nat)(hw:KW k p)(c:Cl)(x:List eh×Int×Int):
  aw prog 2 acw (QC c34.l8 (Ef k p x).1 p c (Ef k p x).2)
   ⟨kS 66 [(0,.rv (.one (.ptr 0 0))),(1,.rv (.one (.ptr 1 0))),(4,.rv (.one (.ptr 2 0))),(5,nu x.1),(6,am .i64 x.2.1),(7,am .i64 x.2.2)],[xB k p,cB c,je]⟩:=by
 refine Eb k p hw.kr hw.hp x.1 x.2.2 0 rfl ?_;exact da (X:=[_])
theorem KQ(k:Kr)(p:Nat)(hw:KW k p)(c:Cl):
  body prog c34 [.rv (.one (.ptr 0 0)),.rv (.one (.ptr 1 0))] [xB k p,cB c] (TC (iI k p c).1 p c (iI k p c).2):=by
 have hs:=OJ k p hw c (jg (an k.ps p) c);have hg:=dG hw.hp;rw[<-eD hw.hp]at hg;have hl:(an k.ps p).length<=2097152:=by rw[eD hw.hp];have:=hw.kr.sl _ (aaw hw.hp);omega
 have hS:iI k p c=Ef k p (jg (an k.ps p) c):=rfl;rw[hS];clear hS;refine af hg ?_;generalize an k.ps p=S at hl hs|-;refine bs (λh7=>?_) (λh7=>?_)
 .have h7:c.ag=7:=h7;rw[jg,if_pos h7]at hs|-;refine KH S hl c.fd ?_;refine⟨_,View.o1 3 [0,1,2] [] ?_,hs⟩
  .exact .au
 have h7:¬c.ag=7:=h7;rw[jg,if_neg h7]at hs|-;refine bs (λh8=>?_) (λh8=>?_)
 .have h8:c.ag=8:=h8;rw[if_pos h8]at hs|-;refine Rl S hl c.fd ?_;refine⟨_,View.o1 3 [0,1,2] [] ?_,hs⟩
  .exact .au
 have h8:¬c.ag=8:=h8;rw[if_neg h8]at hs|-;refine KJ S hl c.fd c.aW ?_;refine⟨trivial,_,View.o1 3 [0,1,2] [] ?_,hs⟩
 .exact .au
theorem uy(k:Kr)(p:Nat)(hw:KW k p)(c:Cl):ap prog 34 [.rv (.one (.ptr 0 0)),.rv (.one (.ptr 1 0))] [xB k p,cB c] (TC (iI k p c).1 p c (iI k p c).2):=
 ct func34 l34 (KQ k p hw c)
end Kn
def c35:LF:= ⟨85,[.cell true 4 4],(.seq (.ai [qu 4 (.alloc [qd 0,qd 0,qd 0,.aO])]) (.seq (.ai [qu 5 (.aM (qi 128))]) (.seq (.seq (.ai [qm 12 1,qu 13 (.aP 12),qf 14 1 13,ql 15 14,qu 16 (.aJ .eql 15 (qi 11))]) (.cond 16 (.ai [qu 5 (.aM (qi 64))]) .skip)) (.cX (.seq (.ai [qm 18 0,qm 19 1,qu 20 (.aP 19),qf 21 2 20,ql 22 21,qm 23 5,qu 24 (qc 56 [18,22,23]),qm 17 24,qu 25 (.ext 17 0),qu 26 (.ext 17 1),qu 27 (.ext 17 2),qu 6 (.alloc [qd 0,qd 0]),qw (.store 2 6 25),qm 7 26,qm 8 27]) (.seq (.seq (.ai [qm 28 8,qu 29 (.aJ .neq 28 (qi 0))]) (.cond 29 (.seq (.ai [qm 30 8,qu 31 (.build [qd 0,qd 0,qd 0,.aO] [(0,1,30)]),qw (.store 4 4 31)]) .ret) .skip)) (.seq (.ai [qm 32 0,qu 33 (.aP 32),qf 34 0 33,qf 35 0 34,ql 36 35,qm 37 7,qu 38 (.cz 9 36 37),qL 39 9 38,qu 9 (.alloc [qd 0,.aO,.aO,(.ah (.val (.string ⟨#[]⟩))),qd 0,.aO,qd 0,qd 0,qd 0]),qw (.store 9 9 39)]) (.seq (.seq (.ai [qm 40 1,qu 41 (.aP 40),qf 42 1 41,ql 43 42,qu 44 (.aJ .eql 43 (qi 11))]) (.cond 44 (.seq (.seq (.ai [qf 45 0 9,ql 46 45,qu 47 (.aJ .neq 46 (qi 2))]) (.cond 47 (.seq (.ai [qu 48 (.build [qd 0,qd 0,qd 0,.aO] [(0,1,qi 11)]),qw (.store 4 4 48)]) .ret) .skip)) (.seq (.ai [qL 49 9 9,qu 50 (qc 65 [49]),qu 51 (qc 64 [50,(.c (.rv (.one (.ah (.val (.string ⟨#[10]⟩))))))]),qm 10 51]) (.seq (.ai [qf 52 2 9,ql 53 52,qu 54 (.len 1 53),qm 55 10,qu 56 (.Wr 55),qu 57 (.build [qd 0,qd 0,qd 0,.aO] [(1,1,54),(3,1,56)]),qw (.store 4 4 57)]) .ret))) .skip)) (.seq (.ai [qf 58 1 9,ql 59 58,qu 60 (.len 1 59),qf 61 2 9,ql 62 61,qu 63 (.len 1 62),qu 64 (.aJ .add 60 63),qf 65 5 9,ql 66 65,qu 67 (.len 1 66),qu 68 (.aJ .add 64 67),qm 11 68]) (.seq (.seq (.bV [qf 69 0 9,ql 70 69,qu 71 (.aJ .eql 70 (qi 5)),qm 72 71,qg 73 (.aM 0) 72 true,qg 74 (.aP 73) 72 true,qg 75 (.b8 0 74) 72 true,qg 76 (.load true 3 75) 72 true,qg 77 (.b8 6 9) 72 true,qg 78 (.load false 1 77) 72 true,qg 79 (qc 29 [76,78]) 72 true,qu 80 (.pick 72 79 (qb false))] [(eK 10 0 (.cons 10 (some []) (.cons 11 none .nil)))]) (.cond 80 (.ai [qu 11 (.aM (qi 1))]) .skip)) (.seq (.ai [qf 81 0 9,ql 82 81,qm 83 11,qu 84 (.build [qd 0,qd 0,qd 0,.aO] [(1,1,82),(2,1,83)]),qw (.store 4 4 84)]) .ret)))))))))))⟩
namespace bM
def lJ(sep:dQ)(l:List dQ):dQ:=Lib.join l sep
theorem Eg(l:List dQ):(l.map cG).map (·.data.toList)=l:=by rw[abF];exact List.map_id'' (λ_=>rfl) l
theorem Rq(l:List dQ)(sep:dQ)(hN:l.length<=4194304)(hlen:(lJ sep l).length<=140737488355328){m:Mem}{K:CV->Mem->Prop}(h:K (vT (lJ sep l)) m):ap prog 64 [txV l,vT sep] m K:=by
 refine⟨⟨f64,func64,rfl,by decide⟩,λρ w vs hM hl hd=>?_⟩
 obtain⟨v0,h0,d0⟩:=hd 0 _ rfl;obtain⟨v1,h1,d1⟩:=hd 1 _ rfl;have Fo:v1= .string (cG sep):=(bF d1).1;have EO:vs=[v0,v1]:=by
  match vs,hl with
  | [a,b],_=>simp at h0 h1;rw[h0,h1]
 have gQ:∀(W':World)(v:Value),v= .string (cG (lJ sep l))->Below w.heap.size w W'->∃XC r m' U',Ending.returned v= .returned XC/\K r m'/\ay U' m' W'/\ce U' W' r XC/\Ext ρ m w U' m' W':=by
  rintro W' v rfl hb;refine⟨_,_,m,ρ,rfl,h,hM.vQ ⟨hb.size,λb hS=>hb.block b (hM.S b hS),λk hk=>hb.block _ (hM.aL k hk).1⟩,de.val _ rfl,?_⟩
  exact⟨Ym _,λ_ _=>rfl,λ_ h=>h,λ_ h=>.inl h,λk h=>.inr ⟨k,h,rfl⟩,λb tM _=>hb.block b tM,hb.size,hb.os,hb.tape,hb.output⟩
 have hD:de ρ.S w (.sl 1 (l.map tD)) v0:=d0;rw[EO,Fo];generalize M3:l.map tD=elems at hD;cases hD with
 |nil _ a cap hc=>
  have:l=[]:=by simpa using M3
  subst this;refine(Kl a cap (cG sep) w).mono λe W'⟨he,hw⟩=>?_
  subst he;exact gQ W' _ rfl (hw▸Below.refl _ _)
 |sl _ _ b off cap u hS oT be dk hc cq=>
  have acx:elems.length=(l.map cG).length:=by rw[<-M3];simp
  rw[acx]at oT|-;refine(Q6 b off cap (l.map cG) (cG sep) w (λj x hj=>?_) (hM.S b hS) (by rw[Pj];omega) oT (by rw[Eg];exact hlen)).mono λe W'⟨he,hw⟩=>?_
  .rw[Tm]at hj;cases Wj:l[j]? with
   |none=>rw[Wj]at hj;cases hj
   |some t=>
    rw[Wj]at hj;simp only[aaD,aav]at hj;subst hj;have e1:elems[j]? =some [.val (.string (cG t))]:=by rw[<-M3,Tm,Wj];rfl
    have e2:=hc j _ 0 _ e1 rfl;have e3:=cq j _ 0 _ e1 rfl;have e4:u j 0= .string (cG t):=by
     generalize u j 0=x at e3;cases e3 with
     |val _ _=>rfl
    rw[e4]at e2;simpa using e2
  .subst he;refine gQ W' _ ?_ hw;rw[Eg];rfl
end bM
namespace Kn
def s7(e:NE):bM.dQ:=e.1.data.toList
def tB(t:bM.dQ):List (List Dt):=jw (t.map λb=>((b.toNat:Nat):Int))
def GW(o:Obj):bM.dQ:=bM.lJ [10] ((o.ak.map oo).map s7)
def IH(k:Kr)(o:Obj):Int:=if o.ag=5/\fL k.ps o.ba=true then 1 else B5 (B5 o.data.length o.ak.length) o.ar.length
def B6(k:Kr)(c:Cl)(o:Obj):An:=
 if c.ag=11 then(if o.ag≠2 then An.no 11 else⟨0,o.ak.length,0,tB (GW o)⟩)else⟨0,o.ag,IH k o,[]⟩
def pz(k:Kr)(c:Cl)(w:(Int×Int)×Int×Int):An:=if w.2.2≠0 then An.no w.2.2 else B6 k c (lI k.l w.2.1)
def OK(c:Cl):Int:=if c.ag=11 then 64 else 128
def lK(k:Kr)(p:Nat)(c:Cl):Kr×An:=(k,pz k c (bo k p c.fd (OK c)))
theorem YD(es:List NE):es.map ZW=(es.map s7).map bM.tD:=by
 rw[abF];refine acO λe _=>?_
 obtain⟨t,ht⟩:=bM.BK e.1;show [Dt.val (.string e.1)]=[Dt.val (.string (bM.cG e.1.data.toList))];rw[ht];rfl
theorem Eh:∀(l:List bM.dQ)(n:Nat),(∀t,t∈l->t.length<=n)->(bM.lJ [10] l).length<=l.length*(n+1)
 | [],_,_=>by simp[bM.lJ,Lib.join]
 | [t],n,h=>by have:=h t aE;simp[bM.lJ,Lib.join];omega
 |t::u::r,n,h=>by
  have h1:=h t aE;have h2:=Eh (u::r) n λx hx=>h x (by simp[hx])
  have e:(bM.lJ [10] (t::u::r)).length=t.length+1+(bM.lJ [10] (u::r)).length:=by simp[bM.lJ,Lib.join];omega
  rw[e];simp only[aau]at h2|-;have e2:(r.length+1+1)*(n+1)=(r.length+1)*(n+1)+(n+1):=by rw[abf (r.length+1) 1 (n+1),ab3]
  rw[e2];omega
theorem KR(t:bM.dQ):qW (bM.cG t)=aa (tB t):=by show t.map _=_;rw[aa,tB,jw,abF,abF];rfl
theorem l35:bz prog f35=some c35.er:=by kernel_rfl
def C18:LC:=bN (bN (bN c35.code))
def G18:LC:=rf C18
theorem acy{m:Mem}{e n x:Int}{id:Nat}{d:List (List Dt)}{Z:Nat->Prop}{Y:Nat->Nat}(hz:Z id)(hm:m[id]? =some (.row 1 (aa d))):
  rK Y m Z (.rv (.agg [.ah (.val (.int .i64 e)),.ah (.val (.int .i64 n)),.ah (.val (.int .i64 x)),.row id 1 0 none])) (An.cv ⟨e,n,x,d⟩):=
 .rv (.agg rfl λi c c' h1 h2=>by
  match i,h1,h2 with
  |0,h1,h2=>cases h1;cases h2;exact .bb (.ah _)
  |1,h1,h2=>cases h1;cases h2;exact .bb (.ah _)
  |2,h1,h2=>cases h1;cases h2;exact .bb (.ah _)
  |3,h1,h2=>cases h1;cases h2;exact .fQ (iH hz hm)
  |n+4,h1,h2=>simp at h1)
theorem KT(k:Kr)(p:Nat)(hw:KW k p)(c:Cl)(need:Int):
  aw prog 2 G18 (QC c35.l8 k p c (pz k c (bo k p c.fd need)))
   ⟨kS 85 [(0,.rv (.one (.ptr 0 0))),(1,.rv (.one (.ptr 1 0))),(4,.rv (.one (.ptr 2 0))),(5,am .i64 need)],[xB k p,cB c,je]⟩:=by
 refine kX k p hw c.fd need 0 rfl ?_;have hh:= @KW.held k p hw c.fd need;generalize bo k p c.fd need=w at hh|-;obtain⟨⟨o,r⟩,b,e⟩:=w;refine bx (λhe=>?_) (λhe=>?_)
 .have he:e≠0:=he;have e1:pz k c ((o,r),b,e)=An.no e:=by rw[pz,if_pos he]
  rw[e1];exact da (X:=[_,_])
 have he:e=0:=he;subst he;obtain⟨n,j,h1,h2,h3,h4,h5⟩:=hh rfl;have h3:b=j:=h3;subst h3;have Fk:=hw.kr.sm _ (aaw h4);have ML:=hw.nm _ (aaw h4);have e1:pz k c ((o,r),((j:Nat):Int),0)=B6 k c k.l[j]:=by rw[pz,if_neg aE,uw h4]
 rw[e1];refine af (jc h4) ?_;generalize k.l[j]=ob at Fk ML|-;refine bs (λLV=>?_) (λLV=>?_)
 .have LV:c.ag=11:=LV;rw[B6,if_pos LV];refine bx (λHH=>?_) (λHH=>?_)
  .have HH:ob.ag≠2:=HH;rw[if_pos HH];exact da (X:=[_,_,_])
  have HH:¬ob.ag≠2:=λh=>h HH
  rw[if_neg HH];obtain⟨es,oh⟩:=Fk.t.2.1;have M3:es.length<=8:=by have:=Fk.e;rw[oh]at this;simpa using this
  have Tt:ob.ak.map oo=es:=by rw[oh,nV]
  rw[Tt]at ML;have hN:GW ob=bM.lJ [10] (es.map s7):=by rw[GW,Tt]
  rw[hN];have hJ:(bM.lJ [10] (es.map s7)).length<=200:=by
   have:=Eh (es.map s7) 12 λt ht=>by obtain⟨e,he,rfl⟩:=aal.1 ht;have:=ML e he;show e.1.data.toList.length<=12;rwa [abR]
   rw[Pj]at this;omega
  refine Ok ob es oh om ?_;rw[YD];refine bM.Rq (es.map s7) [10] (by rw[Pj];omega) om ?_
  have dk:(bM.cG (bM.lJ [10] (es.map s7))).size<=140737488355328:=by rw[bM.ny];omega
  have hR:=KR (bM.lJ [10] (es.map s7));generalize bM.lJ [10] (es.map s7)=T at dk hR;refine⟨dk,?_⟩;refine⟨_,_,View.o 6 [0,1] [5] (.put (acy rfl (congrArg (λx=>some (Bk.row 1 x)) hR)) .nil) (.pt rfl rfl (.eq rfl (nC _ _)) (.pt rfl rfl (.eq rfl (jz _)) (.nil _))),rfl,rfl⟩
 have LV:¬c.ag=11:=LV;rw[B6,if_neg LV];have hq:(ob.ar.length:Int)=((ob.ar.map di.enc).length:Int):=by rw[Pj]
 refine bs (λh5=>?_) (λh5=>?_)
 .have h5:ob.ag=5:=h5;refine pg k.l k.ops k.ps ob.ba ?_;refine⟨trivial,?_⟩;cases hl:fL k.ps ob.ba with
  |true=>
   rw[IH,if_pos ⟨h5,hl⟩];exact da (X:=[_,_,_])
  |false=>
   rw[IH,if_neg (by simp[hl]),hq]
   exact da (X:=[_,_,_])
 .have h5:¬ob.ag=5:=h5;rw[IH,if_neg (λh=>h5 h.1),hq]
  refine⟨trivial,?_⟩;exact da (X:=[_,_,_])
theorem GX(k:Kr)(p:Nat)(hw:KW k p)(c:Cl):
  body prog c35 [.rv (.one (.ptr 0 0)),.rv (.one (.ptr 1 0))] [xB k p,cB c] (TC (lK k p c).1 p c (lK k p c).2):=by
 have hs:=λneed=>KT k p hw c need
 refine bs (λh=>?_) (λh=>?_)
 .have h:c.ag=11:=h;have e:lK k p c=(k,pz k c (bo k p c.fd 64)):=by rw[lK,OK,if_pos h]
  rw[e];refine⟨_,View.o1 3 [0,1,2] [] ?_,hs 64⟩
  .exact .au
 .have h:¬c.ag=11:=h;have e:lK k p c=(k,pz k c (bo k p c.fd 128)):=by rw[lK,OK,if_neg h]
  rw[e];refine⟨_,View.o1 3 [0,1,2] [] ?_,hs 128⟩
  .exact .au
theorem yf(k:Kr)(p:Nat)(hw:KW k p)(c:Cl):ap prog 35 [.rv (.one (.ptr 0 0)),.rv (.one (.ptr 1 0))] [xB k p,cB c] (TC (lK k p c).1 p c (lK k p c).2):=
 ct func35 l35 (GX k p hw c)
end Kn
def c36:LF:= ⟨142,[.cell true 4 4],(.seq (.ai [qu 4 (.alloc [qd 0,qd 0,qd 0,.aO])]) (.seq (.ai [qu 5 (.aM (qi 24))]) (.seq (.seq (.ai [qm 16 1,qu 17 (.aP 16),qf 18 1 17,ql 19 18,qu 20 (.aJ .eql 19 (qi 14))]) (.cond 20 (.ai [qu 5 (.aM (qi 40))]) .skip)) (.cX (.seq (.ai [qm 22 0,qm 23 1,qu 24 (.aP 23),qf 25 2 24,ql 26 25,qm 27 5,qu 28 (qc 56 [22,26,27]),qm 21 28,qu 29 (.ext 21 0),qu 30 (.ext 21 1),qu 31 (.ext 21 2),qu 6 (.alloc [qd 0,qd 0]),qw (.store 2 6 29),qm 7 30,qm 8 31]) (.seq (.seq (.ai [qm 32 8,qu 33 (.aJ .neq 32 (qi 0))]) (.cond 33 (.seq (.ai [qm 34 8,qu 35 (.build [qd 0,qd 0,qd 0,.aO] [(0,1,34)]),qw (.store 4 4 35)]) .ret) .skip)) (.seq (.seq (.ai [qm 36 1,qu 37 (.aP 36),qf 38 1 37,ql 39 38,qu 40 (.aJ .eql 39 (qi 13))]) (.cond 40 (.seq (.ai [qm 42 1,qu 43 (.aP 42),qf 44 8 43,ql 45 44,qu 46 (.VR 45),qu 47 (qc 66 [46]),qm 41 47,qu 48 (.ext 41 0),qu 49 (.ext 41 1),qu 50 (.ext 41 2),qm 9 48,qm 10 49,qm 11 50]) (.seq (.ai [qm 51 11,qu 52 (.aJ .neq 51 (qi 0))]) (.cond 52 (.seq (.ai [qm 53 11,qu 54 (.build [qd 0,qd 0,qd 0,.aO] [(0,1,53)]),qw (.store 4 4 54)]) .ret) .skip))) .skip)) (.cX (.seq (.bV [qm 56 0,qu 57 (.aP 56),qf 58 0 57,qf 59 0 58,ql 60 59,qm 61 7,qm 62 1,qu 63 (.aP 62),qf 64 7 63,ql 65 64,qu 66 (qc 67 [60,61,65,qb true,qb false]),qm 55 66,qu 67 (.ext 55 0),qu 68 (.ext 55 1),qu 12 (.alloc [qd 0,qd 0,(.ah (.val (.string ⟨#[]⟩)))]),qw (.store 3 12 67),qm 8 68] [(eK 10 0 (.ww (.cons 10 (some []) (eK 3 11 (.cons 14 (some [9,4]) (.cons 15 (some []) (.cons 16 none .nil))))) (.cons 14 (some [9,4]) (.cons 10 (some []) (eK 3 11 (.cons 15 (some []) (.cons 16 none .nil)))))))]) (.cX (.seq (.block 0 (.seq (.ai [qm 77 8,qu 78 (.aJ .neq 77 (qi 0)),qm 76 78]) (.cond 76 .skip (.seq (.ai [qf 80 2 12,ql 81 80,qu 82 (.aJ .eql 81 (.c (.rv (.one (.ah (.val (.string ⟨#[]⟩))))))),qm 79 82]) (.cond 79 (.ai [qu 8 (.aM (qi 8))]) (.seq (.ai [qm 84 1,qu 85 (.aP 84),qf 86 1 85,ql 87 86,qu 88 (.aJ .eql 87 (qi 14)),qm 89 88,qg 90 (.b8 0 12) 89 true,qg 91 (.load false 1 90) 89 true,qg 92 (.aJ .lss 91 (qi 0)) 89 true,qu 93 (.pick 89 92 (qb false)),qm 83 93]) (.cond 83 (.ai [qu 8 (.aM (qi 6))]) (.seq (.ai [qm 95 1,qu 96 (.aP 95),qf 97 1 96,ql 98 97,qu 99 (.aJ .eql 98 (qi 14)),qm 94 99]) (.cond 94 (.seq (.bV [qm 101 0,qu 102 (.aP 101),qf 103 0 102,qf 104 0 103,ql 105 104,qf 106 1 12,ql 107 106,qf 108 2 12,ql 109 108,qu 110 (qc 68 [105,107,109]),qm 100 110,qu 111 (.ext 100 0),qu 112 (.ext 100 1),qu 113 (.ext 100 2),qm 13 111,qm 14 112,qm 15 113] [(eK 9 0 (.cons 9 (some []) (eK 7 10 .nil)))]) (.ai [qm 114 0,qm 115 13,qm 116 15,qu 117 (qc 69 [114,115,116]),qm 8 117])) (.seq (.ai [qf 119 0 12,ql 120 119,qu 121 (.aJ .geq 120 (qi 0)),qm 118 121]) (.cond 118 (.ai [qu 8 (.aM (qi 7))]) (.seq (.ai [qm 123 1,qu 124 (.aP 123),qf 125 1 124,ql 126 125,qu 127 (.aJ .eql 126 (qi 13)),qm 122 127]) (.cond 122 (.bV [qm 129 0,qL 130 3 12,qm 131 1,qu 132 (.aP 131),qf 133 8 132,ql 134 133,qu 135 (.VR 134),qu 136 (.build [qd 0,.aO,.aO,(.ah (.val (.string ⟨#[]⟩))),qd 0,.aO,qd 0,qd 0,qd 0] [(0,1,qi 3),(3,1,135)]),qu 137 (qc 70 [129,130,136]),qm 128 137,qu 138 (.ext 128 0),qu 139 (.ext 128 1),qm 8 139] [(eK 6 0 (.cons 6 (some [1]) (.cons 7 none (.cons 8 (some []) (eK 4 9 .nil)))))]) (.ai [qm 70 0,qL 71 3 12,qu 72 (.build [qd 0,.aO,.aO,(.ah (.val (.string ⟨#[]⟩))),qd 0,.aO,qd 0,qd 0,qd 0] [(0,1,qi 2)]),qu 73 (qc 70 [70,71,72]),qm 69 73,qu 74 (.ext 69 0),qu 75 (.ext 69 1),qm 8 75])))))))))))))) (.cX (.seq (.ai [qm 140 8,qu 141 (.build [qd 0,qd 0,qd 0,.aO] [(0,1,140)]),qw (.store 4 4 141)]) .ret)))))))))))))⟩
namespace Kn
def yg(d:List Int):bM.dQ:=d.map λn=>UInt8.ofNat n.toNat
def yh(d:List Int):Obj:=⟨3,[],[],bM.cG (yg d),0,[],0,0,0⟩
def GY:Obj:=⟨2,[],[],⟨#[]⟩,0,[],0,0,0⟩
theorem B7(k:Int)(t:ByteArray):Rn ⟨k,[],[],t,0,[],0,0,0⟩:=⟨⟨⟨⟨[],rfl⟩,⟨[],rfl⟩,aE⟩,aE,aE,aE,aE⟩,rfl⟩
def Ei(k:Kr)(f:R4):List Obj×Int×Int:=cT k.l f.cL (bM.cG f.name)
def mA(k:Kr)(c:Cl)(f:R4):Kr×Int:=
 if f.eS≠0 then(k,f.eS)
 else if f.name=[]then(k,8)
 else if c.ag=14 then(if f.bm<0 then(k,6)else(bv k (Ei k f).1 (Ei k f).2.2,(Ei k f).2.2))
 else if f.bm>=0 then(k,7)
 else if c.ag=13 then((b7 k f (yh c.data)).1,(b7 k f (yh c.data)).2.2)
 else((b7 k f GY).1,(b7 k f GY).2.2)
def s8(c:Cl):Int:=if c.ag=14 then 40 else 24
def il(k:Kr)(c:Cl)(w:(Int×Int)×Int×Int):Kr×Int:=
 if w.2.2≠0 then(k,w.2.2)
 else if c.ag=13/\(bM.cO (yg c.data)).2.2≠0 then(k,(bM.cO (yg c.data)).2.2)
 else mA k c (gV k w.2.1 c.cE true false)
def OL(x:Kr×Int):Kr×An:=(x.1,An.no x.2)
def iJ(k:Kr)(p:Nat)(c:Cl):Kr×An:=OL (il k c (bo k p c.fd (s8 c)))
theorem l36:bz prog f36=some c36.er:=by kernel_rfl
def acz:LC:=bN (bN (bN c36.code))
def YE:LC:=rf acz
def acA:LC:=bN (bN (bN YE))
def YF:LC:=rf acA
def acB:LC:=bN YF
def YG:LC:=rf acB
def YH:LC:=bN YG
def YI:LC:=rf YH
theorem KU(k:Kr)(p:Nat)(c:Cl)(e:Int):
  aw prog 2 YI (QC c36.l8 k p c (An.no e)) ⟨kS 142 [(0,.rv (.one (.ptr 0 0))),(1,.rv (.one (.ptr 1 0))),(4,.rv (.one (.ptr 2 0))),(8,am .i64 e)],[xB k p,cB c,je]⟩:=da (X:=[_])
theorem acC(t:bM.dQ){A B:Prop}(ha:t=[]->A)(hb:t≠[]->B): @Bool.rec (λ_=>Prop) B A ((bM.cG t).toList==(⟨#[]⟩:ByteArray).toList):=bM.lE (b:=[]) ha hb
theorem m3{Y:Nat->Nat}(hσ:Y 0=0/\Y 1=1/\Y 2=2){Z:Nat->Prop}(hZ:¬Z 0/\¬Z 1/\¬Z 2){k:Kr}{p:Nat}{c:Cl}{X:Mem}:eH Y (xB k p::cB c::je::X) Z 0 [xB k p,cB c,je]:=by
 obtain⟨h0,h1,h2⟩:=hσ;obtain⟨z0,z1,z2⟩:=hZ;exact .put (by rw[h0];exact z0) (by rw[h0];rfl) (.eq rfl (nC _ _)) (.put (by rw[h1];exact z1) (by rw[h1];rfl) (.eq rfl (jz _)) (.put (by rw[h2];exact z2) (by rw[h2];rfl) (.eq rfl (by simp[je])) (.nil _)))
theorem OM(k:Kr)(p:Nat)(hw:KW k p)(c:Cl)(f:R4):
  aw prog 2 YG (QC c36.l8 (OL (mA k c f)).1 p c (OL (mA k c f)).2)
   ⟨kS 142 [(0,.rv (.one (.ptr 0 0))),(1,.rv (.one (.ptr 1 0))),(4,.rv (.one (.ptr 2 0))),(8,am .i64 f.eS),(12,.rv (.one (.ptr 3 0)))],[xB k p,cB c,je,.var ((Wd f).map .ah)]⟩:=by
 have GZ:=λk e=>KU k p c e
 obtain⟨bm,cL,name,eS⟩:=f;refine bx (λhe=>?_) (λhe=>?_)
 .have he:eS≠0:=he;have e1:mA k c ⟨bm,cL,name,eS⟩=(k,eS):=by rw[mA,if_pos he]
  rw[e1];refine⟨_,View.o1 4 [0,1,2] [] (m3 ⟨rfl,rfl,rfl⟩ ⟨dE rfl,dE rfl,dE rfl⟩),GZ k eS⟩
 have he:eS=0:=he;subst he;refine acC name (λh1=>?_) (λh1=>?_)
 .have e1:mA k c ⟨bm,cL,name,0⟩=(k,8):=by rw[mA,if_neg aE,if_pos h1]
  rw[e1];refine⟨_,View.o1 4 [0,1,2] [] (m3 ⟨rfl,rfl,rfl⟩ ⟨dE rfl,dE rfl,dE rfl⟩),GZ k 8⟩
 have e0:mA k c ⟨bm,cL,name,0⟩=if c.ag=14 then(if bm<0 then(k,6)else(bv k (Ei k ⟨bm,cL,name,0⟩).1 (Ei k ⟨bm,cL,name,0⟩).2.2,(Ei k ⟨bm,cL,name,0⟩).2.2))
   else if bm>=0 then(k,7)
   else if c.ag=13 then((b7 k ⟨bm,cL,name,0⟩ (yh c.data)).1,(b7 k ⟨bm,cL,name,0⟩ (yh c.data)).2.2)
   else((b7 k ⟨bm,cL,name,0⟩ GY).1,(b7 k ⟨bm,cL,name,0⟩ GY).2.2):=by rw[mA,if_neg aE,if_neg h1]
 rw[e0];refine bs (λON=>?_) (λON=>?_)
 .have ON:c.ag=14:=ON;rw[if_pos ON];refine aN (λho=>?_) (λho=>?_)
  .have ho:bm<0:=ho;rw[if_pos ho];refine⟨_,View.o1 4 [0,1,2] [] (m3 ⟨rfl,rfl,rfl⟩ ⟨dE rfl,dE rfl,dE rfl⟩),GZ k 6⟩
  have ho:¬bm<0:=ho;rw[if_neg ho];refine cN (beq_iff_eq.2 ON) ?_;refine GG k.l hw.EY cL (bM.cG name) ?_;refine⟨trivial,?_⟩;refine nZ k p hw.kr _ _ 0 rfl ?_;refine⟨_,View.o1 4 [0,1,2] [] (m3 ⟨rfl,rfl,rfl⟩ ⟨dE rfl,dE rfl,dE rfl⟩),GZ _ _⟩
 have ON:¬c.ag=14:=ON;rw[if_neg ON];refine ig (beq_eq_false_iff_ne.2 ON) ?_;refine aN (λho=>?_) (λho=>?_)
 .have ho:bm>=0:=ho;rw[if_pos ho];refine⟨_,View.o1 4 [0,1,2] [] (m3 ⟨rfl,rfl,rfl⟩ ⟨dE rfl,dE rfl,dE rfl⟩),GZ k 7⟩
 have ho:¬bm>=0:=ho;rw[if_neg ho];refine bs (λEZ=>?_) (λEZ=>?_)
 .have EZ:c.ag=13:=EZ;rw[if_pos EZ];refine af (t8 c.data) ?_;refine⟨⟨rfl,trivial⟩,?_⟩;refine nk (B4 _ _ _ _) (uv k p hw ⟨bm,cL,name,0⟩ (yh c.data) (B7 _ _) 0 rfl ?_);refine⟨trivial,?_⟩;refine⟨_,View.o1 4 [0,1,2] [] (m3 ⟨rfl,rfl,rfl⟩ ⟨dE rfl,dE rfl,dE rfl⟩),GZ _ _⟩
 have EZ:¬c.ag=13:=EZ;rw[if_neg EZ];refine nk (B4 _ _ _ _) (uv k p hw ⟨bm,cL,name,0⟩ GY (B7 _ _) 0 rfl ?_);refine⟨_,View.o1 4 [0,1,2] [] (m3 ⟨rfl,rfl,rfl⟩ ⟨dE rfl,dE rfl,dE rfl⟩),GZ _ _⟩
theorem Ej(k:Kr)(p:Nat)(hw:KW k p)(c:Cl)(aq:Int)(R:Kr×Int)(hR:R=mA k c (gV k aq c.cE true false)):
  aw prog 2 YF (QC c36.l8 (OL R).1 p c (OL R).2)
   ⟨kS 142 [(0,.rv (.one (.ptr 0 0))),(1,.rv (.one (.ptr 1 0))),(4,.rv (.one (.ptr 2 0))),(7,am .i64 aq)],[xB k p,cB c,je]⟩:=by
 have hs:=OM k p hw c (gV k aq c.cE true false);rw[<-hR]at hs;refine⟨?_,?_⟩
 .refine sY k p hw aq c.cE true false ?_;refine⟨trivial,⟨rfl,rfl,trivial⟩,trivial,_,View.o1 4 [0,1,2,3] [] ?_,hs⟩
  .exact .au
 .refine⟨⟨rfl,rfl,trivial⟩,?_⟩;refine sY k p hw aq c.cE true false ?_;refine⟨trivial,trivial,_,View.o1 4 [0,1,2,3] [] ?_,hs⟩
  .exact .au
theorem OO(k:Kr)(p:Nat)(hw:KW k p)(c:Cl)(need:Int):
  aw prog 2 YE (QC c36.l8 (OL (il k c (bo k p c.fd need))).1 p c (OL (il k c (bo k p c.fd need))).2)
   ⟨kS 142 [(0,.rv (.one (.ptr 0 0))),(1,.rv (.one (.ptr 1 0))),(4,.rv (.one (.ptr 2 0))),(5,am .i64 need)],[xB k p,cB c,je]⟩:=by
 refine kX k p hw c.fd need 0 rfl ?_;generalize bo k p c.fd need=w;obtain⟨⟨o,r⟩,b,e⟩:=w;refine bx (λhe=>?_) (λhe=>?_)
 .have he:e≠0:=he;have e1:il k c ((o,r),b,e)=(k,e):=by rw[il,if_pos he]
  rw[e1];exact da (X:=[_,_])
 have he:e=0:=he;subst he;refine bs (λEZ=>?_) (λEZ=>?_)
 .have EZ:c.ag=13:=EZ;refine af (t8 c.data) ?_;refine bM.xT (yg c.data) ?_;refine bx (λhs=>?_) (λhs=>?_)
  .have hs:(bM.cO (yg c.data)).2.2≠0:=hs;have e1:il k c ((o,r),b,0)=(k,(bM.cO (yg c.data)).2.2):=by rw[il,if_neg aE,if_pos ⟨EZ,hs⟩]
   rw[e1];exact da (X:=[_,_])
  .have hs:¬(bM.cO (yg c.data)).2.2≠0:=λh=>h hs
   refine⟨_,View.o1 4 [0,1,2] [] (m3 ⟨rfl,rfl,rfl⟩ ⟨dE rfl,dE rfl,dE rfl⟩),Ej k p hw c b (il k c ((o,r),b,0)) (by rw[il,if_neg aE,if_neg (λh=>hs h.2)])⟩
 .have EZ:¬c.ag=13:=EZ;refine⟨_,View.o1 4 [0,1,2] [] (m3 ⟨rfl,rfl,rfl⟩ ⟨dE rfl,dE rfl,dE rfl⟩),Ej k p hw c b (il k c ((o,r),b,0)) (by rw[il,if_neg aE,if_neg (λh=>EZ h.1)])⟩
theorem um(k:Kr)(p:Nat)(hw:KW k p)(c:Cl):
  body prog c36 [.rv (.one (.ptr 0 0)),.rv (.one (.ptr 1 0))] [xB k p,cB c] (TC (iJ k p c).1 p c (iJ k p c).2):=by
 have hs:=λneed=>OO k p hw c need
 refine bs (λh=>?_) (λh=>?_)
 .have h:c.ag=14:=h;have e:iJ k p c=OL (il k c (bo k p c.fd 40)):=by rw[iJ,s8,if_pos h]
  rw[e];refine⟨_,View.o1 3 [0,1,2] [] (m3 ⟨rfl,rfl,rfl⟩ ⟨dE rfl,dE rfl,dE rfl⟩),hs 40⟩
 .have h:¬c.ag=14:=h;have e:iJ k p c=OL (il k c (bo k p c.fd 24)):=by rw[iJ,s8,if_neg h]
  rw[e];refine⟨_,View.o1 3 [0,1,2] [] (m3 ⟨rfl,rfl,rfl⟩ ⟨dE rfl,dE rfl,dE rfl⟩),hs 24⟩
theorem uz(k:Kr)(p:Nat)(hw:KW k p)(c:Cl):ap prog 36 [.rv (.one (.ptr 0 0)),.rv (.one (.ptr 1 0))] [xB k p,cB c] (TC (iJ k p c).1 p c (iJ k p c).2):=
 ct func36 l36 (um k p hw c)
end Kn
def c38:LF:= ⟨85,[.cell true 4 4],(.seq (.ai [qu 4 (.alloc [qd 0,qd 0,qd 0,.aO])]) (.seq (.ai [qm 11 0,qm 12 1,qu 13 (.aP 12),qf 14 2 13,ql 15 14,qu 16 (qc 56 [11,15,qi 256]),qm 10 16,qu 17 (.ext 10 0),qu 18 (.ext 10 1),qu 19 (.ext 10 2),qu 5 (.alloc [qd 0,qd 0]),qw (.store 2 5 17),qm 6 18,qm 7 19]) (.seq (.seq (.ai [qm 20 7,qu 21 (.aJ .neq 20 (qi 0))]) (.cond 21 (.seq (.ai [qm 22 7,qu 23 (.build [qd 0,qd 0,qd 0,.aO] [(0,1,22)]),qw (.store 4 4 23)]) .ret) .skip)) (.seq (.ai [qm 24 1,qu 25 (.aP 24),qf 26 8 25,ql 27 26,qu 28 (.build [.aO,(.ah (.val (.bool false))),qd 0,qd 0] [(0,1,27)]),qu 8 (.alloc [.aO,(.ah (.val (.bool false))),qd 0,qd 0]),qw (.store 4 8 28)]) (.seq (.seq (.ai [qm 29 1,qu 30 (.aP 29),qf 31 3 30,ql 32 31,qu 33 (.aJ .geq 32 (qi 0))]) (.cond 33 (.seq (.seq (.bV [qm 35 0,qu 36 (.aP 35),qf 37 0 36,qf 38 2 37,ql 39 38,qm 40 0,qu 41 (.aP 40),qf 42 3 41,ql 43 42,qu 44 (.cz 4 39 43),qf 45 3 44,ql 46 45,qm 47 1,qu 48 (.aP 47),qf 49 3 48,ql 50 49,qu 51 (qc 73 [46,50]),qm 34 51,qu 52 (.ext 34 0),qu 53 (.ext 34 1),qf 54 2 8,qw (.store 2 54 52),qm 7 53] [(eK 16 0 (.cons 16 (some []) (eK 4 17 (.cons 21 (some []) (.cons 22 none .nil)))))]) (.seq (.ai [qm 55 7,qu 56 (.aJ .neq 55 (qi 0))]) (.cond 56 (.seq (.ai [qm 57 7,qu 58 (.build [qd 0,qd 0,qd 0,.aO] [(0,1,57)]),qw (.store 4 4 58)]) .ret) .skip))) (.ai [qf 59 1 8,qw (.store 1 59 (qb true))])) .skip)) (.cX (.seq (.bV [qm 61 0,qu 62 (.aP 61),qf 63 0 62,qf 64 0 63,ql 65 64,qm 66 6,qL 67 4 8,qu 68 (qc 74 [65,66,67]),qm 60 68,qu 69 (.ext 60 0),qu 70 (.ext 60 1),qm 9 69,qm 7 70] [(eK 7 0 (.cons 7 (some []) (eK 5 8 .nil)))]) (.seq (.seq (.ai [qm 71 0,qm 72 9,qm 73 7,qu 74 (qc 69 [71,72,73]),qm 7 74]) (.seq (.ai [qm 75 7,qu 76 (.aJ .neq 75 (qi 0))]) (.cond 76 (.seq (.ai [qm 77 7,qu 78 (.build [qd 0,qd 0,qd 0,.aO] [(0,1,77)]),qw (.store 4 4 78)]) .ret) .skip))) (.seq (.ai [qm 79 1,qu 80 (.aP 79),qf 81 8 80,ql 82 81,qu 83 (.len 1 82),qu 84 (.build [qd 0,qd 0,qd 0,.aO] [(1,1,83)]),qw (.store 4 4 84)]) .ret)))))))))⟩
def c39:LF:= ⟨82,[.cell true 4 4],(.seq (.ai [qu 4 (.alloc [qd 0,qd 0,qd 0,.aO])]) (.seq (.ai [qm 15 0,qm 16 1,qu 17 (.aP 16),qf 18 2 17,ql 19 18,qu 20 (qc 56 [15,19,qi 512]),qm 14 20,qu 21 (.ext 14 0),qu 22 (.ext 14 1),qu 23 (.ext 14 2),qu 5 (.alloc [qd 0,qd 0]),qw (.store 2 5 21),qm 6 22,qm 7 23]) (.seq (.seq (.ai [qm 24 7,qu 25 (.aJ .neq 24 (qi 0))]) (.cond 25 (.seq (.ai [qm 26 7,qu 27 (.build [qd 0,qd 0,qd 0,.aO] [(0,1,26)]),qw (.store 4 4 27)]) .ret) .skip)) (.seq (.ai [qm 29 0,qu 30 (.aP 29),qf 31 0 30,qf 32 0 31,ql 33 32,qm 34 6,qu 35 (qc 75 [33,34]),qm 28 35,qu 36 (.ext 28 0),qu 37 (.ext 28 1),qu 38 (.ext 28 2),qu 9 (.alloc [.aO,(.ah (.val (.bool false))),qd 0,qd 0]),qm 8 36,qw (.store 4 9 37),qm 7 38]) (.seq (.seq (.ai [qm 39 7,qu 40 (.aJ .neq 39 (qi 0))]) (.cond 40 (.seq (.ai [qm 41 7,qu 42 (.build [qd 0,qd 0,qd 0,.aO] [(0,1,41)]),qw (.store 4 4 42)]) .ret) .skip)) (.seq (.ai [qu 10 (.aM (qi (-1)))]) (.seq (.seq (.ai [qf 43 1 9,ql 44 43]) (.cond 44 (.seq (.bV [qm 46 0,qu 47 (.aP 46),qf 48 0 47,qf 49 2 48,ql 50 49,qm 51 0,qu 52 (.aP 51),qf 53 3 52,ql 54 53,qu 55 (.cz 4 50 54),qf 56 3 55,ql 57 56,qf 58 2 9,qL 59 2 58,qu 60 (qc 76 [57,59]),qm 45 60,qu 61 (.ext 45 0),qu 62 (.ext 45 1),qu 63 (.ext 45 2),qm 11 61,qm 12 62,qm 13 63] [(eK 14 0 (.cons 14 (some []) (eK 7 15 .nil)))]) (.seq (.seq (.ai [qm 64 13,qu 65 (.aJ .neq 64 (qi 0))]) (.cond 65 (.seq (.ai [qm 66 13,qu 67 (.build [qd 0,qd 0,qd 0,.aO] [(0,1,66)]),qw (.store 4 4 67)]) .ret) .skip)) (.seq (.ai [qm 68 0,qm 69 11,qu 70 (qc 63 [68,69,qi 0])]) (.ai [qm 71 12,qm 10 71])))) .skip)) (.cX (.seq (.ai [qm 72 0,qm 73 8,qu 74 (qc 69 [72,73,qi 0])]) (.seq (.ai [qf 75 0 9,ql 76 75,qu 77 (.len 1 76),qm 78 10,qf 79 0 9,ql 80 79,qu 81 (.build [qd 0,qd 0,qd 0,.aO] [(1,1,77),(2,1,78),(3,1,80)]),qw (.store 4 4 81)]) .ret))))))))))⟩
namespace Kn
def As(d:List Int)(g:(Int×Int)×Bool):di:=⟨jw d,g.2,g.1.1,g.1.2⟩
def jh(k:Kr)(c:Cl)(r:List Obj×Int):Kr×An:=(bv k r.1 r.2,if r.2≠0 then An.no r.2 else⟨0,c.data.length,0,[]⟩)
def qI(k:Kr)(p:Nat)(c:Cl)(bm:Int):Kr×An:=
 if c.fE>=0 then
  (if(cH (an k.ps p) c.fE).2≠0 then(k,An.no (cH (an k.ps p) c.fE).2)else jh k c (eZ k.l bm (As c.data ((cH (an k.ps p) c.fE).1,true))))
 else jh k c (eZ k.l bm (As c.data ((0,0),false)))
def s9(k:Kr)(p:Nat)(c:Cl)(w:(Int×Int)×Int×Int):Kr×An:=if w.2.2≠0 then(k,An.no w.2.2)else qI k p c w.2.1
def gF(k:Kr)(p:Nat)(c:Cl):Kr×An:=s9 k p c (bo k p c.fd 256)
theorem l38:bz prog f38=some c38.er:=by kernel_rfl
def acD:LC:=bN (bN (bN (bN (bN c38.code))))
def acE:LC:=rf acD
theorem OP(k:Kr)(p:Nat)(hw:KW k p)(c:Cl)(bm:Int)(m:di)(hm:m.data.length<=4194304):
  aw prog 2 acE (QC c38.l8 (jh k c (eZ k.l bm m)).1 p c (jh k c (eZ k.l bm m)).2)
   ⟨kS 85 [(0,.rv (.one (.ptr 0 0))),(1,.rv (.one (.ptr 1 0))),(4,.rv (.one (.ptr 2 0))),(6,am .i64 bm),(8,.rv (.one (.ptr 3 0)))],[xB k p,cB c,je,.var (m.enc.map .ah)]⟩:=by
 refine QM k.l hw.oB bm m hm ?_;generalize eZ k.l bm m=r;obtain⟨l,e⟩:=r;refine⟨trivial,?_⟩;refine nZ k p hw.kr l e 0 rfl ?_;refine bx (λhe=>?_) (λhe=>?_)
 .have he:e≠0:=he;rw[jh,if_pos he];exact da (X:=[_,_])
 .have he:¬e≠0:=λh=>h he
  have hq:(c.data.length:Int)=((jw c.data).length:Int):=by simp[jw]
  rw[jh,if_neg he,hq];exact da (X:=[_,_])
theorem tZ(k:Kr)(p:Nat)(hw:KW k p)(c:Cl)(hd:c.data.length<=4194304):
  body prog c38 [.rv (.one (.ptr 0 0)),.rv (.one (.ptr 1 0))] [xB k p,cB c] (TC (gF k p c).1 p c (gF k p c).2):=by
 have hs:=λbm m hm=>OP k p hw c bm m hm
 have mw:(jw c.data).length<=4194304:=by simpa[jw]using hd
 refine kX k p hw c.fd 256 0 rfl ?_;have hS:gF k p c=s9 k p c (bo k p c.fd 256):=rfl;rw[hS];clear hS;generalize bo k p c.fd 256=w;obtain⟨⟨o,r⟩,b,e⟩:=w;refine bx (λhe=>?_) (λhe=>?_)
 .have he:e≠0:=he;rw[s9,if_pos he];exact da (X:=[_,_])
 have he:e=0:=he;subst he;rw[s9,if_neg aE];refine aN (λh2=>?_) (λh2=>?_)
 .have h2:c.fE>=0:=h2;have hg:=dG hw.hp;rw[<-eD hw.hp]at hg;refine af hg ?_;have e1:qI k p c b=if(cH (an k.ps p) c.fE).2≠0 then(k,An.no (cH (an k.ps p) c.fE).2)else jh k c (eZ k.l b (As c.data ((cH (an k.ps p) c.fE).1,true))):=by rw[qI,if_pos h2]
  rw[e1];refine BZ (an k.ps p) c.fE ?_;generalize cH (an k.ps p) c.fE=g;obtain⟨⟨go,gr⟩,e⟩:=g;refine⟨trivial,trivial,?_⟩;refine bx (λhe=>?_) (λhe=>?_)
  .have he:e≠0:=he;rw[if_pos he];exact da (X:=[_,_,_])
  have he:¬e≠0:=λh=>h he
  rw[if_neg he];refine⟨_,View.o1 5 [0,1,2,4] [] ?_,hs b (As c.data ((go,gr),true)) mw⟩
  .exact .au
 .have h2:¬c.fE>=0:=h2;have e1:qI k p c b=jh k c (eZ k.l b (As c.data ((0,0),false))):=by rw[qI,if_neg h2]
  rw[e1];refine⟨_,View.o1 5 [0,1,2,4] [] ?_,hs b (As c.data ((0,0),false)) mw⟩
  .exact .au
theorem KV(k:Kr)(p:Nat)(hw:KW k p)(c:Cl)(hd:c.data.length<=4194304):ap prog 38 [.rv (.one (.ptr 0 0)),.rv (.one (.ptr 1 0))] [xB k p,cB c] (TC (gF k p c).1 p c (gF k p c).2):=
 ct func38 l38 (tZ k p hw c hd)
def vy(k:Kr)(l:List Obj)(m:di)(fd:Int):Kr×An:=(bv k l 0,⟨0,m.data.length,fd,m.data⟩)
def vz(k:Kr)(p:Nat)(r:List Obj×di×Int):Kr×An:=
 if r.2.2≠0 then(k,An.no r.2.2)
 else if r.2.1.has=true then
  (if(fw (an k.ps p) r.2.1.dF r.2.1.bU).2.2≠0 then(k,An.no (fw (an k.ps p) r.2.1.dF r.2.1.bU).2.2)
   else vy (eC k p (fw (an k.ps p) r.2.1.dF r.2.1.bU).1 0) r.1 r.2.1 (fw (an k.ps p) r.2.1.dF r.2.1.bU).2.1)
 else vy k r.1 r.2.1 (-1)
def vA(k:Kr)(p:Nat)(w:(Int×Int)×Int×Int):Kr×An:=if w.2.2≠0 then(k,An.no w.2.2)else vz k p (fK k.l w.2.1)
def fN(k:Kr)(p:Nat)(c:Cl):Kr×An:=vA k p (bo k p c.fd 512)
theorem ta{l:List eh}{o r:Int}(hl:l.length<=10):(fw l o r).1.length<=10:=by
 unfold fw Tb.iR;split
 .simp
 .split
  .simpa using hl
  .split
   .simp
   .rename_i h;simp only[Pj,aa3,aau,abl]at h|-;omega
theorem OQ{k:Kr}(hk:dN k.l k.ops k.ps){p:Nat}(hp:p<k.ps.length){l:List eh}(hl:l.length<=10):dN k.l k.ops (cS k.ps p l):=by
 have e:cS k.ps p l=k.ps.set p {k.ps[p]with aQ:=l}:=by rw[cS,vU hp]
 rw[e];refine⟨hk.sm,hk.ll,hk.lo,by simpa using hk.lp,λx hx=>?_,λh=>hk.ne (by simpa using h)⟩
 rcases aaK hx with hx|rfl
 .exact hk.sl x hx
 .exact hl
theorem l39:bz prog f39=some c39.er:=by kernel_rfl
def acF:LC:=bN (bN (bN (bN (bN (bN (bN c39.code))))))
def acG:LC:=rf acF
theorem Ek(k:Kr)(p:Nat)(hk:dN k.l k.ops k.ps)(c:Cl)(l:List Obj)(m:di)(fd:Int):
  aw prog 2 acG (QC c39.l8 (vy k l m fd).1 p c (vy k l m fd).2)
   ⟨kS 82 [(0,.rv (.one (.ptr 0 0))),(1,.rv (.one (.ptr 1 0))),(4,.rv (.one (.ptr 2 0))),(8,cC l),(9,.rv (.one (.ptr 3 0))),(10,am .i64 fd)],[xB k p,cB c,je,.var (m.enc.map .ah)]⟩:=by
 refine nZ k p hk l 0 0 rfl ?_;exact GQ (k:=bv k l 0) (a:=⟨0,m.data.length,fd,m.data⟩) (X:=[_,_])
theorem t7(k:Kr)(p:Nat)(hw:KW k p)(c:Cl):
  body prog c39 [.rv (.one (.ptr 0 0)),.rv (.one (.ptr 1 0))] [xB k p,cB c] (TC (fN k p c).1 p c (fN k p c).2):=by
 refine kX k p hw c.fd 512 0 rfl ?_;have hS:fN k p c=vA k p (bo k p c.fd 512):=rfl;rw[hS];clear hS;generalize bo k p c.fd 512=w;obtain⟨⟨o,r⟩,b,e⟩:=w;refine bx (λhe=>?_) (λhe=>?_)
 .have he:e≠0:=he;rw[vA,if_pos he];exact da (X:=[_,_])
 have he:e=0:=he;subst he;rw[vA,if_neg aE];refine QN k.l hw.oB b ?_;generalize fK k.l b=R;obtain⟨l,m,e⟩:=R;refine bx (λhe=>?_) (λhe=>?_)
 .have he:e≠0:=he;rw[vz,if_pos he];exact da (X:=[_,_,_])
 have he:e=0:=he;subst he;have hR:vz k p (l,m,0)=if m.has=true then
   (if(fw (an k.ps p) m.dF m.bU).2.2≠0 then(k,An.no (fw (an k.ps p) m.dF m.bU).2.2)
    else vy (eC k p (fw (an k.ps p) m.dF m.bU).1 0) l m (fw (an k.ps p) m.dF m.bU).2.1)
  else vy k l m (-1):=by rw[vz,if_neg aE]
 rw[hR];clear hR;obtain⟨data,has,dF,bU⟩:=m;cases has with
 |false=>
  rw[if_neg aE];refine⟨_,View.o1 5 [0,1,2,4] [] ?_,Ek k p hw.kr c l ⟨data,false,dF,bU⟩ (-1)⟩
  .exact .au
 |true=>
  rw[if_pos rfl];have hg:=dG hw.hp;rw[<-eD hw.hp]at hg;have hl:(an k.ps p).length<=10:=by rw[eD hw.hp];exact hw.kr.sl _ (aaw hw.hp)
  refine af hg ?_;have jZ:= @ta (an k.ps p) dF bU hl;refine BF (an k.ps p) om dF bU ?_;have hkr:= @OQ k hw.kr p hw.hp;generalize fw (an k.ps p) dF bU=T at jZ|-;obtain⟨t,fd,e⟩:=T;refine⟨trivial,?_⟩;refine bx (λhe=>?_) (λhe=>?_)
  .have he:e≠0:=he;rw[if_pos he];exact da (X:=[_,_,_])
  have he:e=0:=he;subst he;rw[if_neg aE];refine Eb k p hw.kr hw.hp t 0 0 rfl ?_;refine⟨_,View.o1 5 [0,1,2,4] [] ?_,Ek (eC k p t 0) p (hkr jZ) c l ⟨data,true,dF,bU⟩ fd⟩
  .exact .au
theorem KX(k:Kr)(p:Nat)(hw:KW k p)(c:Cl):ap prog 39 [.rv (.one (.ptr 0 0)),.rv (.one (.ptr 1 0))] [xB k p,cB c] (TC (fN k p c).1 p c (fN k p c).2):=
 ct func39 l39 (t7 k p hw c)
end Kn
def c37:LF:= ⟨69,[.cell true 4 2],(.seq (.ai [qu 2 (.alloc [qd 0,qd 0,qd 0,.aO])]) (.seq (.ai [qm 10 0,qu 11 (.aP 10),qf 12 0 11,qf 13 0 12,ql 14 13,qu 15 (qc 71 [14]),qm 9 15,qu 16 (.ext 9 0),qu 17 (.ext 9 1),qu 18 (.ext 9 2),qu 4 (.alloc [qd 0,qd 0]),qm 3 16,qw (.store 2 4 17),qm 5 18]) (.seq (.seq (.ai [qm 19 5,qu 20 (.aJ .neq 19 (qi 0))]) (.cond 20 (.seq (.ai [qm 21 5,qu 22 (.build [qd 0,qd 0,qd 0,.aO] [(0,1,21)]),qw (.store 4 2 22)]) .ret) .skip)) (.seq (.ai [qm 23 0,qu 24 (.aP 23),qf 25 0 24,qL 26 3 25,qu 27 (qc 59 [26]),qu 6 (.alloc [.aO,.aO,.aO]),qw (.store 3 6 27)]) (.seq (.ai [qm 28 3,qf 29 0 6,qw (.store 1 29 28)]) (.cX (.seq (.bV [qL 31 3 6,qm 32 0,qu 33 (.aP 32),qf 34 3 33,ql 35 34,qu 36 (.wv 2 1 4 (qi 0)),ql 37 36,qu 38 (qc 72 [31,35,37,qi 896]),qm 30 38,qu 39 (.ext 30 0),qu 40 (.ext 30 1),qu 41 (.ext 30 2),qw (.store 3 6 39),qm 7 40,qm 5 41] [(eK 7 0 (.cons 7 (some []) (eK 4 8 (.cons 12 (some []) (.cons 13 none (.cons 14 none .nil))))))]) (.seq (.seq (.ai [qm 42 5,qu 43 (.aJ .neq 42 (qi 0))]) (.cond 43 (.seq (.ai [qm 44 5,qu 45 (.build [qd 0,qd 0,qd 0,.aO] [(0,1,44)]),qw (.store 4 2 45)]) .ret) .skip)) (.seq (.bV [qL 47 3 6,qm 48 0,qu 49 (.aP 48),qf 50 3 49,ql 51 50,qu 52 (.wv 2 1 4 (qi 1)),ql 53 52,qu 54 (qc 72 [47,51,53,qi 896]),qm 46 54,qu 55 (.ext 46 0),qu 56 (.ext 46 1),qu 57 (.ext 46 2),qw (.store 3 6 55),qm 8 56,qm 5 57] [(eK 7 0 (.cons 7 (some []) (eK 4 8 (.cons 12 (some []) (.cons 13 none (.cons 14 none .nil))))))]) (.seq (.seq (.ai [qm 58 5,qu 59 (.aJ .neq 58 (qi 0))]) (.cond 59 (.seq (.ai [qm 60 5,qu 61 (.build [qd 0,qd 0,qd 0,.aO] [(0,1,60)]),qw (.store 4 2 61)]) .ret) .skip)) (.seq (.ai [qm 62 0,qL 63 3 6,qu 64 (.aP 62),qf 65 0 64,qw (.store 3 65 63)]) (.seq (.ai [qm 66 7,qm 67 8,qu 68 (.build [qd 0,qd 0,qd 0,.aO] [(1,1,66),(2,1,67)]),qw (.store 4 2 68)]) .ret))))))))))))⟩
namespace Kn
def tc(p:Nat)(a:Kr×Int×Int)(e1:Int)(k:Kr):Kr×An:=
 if a.2.2≠0 then(k,An.no a.2.2)
 else if(aF a.1 p e1 896).2.2≠0 then(k,An.no (aF a.1 p e1 896).2.2)
 else((aF a.1 p e1 896).1,⟨0,a.2.1,(aF a.1 p e1 896).2.1,[]⟩)
def yi(k:Kr)(p:Nat)(P:List Obj×(Int×Int)×Int):Kr×An:=
 if P.2.2≠0 then(k,An.no P.2.2)else tc p (aF ⟨P.1,k.ops,k.ps⟩ p P.2.1.1 896) P.2.1.2 k
def gW(k:Kr)(p:Nat):Kr×An:=yi k p (fD k.l)
structure Vh(k:Kr)(p:Nat)(P:List Obj×(Int×Int)×Int):Prop where
 a:P.2.2=0->dN P.1 k.ops k.ps
 b:P.2.2=0->(aF ⟨P.1,k.ops,k.ps⟩ p P.2.1.1 896).2.2=0->dN (aF ⟨P.1,k.ops,k.ps⟩ p P.2.1.1 896).1.l (aF ⟨P.1,k.ops,k.ps⟩ p P.2.1.1 896).1.ops (aF ⟨P.1,k.ops,k.ps⟩ p P.2.1.1 896).1.ps/\p<(aF ⟨P.1,k.ops,k.ps⟩ p P.2.1.1 896).1.ps.length
theorem l37:bz prog f37=some c37.er:=by kernel_rfl
def acH:LC:=bN (bN (bN (bN (bN c37.code))))
def acI:LC:=rf acH
def kB(k:Kr):Bk:= .var ((kC k.l k.ops k.ps).map .ah)
theorem aeh(k:Kr):kB k≠.aS:=by intro h;cases h
def TP(k:Kr)(p:Nat)(a:An)(r:CV)(m:Mem):Prop:=∃r' m',View 1 ⟨[r],m⟩ ⟨[r'],m'⟩/\r'=a.cv/\m'=[xB k p]
theorem II{k:Kr}{p:Nat}{X:Mem}{e n x:Int}:TP k p ⟨e,n,x,[]⟩ (.rv (.agg [.ah (.val (.int .i64 e)),.ah (.val (.int .i64 n)),.ah (.val (.int .i64 x)),.aO])) (xB k p::X):=
 ⟨_,_,View.of (X.length+1) [0] [] rfl rfl rfl rfl rfl (by simp[eP,Nat.blt]) (.put OG .nil) (.pt rfl rfl (.eq rfl (nC _ _)) (.nil _)),rfl,rfl⟩
theorem OR(k:Kr)(p:Nat)(k1:Kr)(hp:p<k1.ps.length)(hk:dN k1.l k1.ops k1.ps)(e0 e1:Int)(hb:(aF k1 p e0 896).2.2=0->dN (aF k1 p e0 896).1.l (aF k1 p e0 896).1.ops (aF k1 p e0 896).1.ps/\p<(aF k1 p e0 896).1.ps.length):
  aw prog 1 acI (oO prog c37.l8 (TP (tc p (aF k1 p e0 896) e1 k).1 p (tc p (aF k1 p e0 896) e1 k).2))
   ⟨kS 69 [(0,.rv (.one (.ptr 0 0))),(2,.rv (.one (.ptr 1 0))),(4,.rv (.one (.ptr 2 0))),(6,.rv (.one (.ptr 3 0)))],[xB k p,je,.var [.ah (.val (.int .i64 e0)),.ah (.val (.int .i64 e1))],kB k1]⟩:=by
 refine uk k1 hk p hp e0 896 ?_;generalize aF k1 p e0 896=A at hb|-;obtain⟨k2,fd,e⟩:=A;refine⟨trivial,trivial,?_⟩;refine bx (λhe=>?_) (λhe=>?_)
 .have he:e≠0:=he;rw[tc,if_pos he];exact II (X:=[_,_,_])
 have he:e=0:=he;subst he;obtain⟨oW,G0⟩:=hb rfl;have e2:tc p (k2,fd,0) e1 k=if(aF k2 p e1 896).2.2≠0 then(k,An.no (aF k2 p e1 896).2.2)else((aF k2 p e1 896).1,⟨0,fd,(aF k2 p e1 896).2.1,[]⟩):=by rw[tc,if_neg aE]
 rw[e2];refine uk k2 oW p G0 e1 896 ?_;generalize aF k2 p e1 896=B;obtain⟨k3,fE,e⟩:=B;refine⟨trivial,trivial,?_⟩;refine bx (λhe=>?_) (λhe=>?_)
 .have he:e≠0:=he;rw[if_pos he];exact II (X:=[_,_,_])
 have he:¬e≠0:=λh=>h he
 rw[if_neg he];exact II (k:=k3) (X:=[_,_,_])
theorem G1(k:Kr)(p:Nat)(hw:KW k p)(hi:Vh k p (fD k.l)):
  body prog c37 [.rv (.one (.ptr 0 0))] [xB k p] (TP (gW k p).1 p (gW k p).2):=by
 refine QL k.l hw.oB ?_;have hS:gW k p=yi k p (fD k.l):=rfl;rw[hS];clear hS;generalize fD k.l=P at hi|-;obtain⟨l,⟨e0,e1⟩,e⟩:=P;refine bx (λhe=>?_) (λhe=>?_)
 .have he:e≠0:=he;rw[yi,if_pos he];exact II (X:=[_,_])
 have he:e=0:=he;subst he;rw[yi,if_neg aE];refine i4 k.l k.ops k.ps hw.oB hw.kr.lo hw.kr.lp hw.kr.sl hw.kr.ne ?_;refine⟨_,View.o1 7 [0,1,2,6] [3,4,5] ?_,OR k p ⟨l,k.ops,k.ps⟩ hw.hp (hi.a rfl) e0 e1 (hi.b rfl)⟩
 .exact .pt rfl rfl (.eq rfl (nC _ _)) (.pt rfl rfl (.eq rfl (by simp[je])) (.pe rfl rfl rfl (.pt rfl rfl (fv.var (.cons (.bb (.ah _)) (.cons (.fQ (iH rfl rfl)) (.cons (.fQ (iH rfl rfl)) .nil)))) (.nil _))))
theorem OS(k:Kr)(p:Nat)(hw:KW k p)(hi:Vh k p (fD k.l)){m:Mem}(id:Nat)(hb:cF m id=some (xB k p)){K:CV->Mem->Prop}(hK:K (gW k p).2.cv (aV m id (xB (gW k p).1 p))):
  ap prog 37 [.rv (.one (.ptr id 0))] m K:=
 IF (args:=[]) (λ_=>rfl) (λ_=>rfl)
  (bJ (ct func37 l37 (G1 k p hw hi)) λr m1⟨r',m',hv,hq⟩=>⟨r',m',hv,hq⟩) id hb hK
end Kn
def c40:LF:= ⟨195,[.cell true 4 4],(.seq (.ai [qu 4 (.alloc [qd 0,qd 0,qd 0,.aO])]) (.seq (.seq (.ai [qm 17 1,qu 18 (.aP 17),qf 19 1 18,ql 20 19]) (.block 0 (.seq (.ai [qu 22 (.aJ .eql 20 (qi 1)),qm 21 22]) (.cond 21 (.seq (.ai [qm 23 0,qm 24 0,qu 25 (.aP 24),qf 26 0 25,qL 27 3 26,qu 28 (qc 59 [27]),qu 29 (.aP 23),qf 30 0 29,qw (.store 3 30 28)]) (.seq (.bV [qm 31 0,qu 32 (.aP 31),qf 33 0 32,qf 34 2 33,ql 35 34,qm 36 0,qu 37 (.aP 36),qf 38 3 37,ql 39 38,qu 40 (.cz 4 35 39),qf 41 1 40,qw (.store 1 41 (qb true))] [(eK 11 0 (.cons 11 (some []) .nil))]) (.seq (.ai [qu 42 (.build [qd 0,qd 0,qd 0,.aO] []),qw (.store 4 4 42)]) .ret))) (.seq (.ai [qu 44 (.aJ .eql 20 (qi 22)),qm 43 44]) (.cond 43 (.seq (.seq (.bV [qm 45 0,qu 46 (.aP 45),qf 47 0 46,qf 48 2 47,ql 49 48,qm 50 0,qu 51 (.aP 50),qf 52 3 51,ql 53 52,qu 54 (.cz 4 49 53),qf 55 1 54,ql 56 55] [eK 12 0 .nil]) (.cond 56 (.seq (.ai [qu 57 (.build [qd 0,qd 0,qd 0,.aO] [(1,1,qi 1)]),qw (.store 4 4 57)]) .ret) .skip)) (.seq (.ai [qu 58 (.build [qd 0,qd 0,qd 0,.aO] []),qw (.store 4 4 58)]) .ret)) (.seq (.ai [qu 60 (.aJ .eql 20 (qi 18)),qm 59 60]) (.cond 59 (.seq (.bV [qm 62 0,qu 63 (.aP 62),qf 64 0 63,qL 65 3 64,qm 66 0,qu 67 (.aP 66),qf 68 3 67,ql 69 68,qu 70 (qc 77 [65,69]),qm 61 70,qu 71 (.ext 61 0),qu 72 (.ext 61 1),qu 73 (.ext 61 2),qu 74 (.ext 61 3),qu 5 (.alloc [.aO,.aO,.aO]),qw (.store 3 5 71),qm 6 72,qm 7 73,qm 8 74] [(eK 8 0 (.ww (.cons 8 (some []) (eK 5 9 (.cons 14 (some [7,3]) (.cons 15 (some []) (eK 3 16 .nil))))) (.cons 14 (some [7,3]) (.cons 8 (some []) (eK 5 9 (.cons 15 (some []) (eK 3 16 .nil)))))))]) (.seq (.seq (.ai [qm 75 8,qu 76 (.aJ .neq 75 (qi 0))]) (.cond 76 (.seq (.ai [qm 77 8,qu 78 (.build [qd 0,qd 0,qd 0,.aO] [(0,1,77)]),qw (.store 4 4 78)]) .ret) .skip)) (.seq (.ai [qm 79 0,qL 80 3 5,qu 81 (.aP 79),qf 82 0 81,qw (.store 3 82 80)]) (.seq (.ai [qm 83 6,qm 84 7,qu 85 (.build [qd 0,qd 0,qd 0,.aO] [(1,1,83),(2,1,84)]),qw (.store 4 4 85)]) .ret)))) (.seq (.ai [qu 87 (.aJ .eql 20 (qi 19)),qm 86 87]) (.cond 86 (.seq (.bV [qm 89 0,qu 90 (.aP 89),qf 91 0 90,qL 92 3 91,qm 93 0,qu 94 (.aP 93),qf 95 3 94,ql 96 95,qm 97 1,qu 98 (.aP 97),qf 99 4 98,ql 100 99,qu 101 (qc 78 [92,96,100]),qm 88 101,qu 102 (.ext 88 0),qu 103 (.ext 88 1),qu 9 (.alloc [.aO,.aO,.aO]),qw (.store 3 9 102),qm 10 103] [(eK 12 0 (.ww (.cons 12 (some []) (eK 3 13 (.cons 16 (some [11,7,3]) (.cons 17 (some []) (.cons 18 none .nil))))) (.cons 16 (some [11,7,3]) (.cons 12 (some []) (eK 3 13 (.cons 17 (some []) (.cons 18 none .nil)))))))]) (.seq (.seq (.ai [qm 104 10,qu 105 (.aJ .eql 104 (qi 0))]) (.cond 105 (.ai [qm 106 0,qL 107 3 9,qu 108 (.aP 106),qf 109 0 108,qw (.store 3 109 107)]) .skip)) (.seq (.ai [qm 110 10,qu 111 (.build [qd 0,qd 0,qd 0,.aO] [(0,1,110)]),qw (.store 4 4 111)]) .ret))) .skip)))))))))) (.seq (.ai [qu 112 (.rN),qw (.tz (.i .i64) 112 (qi 20) (qi 2048)),qw (.tz (.i .i64) 112 (qi 21) (qi 1024)),qm 113 112,qm 114 1,qu 115 (.aP 114),qf 116 1 115,ql 117 116,qu 118 (.yQ (.one (qd 0)) (.i .i64) 113 117 false),qm 11 118]) (.cX (.seq (.ai [qm 120 0,qm 121 1,qu 122 (.aP 121),qf 123 2 122,ql 124 123,qm 125 11,qu 126 (qc 56 [120,124,125]),qm 119 126,qu 127 (.ext 119 0),qu 128 (.ext 119 1),qu 129 (.ext 119 2),qu 12 (.alloc [qd 0,qd 0]),qw (.store 2 12 127),qm 13 128,qm 14 129]) (.seq (.block 1 (.seq (.ai [qm 131 14,qu 132 (.aJ .neq 131 (qi 0)),qm 130 132]) (.cond 130 (.seq (.ai [qm 133 14,qu 134 (.build [qd 0,qd 0,qd 0,.aO] [(0,1,133)]),qw (.store 4 4 134)]) .ret) (.seq (.ai [qm 136 0,qu 137 (.aP 136),qf 138 0 137,qf 139 0 138,ql 140 139,qm 141 13,qu 142 (.cz 9 140 141),qf 143 0 142,ql 144 143,qu 145 (.aJ .neq 144 (qi 5)),qm 135 145]) (.cond 135 (.seq (.ai [qu 146 (.build [qd 0,qd 0,qd 0,.aO] [(0,1,qi 8)]),qw (.store 4 4 146)]) .ret) .skip))))) (.seq (.ai [qm 147 0,qu 148 (.aP 147),qf 149 0 148,qf 150 0 149,ql 151 150,qm 152 13,qu 153 (.cz 9 151 152),qf 154 6 153,ql 155 154,qm 15 155]) (.seq (.seq (.ai [qm 156 1,qu 157 (.aP 156),qf 158 1 157,ql 159 158,qu 160 (.aJ .eql 159 (qi 21))]) (.cond 160 (.seq (.seq (.ai [qm 161 0,qu 162 (.aP 161),qf 163 0 162,qL 164 3 163,qm 165 15,qu 166 (qc 29 [164,165])]) (.cond 166 (.seq (.ai [qu 167 (.build [qd 0,qd 0,qd 0,.aO] [(0,1,qi 16)]),qw (.store 4 4 167)]) .ret) .skip)) (.seq (.ai [qm 168 0,qu 169 (.aP 168),qf 170 0 169,qf 171 2 170,ql 172 171,qm 173 15,qu 174 (.cz 4 172 173),qf 175 2 174,ql 176 175,qu 177 (.build [qd 0,qd 0,qd 0,.aO] [(1,1,176)]),qw (.store 4 4 177)]) .ret)) .skip)) (.seq (.ai [qm 179 0,qu 180 (.aP 179),qf 181 0 180,qL 182 3 181,qm 183 15,qu 184 (qc 78 [182,183,qi 255]),qm 178 184,qu 185 (.ext 178 0),qu 186 (.ext 178 1),qu 16 (.alloc [.aO,.aO,.aO]),qw (.store 3 16 185),qm 14 186]) (.seq (.seq (.ai [qm 187 14,qu 188 (.aJ .eql 187 (qi 0))]) (.cond 188 (.ai [qm 189 0,qL 190 3 16,qu 191 (.aP 189),qf 192 0 191,qw (.store 3 192 190)]) .skip)) (.seq (.ai [qm 193 14,qu 194 (.build [qd 0,qd 0,qd 0,.aO] [(0,1,193)]),qw (.store 4 4 194)]) .ret)))))))))))⟩
namespace Kn
def k6(ps:List bi)(p:Nat):Bool:=match ps[p]? with|some x=>x.fenced|none=>false
def lL(ps:List bi)(p:Nat):List bi:=match ps[p]? with|some x=>ps.set p {x with fenced:=true}|none=>ps
def G2(ps:List bi)(z:Int):Int:=match ps[z.toNat]? with|some x=>x.code|none=>0
def im(k:Kr)(e:Kr×Int):Kr×An:=(if e.2=0 then e.1 else k,An.no e.2)
def pA(k:Kr)(f:Kr×Int×Int×Int):Kr×An:=if f.2.2.2≠0 then(k,An.no f.2.2.2)else(f.1,⟨0,f.2.1,f.2.2.1,[]⟩)
def rz(k:Kr)(c:Cl)(o:Obj):Kr×An:=
 if o.ag≠5 then(k,An.no 8)
 else if c.ag=21 then(if fL k.ps o.ba=true then(k,An.no 16)else(k,⟨0,G2 k.ps o.ba,0,[]⟩))
 else im k (gE k o.ba 255)
def lM(k:Kr)(c:Cl)(w:(Int×Int)×Int×Int):Kr×An:=if w.2.2≠0 then(k,An.no w.2.2)else rz k c (lI k.l w.2.1)
def dP(k:Kr)(p:Nat)(c:Cl):Kr×An:=
 if c.ag=1 then(⟨k.l,k.ops,lL k.ps p⟩,⟨0,0,0,[]⟩)
 else if c.ag=22 then(k,⟨0,if k6 k.ps p=true then 1 else 0,0,[]⟩)
 else if c.ag=18 then pA k (fU k p)
 else if c.ag=19 then im k (gE k p c.n)
 else lM k c (bo k p c.fd (if c.ag=20 then 2048 else 1024))
def rA(x:Int):Prop:=x=1\/x=22\/x=18\/x=19\/x=20\/x=21
theorem l40:bz prog f40=some c40.er:=by kernel_rfl
def YJ:LC:=bN (bN (bN c40.code))
def YK:LC:=rf YJ
theorem G3(k:Kr)(p:Nat)(hw:KW k p)(c:Cl)(need:Int)(hq:∀o,o∈k.l->o.ag=5->∃n:Nat,o.ba=n/\n<k.ps.length):
  aw prog 2 YK (QC c40.l8 (lM k c (bo k p c.fd need)).1 p c (lM k c (bo k p c.fd need)).2)
   ⟨kS 195 [(0,.rv (.one (.ptr 0 0))),(1,.rv (.one (.ptr 1 0))),(4,.rv (.one (.ptr 2 0))),(11,am .i64 need)],[xB k p,cB c,je]⟩:=by
 refine kX k p hw c.fd need 0 rfl ?_;have hh:= @KW.held k p hw c.fd need;generalize bo k p c.fd need=w at hh|-;obtain⟨⟨o,r⟩,b,e⟩:=w;refine bx (λhe=>?_) (λhe=>?_)
 .have he:e≠0:=he;rw[lM,if_pos he];exact da (X:=[_,_])
 have he:e=0:=he;subst he;obtain⟨n,j,h1,h2,h3,h4,h5⟩:=hh rfl;have h3:b=j:=h3;subst h3;have e1:lM k c ((o,r),((j:Nat):Int),0)=rz k c k.l[j]:=by rw[lM,if_neg aE,uw h4]
 rw[e1];have Um:=hq _ (aaw h4);have hg:=jc h4;generalize k.l[j]=ob at Um hg|-;refine af hg ?_;refine bx (λh6=>?_) (λh6=>?_)
 .have h6:ob.ag≠5:=h6;rw[rz,if_pos h6];exact da (X:=[_,_])
 have h6:ob.ag=5:=h6;rw[rz,if_neg (λh=>h h6)]
 obtain⟨q,Ii,P6⟩:=Um h6;refine af hg ?_;refine bs (λh7=>?_) (λh7=>?_)
 .have h7:c.ag=21:=h7;rw[if_pos h7];refine pg k.l k.ops k.ps ob.ba ?_;cases hl:fL k.ps ob.ba with
  |true=>
   rw[if_pos rfl];exact da (X:=[_,_])
  |false=>
   rw[if_neg aE];have hc:G2 k.ps ob.ba=k.ps[q].code:=by rw[G2,Ii,Y6,vU P6]
   rw[hc];refine af (x:=[.val (.bool k.ps[q].aL),.val (.bool k.ps[q].fenced),.val (.int .i64 k.ps[q].code),ze k.ps[q].aQ]) (by rw[Ii];exact dG P6) ?_
   exact da (X:=[_,_])
 .have h7:¬c.ag=21:=h7;rw[if_neg h7];refine BE k hw.kr ob.ba 255 ?_;generalize gE k ob.ba 255=E;obtain⟨k2,e⟩:=E;refine bs (λhe=>?_) (λhe=>?_)
  .have he:e=0:=he;subst he;rw[im,if_pos rfl];exact da (X:=[_,_,_])
  .have he:¬e=0:=he;rw[im,if_neg he];exact da (X:=[_,_,_])
theorem El{ps:List bi}{n:Nat}(hn:n<ps.length):aV (aa (ps.map bi.enc)) n ((bi.enc ⟨ps[n].aL,true,ps[n].code,ps[n].aQ⟩).map .ah)=aa ((lL ps n).map bi.enc):=by
 have:lL ps n=ps.set n {ps[n]with fenced:=true}:=by rw[lL,vU hn]
 rw[this,aY,aa,aa,abv,abv]
theorem Em(k:Kr)(p:Nat)(hw:KW k p)(c:Cl)(hc:c.ag=1):
  body prog c40 [.rv (.one (.ptr 0 0)),.rv (.one (.ptr 1 0))] [xB k p,cB c] (TC ⟨k.l,k.ops,lL k.ps p⟩ p c ⟨0,0,0,[]⟩):=by
 obtain⟨ba,ag,fd,fE,n,bA,aW,cE,data⟩:=c;have hc:ag=1:=hc;subst hc;refine i4 k.l k.ops k.ps hw.oB hw.kr.lo hw.kr.lp hw.kr.sl hw.kr.ne ?_;refine af (mJ hw.hp) ?_;refine af (bK bi.enc k.ps hw.hp) ?_;refine⟨trivial,_,_,View.o 6 [0,1] [3,4,5] (.put OG .nil) (.pt rfl rfl (Vf (k:=⟨k.l,k.ops,lL k.ps p⟩) (iH rfl rfl) (iH rfl rfl) (iH rfl (congrArg (λx=>some (Bk.row 4 x)) (El hw.hp)))) (.pt rfl rfl (.eq rfl (jz _)) (.nil _))),rfl,rfl⟩
theorem G4(k:Kr)(p:Nat)(hw:KW k p)(c:Cl)(hc:c.ag=22):
  body prog c40 [.rv (.one (.ptr 0 0)),.rv (.one (.ptr 1 0))] [xB k p,cB c] (TC k p c ⟨0,if k6 k.ps p=true then 1 else 0,0,[]⟩):=by
 obtain⟨ba,ag,fd,fE,n,bA,aW,cE,data⟩:=c;have hc:ag=22:=hc;subst hc;have hp:=hw.hp;have hf:k6 k.ps p=k.ps[p].fenced:=by rw[k6,vU hp]
 rw[hf];refine af (dG hp) ?_;cases k.ps[p].fenced with
 |true=>exact da (X:=[_])
 |false=>exact da (X:=[_])
theorem G5(k:Kr)(p:Nat)(hw:KW k p)(c:Cl)(hc:c.ag=18):
  body prog c40 [.rv (.one (.ptr 0 0)),.rv (.one (.ptr 1 0))] [xB k p,cB c] (TC (pA k (fU k p)).1 p c (pA k (fU k p)).2):=by
 obtain⟨ba,ag,fd,fE,n,bA,aW,cE,data⟩:=c;have hc:ag=18:=hc;subst hc;have YL:k.l.length<=4194303:=by have:=hw.l40;omega
 refine⟨?_,?_⟩
 .refine Iv k hw.kr YL p ?_;generalize fU k p=F;obtain⟨k2,ch,fd,e⟩:=F;refine⟨trivial,⟨rfl,rfl,trivial⟩,trivial,?_⟩;refine bx (λhe=>?_) (λhe=>?_)
  .have he:e≠0:=he;rw[pA,if_pos he];exact da (X:=[_,_])
  .have he:¬e≠0:=λh=>h he
   rw[pA,if_neg he];exact da (k:=k2) (X:=[_,_])
 .refine⟨⟨rfl,rfl,trivial⟩,?_⟩;refine Iv k hw.kr YL p ?_;generalize fU k p=F;obtain⟨k2,ch,fd,e⟩:=F;refine⟨trivial,trivial,?_⟩;refine bx (λhe=>?_) (λhe=>?_)
  .have he:e≠0:=he;rw[pA,if_pos he];exact da (X:=[_,_])
  .have he:¬e≠0:=λh=>h he
   rw[pA,if_neg he];exact da (k:=k2) (X:=[_,_])
theorem G6(k:Kr)(p:Nat)(hw:KW k p)(c:Cl)(hc:c.ag=19):
  body prog c40 [.rv (.one (.ptr 0 0)),.rv (.one (.ptr 1 0))] [xB k p,cB c] (TC (im k (gE k p c.n)).1 p c (im k (gE k p c.n)).2):=by
 obtain⟨ba,ag,fd,fE,n,bA,aW,cE,data⟩:=c;have hc:ag=19:=hc;subst hc;show body prog c40 _ _ (TC (im k (gE k p n)).1 p _ (im k (gE k p n)).2);refine⟨?_,?_⟩
 .refine BE k hw.kr p n ?_;generalize gE k p n=F;obtain⟨k2,e⟩:=F;refine⟨trivial,⟨rfl,rfl,rfl,trivial⟩,trivial,?_⟩;refine bs (λhe=>?_) (λhe=>?_)
  .have he:e=0:=he;rw[im,if_pos he];exact da (k:=k2) (X:=[_,_])
  .have he:¬e=0:=he;rw[im,if_neg he];exact da (X:=[_,_])
 .refine⟨⟨rfl,rfl,rfl,trivial⟩,?_⟩;refine BE k hw.kr p n ?_;generalize gE k p n=F;obtain⟨k2,e⟩:=F;refine⟨trivial,trivial,?_⟩;refine bs (λhe=>?_) (λhe=>?_)
  .have he:e=0:=he;rw[im,if_pos he];exact da (k:=k2) (X:=[_,_])
  .have he:¬e=0:=he;rw[im,if_neg he];exact da (X:=[_,_])
theorem yj(k:Kr)(p:Nat)(hw:KW k p)(c:Cl)(hc:c.ag=20\/c.ag=21)(hq:∀o,o∈k.l->o.ag=5->∃n:Nat,o.ba=n/\n<k.ps.length):
  body prog c40 [.rv (.one (.ptr 0 0)),.rv (.one (.ptr 1 0))] [xB k p,cB c] (TC (lM k c (bo k p c.fd (if c.ag=20 then 2048 else 1024))).1 p c (lM k c (bo k p c.fd (if c.ag=20 then 2048 else 1024))).2):=by
 have hs:=λneed=>G3 k p hw c need hq
 obtain⟨ba,ag,fd,fE,n,bA,aW,cE,data⟩:=c;rcases hc with hc|hc
 .have hc:ag=20:=hc;subst hc;refine⟨_,View.o1 4 [0,1,2] [] ?_,hs 2048⟩
  .exact .au
 .have hc:ag=21:=hc;subst hc;refine⟨_,View.o1 4 [0,1,2] [] ?_,hs 1024⟩
  .exact .au
theorem jM(k:Kr)(p:Nat)(hw:KW k p)(c:Cl)(hc:rA c.ag)(hq:∀o,o∈k.l->o.ag=5->∃n:Nat,o.ba=n/\n<k.ps.length):
  ap prog 40 [.rv (.one (.ptr 0 0)),.rv (.one (.ptr 1 0))] [xB k p,cB c] (TC (dP k p c).1 p c (dP k p c).2):=by
 refine ct func40 l40 ?_;rcases hc with hc|hc|hc|hc|hc|hc
 .rw[dP,if_pos hc];exact Em k p hw c hc
 .rw[dP,if_neg om,if_pos hc];exact G4 k p hw c hc
 .rw[dP,if_neg om,if_neg om,if_pos hc];exact G5 k p hw c hc
 .rw[dP,if_neg om,if_neg om,if_neg om,if_pos hc];exact G6 k p hw c hc
 .rw[dP,if_neg om,if_neg om,if_neg om,if_neg om];exact yj k p hw c (.inl hc) hq
 .rw[dP,if_neg om,if_neg om,if_neg om,if_neg om];exact yj k p hw c (.inr hc) hq
end Kn
def c95:LF:= ⟨74,[.tmp 6],(.seq (.ai [qu 3 (.box 0),qu 6 (.aM (qi 0))]) (.seq (.seq (.ai [qf 7 0 3,ql 8 7]) (.block 0 (.seq (.ai [qu 10 (.aJ .eql 8 (qi 1)),qm 9 10]) (.cond 9 (.seq (.ai [qf 11 3 3,ql 12 11,qu 13 (.aJ .lss 12 (qi 0)),qm 14 13,qg 15 (.b8 3 3) 14 false,qg 16 (.load false 1 15) 14 false,qg 17 (.aJ .geq 16 (qi 6)) 14 false,qu 18 (.pick 14 (qb true) 17)]) (.cond 18 (.seq (.ai [qu 6 (.aM (qi 3))]) .ret) .skip)) (.seq (.seq (.ai [qu 20 (.aJ .eql 8 (qi 2)),qm 19 20]) (.cond 19 .skip (.seq (.ai [qu 21 (.aJ .eql 8 (qi 3)),qm 19 21]) (.cond 19 .skip (.ai [qu 22 (.aJ .eql 8 (qi 4)),qm 19 22]))))) (.cond 19 (.seq (.seq (.ai [qf 23 3 3,ql 24 23,qu 25 (.aJ .lss 24 (qi 0)),qm 26 25,qg 27 (.b8 3 3) 26 false,qg 28 (.load false 1 27) 26 false,qg 29 (.aJ .geq 28 (qi 2147483648)) 26 false,qu 30 (.pick 26 (qb true) 29),qm 31 30,qg 32 (.aM 1) 31 false,qg 33 (.b8 1 3) 31 false,qg 34 (.load false 1 33) 31 false,qg 35 (.aM 2) 31 false,qg 36 (qc 127 [32,34,qi 40,35]) 31 false,qg 37 (.un .not 36) 31 false,qu 38 (.pick 31 (qb true) 37),qm 39 38,qg 40 (.aM 1) 39 false,qg 41 (.b8 2 3) 39 false,qg 42 (.load false 1 41) 39 false,qg 43 (.aM 2) 39 false,qg 44 (qc 127 [40,42,qi 40,43]) 39 false,qg 45 (.un .not 44) 39 false,qu 46 (.pick 39 (qb true) 45)]) (.cond 46 (.seq (.ai [qu 6 (.aM (qi 3))]) .ret) .skip)) (.seq (.ai [qu 6 (.aM (qi 0))]) .ret)) (.seq (.ai [qu 48 (.aJ .eql 8 (qi 5)),qm 47 48]) (.cond 47 (.seq (.ai [qm 49 1,qf 50 3 3,ql 51 50,qm 52 2,qm 53 2,qu 54 (qc 127 [49,51,52,53]),qu 55 (.un .not 54)]) (.cond 55 (.seq (.ai [qu 6 (.aM (qi 3))]) .ret) .skip)) (.seq (.ai [qu 57 (.aJ .eql 8 (qi 6)),qm 56 57]) (.cond 56 (.seq (.ai [qf 58 3 3,ql 59 58,qu 60 (.aJ .neq 59 (qi 1)),qm 61 60,qg 62 (.b8 3 3) 61 true,qg 63 (.load false 1 62) 61 true,qg 64 (.aJ .neq 63 (qi 0)) 61 true,qu 65 (.pick 61 64 (qb false))]) (.cond 65 (.seq (.ai [qu 6 (.aM (qi 3))]) .ret) .skip)) (.seq (.ai [qu 6 (.aM (qi 1))]) .ret))))))))))) (.seq (.seq (.ai [qf 66 1 3,ql 67 66,qu 68 (.aJ .neq 67 (qi 0)),qm 69 68,qg 70 (.b8 2 3) 69 false,qg 71 (.load false 1 70) 69 false,qg 72 (.aJ .neq 71 (qi 0)) 69 false,qu 73 (.pick 69 (qb true) 72)]) (.cond 73 (.seq (.ai [qu 6 (.aM (qi 2))]) .ret) .skip)) (.seq (.ai [qu 6 (.aM (qi 0))]) .ret))))⟩
def c127:LF:= ⟨24,[.tmp 8],(.seq (.ai [qu 8 (.aM (qb false))]) (.seq (.ai [qm 9 1,qu 10 (.aJ .geq 9 (qi 0)),qm 11 10,qg 12 (.aM 1) 11 true,qg 13 (.aM 2) 11 true,qg 14 (.aJ .leq 12 13) 11 true,qu 15 (.pick 11 14 (qb false)),qm 16 15,qg 17 (.aM 0) 16 true,qg 18 (.aJ .add 17 (qi 1)) 16 true,qg 19 (.aM 1) 16 true,qg 20 (.aJ .add 18 19) 16 true,qg 21 (.aM 3) 16 true,qg 22 (.aJ .lss 20 21) 16 true,qu 23 (.pick 16 22 (qb false)),qm 8 23]) .ret))⟩
structure dH where
 op:Int
 jt:Int
 jf:Int
 k:Int
 deriving DecidableEq
def dH.enc(i:dH):List Dt:=[.val (.int .i64 i.op),.val (.int .i64 i.jt),.val (.int .i64 i.jf),.val (.int .i64 i.k)]
def dH.cv(i:dH):CV:= .rv (.agg (i.enc.map .ah))
def yk(l:List dH):Dt:= .sl 4 (l.map dH.enc)
def td(l:List dH):CV:= .rv (.one (.ah (yk l)))
def B8(f:Int×Int):CV:= .rv (.agg [.ah (.val (.int .i64 f.1)),.ah (.val (.int .i64 f.2))])
def oy(a n yl s:Int):Bool:=decide (n>=0)&&decide (n<=yl)&&decide (a+1+n<s)
theorem l127:bz prog f127=some c127:=by kernel_rfl
theorem KY(a n yl s:Int)(ha:0<=a)(Wk:a<=4194304)(hm:yl<=4194304):body prog c127 [am .i64 a,am .i64 n,am .i64 yl,am .i64 s] [] (λr m=>r=aD (oy a n yl s)):=by
 refine aG (λh=>?_) (λh=>?_)
 .refine aG (λh2=>?_) (λh2=>?_)
  .have e1:n>=0:=of_decide_eq_true h;have e2:n<=yl:=of_decide_eq_true h2;show aD _=aD _;rw[oy,h,h2,iD (n:=a+1) om om,iD om om];rfl
  .show aD _=aD _;rw[oy,h,h2];rfl
 .show aD _=aD _;rw[oy,h];rfl
theorem Rr(a n yl s:Int)(ha:0<=a)(Wk:a<=4194304)(hm:yl<=4194304){m:Mem}{K:CV->Mem->Prop}(h:K (aD (oy a n yl s)) m):ap prog 127 [am .i64 a,am .i64 n,am .i64 yl,am .i64 s] m K:=
 bw func127 l127 rfl (aad rfl) (KY a n yl s ha Wk hm) rfl rfl h
def ym(i:dH):Int:=if(i.jt !=0)||(i.jf !=0)then 2 else 0
def iS(i:dH)(a s:Int):Int:=
 if(i.op==1)then(if(decide (i.k<0)||decide (i.k>=6))then 3 else ym i)
 else if(i.op==2)||(i.op==3)||(i.op==4)then(if(decide (i.k<0)||decide (i.k>=2147483648)|| !oy a i.jt 40 s|| !oy a i.jf 40 s)then 3 else 0)
 else if(i.op==5)then(if !oy a i.k s s then 3 else ym i)
 else if(i.op==6)then(if(i.k !=1)&&(i.k !=0)then 3 else ym i)
 else 1
theorem l95:bz prog f95=some c95:=by kernel_rfl
theorem G7(i:dH)(a s:Int)(ha:0<=a)(Wk:a<=4194304)(hs:s<=4194304):body prog c95 [i.cv,am .i64 a,am .i64 s] [] (λr m=>r=am .i64 (iS i a s)):=by
 repeat' (first
  |(refine aG (λh=>?_) (λh=>?_))
  |(refine Rr _ _ _ _ ha Wk om ?_))
 all_goals(show am .i64 _=am .i64 _;refine congrArg _ ?_;simp only[iS,ym, *];try(first|rfl|simp[*]))
theorem OT(i:dH)(a s:Int)(ha:0<=a)(Wk:a<=4194304)(hs:s<=4194304){m:Mem}{K:CV->Mem->Prop}(h:K (am .i64 (iS i a s)) m):ap prog 95 [i.cv,am .i64 a,am .i64 s] m K:=
 bw func95 l95 rfl (aad rfl) (G7 i a s ha Wk hs) rfl rfl h
def c53:LF:= ⟨46,[.cell true 2 2],(.seq (.ai [qu 2 (.alloc [qd 0,qd 0])]) (.seq (.seq (.ai [qm 6 0,qu 7 (.len 1 6),qu 8 (.aJ .lss 7 (qi 1)),qm 9 8,qg 10 (.aM 0) 9 false,qg 11 (.len 1 10) 9 false,qg 12 (.aJ .gtr 11 (qi 400)) 9 false,qu 13 (.pick 9 (qb true) 12)]) (.cond 13 (.seq (.ai [qu 14 (.build [qd 0,qd 0] [(0,1,qi 5)]),qw (.store 2 2 14)]) .ret) .skip)) (.seq (.seq (.ai [qm 15 0,qu 16 (.len 1 15),qu 17 (.aM (qi 0))]) (.block 0 (.loop (.seq (.ai [qu 18 (.aJ .lss 17 16)]) (.seq (.cond 18 .skip (.exit 0)) (.seq (.block 1 (.seq (.ai [qm 19 17,qu 20 (.cz 4 15 17),qL 21 4 20,qu 4 (.alloc [qd 0,qd 0,qd 0,qd 0]),qm 3 19,qw (.store 4 4 21)]) (.seq (.ai [qL 22 4 4,qm 23 3,qm 24 0,qu 25 (.len 1 24),qu 26 (qc 95 [22,23,25]),qm 5 26]) (.seq (.ai [qm 27 5,qu 28 (.aJ .neq 27 (qi 0))]) (.cond 28 (.seq (.ai [qm 29 5,qm 30 3,qu 31 (.build [qd 0,qd 0] [(0,1,29),(1,1,30)]),qw (.store 2 2 31)]) .ret) .skip))))) (.ai [qu 32 (.aJ .add 17 (qi 1)),qm 17 32]))))))) (.seq (.seq (.ai [qm 33 0,qm 34 0,qu 35 (.len 1 34),qu 36 (.aJ .sub 35 (qi 1)),qu 37 (.cz 4 33 36),qf 38 0 37,ql 39 38,qu 40 (.aJ .neq 39 (qi 6))]) (.cond 40 (.seq (.ai [qm 41 0,qu 42 (.len 1 41),qu 43 (.aJ .sub 42 (qi 1)),qu 44 (.build [qd 0,qd 0] [(0,1,qi 2),(1,1,43)]),qw (.store 2 2 44)]) .ret) .skip)) (.seq (.ai [qu 45 (.build [qd 0,qd 0] []),qw (.store 2 2 45)]) .ret)))))⟩
def vX(s:Int):Nat->List dH->Int×Int
 |_,[]=>(0,0)
 |k,i::r=>if iS i (k:Int) s=0 then vX s (k+1) r else(iS i (k:Int) s,(k:Int))
theorem IJ(s:Int):∀(l:List dH)(k:Nat),(∀(j:Nat)i,l[j]? =some i->iS i ((k+j:Nat):Int) s=0)->vX s k l=(0,0)
 | [],_,_=>rfl
 |i::r,k,h=>by
  rw[vX,if_pos (by simpa using h 0 i rfl)]
  exact IJ s r (k+1) λj x hx=>by
   have:=h (j+1) x (by simpa using hx)
   rwa [show k+(j+1)=k+1+j by omega]at this
theorem En(s:Int):∀(l:List dH)(k j:Nat)(i:dH),l[j]? =some i->(∀(j':Nat)i,j'<j->l[j']? =some i->iS i ((k+j':Nat):Int) s=0)->iS i ((k+j:Nat):Int) s≠0->vX s k l=(iS i ((k+j:Nat):Int) s,((k+j:Nat):Int))
 | [],_,j,i,h,_,_=>by simp at h
 |x::r,k,0,i,h,_,hb=>by
  simp at h;subst h;rw[vX,if_neg (by simpa using hb)];rfl
 |x::r,k,j+1,i,h,hg,hb=>by
  rw[vX,if_pos (by simpa using hg 0 x om rfl)]
  rw[show k+(j+1)=k+1+j by omega]at hb|-
  exact En s r (k+1) j i (by simpa using h) (λj' y hj hy=>by
   have:=hg (j'+1) y om (by simpa using hy)
   rwa [show k+(j'+1)=k+1+j' by omega]at this) hb
def mQ(p:List dH):Int×Int:=
 if p.length<1\/p.length>400 then(5,0)
 else if(vX p.length 0 p).1≠0 then vX p.length 0 p
 else match p[p.length-1]? with
  |some i=>if i.op=6 then(0,0)else(2,((p.length-1:Nat):Int))
  |none=>(0,0)
theorem l53:bz prog f53=some c53:=by kernel_rfl
theorem G8(p:List dH):body prog c53 [td p] [] (λr m=>r=B8 (mQ p)):=by
 refine aG (λh=>?_) (λh0=>?_)
 .have h:p.length<1:=by have h:(((p.map dH.enc).length:Nat):Int)<1:=of_decide_eq_true h;rw[Pj]at h;omega
  rw[mQ,if_pos (.inl h)];exact rfl
 .refine aG (λh=>?_) (λh1=>?_)
  .have h:p.length>400:=by have h:(((p.map dH.enc).length:Nat):Int)>400:=of_decide_eq_true h;simp at h;omega
   rw[mQ,if_pos (.inr h)];exact rfl
  .have h0:¬p.length<1:=by have h:¬(((p.map dH.enc).length:Nat):Int)<1:=of_decide_eq_false h0;rw[Pj]at h;omega
   have h1:¬p.length>400:=by have h:¬(((p.map dH.enc).length:Nat):Int)>400:=of_decide_eq_false h1;rw[Pj]at h;omega
   have hc:mQ p=if(vX p.length 0 p).1≠0 then vX p.length 0 p else match p[p.length-1]? with
     |some i=>if i.op=6 then(0,0)else(2,((p.length-1:Nat):Int))
     |none=>(0,0):=by rw[mQ,if_neg om]
   refine ni (λk=>k<=p.length/\∀(j:Nat)i,j<k->p[j]? =some i->iS i (j:Int) p.length=0) (λk=>[(17,am .i64 (k:Nat)),(3,.aA),(4,.aA),(5,.aA),(18,.aA),(19,.aA),(20,.aA),(21,.aA),(22,.aA),(23,.aA),(24,.aA),(25,.aA),(26,.aA),(27,.aA),(28,.aA),(32,.aA)])
    (λk=>[.var [.ah (.val (.int .i64 0)),.ah (.val (.int .i64 0))]]) (λk=>p.length-k) 0 ⟨aaj _,λj i h=>absurd h (aaU j)⟩ ?_ (λk hk=>?_)
   .refine View.o1 1 [0] [] ?_
    .exact .put (by simp[br]) rfl (.eq rfl aE) (.nil _)
   .refine aG (λh=>?_) (λh=>?_)
    .have aC:k<p.length:=by have h:(k:Int)<((p.map dH.enc).length:Int):=of_decide_eq_true h;rw[Pj]at h;omega
     have hg:dD (p.map dH.enc) (k:Nat)=some (p[k].enc):=by rw[bG,Tm,vU aC];rfl
     have hlen:(((p.map dH.enc).length:Nat):Int)=(p.length:Int):=by rw[Pj]
     refine af hg ?_;have vd:∀{m:Mem}{K:CV->Mem->Prop},K (am .i64 (iS p[k] k p.length)) m->ap prog 95 [p[k].cv,am .i64 k,am .i64 (((p.map dH.enc).length:Nat):Int)] m K:=by intro m K h;rw[hlen];exact OT _ _ _ om om om h
     refine vd ?_;refine aG (λh3=>?_) (λh3=>?_)
     .have h3:iS p[k] k p.length≠0:=by simpa using h3
      have:=En p.length p 0 k p[k] (vU aC) (λj i hj hi=>by simpa using hk.2 j i hj hi) (by simpa using h3)
      rw[aaP]at this;rw[hc,this,if_pos h3];exact rfl
     .have h3:iS p[k] k p.length=0:=by simpa using h3
      refine⟨k+1,⟨aC,λj i hj hi=>?_⟩,?_,View.o 2 [0] [] ?_ ?_⟩
      .rcases aaf j k with h5|h5
       .exact hk.2 j i h5 hi
       .have:j=k:=om;subst this;rw[vU aC]at hi;cases hi;exact h3
      .show p.length-(k+1)<p.length-k;omega
      .repeat(first|exact .nil|refine .aA ?_|refine .put (.bb (cj om).symm) ?_|refine .eq rfl ?_)
      .exact .put (by simp[br]) rfl (.eq rfl aE) (.nil _)
    .have d8:¬(k:Int)<((p.map dH.enc).length:Int):=of_decide_eq_false h;rw[Pj]at d8;have f8:=IJ p.length p 0 λj i hi=>by have:=(Km.1 hi).1;simpa using hk.2 j i om hi
     rw[hc,f8,if_neg aE];have ot:p.length-1<p.length:=om;rw[vU ot];have hw:IntKind.i64.wrap ((((p.map dH.enc).length:Nat):Int)-1)=((p.length-1:Nat):Int):=by rw[Pj,iD om om];omega
     have hg:dD (p.map dH.enc) (IntKind.i64.wrap ((((p.map dH.enc).length:Nat):Int)-1))=some (p[p.length-1].enc):=by rw[hw,bG,Tm,vU ot];rfl
     refine af hg ?_;refine aG (λh3=>?_) (λh3=>?_)
     .have h3:p[p.length-1].op≠6:=by simpa using h3
      show B8 (2,IntKind.i64.wrap ((((p.map dH.enc).length:Nat):Int)-1))=_;rw[hw];simp only;rw[if_neg h3]
     .have h3:p[p.length-1].op=6:=by simpa using h3
      simp only;rw[if_pos h3];exact rfl
theorem OU(p:List dH){m:Mem}{K:CV->Mem->Prop}(h:K (B8 (mQ p)) m):ap prog 53 [td p] m K:=
 bw func53 l53 rfl (aad rfl) (G8 p) rfl rfl h
theorem Vi(jt jf k a s:Int):iS ⟨1,jt,jf,k⟩ a s=if k<0\/k>=6 then 3 else if jt≠0\/jf≠0 then 2 else 0:=by simp[iS,ym,<-Bool.decide_or]
theorem Ha(o jt jf k a s:Int)(ho:o=2\/o=3\/o=4):iS ⟨o,jt,jf,k⟩ a s=if k<0\/k>=2147483648\/jt<0\/jf<0\/jt>40\/jf>40\/jt>s-a-2\/jf>s-a-2 then 3 else 0:=by
 have h1:(o==1)=false:=by rcases ho with rfl|rfl|rfl<;>rfl
 have h2:((o==2)||(o==3)||(o==4))=true:=by rcases ho with rfl|rfl|rfl<;>rfl
 simp only[iS,h1,h2,abL,if_false,if_true];by_cases hc:k<0\/k>=2147483648\/jt<0\/jf<0\/jt>40\/jf>40\/jt>s-a-2\/jf>s-a-2
 .rw[if_pos hc,if_pos];simp only[oy,abX,abN,adm,decide_eq_true_eq,decide_eq_false_iff_not];omega
 .rw[if_neg hc,if_neg];simp only[oy,abX,abN,adm,decide_eq_true_eq,decide_eq_false_iff_not];omega
theorem Vj(jt jf k a s:Int)(ha:0<=a):iS ⟨5,jt,jf,k⟩ a s=if k<0\/k>s-a-2 then 3 else if jt≠0\/jf≠0 then 2 else 0:=by
 have e:(!oy a k s s)=decide (k<0\/k>s-a-2):=by rw[aee];simp only[oy,abN,adm,decide_eq_true_eq,decide_eq_false_iff_not];omega
 simp[iS,e,ym,<-Bool.decide_or]
theorem Vk(jt jf k a s:Int):iS ⟨6,jt,jf,k⟩ a s=if k≠0/\k≠1 then 3 else if jt≠0\/jf≠0 then 2 else 0:=by simp[iS,ym,<-Bool.decide_or,<-Bool.decide_and];simp only[and_comm]
theorem Vl(o jt jf k a s:Int)(ho:o<1\/o>6):iS ⟨o,jt,jf,k⟩ a s=1:=by
 have h:∀c:Int,1<=c->c<=6->(o==c)=false:=λc h1 h2=>by rw[beq_eq_false_iff_ne];omega
 simp[iS,h 1 om om,h 2 om om,h 3 om om,h 4 om om,h 5 om om,h 6 om om]
def c30:LF:= ⟨75,[.tmp 4,.tmp 5],(.seq (.ai [qu 3 (.box 1),qu 4 (.aM (qi 0)),qu 5 (.aM (qi 0))]) (.seq (.seq (.ai [qm 11 0,qu 12 (qc 53 [11]),qu 6 (.alloc [qd 0,qd 0]),qw (.store 2 6 12)]) (.seq (.ai [qf 13 0 6,ql 14 13,qu 15 (.aJ .neq 14 (qi 0))]) (.cond 15 (.seq (.ai [qu 4 (.aM (qi 0)),qu 5 (.aM (qi 0))]) .ret) .skip))) (.seq (.ai [qu 7 (.aM (qi 0))]) (.seq (.ai [qu 8 (.aM (qi 0))]) (.block 0 (.loop (.seq (.block 1 (.seq (.ai [qm 18 0,qm 19 8,qu 20 (.cz 4 18 19),qL 21 4 20,qu 9 (.alloc [qd 0,qd 0,qd 0,qd 0]),qw (.store 4 9 21)]) (.seq (.ai [qu 10 (.aM (qb false))]) (.seq (.seq (.ai [qf 22 0 9,ql 23 22]) (.block 2 (.seq (.ai [qu 25 (.aJ .eql 23 (qi 1)),qm 24 25]) (.cond 24 (.seq (.ai [qf 26 3 9,ql 27 26,qu 28 (.wv 6 1 3 27),ql 29 28,qm 7 29]) (.seq (.ai [qm 30 8,qu 31 (.aJ .add 30 (qi 1)),qm 8 31]) (.exit 1))) (.seq (.ai [qu 33 (.aJ .eql 23 (qi 5)),qm 32 33]) (.cond 32 (.seq (.ai [qm 34 8,qf 35 3 9,ql 36 35,qu 37 (.aJ .add (qi 1) 36),qu 38 (.aJ .add 34 37),qm 8 38]) (.exit 1)) (.seq (.ai [qu 40 (.aJ .eql 23 (qi 6)),qm 39 40]) (.cond 39 (.seq (.ai [qf 41 3 9,ql 42 41,qm 43 5,qu 44 (.aJ .add 43 (qi 1)),qm 4 42,qm 5 44]) .ret) (.seq (.ai [qu 46 (.aJ .eql 23 (qi 2)),qm 45 46]) (.cond 45 (.ai [qm 47 7,qf 48 3 9,ql 49 48,qu 50 (.aJ .eql 47 49),qm 10 50]) (.seq (.ai [qu 52 (.aJ .eql 23 (qi 3)),qm 51 52]) (.cond 51 (.ai [qm 53 7,qf 54 3 9,ql 55 54,qu 56 (.aJ .geq 53 55),qm 10 56]) (.seq (.ai [qu 58 (.aJ .eql 23 (qi 4)),qm 57 58]) (.cond 57 (.ai [qm 59 7,qf 60 3 9,ql 61 60,qu 62 (.aJ .and 59 61),qu 63 (.aJ .neq 62 (qi 0)),qm 10 63]) .skip)))))))))))))) (.seq (.ai [qm 64 10]) (.cond 64 (.ai [qm 65 8,qf 66 1 9,ql 67 66,qu 68 (.aJ .add (qi 1) 67),qu 69 (.aJ .add 65 68),qm 8 69]) (.ai [qm 70 8,qf 71 2 9,ql 72 71,qu 73 (.aJ .add (qi 1) 72),qu 74 (.aJ .add 70 73),qm 8 74]))))))) (.ai [qm 16 5,qu 17 (.aJ .add 16 (qi 1)),qm 5 17]))))))))⟩
structure Au where
 r0:Int
 r1:Int
 r2:Int
 r3:Int
 r4:Int
 r5:Int
def Au.enc(r:Au):List Dt:=[.val (.int .i64 r.r0),.val (.int .i64 r.r1),.val (.int .i64 r.r2),.val (.int .i64 r.r3),.val (.int .i64 r.r4),.val (.int .i64 r.r5)]
def Au.cv(r:Au):CV:= .rv (.agg (r.enc.map .ah))
def Au.get(r:Au):Nat->Int
 |0=>r.r0
 |1=>r.r1
 |2=>r.r2
 |3=>r.r3
 |4=>r.r4
 |_=>r.r5
theorem Au.acJ(r:Au){k:Nat}(h:k<6):iU (r.enc.map .ah) (0+k*1) 1=some [.ah (.val (.int .i64 (r.get k)))]:=by
 rw[show 0+k*1=k by omega]
 apply tW
 match k,h with
 |0,_=>rfl
 |1,_=>rfl
 |2,_=>rfl
 |3,_=>rfl
 |4,_=>rfl
 |5,_=>rfl
def Vm(a b:Int):Int:=IntKind.i64.wrap ((BitVec.ofInt 64 a&&&BitVec.ofInt 64 b).toNat:Int)
def tC(i:dH)(fc:Int)(r:Au):Nat×Int:=
 if i.op=1 then(1,r.get i.k.toNat)
 else if i.op=5 then(1+i.k.toNat,fc)
 else if(if i.op=2 then fc==i.k else if i.op=3 then decide (fc>=i.k)else if i.op=4 then Vm fc i.k !=0 else false)=true then(1+i.jt.toNat,fc)
 else(1+i.jf.toNat,fc)
theorem Ty(x y:Nat)(k fc:Int)(r:Au):(fc=k->tC ⟨2,x,y,k⟩ fc r=(1+x,fc))/\(fc≠k->tC ⟨2,x,y,k⟩ fc r=(1+y,fc)):=
 ⟨λh=>by subst h;simp[tC],λh=>by simp[tC,h]⟩
theorem Tz(x y:Nat)(k fc:Int)(r:Au):(fc>=k->tC ⟨3,x,y,k⟩ fc r=(1+x,fc))/\(¬fc>=k->tC ⟨3,x,y,k⟩ fc r=(1+y,fc)):=
 ⟨λh=>by simp[tC];omega,λh=>by simp[tC];omega⟩
theorem TA(x y:Nat)(k fc:Int)(r:Au):(Vm fc k≠0->tC ⟨4,x,y,k⟩ fc r=(1+x,fc))/\(Vm fc k=0->tC ⟨4,x,y,k⟩ fc r=(1+y,fc)):=
 ⟨λh=>by simp[tC,h],λh=>by simp[tC,h]⟩
theorem Rs(i:dH)(fc:Int)(r:Au):1<=(tC i fc r).1:=by
 unfold tC;repeat' split
 all_goals simp
def jN(p:List dH)(r:Au)(a:Nat)(fc:Int):Int×Int:=
 if h:a<p.length then
  if p[a].op=6 then(p[a].k,1)
  else((jN p r (a+(tC p[a] fc r).1) (tC p[a] fc r).2).1,(jN p r (a+(tC p[a] fc r).1) (tC p[a] fc r).2).2+1)
 else(0,0)
 termination_by p.length-a
 decreasing_by
 all_goals
  have:=Rs p[a] fc r;omega
theorem KZ{p:List dH}{r:Au}{a:Nat}{fc:Int}{i:dH}(h:p[a]? =some i)(ho:i.op=6):jN p r a fc=(i.k,1):=by obtain⟨aC,rfl⟩:=Km.1 h;rw[jN,dif_pos aC,if_pos ho]
theorem mB{p:List dH}{r:Au}{a:Nat}{fc:Int}{i:dH}(h:p[a]? =some i)(ho:i.op≠6){d:Nat}{B9:Int}(hn:tC i fc r=(d,B9)):jN p r a fc=((jN p r (a+d) B9).1,(jN p r (a+d) B9).2+1):=by obtain⟨aC,rfl⟩:=Km.1 h;rw[jN,dif_pos aC,if_neg ho,hn]
theorem Eo(s:Int):∀(l:List dH)(k:Nat),(vX s k l).1=0->∀(j:Nat)i,l[j]? =some i->iS i ((k+j:Nat):Int) s=0
 | [],_,_,j,i,h=>by simp at h
 |x::r,k,h,j,i,hi=>by
  simp only[vX]at h;split at h
  .rename_i h0;cases j with
   |zero=>simp at hi;subst hi;simpa using h0
   |succ j=>
    have:=Eo s r (k+1) h j i (by simpa using hi)
    rwa [show k+1+j=k+(j+1) by omega]at this
  .rename_i h0;exact absurd h h0
theorem Av{p:List dH}(h:(mQ p).1=0):1<=p.length/\p.length<=400/\(∀(j:Nat)i,p[j]? =some i->iS i (j:Int) p.length=0)/\∃i,p[p.length-1]? =some i/\i.op=6:=by
 unfold mQ at h;split at h
 .simp at h
 .rename_i hl;split at h
  .rename_i hc;exact absurd h hc
  .rename_i hc;have f8:=Eo p.length p 0 (by simpa using hc)
   refine⟨om,om,λj i hi=>by simpa using f8 j i hi,?_⟩
   have aC:p.length-1<p.length:=om;rw[vU aC]at h|-;simp only at h;split at h
   .rename_i h6;exact⟨_,rfl,h6⟩
   .simp at h
theorem Rt{i:dH}{a s:Int}(h:iS i a s=0):i.op=1\/i.op=2\/i.op=3\/i.op=4\/i.op=5\/i.op=6:=by
 by_cases ho:i.op<1\/i.op>6
 .have:=Vl i.op i.jt i.jf i.k a s ho;have e:iS ⟨i.op,i.jt,i.jf,i.k⟩ a s=iS i a s:=rfl;omega
 .omega
theorem K2{p:List dH}(h:(mQ p).1=0){a:Nat}{o jt jf k:Int}(hi:p[a]? =some ⟨o,jt,jf,k⟩):
  (o=1/\0<=k/\k<6/\a+1<p.length)\/((o=2\/o=3\/o=4)/\0<=jt/\0<=jf/\a+1+jt.toNat<p.length/\a+1+jf.toNat<p.length/\jt<=40/\jf<=40)\/(o=5/\0<=k/\a+1+k.toNat<p.length)\/(o=6/\(k=0\/k=1)):=by
 obtain⟨h1,h2,h3,i6,h4,h5⟩:=Av h;have he:=h3 a _ hi;have aC:=(Km.1 hi).1;rcases Rt he with ho|ho|ho|ho|ho|ho<;>simp only at ho<;>subst ho
 .rw[Vi]at he;have dh:a≠p.length-1:=λe=>by rw[<-e,hi]at h4;cases h4;simp at h5
  split at he
  .simp at he
  .exact .inl ⟨rfl,om,om,om⟩
 .rw[Ha _ _ _ _ _ _ om]at he;split at he
  .simp at he
  .exact .inr (.inl ⟨om,om,om,om,om,om,om⟩)
 .rw[Ha _ _ _ _ _ _ om]at he;split at he
  .simp at he
  .exact .inr (.inl ⟨om,om,om,om,om,om,om⟩)
 .rw[Ha _ _ _ _ _ _ om]at he;split at he
  .simp at he
  .exact .inr (.inl ⟨om,om,om,om,om,om,om⟩)
 .rw[Vj _ _ _ _ _ om]at he;split at he
  .simp at he
  .exact .inr (.inr (.inl ⟨rfl,om,om⟩))
 .rw[Vk]at he;split at he
  .simp at he
  .exact .inr (.inr (.inr ⟨rfl,om⟩))
def zj(p:List dH)(r:Au):Int×Int:=if(mQ p).1=0 then jN p r 0 0 else(0,0)
theorem l30:bz prog f30=some c30:=by kernel_rfl
def TB(x:Int×Int):CV:= .bD [cK x.1,cK x.2]
theorem Vn{s:Nat}(h:s<9223372036854775807):((s+1:Nat):Int)=IntKind.i64.wrap ((s:Int)+1):=by
 rw[show(s:Int)+1=((s+1:Nat):Int) by omega,mr om]
theorem OV(p:List dH)(r:Au):body prog c30 [td p,r.cv] [] (λx m=>x=TB (zj p r)):=by
 refine OU p ?_;refine bx (λh=>?_) (λh=>?_)
 .have e:zj p r=(0,0):=by rw[zj,if_neg h]
  rw[e];exact rfl
 .have e:zj p r=jN p r 0 0:=by rw[zj,if_pos h]
  rw[e];obtain⟨g1,g2,g3,_⟩:=Av h;refine ni (α:=Nat×Int×Nat) (λx=>x.1<p.length/\x.2.2<=x.1/\(jN p r x.1 x.2.1).1=(jN p r 0 0).1/\(jN p r x.1 x.2.1).2+x.2.2=(jN p r 0 0).2)
   (λx=>[(8,am .i64 (x.1:Nat)),(7,am .i64 x.2.1),(5,am .i64 (x.2.2:Nat)),(6,.aA),(9,.aA),(10,.aA),(11,.aA),(12,.aA),(13,.aA),(14,.aA),(15,.aA),(16,.aA),(17,.aA),(18,.aA),(19,.aA),(20,.aA),(21,.aA),(22,.aA),(23,.aA),(24,.aA),(25,.aA),(26,.aA),(27,.aA),(28,.aA),(29,.aA),(30,.aA),(31,.aA),(32,.aA),(33,.aA),(34,.aA),(35,.aA),(36,.aA),(37,.aA),(38,.aA),(39,.aA),(40,.aA),(41,.aA),(42,.aA),(43,.aA),(44,.aA),(45,.aA),(46,.aA),(47,.aA),(48,.aA),(49,.aA),(50,.aA),(51,.aA),(52,.aA),(53,.aA),(54,.aA),(55,.aA),(56,.aA),(57,.aA),(58,.aA),(59,.aA),(60,.aA),(61,.aA),(62,.aA),(63,.aA),(64,.aA),(65,.aA),(66,.aA),(67,.aA),(68,.aA),(69,.aA),(70,.aA),(71,.aA),(72,.aA),(73,.aA),(74,.aA)])
   (λx=>[.var (r.enc.map .ah)]) (λx=>p.length-x.1) (0,0,0) ⟨by show 0<p.length;omega,Ym 0,rfl,aE⟩ ?_ (λx hJ=>?_)
  .refine View.o1 2 [0] [] ?_
   .exact .put (by simp[br]) rfl (.eq rfl aE) (.nil _)
  .obtain⟨a,fc,s⟩:=x;obtain⟨aC,uj,xm,wo⟩:=hJ;have aC:a<p.length:=aC;have uj:s<=a:=uj;have xm:(jN p r a fc).1=(jN p r 0 0).1:=xm;have wo:(jN p r a fc).2+s=(jN p r 0 0).2:=wo;have hi:=vU aC;generalize p[a]=i at hi;obtain⟨o,jt,jf,k⟩:=i;have hg:dD (p.map dH.enc) (a:Nat)=some [.val (.int .i64 o),.val (.int .i64 jt),.val (.int .i64 jf),.val (.int .i64 k)]:=by rw[bG,Tm,hi];rfl
   have next:∀(d:Nat)(B9:Int),jN p r a fc=((jN p r (a+d) B9).1,(jN p r (a+d) B9).2+1)->(1<=d/\a+d<p.length)->∀{G:Prop},
     (((a+d<p.length)/\s+1<=a+d/\(jN p r (a+d) B9).1=(jN p r 0 0).1/\(jN p r (a+d) B9).2+((s+1:Nat):Int)=(jN p r 0 0).2)->(p.length-(a+d)<p.length-a)->G)->G:=by
    intro d B9 hw hd G hG;refine hG ⟨hd.2,om,?_,?_⟩ om
    .rw[<-xm,hw]
    .rw[<-wo,hw];simp only;omega
   refine af hg ?_;rcases K2 h hi with⟨rfl,k1,k2,k3⟩|⟨ho,j1,j2,j3,j4,j5,j6⟩|⟨rfl,k1,k2⟩|⟨rfl,k1⟩
   .obtain⟨n,rfl⟩:∃n:Nat,k=n:=⟨k.toNat,om⟩;refine af (bZ om) ?_;refine af (r.acJ om) ?_;refine next 1 (r.get n) (mB hi aE (by simp[tC])) om (λhJ hm=>?_)
    exact⟨(a+1,r.get n,s+1),hJ,hm,View.o 2 [0] [] (by
     repeat(first|exact .nil|refine .aA ?_|refine .put (.bb (cj om).symm) ?_|refine .eq rfl ?_|refine .eq (congrArg (λx=>am .i64 x) ((by rw[mr (n:=a+1) om]:((a+1:Nat):Int)=_))) ?_)) (.put (by simp[br]) rfl (.eq rfl aE) (.nil _))⟩
   .obtain⟨x,rfl⟩:∃n:Nat,jt=n:=⟨jt.toNat,om⟩;obtain⟨y,rfl⟩:∃n:Nat,jf=n:=⟨jf.toNat,om⟩;have ex:IntKind.i64.wrap ((a:Int)+IntKind.i64.wrap (1+(x:Int)))=((a+(1+x):Nat):Int):=by rw[iD (n:=1+(x:Int)) om om,iD om om];omega
    have ey:IntKind.i64.wrap ((a:Int)+IntKind.i64.wrap (1+(y:Int)))=((a+(1+y):Nat):Int):=by rw[iD (n:=1+(y:Int)) om om,iD om om];omega
    rcases ho with rfl|rfl|rfl
    .refine bs (λhy=>?_) (λhy=>?_)
     .skip
      refine next (1+x) fc (mB hi aE ((Ty x y k fc r).1 hy)) om (λhJ hm=>?_)
      exact⟨(a+(1+x),fc,s+1),hJ,hm,View.o 2 [0] [] (by
       repeat(first|exact .nil|refine .aA ?_|refine .put (.bb (cj om).symm) ?_|refine .eq rfl ?_|refine .eq (congrArg (λx=>am .i64 x) (ex.symm)) ?_)) (.put (by simp[br]) rfl (.eq rfl aE) (.nil _))⟩
     .skip
      refine next (1+y) fc (mB hi aE ((Ty x y k fc r).2 hy)) om (λhJ hm=>?_)
      exact⟨(a+(1+y),fc,s+1),hJ,hm,View.o 2 [0] [] (by
       repeat(first|exact .nil|refine .aA ?_|refine .put (.bb (cj om).symm) ?_|refine .eq rfl ?_|refine .eq (congrArg (λx=>am .i64 x) (ey.symm)) ?_)) (.put (by simp[br]) rfl (.eq rfl aE) (.nil _))⟩
    .refine aN (λhy=>?_) (λhy=>?_)
     .skip
      refine next (1+x) fc (mB hi aE ((Tz x y k fc r).1 hy)) om (λhJ hm=>?_)
      exact⟨(a+(1+x),fc,s+1),hJ,hm,View.o 2 [0] [] (by
       repeat(first|exact .nil|refine .aA ?_|refine .put (.bb (cj om).symm) ?_|refine .eq rfl ?_|refine .eq (congrArg (λx=>am .i64 x) (ex.symm)) ?_)) (.put (by simp[br]) rfl (.eq rfl aE) (.nil _))⟩
     .skip
      refine next (1+y) fc (mB hi aE ((Tz x y k fc r).2 hy)) om (λhJ hm=>?_)
      exact⟨(a+(1+y),fc,s+1),hJ,hm,View.o 2 [0] [] (by
       repeat(first|exact .nil|refine .aA ?_|refine .put (.bb (cj om).symm) ?_|refine .eq rfl ?_|refine .eq (congrArg (λx=>am .i64 x) (ey.symm)) ?_)) (.put (by simp[br]) rfl (.eq rfl aE) (.nil _))⟩
    .refine bx (λhy=>?_) (λhy=>?_)
     .skip
      refine next (1+x) fc (mB hi aE ((TA x y k fc r).1 hy)) om (λhJ hm=>?_)
      exact⟨(a+(1+x),fc,s+1),hJ,hm,View.o 2 [0] [] (by
       repeat(first|exact .nil|refine .aA ?_|refine .put (.bb (cj om).symm) ?_|refine .eq rfl ?_|refine .eq (congrArg (λx=>am .i64 x) (ex.symm)) ?_)) (.put (by simp[br]) rfl (.eq rfl aE) (.nil _))⟩
     .skip
      refine next (1+y) fc (mB hi aE ((TA x y k fc r).2 hy)) om (λhJ hm=>?_)
      exact⟨(a+(1+y),fc,s+1),hJ,hm,View.o 2 [0] [] (by
       repeat(first|exact .nil|refine .aA ?_|refine .put (.bb (cj om).symm) ?_|refine .eq rfl ?_|refine .eq (congrArg (λx=>am .i64 x) (ey.symm)) ?_)) (.put (by simp[br]) rfl (.eq rfl aE) (.nil _))⟩
   .obtain⟨n,rfl⟩:∃n:Nat,k=n:=⟨k.toNat,om⟩;have ex:IntKind.i64.wrap ((a:Int)+IntKind.i64.wrap (1+(n:Int)))=((a+(1+n):Nat):Int):=by rw[iD (n:=1+(n:Int)) om om,iD om om];omega
    refine next (1+n) fc (mB hi aE (by simp[tC])) om (λhJ hm=>?_)
    exact⟨(a+(1+n),fc,s+1),hJ,hm,View.o 2 [0] [] (by
     repeat(first|exact .nil|refine .aA ?_|refine .put (.bb (cj om).symm) ?_|refine .eq rfl ?_|refine .eq (congrArg (λx=>am .i64 x) (ex.symm)) ?_)) (.put (by simp[br]) rfl (.eq rfl aE) (.nil _))⟩
   .have hb:jN p r a fc=(k,1):=KZ hi rfl;rw[hb]at xm wo;show CV.bD [cK k,cK (IntKind.i64.wrap ((s:Int)+1))]=_;rw[<-Vn (s:=s) om];have e2:jN p r 0 0=(k,((s+1:Nat):Int)):=Prod.ext xm.symm (by rw[<-wo];simp only;omega)
    rw[e2];rfl
theorem Vo(p:List dH)(r:Au){m:Mem}{K:CV->Mem->Prop}(h:K (TB (zj p r)) m):ap prog 30 [td p,r.cv] m K:=
 bw func30 l30 rfl (aad rfl) (OV p r) rfl rfl h
def c19:LF:= ⟨116,[.cell true 3 6,.cell true 4 7],(.seq (.ai [qu 4 (.box 1),qu 5 (.box 2),qu 6 (.alloc [.aO,.aO,.aO]),qu 7 (.alloc [qd 0,qd 0,qd 0,.aO])]) (.seq (.block 0 (.seq (.ai [qL 13 3 4,qf 14 0 5,ql 15 14,qu 16 (qc 29 [13,15]),qu 17 (.un .not 16),qm 12 17]) (.cond 12 (.seq (.ai [qL 18 3 4,qu 19 (.build [qd 0,qd 0,qd 0,.aO] [(0,1,qi 6)]),qw (.store 3 6 18),qw (.store 4 7 19)]) .ret) (.seq (.ai [qf 21 1 5,ql 22 21,qu 23 (.aJ .lss 22 (qi 1)),qm 24 23,qg 25 (.b8 1 5) 24 false,qg 26 (.load false 1 25) 24 false,qg 27 (.aJ .gtr 26 (qi 22)) 24 false,qu 28 (.pick 24 (qb true) 27),qm 20 28]) (.cond 20 (.seq (.ai [qL 29 3 4,qu 30 (.build [qd 0,qd 0,qd 0,.aO] [(0,1,qi 1)]),qw (.store 3 6 29),qw (.store 4 7 30)]) .ret) .skip))))) (.cX (.seq (.seq (.ai [qf 31 2 4,ql 32 31,qf 33 0 5,ql 34 33,qu 35 (.cz 4 32 34),qf 36 1 35,ql 37 36]) (.cond 37 (.seq (.ai [qm 39 0,qL 40 9 5,qu 41 (qc 31 [40]),qu 42 (qc 30 [39,41]),qm 38 42,qu 43 (.ext 38 0),qu 44 (.ext 38 1),qm 8 43,qm 9 44]) (.seq (.ai [qm 45 8,qu 46 (.aJ .neq 45 (qi 1)),qm 47 46,qg 48 (.b8 1 5) 47 false,qg 49 (.load false 1 48) 47 false,qg 50 (.aJ .eql 49 (qi 2)) 47 false,qu 51 (.pick 47 (qb true) 50)]) (.cond 51 (.seq (.ai [qL 52 3 4,qu 53 (.build [qd 0,qd 0,qd 0,.aO] [(0,1,qi 9)]),qw (.store 3 6 52),qw (.store 4 7 53)]) .ret) .skip))) .skip)) (.cX (.seq (.ai [qL 54 3 4,qf 55 0 5,ql 56 55,qu 57 (.build [.aO,.aO,.aO,qd 0] [(0,3,54),(3,1,56)]),qu 58 (.box 57),qm 10 58]) (.seq (.ai [qu 11 (.alloc [qd 0,qd 0,qd 0,.aO])]) (.seq (.seq (.ai [qf 59 1 5,ql 60 59]) (.block 1 (.seq (.seq (.ai [qu 64 (.aJ .eql 60 (qi 2)),qm 63 64]) (.cond 63 .skip (.ai [qu 65 (.aJ .eql 60 (qi 3)),qm 63 65]))) (.cond 63 (.ai [qm 66 10,qu 67 (qc 32 [66,5]),qw (.store 4 11 67)]) (.seq (.seq (.ai [qu 69 (.aJ .eql 60 (qi 4)),qm 68 69]) (.cond 68 .skip (.seq (.ai [qu 70 (.aJ .eql 60 (qi 5)),qm 68 70]) (.cond 68 .skip (.ai [qu 71 (.aJ .eql 60 (qi 6)),qm 68 71]))))) (.cond 68 (.ai [qm 72 10,qu 73 (qc 33 [72,5]),qw (.store 4 11 73)]) (.seq (.seq (.ai [qu 75 (.aJ .eql 60 (qi 7)),qm 74 75]) (.cond 74 .skip (.seq (.ai [qu 76 (.aJ .eql 60 (qi 8)),qm 74 76]) (.cond 74 .skip (.ai [qu 77 (.aJ .eql 60 (qi 9)),qm 74 77]))))) (.cond 74 (.ai [qm 78 10,qu 79 (qc 34 [78,5]),qw (.store 4 11 79)]) (.seq (.seq (.ai [qu 81 (.aJ .eql 60 (qi 10)),qm 80 81]) (.cond 80 .skip (.ai [qu 82 (.aJ .eql 60 (qi 11)),qm 80 82]))) (.cond 80 (.ai [qm 83 10,qu 84 (qc 35 [83,5]),qw (.store 4 11 84)]) (.seq (.seq (.ai [qu 86 (.aJ .eql 60 (qi 12)),qm 85 86]) (.cond 85 .skip (.seq (.ai [qu 87 (.aJ .eql 60 (qi 13)),qm 85 87]) (.cond 85 .skip (.ai [qu 88 (.aJ .eql 60 (qi 14)),qm 85 88]))))) (.cond 85 (.ai [qm 89 10,qu 90 (qc 36 [89,5]),qw (.store 4 11 90)]) (.seq (.ai [qu 92 (.aJ .eql 60 (qi 15)),qm 91 92]) (.cond 91 (.ai [qm 93 10,qu 94 (qc 37 [93]),qw (.store 4 11 94)]) (.seq (.ai [qu 96 (.aJ .eql 60 (qi 16)),qm 95 96]) (.cond 95 (.ai [qm 97 10,qu 98 (qc 38 [97,5]),qw (.store 4 11 98)]) (.seq (.ai [qu 100 (.aJ .eql 60 (qi 17)),qm 99 100]) (.cond 99 (.ai [qm 101 10,qu 102 (qc 39 [101,5]),qw (.store 4 11 102)]) (.ai [qm 61 10,qu 62 (qc 40 [61,5]),qw (.store 4 11 62)]))))))))))))))))))) (.cX (.seq (.seq (.ai [qf 103 0 11,ql 104 103,qu 105 (.aJ .neq 104 (qi 0))]) (.cond 105 (.seq (.bV [qL 106 3 4,qf 107 0 11,ql 108 107,qu 109 (.build [qd 0,qd 0,qd 0,.aO] [(0,1,108)]),qw (.store 3 6 106),qw (.store 4 7 109)] [(eK 4 0 (.cons 4 (some [2]) (.cons 5 (some []) .nil)))]) .ret) .skip)) (.seq (.bV [qm 110 10,qu 111 (.aP 110),qf 112 0 111,qL 113 3 112,qu 114 (qc 41 [113]),qL 115 4 11,qw (.store 3 6 114),qw (.store 4 7 115)] [(eK 4 0 (.cons 5 none (.cons 4 (some [5]) (.cons 6 (some [5]) (.cons 7 (some []) .nil)))))]) .ret)))))))))))⟩
def c31:LF:= ⟨22,[.cell true 6 2],(.seq (.ai [qu 1 (.box 0),qu 2 (.alloc [qd 0,qd 0,qd 0,qd 0,qd 0,qd 0])]) (.seq (.ai [qf 3 1 1,ql 4 3,qu 5 (.aJ .and 4 (qi 2147483647)),qf 6 2 1,ql 7 6,qu 8 (.aJ .and 7 (qi 2147483647)),qf 9 3 1,ql 10 9,qu 11 (.aJ .and 10 (qi 2147483647)),qf 12 4 1,ql 13 12,qu 14 (.aJ .and 13 (qi 2147483647)),qf 15 5 1,ql 16 15,qu 17 (.aJ .and 16 (qi 2147483647)),qf 18 6 1,ql 19 18,qu 20 (.aJ .and 19 (qi 2147483647)),qu 21 (.build [qd 0,qd 0,qd 0,qd 0,qd 0,qd 0] [(0,1,5),(1,1,8),(2,1,11),(3,1,14),(4,1,17),(5,1,20)]),qw (.store 6 2 21)]) .ret))⟩
namespace Kn
def tF(a:Int):Int:=l7 a 2147483647
def n9(c:Cl):Au:=⟨tF c.ag,tF c.fd,tF c.fE,tF c.n,tF c.bA,tF c.aW⟩
def eJ(k:Kr)(p:Nat)(c:Cl):Kr×An:=
 if c.ag=2\/c.ag=3 then fx k p c
 else if c.ag=4\/c.ag=5\/c.ag=6 then gg k p c
 else if c.ag=7\/c.ag=8\/c.ag=9 then iI k p c
 else if c.ag=10\/c.ag=11 then lK k p c
 else if c.ag=12\/c.ag=13\/c.ag=14 then iJ k p c
 else if c.ag=15 then gW k p
 else if c.ag=16 then gF k p c
 else if c.ag=17 then fN k p c
 else dP k p c
def P8(k:Kr)(x:Kr×An):Kr×An:=if x.2.eS≠0 then(k,An.no x.2.eS)else(eB x.1,x.2)
def iz(prog:List dH)(k:Kr)(c:Cl):Kr×An:=
 if fL k.ps c.ba=false then(k,An.no 6)
 else if c.ag<1\/c.ag>22 then(k,An.no 1)
 else if k6 k.ps c.ba.toNat=true/\((zj prog (n9 c)).1≠1\/c.ag=2)then(k,An.no 9)
 else P8 k (eJ k c.ba.toNat c)
structure OW(k:Kr)(p:Nat)(c:Cl):Prop where
 w:KW k p
 op:∀aq ax,GO k p c (gV k aq c.cE ax true)
 pr:Vh k p (fD k.l)
 q:∀o,o∈k.l->o.ag=5->∃n:Nat,o.ba=n/\n<k.ps.length
 gQ:(eJ k p c).2.eS=0->dN (eJ k p c).1.l (eJ k p c).1.ops (eJ k p c).1.ps
theorem l31:bz prog f31=some c31:=by kernel_rfl
theorem K3(c:Cl){m:Mem}{K:CV->Mem->Prop}(h:K (n9 c).cv m):ap prog 31 [c.cv] m K:=
 bw func31 l31 rfl (aad rfl) (show body prog c31 [c.cv] [] (λr m=>r=(n9 c).cv)from rfl) rfl rfl h
theorem l19:bz prog f19=some c19.er:=by kernel_rfl
def acK:LC:=bN (bN c19.code)
def YM:LC:=rf acK
def acL:LC:=bN YM
def YN:LC:=rf acL
def YO:LC:=bN (bN (bN YN))
def YP:LC:=rf YO
def Wl(x:Kr×An):CV:= .bD [ke x.1,x.2.rv]
def QD(x:Kr×An):Ex->St->Prop:=oO prog c19.l8 (λr m=>cV m r (Wl x))
def z3B:Bk:= .var [.aO,.aO,.aO]
theorem Aw{m:Mem}{k:Kr}{e n x:Int}:cV m (.bD [ke k,.agg [.ah (.val (.int .i64 e)),.ah (.val (.int .i64 n)),.ah (.val (.int .i64 x)),.aO]]) (Wl (k,⟨e,n,x,[]⟩)):=by
 refine .bD rfl λi r r' h1 h2=>?_
 match i,h1,h2 with
 |0,h1,h2=>cases h1;cases h2;exact fu.self rfl
 |1,h1,h2=>
  cases h1;cases h2;refine .agg rfl λi c c' h1 h2=>?_
  match i,h1,h2 with
  |0,h1,h2=>cases h1;cases h2;exact .self rfl
  |1,h1,h2=>cases h1;cases h2;exact .self rfl
  |2,h1,h2=>cases h1;cases h2;exact .self rfl
  |3,h1,h2=>cases h1;cases h2;exact .aO 1
  |n+4,h1,h2=>simp at h1
 |n+2,h1,h2=>simp at h1
theorem Ru(k:Kr)(p:Nat)(c:Cl)(x:Kr×An)(hx:x.2.eS=0->dN x.1.l x.1.ops x.1.ps):
  aw prog 0 YP (QD (P8 k x))
   ⟨kS 116 [(4,.rv (.one (.ptr 0 0))),(6,.rv (.one (.ptr 1 0))),(7,.rv (.one (.ptr 2 0))),(10,.rv (.one (.ptr 3 0))),(11,.rv (.one (.ptr 4 0)))],[kB k,z3B,je,xB x.1 p,.var (x.2.enc.map .ah)]⟩:=by
 obtain⟨k',⟨eS,n,mm,data⟩⟩:=x;refine bx (λhe=>?_) (λhe=>?_)
 .have he:eS≠0:=he;rw[P8,if_pos he];refine⟨⟨rfl,trivial⟩,trivial,?_⟩;exact Aw
 .have he:eS=0:=he;subst he;rw[P8,if_neg aE];refine Ke k' (hx rfl) ?_;refine⟨⟨rfl,trivial⟩,⟨rfl,trivial⟩,trivial,?_⟩;exact cV.self rfl
theorem Vp(k:Kr)(p:Nat)(bY:p<k.ps.length)(c:Cl)(hc:c.ba=p)(hk:¬(c.ag<1\/c.ag>22))(hi:OW k p c)(hd:c.data.length<=4194304):
  aw prog 0 YN (QD (P8 k (eJ k p c)))
   ⟨kS 116 [(4,.rv (.one (.ptr 0 0))),(5,.rv (.one (.ptr 1 0))),(6,.rv (.one (.ptr 2 0))),(7,.rv (.one (.ptr 3 0)))],[kB k,cB c,z3B,je]⟩:=by
 have hs:=λ(x:Kr×An)(h:eJ k p c=x)=>Ru k p c x (by rw[<-h];exact hi.gQ)
 obtain⟨ba,ag,fd,fE,n,bA,aW,cE,data⟩:=c;have hc:ba=(p:Nat):=hc;subst hc;have hr:ag=1\/ag=2\/ag=3\/ag=4\/ag=5\/ag=6\/ag=7\/ag=8\/ag=9\/ag=10\/ag=11\/ag=12\/ag=13\/ag=14\/ag=15\/ag=16\/ag=17\/ag=18\/ag=19\/ag=20\/ag=21\/ag=22:=by have hk:¬(ag<1\/ag>22):=hk;omega
 rcases hr with h|h|h|h|h|h|h|h|h|h|h|h|h|h|h|h|h|h|h|h|h|h
 .subst h;have dA:eJ k p ⟨(p:Nat),1,fd,fE,n,bA,aW,cE,data⟩=dP k p ⟨(p:Nat),1,fd,fE,n,bA,aW,cE,data⟩:=by rw[eJ,if_neg aE,if_neg aE,if_neg aE,if_neg aE,if_neg aE,if_neg aE,if_neg aE,if_neg aE]
  rw[dA];refine dX (jM k p hi.w _ (by simp[rA]) hi.q) 4 1 rfl rfl rfl rfl ?_
  refine⟨_,View.o1 6 [0,2,3,4,5] [] ?_,hs _ dA⟩
  .exact .au
 .subst h;have dA:eJ k p ⟨(p:Nat),2,fd,fE,n,bA,aW,cE,data⟩=fx k p ⟨(p:Nat),2,fd,fE,n,bA,aW,cE,data⟩:=by rw[eJ,if_pos aE]
  rw[dA];refine dX (Ar k p hi.w _ hi.op) 4 1 rfl rfl rfl rfl ?_;refine⟨_,View.o1 6 [0,2,3,4,5] [] ?_,hs _ dA⟩
  .exact .au
 .subst h;have dA:eJ k p ⟨(p:Nat),3,fd,fE,n,bA,aW,cE,data⟩=fx k p ⟨(p:Nat),3,fd,fE,n,bA,aW,cE,data⟩:=by rw[eJ,if_pos aE]
  rw[dA];refine dX (Ar k p hi.w _ hi.op) 4 1 rfl rfl rfl rfl ?_;refine⟨_,View.o1 6 [0,2,3,4,5] [] ?_,hs _ dA⟩
  .exact .au
 .subst h;have dA:eJ k p ⟨(p:Nat),4,fd,fE,n,bA,aW,cE,data⟩=gg k p ⟨(p:Nat),4,fd,fE,n,bA,aW,cE,data⟩:=by rw[eJ,if_neg aE,if_pos aE]
  rw[dA];refine dX (ry k p hi.w _ (.inl rfl) hd) 4 1 rfl rfl rfl rfl ?_;refine⟨_,View.o1 6 [0,2,3,4,5] [] ?_,hs _ dA⟩
  .exact .au
 .subst h;have dA:eJ k p ⟨(p:Nat),5,fd,fE,n,bA,aW,cE,data⟩=gg k p ⟨(p:Nat),5,fd,fE,n,bA,aW,cE,data⟩:=by rw[eJ,if_neg aE,if_pos aE]
  rw[dA];refine dX (ry k p hi.w _ (.inr (.inl rfl)) hd) 4 1 rfl rfl rfl rfl ?_;refine⟨_,View.o1 6 [0,2,3,4,5] [] ?_,hs _ dA⟩
  .exact .au
 .subst h;have dA:eJ k p ⟨(p:Nat),6,fd,fE,n,bA,aW,cE,data⟩=gg k p ⟨(p:Nat),6,fd,fE,n,bA,aW,cE,data⟩:=by rw[eJ,if_neg aE,if_pos aE]
  rw[dA];refine dX (ry k p hi.w _ (.inr (.inr rfl)) hd) 4 1 rfl rfl rfl rfl ?_;refine⟨_,View.o1 6 [0,2,3,4,5] [] ?_,hs _ dA⟩
  .exact .au
 .subst h;have dA:eJ k p ⟨(p:Nat),7,fd,fE,n,bA,aW,cE,data⟩=iI k p ⟨(p:Nat),7,fd,fE,n,bA,aW,cE,data⟩:=by rw[eJ,if_neg aE,if_neg aE,if_pos aE]
  rw[dA];refine dX (uy k p hi.w _) 4 1 rfl rfl rfl rfl ?_;refine⟨_,View.o1 6 [0,2,3,4,5] [] ?_,hs _ dA⟩
  .exact .au
 .subst h;have dA:eJ k p ⟨(p:Nat),8,fd,fE,n,bA,aW,cE,data⟩=iI k p ⟨(p:Nat),8,fd,fE,n,bA,aW,cE,data⟩:=by rw[eJ,if_neg aE,if_neg aE,if_pos aE]
  rw[dA];refine dX (uy k p hi.w _) 4 1 rfl rfl rfl rfl ?_;refine⟨_,View.o1 6 [0,2,3,4,5] [] ?_,hs _ dA⟩
  .exact .au
 .subst h;have dA:eJ k p ⟨(p:Nat),9,fd,fE,n,bA,aW,cE,data⟩=iI k p ⟨(p:Nat),9,fd,fE,n,bA,aW,cE,data⟩:=by rw[eJ,if_neg aE,if_neg aE,if_pos aE]
  rw[dA];refine dX (uy k p hi.w _) 4 1 rfl rfl rfl rfl ?_;refine⟨_,View.o1 6 [0,2,3,4,5] [] ?_,hs _ dA⟩
  .exact .au
 .subst h;have dA:eJ k p ⟨(p:Nat),10,fd,fE,n,bA,aW,cE,data⟩=lK k p ⟨(p:Nat),10,fd,fE,n,bA,aW,cE,data⟩:=by rw[eJ,if_neg aE,if_neg aE,if_neg aE,if_pos aE]
  rw[dA];refine dX (yf k p hi.w _) 4 1 rfl rfl rfl rfl ?_;refine⟨_,View.o1 6 [0,2,3,4,5] [] ?_,hs _ dA⟩
  .exact .au
 .subst h;have dA:eJ k p ⟨(p:Nat),11,fd,fE,n,bA,aW,cE,data⟩=lK k p ⟨(p:Nat),11,fd,fE,n,bA,aW,cE,data⟩:=by rw[eJ,if_neg aE,if_neg aE,if_neg aE,if_pos aE]
  rw[dA];refine dX (yf k p hi.w _) 4 1 rfl rfl rfl rfl ?_;refine⟨_,View.o1 6 [0,2,3,4,5] [] ?_,hs _ dA⟩
  .exact .au
 .subst h;have dA:eJ k p ⟨(p:Nat),12,fd,fE,n,bA,aW,cE,data⟩=iJ k p ⟨(p:Nat),12,fd,fE,n,bA,aW,cE,data⟩:=by rw[eJ,if_neg aE,if_neg aE,if_neg aE,if_neg aE,if_pos aE]
  rw[dA];refine dX (uz k p hi.w _) 4 1 rfl rfl rfl rfl ?_;refine⟨_,View.o1 6 [0,2,3,4,5] [] ?_,hs _ dA⟩
  .exact .au
 .subst h;have dA:eJ k p ⟨(p:Nat),13,fd,fE,n,bA,aW,cE,data⟩=iJ k p ⟨(p:Nat),13,fd,fE,n,bA,aW,cE,data⟩:=by rw[eJ,if_neg aE,if_neg aE,if_neg aE,if_neg aE,if_pos aE]
  rw[dA];refine dX (uz k p hi.w _) 4 1 rfl rfl rfl rfl ?_;refine⟨_,View.o1 6 [0,2,3,4,5] [] ?_,hs _ dA⟩
  .exact .au
 .subst h;have dA:eJ k p ⟨(p:Nat),14,fd,fE,n,bA,aW,cE,data⟩=iJ k p ⟨(p:Nat),14,fd,fE,n,bA,aW,cE,data⟩:=by rw[eJ,if_neg aE,if_neg aE,if_neg aE,if_neg aE,if_pos aE]
  rw[dA];refine dX (uz k p hi.w _) 4 1 rfl rfl rfl rfl ?_;refine⟨_,View.o1 6 [0,2,3,4,5] [] ?_,hs _ dA⟩
  .exact .au
 .subst h;have dA:eJ k p ⟨(p:Nat),15,fd,fE,n,bA,aW,cE,data⟩=gW k p:=by rw[eJ,if_neg aE,if_neg aE,if_neg aE,if_neg aE,if_neg aE,if_pos aE]
  rw[dA];refine OS k p hi.w hi.pr 4 rfl ?_;refine⟨_,View.o1 6 [0,2,3,4,5] [] ?_,hs _ dA⟩
  .exact .au
 .subst h;have dA:eJ k p ⟨(p:Nat),16,fd,fE,n,bA,aW,cE,data⟩=gF k p ⟨(p:Nat),16,fd,fE,n,bA,aW,cE,data⟩:=by rw[eJ,if_neg aE,if_neg aE,if_neg aE,if_neg aE,if_neg aE,if_neg aE,if_pos aE]
  rw[dA];refine dX (KV k p hi.w _ hd) 4 1 rfl rfl rfl rfl ?_;refine⟨_,View.o1 6 [0,2,3,4,5] [] ?_,hs _ dA⟩
  .exact .au
 .subst h;have dA:eJ k p ⟨(p:Nat),17,fd,fE,n,bA,aW,cE,data⟩=fN k p ⟨(p:Nat),17,fd,fE,n,bA,aW,cE,data⟩:=by rw[eJ,if_neg aE,if_neg aE,if_neg aE,if_neg aE,if_neg aE,if_neg aE,if_neg aE,if_pos aE]
  rw[dA];refine dX (KX k p hi.w _) 4 1 rfl rfl rfl rfl ?_;refine⟨_,View.o1 6 [0,2,3,4,5] [] ?_,hs _ dA⟩
  .exact .au
 .subst h;have dA:eJ k p ⟨(p:Nat),18,fd,fE,n,bA,aW,cE,data⟩=dP k p ⟨(p:Nat),18,fd,fE,n,bA,aW,cE,data⟩:=by rw[eJ,if_neg aE,if_neg aE,if_neg aE,if_neg aE,if_neg aE,if_neg aE,if_neg aE,if_neg aE]
  rw[dA];refine dX (jM k p hi.w _ (by simp[rA]) hi.q) 4 1 rfl rfl rfl rfl ?_
  refine⟨_,View.o1 6 [0,2,3,4,5] [] ?_,hs _ dA⟩
  .exact .au
 .subst h;have dA:eJ k p ⟨(p:Nat),19,fd,fE,n,bA,aW,cE,data⟩=dP k p ⟨(p:Nat),19,fd,fE,n,bA,aW,cE,data⟩:=by rw[eJ,if_neg aE,if_neg aE,if_neg aE,if_neg aE,if_neg aE,if_neg aE,if_neg aE,if_neg aE]
  rw[dA];refine dX (jM k p hi.w _ (by simp[rA]) hi.q) 4 1 rfl rfl rfl rfl ?_
  refine⟨_,View.o1 6 [0,2,3,4,5] [] ?_,hs _ dA⟩
  .exact .au
 .subst h;have dA:eJ k p ⟨(p:Nat),20,fd,fE,n,bA,aW,cE,data⟩=dP k p ⟨(p:Nat),20,fd,fE,n,bA,aW,cE,data⟩:=by rw[eJ,if_neg aE,if_neg aE,if_neg aE,if_neg aE,if_neg aE,if_neg aE,if_neg aE,if_neg aE]
  rw[dA];refine dX (jM k p hi.w _ (by simp[rA]) hi.q) 4 1 rfl rfl rfl rfl ?_
  refine⟨_,View.o1 6 [0,2,3,4,5] [] ?_,hs _ dA⟩
  .exact .au
 .subst h;have dA:eJ k p ⟨(p:Nat),21,fd,fE,n,bA,aW,cE,data⟩=dP k p ⟨(p:Nat),21,fd,fE,n,bA,aW,cE,data⟩:=by rw[eJ,if_neg aE,if_neg aE,if_neg aE,if_neg aE,if_neg aE,if_neg aE,if_neg aE,if_neg aE]
  rw[dA];refine dX (jM k p hi.w _ (by simp[rA]) hi.q) 4 1 rfl rfl rfl rfl ?_
  refine⟨_,View.o1 6 [0,2,3,4,5] [] ?_,hs _ dA⟩
  .exact .au
 .subst h;have dA:eJ k p ⟨(p:Nat),22,fd,fE,n,bA,aW,cE,data⟩=dP k p ⟨(p:Nat),22,fd,fE,n,bA,aW,cE,data⟩:=by rw[eJ,if_neg aE,if_neg aE,if_neg aE,if_neg aE,if_neg aE,if_neg aE,if_neg aE,if_neg aE]
  rw[dA];refine dX (jM k p hi.w _ (by simp[rA]) hi.q) 4 1 rfl rfl rfl rfl ?_
  refine⟨_,View.o1 6 [0,2,3,4,5] [] ?_,hs _ dA⟩
  .exact .au
theorem Vq(prog:List dH)(k:Kr)(p:Nat)(hp:p<k.ps.length)(c:Cl)(hc:c.ba=p)(hk:¬(c.ag<1\/c.ag>22))(hi:OW k p c)(hd:c.data.length<=4194304)(R:Kr×An)(hR:R=if k6 k.ps p=true/\((zj prog (n9 c)).1≠1\/c.ag=2)then(k,An.no 9)else P8 k (eJ k p c)):
  aw Tryz.prog 0 YM (QD R)
   ⟨kS 116 [(0,td prog),(4,.rv (.one (.ptr 0 0))),(5,.rv (.one (.ptr 1 0))),(6,.rv (.one (.ptr 2 0))),(7,.rv (.one (.ptr 3 0)))],[kB k,cB c,z3B,je]⟩:=by
 have hs:=Vp k p hp c hc hk hi hd;have hf:k6 k.ps p=k.ps[p].fenced:=by rw[k6,vU hp]
 refine af (x:=[.val (.bool k.ps[p].aL),.val (.bool k.ps[p].fenced),.val (.int .i64 k.ps[p].code),ze k.ps[p].aQ]) (by rw[hc];exact dG hp) ?_
 rw[hf]at hR;generalize k.ps[p].fenced=YQ at hR;cases YQ with
 |false=>
  rw[if_neg aE]at hR;subst hR;refine⟨_,View.o1 4 [0,1,2,3] [] ?_,hs⟩
  .exact .au
 |true=>
  refine K3 c ?_;refine Vo prog (n9 c) ?_;generalize zj prog (n9 c)=rr at hR;obtain⟨n,st⟩:=rr;refine bx (λhn=>?_) (λhn=>?_)
  .have hn:n≠1:=hn;rw[if_pos ⟨rfl,.inl hn⟩]at hR;subst hR;exact Aw
  have hn:¬n≠1:=λh=>h hn
  refine bs (λh2=>?_) (λh2=>?_)
  .have h2:c.ag=2:=h2;rw[if_pos ⟨rfl,.inr h2⟩]at hR;subst hR;exact Aw
  have h2:¬c.ag=2:=h2;rw[if_neg (λh=>h.2.elim hn h2)]at hR
  subst hR;refine⟨_,View.o1 4 [0,1,2,3] [] ?_,hs⟩
  .exact .au
theorem Rw(prog:List dH)(k:Kr)(c:Cl)(hi:∀(p:Nat)(hp:p<k.ps.length),c.ba=p->k.ps[p].aL=true->OW k p c)(hd:c.data.length<=4194304):
  body Tryz.prog c19 [td prog,eI k.l k.ops k.ps,c.cv] [] (λr m=>cV m r (Wl (iz prog k c))):=by
 refine pg k.l k.ops k.ps c.ba ?_;cases hl:fL k.ps c.ba with
 |false=>
  rw[iz,if_pos hl];exact Aw
 |true=>
  obtain⟨p,hc,hp,bC⟩:=ph hl;have e0:iz prog k c=if c.ag<1\/c.ag>22 then(k,An.no 1)
   else if k6 k.ps p=true/\((zj prog (n9 c)).1≠1\/c.ag=2)then(k,An.no 9)else P8 k (eJ k p c):=by
   rw[iz,if_neg (by rw[hl];simp),hc,Y6]
  rw[e0];refine aN (λh1=>?_) (λh1=>?_)
  .have h1:c.ag<1:=h1;rw[if_pos (.inl h1)];exact Aw
  have h1:¬c.ag<1:=h1;refine aN (λh2=>?_) (λh2=>?_)
  .have h2:c.ag>22:=h2;rw[if_pos (.inr h2)];exact Aw
  have h2:¬c.ag>22:=h2;rw[if_neg om];refine⟨_,View.o1 4 [0,1,2,3] [] ?_,Vq prog k p hp c hc om (hi p hp hc bC) hd _ rfl⟩
  .exact .au
theorem YR(prog:List dH)(k:Kr)(c:Cl)(hi:∀(p:Nat)(hp:p<k.ps.length),c.ba=p->k.ps[p].aL=true->OW k p c)(hd:c.data.length<=4194304){m:Mem}{K:CV->Mem->Prop}(h:K (Wl (iz prog k c)) m):
  ap Tryz.prog 19 [td prog,eI k.l k.ops k.ps,c.cv] m K:=
 bh (ct func19 l19 (Rw prog k c hi hd)) (by simp[eI,dm,ff,gG,td,Cl.cv,Cl.enc,CV.dB,CC.dB,RV.dB]) λr m1 hf=>⟨_,hf,h⟩
end Kn
end Go.Proofs.YtodckkkbiidffaaGreatDoor
