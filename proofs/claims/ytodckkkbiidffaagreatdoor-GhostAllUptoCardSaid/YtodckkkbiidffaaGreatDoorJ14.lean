/- Part 14 of 16. -/
import Derived.Test.YtodckkkbiidffaaGreatDoorJ11
import Derived.Test.YtodckkkbiidffaaGreatDoorJ12
import Derived.Test.YtodckkkbiidffaaGreatDoorJ13
set_option linter.unusedVariables false
set_option linter.unusedSimpArgs false
set_option maxRecDepth 100000
set_option maxHeartbeats 0
namespace Go.Proofs.YtodckkkbiidffaaGreatDoor
open Proofs.Tryz
open Go.AM Go.ChangeShapes Go.WideShapes Go.ChangeAt Go.RowKit
structure xW(l:List Obj):Prop where
 oD:l9 l
 en:∀o,o∈l->∃es:List NE,o.ak=es.map gl/\FV es/\es.length<=4194304/\∀e,e∈es->0<=e.2/\e.2<(l.length:Int)
def Ov(R:List Obj×Int)(r:CV)(m:Mem):Prop:=∃r' m',View 0 ⟨[r],m⟩ ⟨[r'],m'⟩/\r'= .bx [nr R.1,cG R.2]/\m'=[]
theorem gM{R:List Obj×Int}{m:Mem}(e:Int)(h:R=([],e)):Ov R (.bx [.one .aM,cG e]) m:=by subst h;refine⟨_,_,View.of m.length [] [] rfl rfl rfl rfl rfl rfl (.put (Yt (.one (.fT (.aM 9))) (.one (.bh (.ah _)))) .nil) (.nil _),rfl,rfl⟩
theorem sY{l:List Obj}{n p:Nat}(hn:n<l.length)(hp:p<l.length){name:ByteArray}{E:List (List Dt)}(hE:E=(iZ (name,(p:Int)) (l[n].ak.map ou)).map gl){q:Obj}(hq:q={l[p]with am:=IntKind.i64.wrap (l[p].am+1),up:=if l[p].ag=2 then(n:Int)else l[p].up}):
  ∃o2,(l.set p q)[n]? =some o2/\(l.set p q).set n {o2 with ak:=E}=ke l n p name:=by
 subst hE;unfold ke;rw[vR hn];simp only[];by_cases h:p=n
 .subst h;rw[TK hn,TK hn];refine⟨_,rfl,?_⟩;simp only[ade];subst hq;rfl
 .rw[U9 h,vR hn,U9 (λe=>h e.symm),vR hp]
  refine⟨_,rfl,?_⟩;simp only[];rw[List.set_comm _ _ h,<-hq]
theorem DW(l:List Obj)(hs:xW l)(cL bp:Int)(name:ByteArray)(b:Bool)(hN:∀{m:Mem}{K:CV->Mem->Prop},K (aF b) m->aq prog 106 [fe name] m K):
  body prog c112 [cC l,an .i64 cL,fe name,an .i64 bp] [] (Ov (cQ b l cL name bp)):=by
 have hE:∀R,R=cQ b l cL name bp->body prog c112 [cC l,an .i64 cL,fe name,an .i64 bp] [] (Ov R)->body prog c112 [cC l,an .i64 cL,fe name,an .i64 bp] [] (Ov (cQ b l cL name bp)):=λR h h2=>h▸h2
 refine aP (λh1=>?_) (λh1=>?_)
 .exact gM 6 (by unfold cQ;rw[xS h1];rfl)
 obtain⟨n,rfl⟩:∃n:Nat,cL=n:=⟨cL.toNat,by have h1:¬cL<0:=h1;omega⟩
 refine aP (λh2=>?_) (λh2=>?_)
 .have h2:(n:Int)>=((l.map Obj.enc).length:Int):=h2;rw[N7]at h2;exact gM 6 (by unfold cQ;rw[xT h2];rfl)
 have h2:¬(n:Int)>=((l.map Obj.enc).length:Int):=h2;rw[N7]at h2;have hn:n<l.length:=om;have P7:=jc hn;refine af P7 ?_;refine bu (λh3=>?_) (λh3=>?_)
 .exact gM 6 (by unfold cQ;rw[xU hn h3];rfl)
 have h3:l[n].ag≠0:=h3;have d1:=xV hn h3;refine aP (λh4=>?_) (λh4=>?_)
 .exact gM 6 (by unfold cQ;rw[d1,xS h4];rfl)
 obtain⟨p,rfl⟩:∃p:Nat,bp=p:=⟨bp.toNat,by have h4:¬bp<0:=h4;omega⟩
 refine aP (λh5=>?_) (λh5=>?_)
 .have h5:(p:Int)>=((l.map Obj.enc).length:Int):=h5;rw[N7]at h5;exact gM 6 (by unfold cQ;rw[d1,xT h5];rfl)
 have h5:¬(p:Int)>=((l.map Obj.enc).length:Int):=h5;rw[N7]at h5;have hp:p<l.length:=om;have hgp:=jc hp;refine af hgp ?_;refine bu (λh6=>?_) (λh6=>?_)
 .exact gM 6 (by unfold cQ;rw[d1,xU hp h6];rfl)
 have h6:l[p].ag≠0:=h6;have d2:=xV hp h6;have hR:cQ b l n name p=Af b l[n] (ke l n p name) name:=by unfold cQ;rw[if_pos d1,if_pos d2,ZW,ZW,vR hn]
 rw[hR];unfold Af;refine af P7 ?_;refine bv (λh7=>?_) (λh7=>?_)
 .exact gM 11 (if_pos h7)
 have h7:l[n].ag=2:=by simpa using h7
 rw[if_neg (by rw[h7];simp)]
 refine af P7 ?_;refine bu (λh8=>?_) (λh8=>?_)
 .exact gM 6 (if_pos h8)
 have h8:l[n].am≠0:=h8;rw[if_neg h8];refine hN ?_;cases b with
 |false=>exact gM 7 (if_pos rfl)
 |true=>
 rw[if_neg aC];obtain⟨es,he,BJ,Rr,cJ⟩:=hs.en _ (aay hn);have Ty:l[n].ak.map ou=es:=by rw[he,nV]
 refine DQ l n hn h7 es he om name ?_;have ZZ:xO l es n name=fW es name:=Ac BJ name;rw[ZZ,Ty];refine aP (λh9=>?_) (λh9=>?_)
 .exact gM 7 (if_pos h9)
 rw[if_neg h9];refine af P7 ?_;refine aP (λVe=>?_) (λVe=>?_)
 .exact gM 15 (if_pos (by have Ve:(l[n].ak.length:Int)>=8:=Ve;omega))
 have Ve:¬(l[n].ak.length:Int)>=8:=Ve;rw[if_neg om];have acd:Bx es name=false:=by
  have h9:¬fW es name>=0:=h9;rw[<-ZZ]at h9;cases hb:Bx es name with
  |false=>rfl
  |true=>
   exfalso;apply h9;unfold xO;rw[if_pos hb];unfold Bx at hb;cases hg:es[rf es name]? with
   |none=>rw[hg]at hb;cases hb
   |some e=>exact(cJ e (Tu hg)).1
 have oC:∀Q,cF (bT n Q 0 l) n=some (dD l[n] (.row Q 2 0 none) l[n].am l[n].up):=λQ=>by rw[aV,gu,vR hn,aa6,aaG,kZ,if_pos rfl]
 have Wd:BH l n l.length= .row 2 (aa (es.map db)):=by
  unfold BH;rw[show Nat.blt n l.length=true by simpa using hn]
  show Bk.row 2 (aa (match l[n]? with|some o=>o.ak|none=>[]))=_
  rw[vR hn];show Bk.row 2 (aa l[n].ak)=_;rw[he];rfl
 have Yv:∀Q,lenOf (bT n Q 0 l).length 0 none=l.length:=λQ=>gq n Q l 0
 have tY:∀Q(k:Nat),k<l.length->d5 (k:Nat) (lenOf (bT n Q 0 l).length 0 none)=some k:=λQ k hk=>cy (by rw[Yv];exact hk)
 refine BI l hs.oD n ?_;rw[Wd];refine af (tY 1 n hn) ?_;refine af (oC 1) ?_;refine UT es om name 139 (λe m K h=>U2 e name h) (id:=1) rfl ?_
 refine af (tY 1 n hn) ?_;refine af (oC 1) ?_;have Us:rf es name<=es.length:=(pw BJ name es.length 0 es.length om om om (λk e hk=>absurd hk (aa9 k)) (λk e hk he=>by have:=(Ki.1 he).1;omega)).1
 refine Kv (es.map db) (db (name,(p:Int))) (rf es name) (by rw[N7];exact Us) (by rw[N7];exact Rr) 1 2 rfl rfl rfl rfl ?_
 refine af (tY 1 n hn) ?_;refine af (oC 1) ?_;have mG:aX (bT n 1 0 l) n (dD l[n] (.row 3 2 0 none) l[n].am l[n].up)=bT n 3 0 l:=by have:=GD (p:=n) (Q:=1) (Q':=3) (vR hn);rw[<-this,kZ,if_pos rfl]
 have Kw:(es.map db).take (rf es name)++db (name,(p:Int))::(es.map db).drop (rf es name)=(iZ (name,(p:Int)) (l[n].ak.map ou)).map gl:=by rw[Ty,U6 BJ acd,abn,aaR,adg,adZ];rfl
 have jL:∀L2:List Obj,L2=ke l n p name->aw prog 0 abX (oR prog c112.me (Ov (ke l n p name,0))) ⟨kT 128 [(10,cC L2)],[]⟩:=λL2 h=>by subst h;exact⟨_,_,View.o 0 [] [] (.eq rfl .nil) (.nil _),rfl,rfl⟩
 by_cases EZ:p=n
 .have Yw:cF (bT n 3 0 l) p=some (dD l[p] (.row 3 2 0 none) l[p].am l[p].up):=by rw[aV,gu,vR hp,aa6,aaG,kZ,if_pos EZ]
  have o7:aX (aX (bT n 1 0 l) n (dD l[n] (.row 3 2 0 none) l[n].am l[n].up)) p (dD l[p] (.row 3 2 0 none) (IntKind.i64.wrap (l[p].am+1)) l[p].up)=bT n 3 0 (l.set p {l[p]with am:=IntKind.i64.wrap (l[p].am+1)}):=by
   rw[mG];have:=pY (p:=n) (Q:=3) (o:={l[p]with am:=IntKind.i64.wrap (l[p].am+1)}) hp
   rw[<-this,kZ,if_pos EZ]
  have eW:∀l2:List Obj,l2.length=l.length->d5 (p:Nat) (lenOf (bT n 3 0 l2).length 0 none)=some p:=λl2 h=>cy (by rw[show lenOf (bT n 3 0 l2).length 0 none=l2.length from gq n 3 l2 0,h];exact hp)
  have rk:cF (aX (aX (bT n 1 0 l) n (dD l[n] (.row 3 2 0 none) l[n].am l[n].up)) p (dD l[p] (.row 3 2 0 none) (IntKind.i64.wrap (l[p].am+1)) l[p].up)) p=some (dD l[p] (.row 3 2 0 none) (IntKind.i64.wrap (l[p].am+1)) l[p].up):=by
   rw[bb,aV,TK (by rw[mG,gq];exact hp)]
  refine af (by rw[mG];exact eW l rfl:d5 (p:Nat) (lenOf (aX (bT n 1 0 l) n (dD l[n] (.row 3 2 0 none) l[n].am l[n].up)).length 0 none)=some p) ?_
  refine af (by rw[mG];exact Yw:cF (aX (bT n 1 0 l) n (dD l[n] (.row 3 2 0 none) l[n].am l[n].up)) p=some (dD l[p] (.row 3 2 0 none) l[p].am l[p].up)) ?_
  refine af (by rw[mG];exact eW l rfl:d5 (p:Nat) (lenOf (aX (bT n 1 0 l) n (dD l[n] (.row 3 2 0 none) l[n].am l[n].up)).length 0 none)=some p) ?_
  refine af (by rw[mG];exact Yw:cF (aX (bT n 1 0 l) n (dD l[n] (.row 3 2 0 none) l[n].am l[n].up)) p=some (dD l[p] (.row 3 2 0 none) l[p].am l[p].up)) ?_
  refine af (by rw[o7];exact eW _ (aaI ..):d5 (p:Nat) (lenOf (aX (aX (bT n 1 0 l) n (dD l[n] (.row 3 2 0 none) l[n].am l[n].up)) p (dD l[p] (.row 3 2 0 none) (IntKind.i64.wrap (l[p].am+1)) l[p].up)).length 0 none)=some p) ?_
  refine af rk ?_;refine bu (λhk=>?_) (λhk=>?_)
  .have hk:l[p].ag=2:=hk;have Ow:aX (aX (aX (bT n 1 0 l) n (dD l[n] (.row 3 2 0 none) l[n].am l[n].up)) p (dD l[p] (.row 3 2 0 none) (IntKind.i64.wrap (l[p].am+1)) l[p].up)) p (dD l[p] (.row 3 2 0 none) (IntKind.i64.wrap (l[p].am+1)) (n:Nat))=bT n 3 0 (l.set p {l[p]with am:=IntKind.i64.wrap (l[p].am+1),up:=(n:Int)}):=by
    rw[o7];have:=pY (p:=n) (Q:=3) (l:=l.set p {l[p]with am:=IntKind.i64.wrap (l[p].am+1)}) (k:=p) (o:={l[p]with am:=IntKind.i64.wrap (l[p].am+1),up:=(n:Int)}) (by rw[aaI];exact hp)
    rw[ade]at this;rw[<-this,kZ,if_pos EZ]
   refine af (by rw[o7];exact eW _ (aaI ..):d5 (p:Nat) (lenOf (aX (aX (bT n 1 0 l) n (dD l[n] (.row 3 2 0 none) l[n].am l[n].up)) p (dD l[p] (.row 3 2 0 none) (IntKind.i64.wrap (l[p].am+1)) l[p].up)).length 0 none)=some p) ?_
   refine af rk ?_;obtain⟨o2,ib,d9⟩:=sY (name:=name) hn hp Kw (q:={l[p]with am:=IntKind.i64.wrap (l[p].am+1),up:=(n:Int)}) (by rw[if_pos hk])
   refine⟨_,View.o 4 [] [0,3] ?_ (.nil _),jL _ d9⟩
   iterate 10 refine .aH ?_
   refine .put (.rv (.one (.fT (p:=none) (Iz (Z:=λk=>bD [0,3] k=true) rfl (by show some (Bk.row 9 _)=some (Bk.row 9 _);congr 1;exact congrArg _ Ow) rfl rfl ib)))) ?_
   repeat(first|exact .nil|refine .aH ?_)
  .have hk:l[p].ag≠2:=hk;obtain⟨o2,ib,d9⟩:=sY (name:=name) hn hp Kw (q:={l[p]with am:=IntKind.i64.wrap (l[p].am+1)}) (by rw[if_neg hk])
   refine⟨_,View.o 4 [] [0,3] ?_ (.nil _),jL _ d9⟩
   iterate 10 refine .aH ?_
   refine .put (.rv (.one (.fT (p:=none) (Iz (Z:=λk=>bD [0,3] k=true) rfl (by show some (Bk.row 9 _)=some (Bk.row 9 _);congr 1;exact congrArg _ o7) rfl rfl ib)))) ?_
   repeat(first|exact .nil|refine .aH ?_)
 .have Yw:cF (bT n 3 0 l) p=some (dD l[p] (.ah (.sl 2 l[p].ak)) l[p].am l[p].up):=by rw[aV,gu,vR hp,aa6,aaG,kZ,if_neg EZ]
  have o7:aX (aX (bT n 1 0 l) n (dD l[n] (.row 3 2 0 none) l[n].am l[n].up)) p (dD l[p] (.ah (.sl 2 l[p].ak)) (IntKind.i64.wrap (l[p].am+1)) l[p].up)=bT n 3 0 (l.set p {l[p]with am:=IntKind.i64.wrap (l[p].am+1)}):=by
   rw[mG];have:=pY (p:=n) (Q:=3) (o:={l[p]with am:=IntKind.i64.wrap (l[p].am+1)}) hp
   rw[<-this,kZ,if_neg EZ]
  have eW:∀l2:List Obj,l2.length=l.length->d5 (p:Nat) (lenOf (bT n 3 0 l2).length 0 none)=some p:=λl2 h=>cy (by rw[show lenOf (bT n 3 0 l2).length 0 none=l2.length from gq n 3 l2 0,h];exact hp)
  have rk:cF (aX (aX (bT n 1 0 l) n (dD l[n] (.row 3 2 0 none) l[n].am l[n].up)) p (dD l[p] (.ah (.sl 2 l[p].ak)) (IntKind.i64.wrap (l[p].am+1)) l[p].up)) p=some (dD l[p] (.ah (.sl 2 l[p].ak)) (IntKind.i64.wrap (l[p].am+1)) l[p].up):=by
   rw[bb,aV,TK (by rw[mG,gq];exact hp)]
  refine af (by rw[mG];exact eW l rfl:d5 (p:Nat) (lenOf (aX (bT n 1 0 l) n (dD l[n] (.row 3 2 0 none) l[n].am l[n].up)).length 0 none)=some p) ?_
  refine af (by rw[mG];exact Yw:cF (aX (bT n 1 0 l) n (dD l[n] (.row 3 2 0 none) l[n].am l[n].up)) p=some (dD l[p] (.ah (.sl 2 l[p].ak)) l[p].am l[p].up)) ?_
  refine af (by rw[mG];exact eW l rfl:d5 (p:Nat) (lenOf (aX (bT n 1 0 l) n (dD l[n] (.row 3 2 0 none) l[n].am l[n].up)).length 0 none)=some p) ?_
  refine af (by rw[mG];exact Yw:cF (aX (bT n 1 0 l) n (dD l[n] (.row 3 2 0 none) l[n].am l[n].up)) p=some (dD l[p] (.ah (.sl 2 l[p].ak)) l[p].am l[p].up)) ?_
  refine af (by rw[o7];exact eW _ (aaI ..):d5 (p:Nat) (lenOf (aX (aX (bT n 1 0 l) n (dD l[n] (.row 3 2 0 none) l[n].am l[n].up)) p (dD l[p] (.ah (.sl 2 l[p].ak)) (IntKind.i64.wrap (l[p].am+1)) l[p].up)).length 0 none)=some p) ?_
  refine af rk ?_;refine bu (λhk=>?_) (λhk=>?_)
  .have hk:l[p].ag=2:=hk;have Ow:aX (aX (aX (bT n 1 0 l) n (dD l[n] (.row 3 2 0 none) l[n].am l[n].up)) p (dD l[p] (.ah (.sl 2 l[p].ak)) (IntKind.i64.wrap (l[p].am+1)) l[p].up)) p (dD l[p] (.ah (.sl 2 l[p].ak)) (IntKind.i64.wrap (l[p].am+1)) (n:Nat))=bT n 3 0 (l.set p {l[p]with am:=IntKind.i64.wrap (l[p].am+1),up:=(n:Int)}):=by
    rw[o7];have:=pY (p:=n) (Q:=3) (l:=l.set p {l[p]with am:=IntKind.i64.wrap (l[p].am+1)}) (k:=p) (o:={l[p]with am:=IntKind.i64.wrap (l[p].am+1),up:=(n:Int)}) (by rw[aaI];exact hp)
    rw[ade]at this;rw[<-this,kZ,if_neg EZ]
   refine af (by rw[o7];exact eW _ (aaI ..):d5 (p:Nat) (lenOf (aX (aX (bT n 1 0 l) n (dD l[n] (.row 3 2 0 none) l[n].am l[n].up)) p (dD l[p] (.ah (.sl 2 l[p].ak)) (IntKind.i64.wrap (l[p].am+1)) l[p].up)).length 0 none)=some p) ?_
   refine af rk ?_;obtain⟨o2,ib,d9⟩:=sY (name:=name) hn hp Kw (q:={l[p]with am:=IntKind.i64.wrap (l[p].am+1),up:=(n:Int)}) (by rw[if_pos hk])
   refine⟨_,View.o 4 [] [0,3] ?_ (.nil _),jL _ d9⟩
   iterate 10 refine .aH ?_
   refine .put (.rv (.one (.fT (p:=none) (Iz (Z:=λk=>bD [0,3] k=true) rfl (by show some (Bk.row 9 _)=some (Bk.row 9 _);congr 1;exact congrArg _ Ow) rfl rfl ib)))) ?_
   repeat(first|exact .nil|refine .aH ?_)
  .have hk:l[p].ag≠2:=hk;obtain⟨o2,ib,d9⟩:=sY (name:=name) hn hp Kw (q:={l[p]with am:=IntKind.i64.wrap (l[p].am+1)}) (by rw[if_neg hk])
   refine⟨_,View.o 4 [] [0,3] ?_ (.nil _),jL _ d9⟩
   iterate 10 refine .aH ?_
   refine .put (.rv (.one (.fT (p:=none) (Iz (Z:=λk=>bD [0,3] k=true) rfl (by show some (Bk.row 9 _)=some (Bk.row 9 _);congr 1;exact congrArg _ o7) rfl rfl ib)))) ?_
   repeat(first|exact .nil|refine .aH ?_)
theorem Kx(l:List Obj)(hs:xW l)(cL bp:Int)(name:ByteArray)(b:Bool)(hN:∀{m:Mem}{K:CV->Mem->Prop},K (aF b) m->aq prog 106 [fe name] m K){m:Mem}{K:CV->Mem->Prop}(h:K (.bx [nr (cQ b l cL name bp).1,cG (cQ b l cL name bp).2]) m):aq prog 112 [cC l,an .i64 cL,fe name,an .i64 bp] m K:=by
 refine bi (K0:=λr m=>r= .bx [nr (cQ b l cL name bp).1,cG (cQ b l cL name bp).2]/\m=[]) (bL (cj func112 l112 (DW l hs cL bp name b hN)) λr m1⟨r',m',hv,h1,h2⟩=>⟨r',m',hv,h1,h2⟩) (by simp[cC,an,fe,CV.dC,CC.dC]) λr m1 hr=>?_
 obtain⟨rfl,rfl⟩:=hr;exact⟨_,cN.self rfl,h⟩
def c28:LF:= ⟨3,[.tmp 0],(.seq (.ai [qu 0 (.aN qe)]) (.seq (.ai [qu 1 (.build [qd 0,.aM,.aM,(.ah (.val (.string ⟨#[]⟩))),qd 0,.aM,qd 0,qd 0,qd 0] [(0,1,qi 2),(7,1,qi 1),(4,1,(qi (-1))),(6,1,(qi (-1)))]),qu 2 (.nI 9 [qd 0,.aM,.aM,(.ah (.val (.string ⟨#[]⟩))),qd 0,.aM,qd 0,qd 0,qd 0] 1 [(0,1)]),qm 0 2]) .ret))⟩
def c68:LF:= ⟨90,[.tmp 6,.tmp 7,.tmp 8],(.seq (.ai [qu 5 (.box 2),qu 6 (.aN qe),qu 7 (.aN (qi 0)),qu 8 (.aN (qi 0))]) (.seq (.seq (.ai [qm 11 1,qu 12 (.aL .lss 11 (qi 0)),qm 13 12,qg 14 (.aN 1) 13 false,qg 15 (.aN 0) 13 false,qg 16 (.len 1 15) 13 false,qg 17 (.aL .geq 14 16) 13 false,qu 18 (.pick 13 (qb true) 17),qm 19 18,qg 20 (.aN 0) 19 false,qg 21 (.aN 1) 19 false,qg 22 (.cw 9 20 21) 19 false,qg 23 (.bY 0 22) 19 false,qg 24 (.load false 1 23) 19 false,qg 25 (.aL .eql 24 (qi 0)) 19 false,qu 26 (.pick 19 (qb true) 25)]) (.cond 26 (.seq (.ai [qu 6 (.aN qe),qu 7 (.aN (qi 0)),qu 8 (.aN (qi 6))]) .ret) .skip)) (.seq (.seq (.ai [qm 27 0,qm 28 1,qu 29 (.cw 9 27 28),qf 30 0 29,ql 31 30,qu 32 (.aL .neq 31 (qi 2))]) (.cond 32 (.seq (.ai [qu 6 (.aN qe),qu 7 (.aN (qi 0)),qu 8 (.aN (qi 11))]) .ret) .skip)) (.seq (.ai [qm 33 0,qm 34 1,ql 35 5,qu 36 (qc 108 [33,34,35]),qm 9 36]) (.seq (.block 0 (.seq (.ai [qm 38 9,qu 39 (.aL .lss 38 (qi 0)),qm 37 39]) (.cond 37 (.seq (.ai [qu 6 (.aN qe),qu 7 (.aN (qi 0)),qu 8 (.aN (qi 6))]) .ret) (.seq (.ai [qm 41 0,qm 42 9,qu 43 (.cw 9 41 42),qf 44 0 43,ql 45 44,qu 46 (.aL .eql 45 (qi 2)),qm 47 46,qg 48 (.aN 0) 47 true,qg 49 (.aN 9) 47 true,qg 50 (.cw 9 48 49) 47 true,qg 51 (.bY 2 50) 47 true,qg 52 (.load false 1 51) 47 true,qg 53 (.len 1 52) 47 true,qg 54 (.aL .gtr 53 (qi 0)) 47 true,qu 55 (.pick 47 54 (qb false)),qm 40 55]) (.cond 40 (.seq (.ai [qu 6 (.aN qe),qu 7 (.aN (qi 0)),qu 8 (.aN (qi 18))]) .ret) .skip))))) (.seq (.ai [qm 56 0,qu 57 (qc 98 [56]),qm 10 57]) (.seq (.ai [qm 58 10,qm 59 1,qm 60 10,qm 61 1,qu 62 (.cw 9 60 61),qf 63 2 62,ql 64 63,qu 65 (.fn 110 [5]),qu 66 (qc 109 [64,65]),qu 67 (.cw 9 58 59),qf 68 2 67,qw (.store 1 68 66)]) (.seq (.ai [qm 69 10,qm 70 9,qu 71 (.cw 9 69 70),qf 72 7 71,ql 73 72,qu 74 (.aL .sub 73 (qi 1)),qu 75 (.cw 9 69 70),qf 76 7 75,qw (.store 1 76 74)]) (.seq (.seq (.ai [qm 77 10,qm 78 9,qu 79 (.cw 9 77 78),qf 80 0 79,ql 81 80,qu 82 (.aL .eql 81 (qi 2))]) (.cond 82 (.ai [qm 83 10,qm 84 9,qm 85 9,qu 86 (.cw 9 83 84),qf 87 8 86,qw (.store 1 87 85)]) .skip)) (.cX (.seq (.ai [qm 88 10,qm 89 9,qm 6 88,qm 7 89,qu 8 (.aN (qi 0))]) .ret)))))))))))⟩
def c109:LF:= ⟨42,[.tmp 4],(.seq (.ai [qu 4 (.aN qe)]) (.seq (.ai [qm 8 0,qm 9 1,qu 10 (qc 137 [8,9]),qm 5 10]) (.seq (.seq (.ai [qm 11 5,qu 12 (.aL .eql 11 (qi (-1)))]) (.cond 12 (.seq (.ai [qm 13 0,qm 4 13]) .ret) .skip)) (.seq (.seq (.ai [qm 14 5,qu 15 (.aL .add 14 (qi 1)),qm 6 15]) (.block 0 (.loop (.seq (.seq (.ai [qm 16 6,qm 17 0,qu 18 (.len 1 17),qu 19 (.aL .lss 16 18)]) (.cond 19 .skip (.exit 0))) (.seq (.block 1 (.seq (.ai [qm 22 0,qm 23 6,qu 24 (.cw 2 22 23),qL 25 2 24,qu 7 (.alloc [(.ah (.val (.string ⟨#[]⟩))),qd 0]),qw (.store 2 7 25)]) (.seq (.ai [qm 26 1,qL 27 2 7,qu 28 (.call 26 [27]),qu 29 (.un .not 28)]) (.cond 29 (.seq (.ai [qm 30 0,qm 31 5,qL 32 2 7,qu 33 (.cw 2 30 31),qw (.store 2 33 32)]) (.ai [qm 34 5,qu 35 (.aL .add 34 (qi 1)),qm 5 35])) .skip)))) (.ai [qm 20 6,qu 21 (.aL .add 20 (qi 1)),qm 6 21])))))) (.seq (.ai [qm 36 0,qm 37 5,qu 38 (.oI 2 36 (some 37) none none),qw (.VP 2 [(.ah (.val (.string ⟨#[]⟩))),qd 0] 38)]) (.seq (.ai [qm 39 0,qm 40 5,qu 41 (.oI 2 39 none (some 40) none),qm 4 41]) .ret))))))⟩
def c110:LF:= ⟨8,[.tmp 3],(.seq (.ai [qu 2 (.box 0),qu 3 (.aN (qb false))]) (.seq (.ai [qf 4 0 2,ql 5 4,ql 6 1,qu 7 (.aL .eql 5 6),qm 3 7]) .ret))⟩
def c137:LF:= ⟨19,[.tmp 4],(.seq (.ai [qu 4 (.aN (qi 0))]) (.seq (.seq (.ai [qm 6 0,qu 7 (.len 1 6),qu 8 (.aN (qi 0))]) (.block 0 (.loop (.seq (.ai [qu 9 (.aL .lss 8 7)]) (.seq (.cond 9 .skip (.exit 0)) (.seq (.block 1 (.seq (.ai [qm 10 8,qm 5 10]) (.seq (.ai [qm 11 1,qm 12 0,qm 13 5,qu 14 (.cw 2 12 13),qL 15 2 14,qu 16 (.call 11 [15])]) (.cond 16 (.seq (.ai [qm 17 5,qm 4 17]) .ret) .skip)))) (.ai [qu 18 (.aL .add 8 (qi 1)),qm 8 18]))))))) (.seq (.ai [qu 4 (.aN (qi (-1)))]) .ret)))⟩
theorem l110:bz prog f110=some c110:=by kernel_rfl
theorem l137:bz prog f137=some c137:=by kernel_rfl
theorem l109:bz prog f109=some c109:=by kernel_rfl
theorem l68:bz prog f68=some c68.er:=by kernel_rfl
theorem l28:bz prog Tryz.f28=some c28:=by kernel_rfl
def G88:LC:=unW (nw (nw (nw (nw (nw (nw (nw (nw (nw c68.code)))))))))
def Ox(name:ByteArray):Bk:= .var [.ah (.val (.string name))]
theorem DX(e:NE)(name:ByteArray):body prog c110 [xH e,.rv (.one (.ptr 0 0))] [.var ([Dt.val (.string name)].map .ah)] (λr m=>r=aF (e.1.toList==name.toList)/\∃ex,m= .var ([Dt.val (.string name)].map .ah)::ex):=by exact⟨rfl,_,rfl⟩
theorem Oy(e:NE)(name:ByteArray)(K:CV->Mem->Prop)(h:K (aF (e.1.toList==name.toList)) [.var ([Dt.val (.string name)].map .ah)]):aq prog 110 [xH e,.rv (.one (.ptr 0 0))] [.var ([Dt.val (.string name)].map .ah)] K:=
 e7 rfl (bc func110 l110 (DX e name)) h
theorem GF{es:List NE}{k:Nat}(h:k<es.length):cF (aa (es.map db)) k=some [.ah (.val (.string es[k].1)),.ah (.val (.int .i64 es[k].2))]:=by rw[aV];simp[aa,h,db]
theorem Kz(es:List NE):lenOf (aa (es.map db)).length 0 none=es.length:=by show(aa (es.map db)).length=_;simp[aa]
theorem DY(es:List NE)(hl:es.length<=4194304)(name:ByteArray)(j:Nat)(hj:j<es.length)(hjn:es[j].1.toList=name.toList)(hb:∀(i:Nat)e,i<j->es[i]? =some e->e.1.toList≠name.toList):
  body prog c137 [.rv (.one (.row 0 2 0 none)),.rv (.one (.fn 110 [1]))] [.row 2 (aa (es.map db)),Ox name] (λr m=>r=an .i64 (j:Nat)/\m=[.row 2 (aa (es.map db)),Ox name]):=by
 refine ba (λk=>k<=j) [0,1] (λk=>[(7,an .i64 (es.length:Nat)),(8,an .i64 (k:Nat))]) (λ_=>[.row 2 (aa (es.map db)),Ox name]) (λk=>j-k) 0 (aav _) ?_ (λk hk=>?_)
 .refine View.o 2 [0,1] [] ?_ ?_
  .repeat(first|exact .nil|refine .aH ?_|refine .eq rfl ?_|refine .put (.bh (by rw[Kz];rfl)) ?_)
  .exact .pr rfl rfl rfl (.pt rfl rfl (.ju (ds:=[.val (.string name)]) rfl) (.nil _))
 have hk:k<=j:=hk;have gA:k<es.length:=om;refine cM (decide_eq_true (by show(k:Int)<(es.length:Int);omega)) ?_
 refine af (cy (by rw[Kz];exact gA):d5 (k:Nat) (lenOf (aa (es.map db)).length 0 none)=some k) ?_
 refine af (GF gA) ?_;refine fC (args0:=[xH es[k],.rv (.one (.ptr 0 0))]) (cs:=[.val (.string name)]) 1 rfl rfl (r0:=aF (es[k].1.toList==name.toList)) rfl (λK hK=>Oy es[k] name K hK) ?_
 refine aJ (λh=>?_) (λh=>?_)
 .have h:es[k].1.toList=name.toList:=by simpa using h
  have:k=j:=by
   rcases aag k j with h2|h2
   .exact absurd h (hb k _ h2 (vR gA))
   .omega
  subst this;exact⟨rfl,rfl⟩
 .have dy:k≠j:=λe=>by subst e;rw[hjn]at h;simp at h
  refine⟨k+1,(by show k+1<=j;omega),(show j-(k+1)<j-k by omega),View.o2 2 [0,1] [] ?_⟩
  .exact .pr rfl rfl rfl (.pt rfl rfl (.ju (ds:=[.val (.string name)]) rfl) (.nil _))
structure StD where
 t:Nat
 y:NE
def lI(a b:List NE)(t:Nat)(y:NE):List NE:=a++b.take t++y::b.drop t
theorem Oz{a b:List NE}{t:Nat}(h:t<=b.length)(y:NE):(lI a b t y).length=a.length+b.length+1:=by simp[lI];omega
theorem KA{a b:List NE}{t:Nat}(h:t<b.length)(y:NE):(lI a b t y).set (a.length+t) b[t]=lI a b (t+1) b[t]/\(lI a b t y)[a.length+1+t]? =some b[t]:=by
 have h1:(a++b.take t).length=a.length+t:=by simp;omega
 have hd:b.drop t=b[t]::b.drop (t+1):=adt h;constructor
 .unfold lI;rw[adG _ _ om,h1,ac6,adV,adE h,hd];simp only[ac2,List.singleton_append]
 .unfold lI;rw[Y5 om,h1,show a.length+1+t-(a.length+t)=1 by omega,hd]
  rfl
def Rs:NE:=(⟨#[]⟩,0)
theorem KB(a b:List NE)(x:NE)(hl:a.length+b.length<=4194303)(name:ByteArray)(hx:x.1.toList=name.toList)(ha:∀e,e∈a->e.1.toList≠name.toList)(hb:∀e,e∈b->e.1.toList≠name.toList):
  body prog c109 [.rv (.one (.row 0 2 0 none)),.rv (.one (.fn 110 [1]))] [.row 2 (aa ((a++x::b).map db)),Ox name]
  (λr m=>r= .rv (.one (.row 0 2 0 (some (a.length+b.length))))/\m=[.row 2 (aa ((a++b++ [Rs]).map db)),Ox name]):=by
 have hlen:(a++x::b).length=a.length+b.length+1:=by simp;omega
 refine(bc func137 l137 (DY (a++x::b) om name a.length om (by simp[hx]) (λi e hi he=>?_))).mono λr m⟨hr,hm⟩=>?_
 .rw[aad hi]at he;exact ha e (Tu he)
 subst hr hm;refine ba (λs:StD=>s.t<=b.length) [0,1] (λs=>[(5,an .i64 ((a.length+s.t:Nat):Int)),(6,an .i64 ((a.length+1+s.t:Nat):Int))]) (λs=>[.row 2 (aa ((lI a b s.t s.y).map db)),Ox name]) (λs=>b.length-s.t) ⟨0,x⟩ (aav _) ?_ (λs hs=>?_)
 .refine View.o 2 [0,1] [] ?_ ?_
  .repeat(first|exact .nil|refine .aH ?_|refine .eq rfl ?_|refine .put (.bh (cR om).symm) ?_)
  .exact .pt rfl rfl (.bM (by show aa _=aa _;simp[lI])) (.pt rfl rfl (.ju (ds:=[.val (.string name)]) rfl) (.nil _))
 obtain⟨t,y⟩:=s;have hs:t<=b.length:=hs;have my:=Oz (a:=a) hs y;refine aP (λh=>?_) (λh=>?_)
 .have h:((a.length+1+t:Nat):Int)<((lenOf (aa ((lI a b t y).map db)).length 0 none:Nat):Int):=h;rw[Kz,my]at h;have ht:t<b.length:=om;obtain⟨n1,n2⟩:=KA (a:=a) ht y;have kM:a.length+1+t<(lI a b t y).length:=om;have ku:(lI a b t y)[a.length+1+t]=b[t]:=by rw[vR kM]at n2;exact adN n2
  have hr:=GF kM;rw[ku]at hr;refine af (cy (by rw[Kz];exact kM):d5 ((a.length+1+t:Nat):Int) (lenOf (aa ((lI a b t y).map db)).length 0 none)=some (a.length+1+t)) ?_
  refine af hr ?_;have dy:=hb b[t] (aay ht);generalize hbt:b[t]=v at n1 dy;refine fC (args0:=[xH v,.rv (.one (.ptr 0 0))]) (cs:=[.val (.string name)]) 1 rfl rfl (r0:=aF (v.1.toList==name.toList)) rfl (λK hK=>Oy v name K hK) ?_
  refine cM (by simpa using dy) ?_
  refine af (cy (by rw[Kz,my];omega):d5 ((a.length+t:Nat):Int) (lenOf (aa ((lI a b t y).map db)).length 0 none)=some (a.length+t)) ?_
  refine af (GF (by rw[my];omega):cF (aa ((lI a b t y).map db)) (a.length+t)=_) ?_
  have jC:aX (aa ((lI a b t y).map db)) (a.length+t) [.ah (.val (.string v.1)),.ah (.val (.int .i64 v.2))]=aa ((lI a b (t+1) v).map db):=by rw[<-n1,bb,abB];simp[aa,abB,db]
  have e1:=cR (k:=a.length+t) om;have e2:=cR (k:=a.length+1+t) om;refine⟨⟨t+1,v⟩,ht,(show b.length-(t+1)<b.length-t by omega),View.o 3 [0,1] [] ?_ ?_⟩
  .repeat(first|exact .nil|refine .aH ?_|refine .put (.bh e1.symm) ?_|refine .put (.bh e2.symm) ?_|refine .eq rfl ?_)
  .exact .pt rfl rfl (.bM jC) (.pt rfl rfl (.ju (ds:=[.val (.string name)]) rfl) (.nil _))
 .have h:¬((a.length+1+t:Nat):Int)<((lenOf (aa ((lI a b t y).map db)).length 0 none:Nat):Int):=h;rw[Kz,my]at h;have ht:t=b.length:=om;subst ht;have Z0:(aa ((lI a b b.length y).map db)).length=a.length+b.length+1:=by rw[<-my];simp[aa]
  have d9:cV (aa ((lI a b b.length y).map db)) (a.length+b.length) [[.ah (.val (.string ⟨#[]⟩)),.ah (.val (.int .i64 0))]]=aa ((a++b++ [Rs]).map db):=by
   have h1:aa ((lI a b b.length y).map db)=aa ((a++b).map db)++ [[.ah (.val (.string y.1)),.ah (.val (.int .i64 y.2))]]:=by simp[lI,aa,db]
   have h2:(aa ((a++b).map db)).length=a.length+b.length:=by simp[aa]
   rw[h1,cV,List.take_left' h2,adB (by rw[aa5,h2];simp)]
   simp[aa,db,Rs]
  generalize hX:aa ((lI a b b.length y).map db)=X at Z0 d9;have Z1:lenOf X.length 0 none=a.length+b.length+1:=Z0;refine cM (t:=(Nat.ble (a.length+b.length) (lenOf X.length 0 none)&&Nat.ble (lenOf X.length 0 none) (X.length-0))) (by rw[Z1,Z0];simp[abe]) ?_
  have Tz:cV X (a.length+b.length) (gH (lenOf X.length 0 none-(a.length+b.length)) [.ah (.val (.string ⟨#[]⟩)),.ah (.val (.int .i64 0))])=aa ((a++b++ [Rs]).map db):=by
   rw[Z1,show a.length+b.length+1-(a.length+b.length)=1 by omega]
   exact d9
  refine cM (t:=Nat.ble (lenOf X.length 0 none) X.length) (by rw[Z1,Z0];simp[abe]) ?_
  refine cM (t:=Nat.blt (a.length+b.length) (lenOf X.length 0 none)) (by rw[Z1,abK];omega) ?_
  refine cM (t:=(Nat.ble 0 (a.length+b.length)&&Nat.ble (a.length+b.length) ((cV X (a.length+b.length) (gH (lenOf X.length 0 none-(a.length+b.length)) [.ah (.val (.string ⟨#[]⟩)),.ah (.val (.int .i64 0))])).length-0))) (by rw[Tz];simp[aa,abe]) ?_
  exact⟨rfl,congrArg (λz=>[Bk.row 2 z,Ox name]) Tz⟩
theorem IA(a b:List NE)(x:NE)(hl:a.length+b.length<=4194303)(name:ByteArray)(hx:x.1.toList=name.toList)(ha:∀e,e∈a->e.1.toList≠name.toList)(hb:∀e,e∈b->e.1.toList≠name.toList){m:Mem}{K:CV->Mem->Prop}(i j:Nat)(p5:fL [i,j]=true)(aD:eR m.length [i,j]=true)(hi:cF m i=some (.row 2 (aa ((a++x::b).map db))))(hj:cF m j=some (Ox name))(h:K (.rv (.one (.row i 2 0 (some (a.length+b.length))))) (c9 m [i,j] [.row 2 (aa ((a++b++ [Rs]).map db)),Ox name])):aq prog 109 [.rv (.one (.row i 2 0 none)),.rv (.one (.fn 110 [j]))] m K:=by
 refine bw [i,j] m.length rfl rfl p5 aD (args0:=[.rv (.one (.row 0 2 0 none)),.rv (.one (.fn 110 [1]))]) rfl (m0:=[.row 2 (aa ((a++x::b).map db)),Ox name]) (λk b' hk=>?_) (bc func109 l109 (KB a b x hl name hx ha hb)) (λr1 m1 hr=>?_)
 .match k,hk with
  |0,hk=>cases hk;exact .inr ⟨λh=>h,_,by rw[aV]at hi;exact hi,.bM rfl⟩
  |1,hk=>cases hk;exact .inr ⟨λh=>h,_,by rw[aV]at hj;exact hj,.ju (ds:=[.val (.string name)]) rfl⟩
  |n+2,hk=>simp at hk
 .obtain⟨rfl,rfl⟩:=hr;refine⟨aC,?_⟩;show K (.rv (.one (.row i 2 0 (some (a.length+b.length))))) (c9 m [i,j] [.row 2 ((aa ((a++b++ [Rs]).map db)).map (λcs=>cs.map (CC.bh (sg [i,j] m.length)))),Ox name])
  rw[iz];exact h
def mO(p:Nat)(c:CC)(k:Nat)(o:Obj):List CC:= (dD o (if k=p then c else .ah (.sl 2 o.ak)) o.am o.up)
def bU(p:Nat)(c:CC)(l:List Obj):List (List CC):=(l.zipIdx.map λx=>mO p c x.2 x.1)
theorem fO(p:Nat)(c:CC)(l:List Obj)(i:Nat):(bU p c l)[i]? =(l[i]?).map (mO p c i):=by
 simp only[bU,Tr,List.getElem?_zipIdx,aa6];cases l[i]? <;>rfl
theorem iF(p:Nat)(c:CC)(l:List Obj):(bU p c l).length=l.length:=by simp[bU]
theorem IB(p Q:Nat)(l:List Obj):bT p Q 0 l=bU p (.row Q 2 0 none) l:=by apply abC;intro i;rw[gu,fO,aa6];rfl
theorem iG{p:Nat}{c:CC}{l:List Obj}{k:Nat}{o:Obj}(hk:k<l.length):aX (bU p c l) k (mO p c k o)=bU p c (l.set k o):=by
 rw[bb];apply abC;intro i;rw[fO];by_cases h:k=i
 .subst h;rw[TK (by rw[iF];exact hk),TK hk]
  rfl
 .rw[U9 h,U9 h,fO]
theorem GG{p:Nat}{c c':CC}{l:List Obj}{o:Obj}(hp:l[p]? =some o):aX (bU p c l) p (mO p c' p o)=bU p c' l:=by
 have jY:=(Ki.1 hp).1;rw[bb];apply abC;intro i;rw[fO];by_cases h:p=i
 .subst h;rw[TK (by rw[iF];exact jY),hp]
  rfl
 .rw[U9 h,fO];cases l[i]? with
  |none=>rfl
  |some x=>
   have h2:¬i=p:=λe=>h e.symm
   simp only[aaG,mO,if_neg h2]
theorem DZ{m:Mem}{Z:Nat->Prop}{pp:Option Nat}{id p:Nat}{c:CC}{l:List Obj}{o:Obj}{E:List (List Dt)}(hz:Z id)(hm:m[id]? =some (.row 9 (bU p c l)))(hq:d6 m Z (some id) c (.sl 2 E))(hp:l[p]? =some o):
  d6 m Z pp (.row id 9 0 none) (dt (l.set p {o with ak:=E})):=by
 have jY:=(Ki.1 hp).1;have key:∀(i:Nat)cs es,(bU p c l)[i]? =some cs->((l.set p {o with ak:=E}).map Obj.enc)[i]? =some es->kN m Z (some id) cs es:=by
  intro i cs es h1 h2;rw[fO]at h1;rw[Tr]at h2;by_cases h:p=i
  .subst h;rw[TK jY]at h2;rw[hp]at h1;cases h1;cases h2;simp only[mO,if_pos,Obj.enc];exact .cons (.ah _) (.cons (.ah _) (.cons hq (.cons (.ah _) (.cons (.ah _) (.cons (.ah _) (.cons (.ah _) (.cons (.ah _) (.cons (.ah _) .nil))))))))
  .rw[U9 h]at h2;cases hx:l[i]? with
   |none=>rw[hx]at h1;cases h1
   |some x=>
    rw[hx]at h1 h2;cases h1;cases h2;have h3:¬i=p:=λe=>h e.symm
    simp only[mO,if_neg h3,Obj.enc];exact .cons (.ah _) (.cons (.ah _) (.cons (.ah _) (.cons (.ah _) (.cons (.ah _) (.cons (.ah _) (.cons (.ah _) (.cons (.ah _) (.cons (.ah _) .nil))))))))
 exact d6.row id 9 0 none _ _ hz hm (by rw[iF,N7,aaI]) (λi cs es h1 h2=>(key i cs es h1 h2).len) (λi cs es j c d h1 h2 h3 h4=>(key i cs es h1 h2).get j c d h3 h4)
def lJ(l:List Obj)(n k:Nat)(name:ByteArray):List Obj:=match l[n]? with
 |none=>l
 |some o=>match (l.set n {o with ak:=((o.ak.map ou).filter λe=>decide (e.1.toList≠name.toList)).map gl})[k]? with
  |none=>l
  |some q=>(l.set n {o with ak:=((o.ak.map ou).filter λe=>decide (e.1.toList≠name.toList)).map gl}).set k {q with am:=IntKind.i64.wrap (q.am-1),up:=if q.ag=2 then(k:Int)else q.up}
def xX(o:Obj)(l:List Obj)(n:Nat)(name:ByteArray):List Obj×Int×Int:=
 if o.ag≠2 then([],0,11)else if fW (o.ak.map ou) name<0 then([],0,6)else match l[(fW (o.ak.map ou) name).toNat]? with
  |none=>([],0,6)
  |some q=>if q.ag=2/\q.ak.length>0 then([],0,18)else(lJ l n (fW (o.ak.map ou) name).toNat name,fW (o.ak.map ou) name,0)
def cT(l:List Obj)(cL:Int)(name:ByteArray):List Obj×Int×Int:=
 if qa l cL 0=true then(match l[cL.toNat]? with
  |none=>([],0,6)
  |some o=>xX o l cL.toNat name)else([],0,6)
theorem kg{l:List Obj}{n k:Nat}(hn:n<l.length)(hk:k<l.length){name:ByteArray}{E:List (List Dt)}(hE:E=((l[n].ak.map ou).filter λe=>decide (e.1.toList≠name.toList)).map gl){q:Obj}(hq:q={l[k]with am:=IntKind.i64.wrap (l[k].am-1),up:=if l[k].ag=2 then(k:Int)else l[k].up}):
  ∃o2,(l.set k q)[n]? =some o2/\(l.set k q).set n {o2 with ak:=E}=lJ l n k name:=by
 subst hE;unfold lJ;rw[vR hn];simp only[];by_cases h:k=n
 .subst h;rw[TK hn,TK hn];refine⟨_,rfl,?_⟩;simp only[ade];subst hq;rfl
 .rw[U9 h,vR hn,U9 (λe=>h e.symm),vR hk]
  refine⟨_,rfl,?_⟩;simp only[];rw[List.set_comm _ _ h,<-hq]
theorem KC{es:List NE}(hs:FV es){name:ByteArray}(h:¬fW es name<0)(cJ:∀e,e∈es->0<=e.2):∃a x b,es=a++x::b/\x.1.toList=name.toList/\x.2=fW es name/\(∀e,e∈a->e.1.toList≠name.toList)/\(∀e,e∈b->e.1.toList≠name.toList)/\es.filter (λe=>decide (e.1.toList≠name.toList))=a++b:=by
 rcases i3 es name with⟨x,hx,h1,h2⟩|⟨h2,_⟩
 .obtain⟨a,b,rfl⟩:=List.append_of_mem hx;have hu:∀y,y∈a++x::b->y.1.toList=name.toList->y=x:=λy hy he=>xl hs hy hx (he.trans h1.symm)
  have hp:=hs;unfold FV at hp;rw[List.pairwise_append,acX]at hp;have hna:∀e,e∈a->e.1.toList≠name.toList:=λe he h3=>by have:=hp.2.2 e he x aC;rw[Bf,h3,<-h1,o9]at this;cases this
  have hnb:∀e,e∈b->e.1.toList≠name.toList:=λe he h3=>by have:=hp.2.1.1 e he;rw[Bf,h3,<-h1,o9]at this;cases this
  refine⟨a,x,b,rfl,h1,h2.symm,hna,hnb,?_⟩;rw[adU,ab2,if_neg (by simpa using h1),adf.2 (λe he=>by simpa using hna e he),adf.2 (λe he=>by simpa using hnb e he)]
 .rw[h2]at h;omega
def Vf(R:List Obj×Int×Int)(r:CV)(m:Mem):Prop:=∃r' m',View 0 ⟨[r],m⟩ ⟨[r'],m'⟩/\r'= .bx [nr R.1,cG R.2.1,cG R.2.2]/\m'=[]
theorem nz{R:List Obj×Int×Int}{m:Mem}(e:Int)(h:R=([],0,e)):Vf R (.bx [.one .aM,cG 0,cG e]) m:=by subst h;exact⟨_,_,View.of m.length [] [] rfl rfl rfl rfl rfl rfl (.put (Yu (.one (.fT (.aM 9))) (.one (.bh (.ah _))) (.one (.bh (.ah _)))) .nil) (.nil _),rfl,rfl⟩
theorem BN(l:List Obj)(hs:xW l)(cL:Int)(name:ByteArray):body prog c68 [cC l,an .i64 cL,fe name] [] (Vf (cT l cL name)):=by
 refine aP (λh1=>?_) (λh1=>?_)
 .exact nz 6 (by unfold cT;rw[xS h1];rfl)
 obtain⟨n,rfl⟩:∃n:Nat,cL=n:=⟨cL.toNat,by have h1:¬cL<0:=h1;omega⟩
 refine aP (λh2=>?_) (λh2=>?_)
 .have h2:(n:Int)>=((l.map Obj.enc).length:Int):=h2;rw[N7]at h2;exact nz 6 (by unfold cT;rw[xT h2];rfl)
 have h2:¬(n:Int)>=((l.map Obj.enc).length:Int):=h2;rw[N7]at h2;have hn:n<l.length:=om;have P7:=jc hn;refine af P7 ?_;refine bu (λh3=>?_) (λh3=>?_)
 .exact nz 6 (by unfold cT;rw[xU hn h3];rfl)
 have h3:l[n].ag≠0:=h3;have hR:cT l n name=xX l[n] l n name:=by unfold cT;rw[if_pos (xV hn h3),ZW,vR hn]
 rw[hR];unfold xX;refine af P7 ?_;refine bv (λh7=>?_) (λh7=>?_)
 .exact nz 11 (if_pos h7)
 have h7:l[n].ag=2:=by simpa using h7
 rw[if_neg (by rw[h7];simp)]
 obtain⟨es,he,BJ,Rr,cJ⟩:=hs.en _ (aay hn);have Ty:l[n].ak.map ou=es:=by rw[he,nV]
 refine DQ l n hn h7 es he om name ?_;have ZZ:xO l es n name=fW es name:=Ac BJ name;rw[ZZ,Ty];refine aP (λh9=>?_) (λh9=>?_)
 .exact nz 6 (if_pos h9)
 have h9:¬fW es name<0:=h9;rw[if_neg h9];obtain⟨a,x,b,EW,hx,VW,ha,hb,ace⟩:=KC BJ h9 λe he=>(cJ e he).1
 have hxr:=cJ x (by rw[EW];simp)
 obtain⟨k,hk⟩:∃k:Nat,fW es name=k:=⟨(fW es name).toNat,om⟩;have gA:k<l.length:=om;have U5:=jc gA;rw[hk,ZW,vR gA];simp only[];have Yx:a.length+b.length<=4194303:=by rw[EW]at Rr;simp at Rr;omega
 have oC:∀c,cF (bU n c l) n=some (dD l[n] c l[n].am l[n].up):=λc=>by rw[aV,fO,vR hn,aaG,mO,if_pos rfl]
 have Wd:BH l n l.length= .row 2 (aa ((a++x::b).map db)):=by
  unfold BH;rw[show Nat.blt n l.length=true by simpa using hn]
  show Bk.row 2 (aa (match l[n]? with|some o=>o.ak|none=>[]))=_
  rw[vR hn];show Bk.row 2 (aa l[n].ak)=_;rw[he,EW];rfl
 have eW:∀(c:CC)(l2:List Obj)(j:Nat),l2.length=l.length->j<l.length->d5 (j:Nat) (lenOf (bU n c l2).length 0 none)=some j:=λc l2 j h hj=>cy (by rw[show lenOf (bU n c l2).length 0 none=l2.length from iF n c l2,h];exact hj)
 have Kw:((a++b).map db)=((l[n].ak.map ou).filter λe=>decide (e.1.toList≠name.toList)).map gl:=by rw[Ty,ace];rfl
 have jL:∀L2:List Obj,L2=lJ l n k name->aw prog 0 G88 (oR prog c68.me (Vf (lJ l n k name,(k:Int),0))) ⟨kT 90 [(9,an .i64 (k:Nat)),(10,cC L2)],[]⟩:=λL2 h=>by subst h;exact⟨_,_,View.o 0 [] [] (.eq rfl .nil) (.nil _),rfl,rfl⟩
 have mG:(aX (bU n (.row 2 2 0 none) l) n (dD l[n] (.row 2 2 0 (some (a.length+b.length))) l[n].am l[n].up))=bU n (.row 2 2 0 (some (a.length+b.length))) l:=by have:=GG (p:=n) (c:= .row 2 2 0 none) (c':= .row 2 2 0 (some (a.length+b.length))) (vR hn);rw[<-this,mO,if_pos rfl]
 have iO:b7 ((a++b++ [Rs]).map db) 0 (some (a.length+b.length))=(a++b).map db:=by show((a++b++ [Rs]).map db).take (a.length+b.length)=_;rw[abn,List.take_left' aC]
 have hq:∀m:Mem,m[2]? =some (.row 2 (aa ((a++b++ [Rs]).map db)))->d6 m (λk=>bD [1,2] k=true) (some 1) (.row 2 2 0 (some (a.length+b.length))) (.sl 2 ((a++b).map db)):=λm hm=>by
  have:=d6.fg (Z:=λk=>bD [1,2] k=true) (p:=some 1) rfl hm 0 (some (a.length+b.length))
  rw[iO]at this;exact this
 refine af U5 ?_;refine bu (λCr=>?_) (λCr=>?_)
 .refine af U5 ?_;refine aP (λqA=>?_) (λqA=>?_)
  .exact nz 18 (if_pos ⟨Cr,by have qA:(l[k].ak.length:Int)>0:=qA;omega⟩)
  .rw[if_neg (λh=>qA (by show(l[k].ak.length:Int)>0;omega))]
   refine BI l hs.oD n ?_;rw[Wd,IB];refine af (eW (.row 2 2 0 none) l n rfl hn) ?_;refine af (oC (.row 2 2 0 none)) ?_;refine IA a b x Yx name hx ha hb 2 0 rfl rfl rfl rfl ?_;refine af (eW (.row 2 2 0 none) l n rfl hn) ?_;refine af (oC (.row 2 2 0 none)) ?_;by_cases GH:k=n
   .have OA:cF (bU n (.row 2 2 0 (some (a.length+b.length))) l) k=some (dD l[k] (.row 2 2 0 (some (a.length+b.length))) l[k].am l[k].up):=by rw[aV,fO,vR gA,aaG,mO,if_pos GH]
    have o7:(aX (aX (bU n (.row 2 2 0 none) l) n (dD l[n] (.row 2 2 0 (some (a.length+b.length))) l[n].am l[n].up)) k (dD l[k] (.row 2 2 0 (some (a.length+b.length))) (IntKind.i64.wrap (l[k].am-1)) l[k].up))=bU n (.row 2 2 0 (some (a.length+b.length))) (l.set k {l[k]with am:=(IntKind.i64.wrap (l[k].am-1))}):=by
     rw[mG];have:=iG (p:=n) (c:= .row 2 2 0 (some (a.length+b.length))) (o:={l[k]with am:=(IntKind.i64.wrap (l[k].am-1))}) gA
     rw[<-this,mO,if_pos GH]
    have rk:cF (aX (aX (bU n (.row 2 2 0 none) l) n (dD l[n] (.row 2 2 0 (some (a.length+b.length))) l[n].am l[n].up)) k (dD l[k] (.row 2 2 0 (some (a.length+b.length))) (IntKind.i64.wrap (l[k].am-1)) l[k].up)) k=some (dD l[k] (.row 2 2 0 (some (a.length+b.length))) (IntKind.i64.wrap (l[k].am-1)) l[k].up):=by
     rw[bb,aV,TK (by rw[mG,iF];exact gA)]
    refine af (by rw[mG];exact eW _ l k rfl gA:d5 (k:Nat) (lenOf (aX (bU n (.row 2 2 0 none) l) n (dD l[n] (.row 2 2 0 (some (a.length+b.length))) l[n].am l[n].up)).length 0 none)=some k) ?_
    refine af (by rw[mG];exact OA:cF (aX (bU n (.row 2 2 0 none) l) n (dD l[n] (.row 2 2 0 (some (a.length+b.length))) l[n].am l[n].up)) k=some (dD l[k] (.row 2 2 0 (some (a.length+b.length))) l[k].am l[k].up)) ?_
    refine af (by rw[mG];exact eW _ l k rfl gA:d5 (k:Nat) (lenOf (aX (bU n (.row 2 2 0 none) l) n (dD l[n] (.row 2 2 0 (some (a.length+b.length))) l[n].am l[n].up)).length 0 none)=some k) ?_
    refine af (by rw[mG];exact OA:cF (aX (bU n (.row 2 2 0 none) l) n (dD l[n] (.row 2 2 0 (some (a.length+b.length))) l[n].am l[n].up)) k=some (dD l[k] (.row 2 2 0 (some (a.length+b.length))) l[k].am l[k].up)) ?_
    refine af (by rw[o7];exact eW _ _ k (aaI ..) gA:d5 (k:Nat) (lenOf (aX (aX (bU n (.row 2 2 0 none) l) n (dD l[n] (.row 2 2 0 (some (a.length+b.length))) l[n].am l[n].up)) k (dD l[k] (.row 2 2 0 (some (a.length+b.length))) (IntKind.i64.wrap (l[k].am-1)) l[k].up)).length 0 none)=some k) ?_
    refine af rk ?_;refine bu (λrm=>?_) (λrm=>?_)
    .have rm:l[k].ag=2:=rm;have Ow:(aX (aX (aX (bU n (.row 2 2 0 none) l) n (dD l[n] (.row 2 2 0 (some (a.length+b.length))) l[n].am l[n].up)) k (dD l[k] (.row 2 2 0 (some (a.length+b.length))) (IntKind.i64.wrap (l[k].am-1)) l[k].up)) k (dD l[k] (.row 2 2 0 (some (a.length+b.length))) (IntKind.i64.wrap (l[k].am-1)) (k:Nat)))=bU n (.row 2 2 0 (some (a.length+b.length))) (l.set k {l[k]with am:=(IntKind.i64.wrap (l[k].am-1)),up:=(k:Int)}):=by
      rw[o7];have:=iG (p:=n) (c:= .row 2 2 0 (some (a.length+b.length))) (l:=l.set k {l[k]with am:=(IntKind.i64.wrap (l[k].am-1))}) (k:=k) (o:={l[k]with am:=(IntKind.i64.wrap (l[k].am-1)),up:=(k:Int)}) (by rw[aaI];exact gA)
      rw[ade]at this;rw[<-this,mO,if_pos GH]
     refine af (by rw[o7];exact eW _ _ k (aaI ..) gA:d5 (k:Nat) (lenOf (aX (aX (bU n (.row 2 2 0 none) l) n (dD l[n] (.row 2 2 0 (some (a.length+b.length))) l[n].am l[n].up)) k (dD l[k] (.row 2 2 0 (some (a.length+b.length))) (IntKind.i64.wrap (l[k].am-1)) l[k].up)).length 0 none)=some k) ?_
     refine af rk ?_;obtain⟨o2,ib,d9⟩:=kg (name:=name) hn gA Kw (q:={l[k]with am:=(IntKind.i64.wrap (l[k].am-1)),up:=(k:Int)}) (by rw[if_pos rm])
     refine⟨_,View.o 3 [] [1,2] ?_ (.nil _),jL _ d9⟩
     iterate 9 refine .aH ?_
     refine .eq rfl ?_;refine .put (.rv (.one (.fT (p:=none) (DZ (Z:=λk=>bD [1,2] k=true) rfl (by show some (Bk.row 9 _)=some (Bk.row 9 _);congr 1;exact congrArg _ Ow) (hq _ rfl) ib)))) ?_
     repeat(first|exact .nil|refine .aH ?_)
    .have rm:l[k].ag≠2:=rm;obtain⟨o2,ib,d9⟩:=kg (name:=name) hn gA Kw (q:={l[k]with am:=(IntKind.i64.wrap (l[k].am-1))}) (by rw[if_neg rm])
     refine⟨_,View.o 3 [] [1,2] ?_ (.nil _),jL _ d9⟩
     iterate 9 refine .aH ?_
     refine .eq rfl ?_;refine .put (.rv (.one (.fT (p:=none) (DZ (Z:=λk=>bD [1,2] k=true) rfl (by show some (Bk.row 9 _)=some (Bk.row 9 _);congr 1;exact congrArg _ o7) (hq _ rfl) ib)))) ?_
     repeat(first|exact .nil|refine .aH ?_)
   .have OA:cF (bU n (.row 2 2 0 (some (a.length+b.length))) l) k=some (dD l[k] (.ah (.sl 2 l[k].ak)) l[k].am l[k].up):=by rw[aV,fO,vR gA,aaG,mO,if_neg GH]
    have o7:(aX (aX (bU n (.row 2 2 0 none) l) n (dD l[n] (.row 2 2 0 (some (a.length+b.length))) l[n].am l[n].up)) k (dD l[k] (.ah (.sl 2 l[k].ak)) (IntKind.i64.wrap (l[k].am-1)) l[k].up))=bU n (.row 2 2 0 (some (a.length+b.length))) (l.set k {l[k]with am:=(IntKind.i64.wrap (l[k].am-1))}):=by
     rw[mG];have:=iG (p:=n) (c:= .row 2 2 0 (some (a.length+b.length))) (o:={l[k]with am:=(IntKind.i64.wrap (l[k].am-1))}) gA
     rw[<-this,mO,if_neg GH]
    have rk:cF (aX (aX (bU n (.row 2 2 0 none) l) n (dD l[n] (.row 2 2 0 (some (a.length+b.length))) l[n].am l[n].up)) k (dD l[k] (.ah (.sl 2 l[k].ak)) (IntKind.i64.wrap (l[k].am-1)) l[k].up)) k=some (dD l[k] (.ah (.sl 2 l[k].ak)) (IntKind.i64.wrap (l[k].am-1)) l[k].up):=by
     rw[bb,aV,TK (by rw[mG,iF];exact gA)]
    refine af (by rw[mG];exact eW _ l k rfl gA:d5 (k:Nat) (lenOf (aX (bU n (.row 2 2 0 none) l) n (dD l[n] (.row 2 2 0 (some (a.length+b.length))) l[n].am l[n].up)).length 0 none)=some k) ?_
    refine af (by rw[mG];exact OA:cF (aX (bU n (.row 2 2 0 none) l) n (dD l[n] (.row 2 2 0 (some (a.length+b.length))) l[n].am l[n].up)) k=some (dD l[k] (.ah (.sl 2 l[k].ak)) l[k].am l[k].up)) ?_
    refine af (by rw[mG];exact eW _ l k rfl gA:d5 (k:Nat) (lenOf (aX (bU n (.row 2 2 0 none) l) n (dD l[n] (.row 2 2 0 (some (a.length+b.length))) l[n].am l[n].up)).length 0 none)=some k) ?_
    refine af (by rw[mG];exact OA:cF (aX (bU n (.row 2 2 0 none) l) n (dD l[n] (.row 2 2 0 (some (a.length+b.length))) l[n].am l[n].up)) k=some (dD l[k] (.ah (.sl 2 l[k].ak)) l[k].am l[k].up)) ?_
    refine af (by rw[o7];exact eW _ _ k (aaI ..) gA:d5 (k:Nat) (lenOf (aX (aX (bU n (.row 2 2 0 none) l) n (dD l[n] (.row 2 2 0 (some (a.length+b.length))) l[n].am l[n].up)) k (dD l[k] (.ah (.sl 2 l[k].ak)) (IntKind.i64.wrap (l[k].am-1)) l[k].up)).length 0 none)=some k) ?_
    refine af rk ?_;refine bu (λrm=>?_) (λrm=>?_)
    .have rm:l[k].ag=2:=rm;have Ow:(aX (aX (aX (bU n (.row 2 2 0 none) l) n (dD l[n] (.row 2 2 0 (some (a.length+b.length))) l[n].am l[n].up)) k (dD l[k] (.ah (.sl 2 l[k].ak)) (IntKind.i64.wrap (l[k].am-1)) l[k].up)) k (dD l[k] (.ah (.sl 2 l[k].ak)) (IntKind.i64.wrap (l[k].am-1)) (k:Nat)))=bU n (.row 2 2 0 (some (a.length+b.length))) (l.set k {l[k]with am:=(IntKind.i64.wrap (l[k].am-1)),up:=(k:Int)}):=by
      rw[o7];have:=iG (p:=n) (c:= .row 2 2 0 (some (a.length+b.length))) (l:=l.set k {l[k]with am:=(IntKind.i64.wrap (l[k].am-1))}) (k:=k) (o:={l[k]with am:=(IntKind.i64.wrap (l[k].am-1)),up:=(k:Int)}) (by rw[aaI];exact gA)
      rw[ade]at this;rw[<-this,mO,if_neg GH]
     refine af (by rw[o7];exact eW _ _ k (aaI ..) gA:d5 (k:Nat) (lenOf (aX (aX (bU n (.row 2 2 0 none) l) n (dD l[n] (.row 2 2 0 (some (a.length+b.length))) l[n].am l[n].up)) k (dD l[k] (.ah (.sl 2 l[k].ak)) (IntKind.i64.wrap (l[k].am-1)) l[k].up)).length 0 none)=some k) ?_
     refine af rk ?_;obtain⟨o2,ib,d9⟩:=kg (name:=name) hn gA Kw (q:={l[k]with am:=(IntKind.i64.wrap (l[k].am-1)),up:=(k:Int)}) (by rw[if_pos rm])
     refine⟨_,View.o 3 [] [1,2] ?_ (.nil _),jL _ d9⟩
     iterate 9 refine .aH ?_
     refine .eq rfl ?_;refine .put (.rv (.one (.fT (p:=none) (DZ (Z:=λk=>bD [1,2] k=true) rfl (by show some (Bk.row 9 _)=some (Bk.row 9 _);congr 1;exact congrArg _ Ow) (hq _ rfl) ib)))) ?_
     repeat(first|exact .nil|refine .aH ?_)
    .have rm:l[k].ag≠2:=rm;obtain⟨o2,ib,d9⟩:=kg (name:=name) hn gA Kw (q:={l[k]with am:=(IntKind.i64.wrap (l[k].am-1))}) (by rw[if_neg rm])
     refine⟨_,View.o 3 [] [1,2] ?_ (.nil _),jL _ d9⟩
     iterate 9 refine .aH ?_
     refine .eq rfl ?_;refine .put (.rv (.one (.fT (p:=none) (DZ (Z:=λk=>bD [1,2] k=true) rfl (by show some (Bk.row 9 _)=some (Bk.row 9 _);congr 1;exact congrArg _ o7) (hq _ rfl) ib)))) ?_
     repeat(first|exact .nil|refine .aH ?_)
 .rw[if_neg (λh=>Cr h.1)]
  refine BI l hs.oD n ?_;rw[Wd,IB];refine af (eW (.row 2 2 0 none) l n rfl hn) ?_;refine af (oC (.row 2 2 0 none)) ?_;refine IA a b x Yx name hx ha hb 2 0 rfl rfl rfl rfl ?_;refine af (eW (.row 2 2 0 none) l n rfl hn) ?_;refine af (oC (.row 2 2 0 none)) ?_;by_cases GH:k=n
  .have OA:cF (bU n (.row 2 2 0 (some (a.length+b.length))) l) k=some (dD l[k] (.row 2 2 0 (some (a.length+b.length))) l[k].am l[k].up):=by rw[aV,fO,vR gA,aaG,mO,if_pos GH]
   have o7:(aX (aX (bU n (.row 2 2 0 none) l) n (dD l[n] (.row 2 2 0 (some (a.length+b.length))) l[n].am l[n].up)) k (dD l[k] (.row 2 2 0 (some (a.length+b.length))) (IntKind.i64.wrap (l[k].am-1)) l[k].up))=bU n (.row 2 2 0 (some (a.length+b.length))) (l.set k {l[k]with am:=(IntKind.i64.wrap (l[k].am-1))}):=by
    rw[mG];have:=iG (p:=n) (c:= .row 2 2 0 (some (a.length+b.length))) (o:={l[k]with am:=(IntKind.i64.wrap (l[k].am-1))}) gA
    rw[<-this,mO,if_pos GH]
   have rk:cF (aX (aX (bU n (.row 2 2 0 none) l) n (dD l[n] (.row 2 2 0 (some (a.length+b.length))) l[n].am l[n].up)) k (dD l[k] (.row 2 2 0 (some (a.length+b.length))) (IntKind.i64.wrap (l[k].am-1)) l[k].up)) k=some (dD l[k] (.row 2 2 0 (some (a.length+b.length))) (IntKind.i64.wrap (l[k].am-1)) l[k].up):=by
    rw[bb,aV,TK (by rw[mG,iF];exact gA)]
   refine af (by rw[mG];exact eW _ l k rfl gA:d5 (k:Nat) (lenOf (aX (bU n (.row 2 2 0 none) l) n (dD l[n] (.row 2 2 0 (some (a.length+b.length))) l[n].am l[n].up)).length 0 none)=some k) ?_
   refine af (by rw[mG];exact OA:cF (aX (bU n (.row 2 2 0 none) l) n (dD l[n] (.row 2 2 0 (some (a.length+b.length))) l[n].am l[n].up)) k=some (dD l[k] (.row 2 2 0 (some (a.length+b.length))) l[k].am l[k].up)) ?_
   refine af (by rw[mG];exact eW _ l k rfl gA:d5 (k:Nat) (lenOf (aX (bU n (.row 2 2 0 none) l) n (dD l[n] (.row 2 2 0 (some (a.length+b.length))) l[n].am l[n].up)).length 0 none)=some k) ?_
   refine af (by rw[mG];exact OA:cF (aX (bU n (.row 2 2 0 none) l) n (dD l[n] (.row 2 2 0 (some (a.length+b.length))) l[n].am l[n].up)) k=some (dD l[k] (.row 2 2 0 (some (a.length+b.length))) l[k].am l[k].up)) ?_
   refine af (by rw[o7];exact eW _ _ k (aaI ..) gA:d5 (k:Nat) (lenOf (aX (aX (bU n (.row 2 2 0 none) l) n (dD l[n] (.row 2 2 0 (some (a.length+b.length))) l[n].am l[n].up)) k (dD l[k] (.row 2 2 0 (some (a.length+b.length))) (IntKind.i64.wrap (l[k].am-1)) l[k].up)).length 0 none)=some k) ?_
   refine af rk ?_;refine bu (λrm=>?_) (λrm=>?_)
   .have rm:l[k].ag=2:=rm;have Ow:(aX (aX (aX (bU n (.row 2 2 0 none) l) n (dD l[n] (.row 2 2 0 (some (a.length+b.length))) l[n].am l[n].up)) k (dD l[k] (.row 2 2 0 (some (a.length+b.length))) (IntKind.i64.wrap (l[k].am-1)) l[k].up)) k (dD l[k] (.row 2 2 0 (some (a.length+b.length))) (IntKind.i64.wrap (l[k].am-1)) (k:Nat)))=bU n (.row 2 2 0 (some (a.length+b.length))) (l.set k {l[k]with am:=(IntKind.i64.wrap (l[k].am-1)),up:=(k:Int)}):=by
     rw[o7];have:=iG (p:=n) (c:= .row 2 2 0 (some (a.length+b.length))) (l:=l.set k {l[k]with am:=(IntKind.i64.wrap (l[k].am-1))}) (k:=k) (o:={l[k]with am:=(IntKind.i64.wrap (l[k].am-1)),up:=(k:Int)}) (by rw[aaI];exact gA)
     rw[ade]at this;rw[<-this,mO,if_pos GH]
    refine af (by rw[o7];exact eW _ _ k (aaI ..) gA:d5 (k:Nat) (lenOf (aX (aX (bU n (.row 2 2 0 none) l) n (dD l[n] (.row 2 2 0 (some (a.length+b.length))) l[n].am l[n].up)) k (dD l[k] (.row 2 2 0 (some (a.length+b.length))) (IntKind.i64.wrap (l[k].am-1)) l[k].up)).length 0 none)=some k) ?_
    refine af rk ?_;obtain⟨o2,ib,d9⟩:=kg (name:=name) hn gA Kw (q:={l[k]with am:=(IntKind.i64.wrap (l[k].am-1)),up:=(k:Int)}) (by rw[if_pos rm])
    refine⟨_,View.o 3 [] [1,2] ?_ (.nil _),jL _ d9⟩
    iterate 9 refine .aH ?_
    refine .eq rfl ?_;refine .put (.rv (.one (.fT (p:=none) (DZ (Z:=λk=>bD [1,2] k=true) rfl (by show some (Bk.row 9 _)=some (Bk.row 9 _);congr 1;exact congrArg _ Ow) (hq _ rfl) ib)))) ?_
    repeat(first|exact .nil|refine .aH ?_)
   .have rm:l[k].ag≠2:=rm;obtain⟨o2,ib,d9⟩:=kg (name:=name) hn gA Kw (q:={l[k]with am:=(IntKind.i64.wrap (l[k].am-1))}) (by rw[if_neg rm])
    refine⟨_,View.o 3 [] [1,2] ?_ (.nil _),jL _ d9⟩
    iterate 9 refine .aH ?_
    refine .eq rfl ?_;refine .put (.rv (.one (.fT (p:=none) (DZ (Z:=λk=>bD [1,2] k=true) rfl (by show some (Bk.row 9 _)=some (Bk.row 9 _);congr 1;exact congrArg _ o7) (hq _ rfl) ib)))) ?_
    repeat(first|exact .nil|refine .aH ?_)
  .have OA:cF (bU n (.row 2 2 0 (some (a.length+b.length))) l) k=some (dD l[k] (.ah (.sl 2 l[k].ak)) l[k].am l[k].up):=by rw[aV,fO,vR gA,aaG,mO,if_neg GH]
   have o7:(aX (aX (bU n (.row 2 2 0 none) l) n (dD l[n] (.row 2 2 0 (some (a.length+b.length))) l[n].am l[n].up)) k (dD l[k] (.ah (.sl 2 l[k].ak)) (IntKind.i64.wrap (l[k].am-1)) l[k].up))=bU n (.row 2 2 0 (some (a.length+b.length))) (l.set k {l[k]with am:=(IntKind.i64.wrap (l[k].am-1))}):=by
    rw[mG];have:=iG (p:=n) (c:= .row 2 2 0 (some (a.length+b.length))) (o:={l[k]with am:=(IntKind.i64.wrap (l[k].am-1))}) gA
    rw[<-this,mO,if_neg GH]
   have rk:cF (aX (aX (bU n (.row 2 2 0 none) l) n (dD l[n] (.row 2 2 0 (some (a.length+b.length))) l[n].am l[n].up)) k (dD l[k] (.ah (.sl 2 l[k].ak)) (IntKind.i64.wrap (l[k].am-1)) l[k].up)) k=some (dD l[k] (.ah (.sl 2 l[k].ak)) (IntKind.i64.wrap (l[k].am-1)) l[k].up):=by
    rw[bb,aV,TK (by rw[mG,iF];exact gA)]
   refine af (by rw[mG];exact eW _ l k rfl gA:d5 (k:Nat) (lenOf (aX (bU n (.row 2 2 0 none) l) n (dD l[n] (.row 2 2 0 (some (a.length+b.length))) l[n].am l[n].up)).length 0 none)=some k) ?_
   refine af (by rw[mG];exact OA:cF (aX (bU n (.row 2 2 0 none) l) n (dD l[n] (.row 2 2 0 (some (a.length+b.length))) l[n].am l[n].up)) k=some (dD l[k] (.ah (.sl 2 l[k].ak)) l[k].am l[k].up)) ?_
   refine af (by rw[mG];exact eW _ l k rfl gA:d5 (k:Nat) (lenOf (aX (bU n (.row 2 2 0 none) l) n (dD l[n] (.row 2 2 0 (some (a.length+b.length))) l[n].am l[n].up)).length 0 none)=some k) ?_
   refine af (by rw[mG];exact OA:cF (aX (bU n (.row 2 2 0 none) l) n (dD l[n] (.row 2 2 0 (some (a.length+b.length))) l[n].am l[n].up)) k=some (dD l[k] (.ah (.sl 2 l[k].ak)) l[k].am l[k].up)) ?_
   refine af (by rw[o7];exact eW _ _ k (aaI ..) gA:d5 (k:Nat) (lenOf (aX (aX (bU n (.row 2 2 0 none) l) n (dD l[n] (.row 2 2 0 (some (a.length+b.length))) l[n].am l[n].up)) k (dD l[k] (.ah (.sl 2 l[k].ak)) (IntKind.i64.wrap (l[k].am-1)) l[k].up)).length 0 none)=some k) ?_
   refine af rk ?_;refine bu (λrm=>?_) (λrm=>?_)
   .have rm:l[k].ag=2:=rm;have Ow:(aX (aX (aX (bU n (.row 2 2 0 none) l) n (dD l[n] (.row 2 2 0 (some (a.length+b.length))) l[n].am l[n].up)) k (dD l[k] (.ah (.sl 2 l[k].ak)) (IntKind.i64.wrap (l[k].am-1)) l[k].up)) k (dD l[k] (.ah (.sl 2 l[k].ak)) (IntKind.i64.wrap (l[k].am-1)) (k:Nat)))=bU n (.row 2 2 0 (some (a.length+b.length))) (l.set k {l[k]with am:=(IntKind.i64.wrap (l[k].am-1)),up:=(k:Int)}):=by
     rw[o7];have:=iG (p:=n) (c:= .row 2 2 0 (some (a.length+b.length))) (l:=l.set k {l[k]with am:=(IntKind.i64.wrap (l[k].am-1))}) (k:=k) (o:={l[k]with am:=(IntKind.i64.wrap (l[k].am-1)),up:=(k:Int)}) (by rw[aaI];exact gA)
     rw[ade]at this;rw[<-this,mO,if_neg GH]
    refine af (by rw[o7];exact eW _ _ k (aaI ..) gA:d5 (k:Nat) (lenOf (aX (aX (bU n (.row 2 2 0 none) l) n (dD l[n] (.row 2 2 0 (some (a.length+b.length))) l[n].am l[n].up)) k (dD l[k] (.ah (.sl 2 l[k].ak)) (IntKind.i64.wrap (l[k].am-1)) l[k].up)).length 0 none)=some k) ?_
    refine af rk ?_;obtain⟨o2,ib,d9⟩:=kg (name:=name) hn gA Kw (q:={l[k]with am:=(IntKind.i64.wrap (l[k].am-1)),up:=(k:Int)}) (by rw[if_pos rm])
    refine⟨_,View.o 3 [] [1,2] ?_ (.nil _),jL _ d9⟩
    iterate 9 refine .aH ?_
    refine .eq rfl ?_;refine .put (.rv (.one (.fT (p:=none) (DZ (Z:=λk=>bD [1,2] k=true) rfl (by show some (Bk.row 9 _)=some (Bk.row 9 _);congr 1;exact congrArg _ Ow) (hq _ rfl) ib)))) ?_
    repeat(first|exact .nil|refine .aH ?_)
   .have rm:l[k].ag≠2:=rm;obtain⟨o2,ib,d9⟩:=kg (name:=name) hn gA Kw (q:={l[k]with am:=(IntKind.i64.wrap (l[k].am-1))}) (by rw[if_neg rm])
    refine⟨_,View.o 3 [] [1,2] ?_ (.nil _),jL _ d9⟩
    iterate 9 refine .aH ?_
    refine .eq rfl ?_;refine .put (.rv (.one (.fT (p:=none) (DZ (Z:=λk=>bD [1,2] k=true) rfl (by show some (Bk.row 9 _)=some (Bk.row 9 _);congr 1;exact congrArg _ o7) (hq _ rfl) ib)))) ?_
    repeat(first|exact .nil|refine .aH ?_)
theorem GJ(l:List Obj)(hs:xW l)(cL:Int)(name:ByteArray){m:Mem}{K:CV->Mem->Prop}(h:K (.bx [nr (cT l cL name).1,cG (cT l cL name).2.1,cG (cT l cL name).2.2]) m):aq prog 68 [cC l,an .i64 cL,fe name] m K:=by
 refine bi (K0:=λr m=>r= .bx [nr (cT l cL name).1,cG (cT l cL name).2.1,cG (cT l cL name).2.2]/\m=[]) (bL (cj func68 l68 (BN l hs cL name)) λr m1⟨r',m',hv,h1,h2⟩=>⟨r',m',hv,h1,h2⟩) (by simp[cC,an,fe,CV.dC,CC.dC]) λr m1 hr=>?_
 obtain⟨rfl,rfl⟩:=hr;exact⟨_,cN.self rfl,h⟩
theorem GK(o:Obj)(hf:o.data.length<=4194304)(dp n:Int):body prog c57 [o.cv,an .i64 dp,an .i64 n] [] (λr m=>cN m r (.bx [byR (j9 o.ag o.data dp n).1,cG (j9 o.ag o.data dp n).2])):=by
 obtain⟨ag,data,ak,target,bs,ax,be,am,up⟩:=o;have hf:data.length<=4194304:=hf;show body prog c57 _ [] (λr m=>cN m r (.bx [byR (j9 ag data dp n).1,cG (j9 ag data dp n).2]))
 refine bu (λh1=>?_) (λh1=>?_)
 .rw[j9,if_pos h1];exact kX (.one (.aM 1))
 refine bv (λh2=>?_) (λh2=>?_)
 .rw[j9,if_neg h1,if_pos h2];exact kX (.one (.aM 1))
 have hk:ag=1:=by simpa using h2
 refine aP (λh3=>?_) (λh3=>?_)
 .rw[j9,if_neg h1,if_neg (by simpa using hk),if_pos (.inl h3)]
  exact kX (.one (.aM 1))
 refine aP (λh4=>?_) (λh4=>?_)
 .rw[j9,if_neg h1,if_neg (by simpa using hk),if_pos (.inr h4)]
  exact kX (.one (.aM 1))
 rw[j9,if_neg h1,if_neg (by simpa using hk),if_neg (λh=>h.elim h3 h4)]
 have h3:¬dp<0:=h3;have h4:¬n<0:=h4;obtain⟨A,rfl⟩:∃A:Nat,dp=A:=⟨dp.toNat,om⟩;obtain⟨N,rfl⟩:∃N:Nat,n=N:=⟨n.toNat,om⟩;rw[show((A:Nat):Int).toNat=A from rfl,show((N:Nat):Int).toNat=N from rfl];have Jk:=n9 A data.length;have hm2:=n9 N (data.length-fD A data.length);have hL:qS (an .i64 (if(data.length:Int)<(A:Int)then(data.length:Int)else(A:Int)))=some (fD A data.length):=by rw[sV];rfl
 have hE:IntKind.i64.wrap ((if(data.length:Int)<(A:Int)then(data.length:Int)else(A:Int))+(if IntKind.i64.wrap ((data.length:Int)-(if(data.length:Int)<(A:Int)then(data.length:Int)else(A:Int)))<(N:Int)then IntKind.i64.wrap ((data.length:Int)-(if(data.length:Int)<(A:Int)then(data.length:Int)else(A:Int)))else(N:Int)))
   =((fD A data.length+fD N (data.length-fD A data.length):Nat):Int):=by
  rw[sV,show(data.length:Int)-((fD A data.length:Nat):Int)=((data.length-fD A data.length:Nat):Int) by omega,ot om,sV,
   show((fD A data.length:Nat):Int)+((fD N (data.length-fD A data.length):Nat):Int)=((fD A data.length+fD N (data.length-fD A data.length):Nat):Int) by omega,ot om]
 have hH:qS (an .i64 (IntKind.i64.wrap ((if(data.length:Int)<(A:Int)then(data.length:Int)else(A:Int))+(if IntKind.i64.wrap ((data.length:Int)-(if(data.length:Int)<(A:Int)then(data.length:Int)else(A:Int)))<(N:Int)then IntKind.i64.wrap ((data.length:Int)-(if(data.length:Int)<(A:Int)then(data.length:Int)else(A:Int)))else(N:Int)))))=some (fD A data.length+fD N (data.length-fD A data.length)):=by rw[hE];rfl
 refine af hL ?_;refine af hH ?_;refine cM (by rw[aae,abe,abe];show fD A data.length<=fD A data.length+fD N (data.length-fD A data.length)/\fD A data.length+fD N (data.length-fD A data.length)<=data.length;omega) ?_
 refine iE (Kl data A N) (by simp[Kl];omega) ?_
 exact kX (eZ.self rfl)
theorem OB(o:Obj)(hf:o.data.length<=4194304)(dp n:Int){m:Mem}{K:CV->Mem->Prop}(h:K (.bx [byR (j9 o.ag o.data dp n).1,cG (j9 o.ag o.data dp n).2]) m):aq prog 57 [o.cv,an .i64 dp,an .i64 n] m K:=
 bi (bc func57 l57 (GK o hf dp n)) (by simp[Obj.cv,Obj.enc,an,CV.dC,CC.dC,RV.dC]) λr m1 hf=>⟨_,hf,h⟩
def c56:LF:= ⟨44,[.cell true 2 6,.tmp 7,.tmp 8],(.seq (.ai [qu 6 (.alloc [qd 0,qd 0]),qu 7 (.aN (qi 0)),qu 8 (.aN (qi 0))]) (.seq (.bV [qm 12 0,qu 13 (.aR 12),qf 14 0 13,qf 15 2 14,ql 16 15,qm 17 0,qu 18 (.aR 17),qf 19 3 18,ql 20 19,qu 21 (.cw 4 16 20),qf 22 3 21,ql 23 22,qm 24 1,qm 25 2,qu 26 (qc 96 [23,24,25]),qm 11 26,qu 27 (.ext 11 0),qu 28 (.ext 11 1),qu 9 (.alloc [qd 0,qd 0]),qw (.store 2 9 27),qm 10 28] [(eE 14 0 (.wm (.cons 14 (some []) (eE 3 15 (.cons 18 (some [11,9,8,4]) (.cons 19 (some []) (.cons 20 none .nil))))) (.cons 18 (some [11,9,8,4]) (.cons 14 (some []) (eE 3 15 (.cons 19 (some []) (.cons 20 none .nil)))))))]) (.cX (.seq (.seq (.ai [qm 29 10,qu 30 (.aL .neq 29 (qi 0))]) (.cond 30 (.seq (.ai [qu 31 (.build [qd 0,qd 0] []),qm 32 10,qw (.store 2 6 31),qu 7 (.aN (qi 0)),qm 8 32]) .ret) .skip)) (.seq (.bV [qL 33 2 9,qm 34 0,qu 35 (.aR 34),qf 36 0 35,qf 37 1 36,ql 38 37,qf 39 0 9,ql 40 39,qu 41 (.cw 2 38 40),qf 42 0 41,ql 43 42,qw (.store 2 6 33),qm 7 43,qu 8 (.aN (qi 0))] [(eE 11 0 (.cons 11 (some [10,8,7,5]) (.cons 12 none (.cons 13 none .nil))))]) .ret)))))⟩
def c63:LF:= ⟨30,[.tmp 6],(.seq (.ai [qu 6 (.aN (qi 0))]) (.seq (.seq (.ai [qm 7 2,qu 8 (.aL .eql 7 (qi 0))]) (.cond 8 (.seq (.ai [qm 9 0,qm 10 0,qu 11 (.aR 10),qf 12 0 11,qL 13 3 12,qu 14 (qc 59 [13]),qu 15 (.aR 9),qf 16 0 15,qw (.store 3 16 14)]) (.bV [qm 17 0,qu 18 (.aR 17),qf 19 0 18,qf 20 2 19,ql 21 20,qm 22 0,qu 23 (.aR 22),qf 24 3 23,ql 25 24,qm 26 1,qu 27 (.cw 4 21 25),qf 28 3 27,qw (.store 1 28 26)] [(eE 12 0 (.cons 12 (some []) .nil))])) .skip)) (.seq (.ai [qm 29 2,qm 6 29]) .ret)))⟩
def c69:LF:= ⟨23,[.tmp 6],(.seq (.ai [qu 6 (.aN (qi 0))]) (.seq (.seq (.ai [qm 7 2,qu 8 (.aL .eql 7 (qi 0))]) (.cond 8 (.seq (.ai [qm 9 0,qm 10 0,qu 11 (.aR 10),qf 12 0 11,qL 13 3 12,qu 14 (qc 59 [13]),qu 15 (.aR 9),qf 16 0 15,qw (.store 3 16 14)]) (.ai [qm 17 0,qm 18 1,qu 19 (.aR 17),qf 20 0 19,qf 21 0 20,qw (.store 1 21 18)])) .skip)) (.seq (.ai [qm 22 2,qm 6 22]) .ret)))⟩
namespace Kn
structure Cl where
 be:Int
 ag:Int
 fd:Int
 fY:Int
 n:Int
 bA:Int
 aY:Int
 cE:bO.dU
 data:List Int
structure An where
 fp:Int
 n:Int
 m:Int
 data:List (List Dt)
def An.no(e:Int):An:=⟨e,0,0,[]⟩
def An.enc(a:An):List Dt:=[.val (.int .i64 a.fp),.val (.int .i64 a.n),.val (.int .i64 a.m),.sl 1 a.data]
def An.rv(a:An):RV:= .agg (a.enc.map .ah)
def An.cv(a:An):CV:= .rv a.rv
def Cl.enc(c:Cl):List Dt:=[.val (.int .i64 c.be),.val (.int .i64 c.ag),.val (.int .i64 c.fd),.val (.int .i64 c.fY),.val (.int .i64 c.n),.val (.int .i64 c.bA),.val (.int .i64 c.aY),.val (.string (bO.cI c.cE)),.sl 1 (jv c.data)]
def Cl.cv(c:Cl):CV:= .rv (.agg (c.enc.map .ah))
def cB(c:Cl):Bk:= .var (c.enc.map .ah)
def xC(k:Kr)(p:Nat):List Dt:=[dt k.l,fh k.ops,gE k.ps,.val (.int .i64 (p:Nat))]
def xB(k:Kr)(p:Nat):Bk:= .var ((xC k p).map .ah)
def mc(a b:Int):Int:=IntKind.i64.wrap ((BitVec.ofInt 64 a&&&BitVec.ofInt 64 b).toNat:Int)
def Vg(a b:Int):Int:=IntKind.i64.wrap ((BitVec.ofInt 64 a|||BitVec.ofInt 64 b).toNat:Int)
def gU(l:List eA)(fd need:Int):(Int×Int)×Int:=(((Tb.oy (l.map i7) fd need).1.dG,(Tb.oy (l.map i7) fd need).1.bX),(Tb.oy (l.map i7) fd need).2)
def c7(l:List eA)(fd:Int):(Int×Int)×Int:=(((Tb.du (l.map i7) fd).1.dG,(Tb.du (l.map i7) fd).1.bX),(Tb.du (l.map i7) fd).2)
def rn(l:List eA)(fd:Int):List eA×Int:=((Tb.mL (l.map i7) fd).1.map Iq,(Tb.mL (l.map i7) fd).2)
def ur(l:List eA)(fd:Int):List eA×Int×Int:=((Tb.sN (l.map i7) fd).1.map Iq,(Tb.sN (l.map i7) fd).2.1,(Tb.sN (l.map i7) fd).2.2)
def vU(l:List eA)(fd n:Int):List eA×Int:=((Tb.xG (l.map i7) fd n).1.map Iq,(Tb.xG (l.map i7) fd n).2)
def Rt(c:Int×Int):RV:= .agg [.ah (.val (.int .i64 c.1)),.ah (.val (.int .i64 c.2))]
theorem ut(l:List eA):ma l=Tb.dE (l.map i7):=by show _=CV.rv (.one (.ah (Tb.re (l.map i7))));rw[uh];rfl
theorem D0(l:List eA)(fd need:Int){m:Mem}{K:CV->Mem->Prop}(h:K (.bx [Rt (gU l fd need).1,cG (gU l fd need).2]) m):aq prog 96 [ma l,an .i64 fd,an .i64 need] m K:=by rw[ut];exact Tb.kY _ fd need h
theorem BO(l:List eA)(fd:Int){m:Mem}{K:CV->Mem->Prop}(h:K (.bx [Rt (c7 l fd).1,cG (c7 l fd).2]) m):aq prog 73 [ma l,an .i64 fd] m K:=by rw[ut];exact Tb.xA _ fd h
theorem KD(l:List eA)(hl:l.length<=2097152)(fd:Int){m:Mem}{K:CV->Mem->Prop}(h:K (.bx [Nt (rn l fd).1,cG (rn l fd).2]) m):aq prog 60 [ma l,an .i64 fd] m K:=by
 rw[ut];refine Tb.NX _ (by simpa using hl) fd ?_
 rw[pW];exact h
theorem Ru(l:List eA)(hl:l.length<=2097152)(fd:Int){m:Mem}{K:CV->Mem->Prop}(h:K (.bx [Nt (ur l fd).1,cG (ur l fd).2.1,cG (ur l fd).2.2]) m):aq prog 61 [ma l,an .i64 fd] m K:=by
 rw[ut];refine Tb.UP _ (by simpa using hl) fd ?_
 rw[pW];exact h
theorem KE(l:List eA)(hl:l.length<=2097152)(fd n:Int){m:Mem}{K:CV->Mem->Prop}(h:K (.bx [Nt (vU l fd n).1,cG (vU l fd n).2]) m):aq prog 62 [ma l,an .i64 fd,an .i64 n] m K:=by
 rw[ut];refine Tb.N1 _ (by simpa using hl) fd n ?_
 rw[pW];exact h
def dM(ops:List bI)(z:Int):Int:=match ops[z.toNat]? with|some o=>o.bp|none=>0
def py(ops:List bI)(z:Int):Int:=match ops[z.toNat]? with|some o=>o.dp|none=>0
def br(k:Kr)(p:Nat)(fd need:Int):(Int×Int)×Int×Int:=
 if(gU (ap k.ps p) fd need).2≠0 then((0,0),0,(gU (ap k.ps p) fd need).2)else((gU (ap k.ps p) fd need).1,dM k.ops (gU (ap k.ps p) fd need).1.1,0)
def eC(k:Kr)(p:Nat)(l:List eA)(e:Int):Kr:=if e=0 then⟨k.l,k.ops,cS k.ps p l⟩else k
def bF(k:Kr)(l:List Obj)(e:Int):Kr:=if e=0 then⟨l,k.ops,k.ps⟩else k
structure KW(k:Kr)(p:Nat):Prop where
 kr:dP k.l k.ops k.ps
 l40:k.l.length<=40
 E0:xW k.l
 lk:n8 (k.l.map Obj.ob)
 nm:∀o,o∈k.l->∀e,e∈o.ak.map ou->e.1.size<=12
 hp:p<k.ps.length
 cap:∀s,s∈ap k.ps p->s.has=true->∃n j:Nat,s.dG=n/\n<k.ops.length/\dM k.ops n=j/\j<k.l.length
theorem eD{ps:List bl}{p:Nat}(hp:p<ps.length):ap ps p=ps[p].aQ:=by rw[ap,vR hp]
theorem xY{l:List eA}{fd need:Int}(h:(gU l fd need).2=0):∃s,s∈l/\s.has=true/\(gU l fd need).1=(s.dG,s.bX):=by
 unfold gU Tb.oy at h|-;split at h
 .simp at h
 .rename_i hn;rw[if_neg hn];unfold Tb.du at h|-;cases hx:(if 0<=fd then(l.map i7)[fd.toNat]? else none)with
  |none=>rw[hx]at h;simp at h
  |some s=>
   rw[hx]at h;simp only at h|-;cases hh:s.has with
   |false=>rw[hh]at h;simp at h
   |true=>
    split at hx
    .rw[Tr]at hx;cases hy:l[fd.toNat]? with
     |none=>rw[hy]at hx;cases hx
     |some t=>
      rw[hy]at hx;simp only[aaG,aaA]at hx;subst hx;exact⟨t,Tu hy,hh,rfl⟩
    .cases hx
theorem KW.at{k:Kr}{p:Nat}(h:KW k p){fd need:Int}(he:(gU (ap k.ps p) fd need).2=0):∃n j:Nat,(gU (ap k.ps p) fd need).1.1=n/\n<k.ops.length/\dM k.ops n=j/\j<k.l.length:=by
 obtain⟨s,hs,hh,e⟩:=xY he;obtain⟨n,j,h1,h2⟩:=h.cap s hs hh;exact⟨n,j,by rw[e];exact h1,h2⟩
theorem KW.held{k:Kr}{p:Nat}(h:KW k p){fd need:Int}(he:(br k p fd need).2.2=0):∃n j:Nat,(br k p fd need).1.1=n/\n<k.ops.length/\(br k p fd need).2.1=j/\j<k.l.length/\dM k.ops n=j:=by
 unfold br at he|-;split at he
 .rename_i hn;exact absurd he hn
 .rename_i hn;rw[if_neg hn];obtain⟨n,j,h1,h2,h3,h4⟩:=h.at (Decidable.of_not_not hn);exact⟨n,j,h1,h2,by show dM k.ops _=_;rw[h1];exact h3,h4,h3⟩
theorem KW.oD{k:Kr}{p:Nat}(h:KW k p):l9 k.l:=⟨h.kr.ll,λo ho=>(h.kr.sm o ho).oD⟩
theorem iH{m:Mem}{Z:Nat->Prop}{id esz:Nat}{p:Option Nat}{ds:List (List Dt)}(hz:Z id)(hm:m[id]? =some (.row esz (aa ds))):d6 m Z p (.row id esz 0 none) (.sl esz ds):=by
 refine d6.row id esz 0 none (aa ds) ds hz hm (by simp[aa]) (λi cs es h1 h2=>?_) (λi cs es j c d h1 h2 h3 h4=>?_)
 .simp only[aa,Tr,h2,aaG,aaA]at h1;subst h1;simp
 .simp only[aa,Tr,h2,aaG,aaA]at h1;subst h1;rw[Tr,h4]at h3;cases h3;exact .ah _
theorem nA(k:Kr)(p:Nat):xB k p≠.aU:=by intro h;cases h
theorem jz(c:Cl):cB c≠.aU:=by intro h;cases h
theorem Vh{Y:Nat->Nat}{m:Mem}{Z:Nat->Prop}{id p:Nat}{a b c:CC}{k:Kr}(ha:d6 m Z (some id) a (dt k.l))(hb:d6 m Z (some id) b (fh k.ops))(hc:d6 m Z (some id) c (gE k.ps)):
  mH Y m Z id (.var [a,b,c,.ah (.val (.int .i64 (p:Nat)))]) (xB k p):=
 fv.var (.cons (.fT ha) (.cons (.fT hb) (.cons (.fT hc) (.cons (.bh (.ah _)) .nil))))
theorem IC{f:Nat}{args:List CV}(ha:∀Y,args.map (CV.bh Y)=args){k k':Kr}{p:Nat}{r0:CV}(hr:∀Y,r0.bh Y=r0)(hc:aq prog f (.rv (.one (.ptr 0 0))::args) [xB k p] (λr m=>r=r0/\m=[xB k' p])){m:Mem}(id:Nat)(hb:cF m id=some (xB k p)){K:CV->Mem->Prop}(hK:K r0 (aX m id (xB k' p))):aq prog f (.rv (.one (.ptr id 0))::args) m K:=by
 have hid:id<m.length:=by rw[aV]at hb;exact(Ki.1 hb).1
 refine bw [id] m.length rfl rfl rfl (by simp[eR,hid]) (args0:= .rv (.one (.ptr 0 0))::args) (by rw[aaR,ha];rfl) (λi b' hi=>?_) hc (λr1 m1 sr=>?_)
 .cases i with
  |zero=>
   simp at hi;subst hi;refine .inr ⟨λh=>h,_,?_,.eq rfl (nA _ _)⟩
   rw[aV]at hb;exact hb
  |succ i=>simp at hi
 .obtain⟨rfl,rfl⟩:=sr;refine⟨Yj _,?_⟩;rw[hr];show K _ (c9 m [id] [xB k' p]);rw[Dn];exact hK
theorem TA{f:Nat}{args:List CV}(ha:∀Y,args.map (CV.bh Y)=args){k k':Kr}{p:Nat}{c:Cl}{r0:CV}(hr:∀Y,r0.bh Y=r0)(hc:aq prog f (.rv (.one (.ptr 0 0)):: .rv (.one (.ptr 1 0))::args) [xB k p,cB c] (λr m=>r=r0/\m=[xB k' p,cB c])){m:Mem}(i j:Nat)(p5:fL [i,j]=true)(aD:eR m.length [i,j]=true)(hi:cF m i=some (xB k p))(hj:cF m j=some (cB c)){K:CV->Mem->Prop}(hK:K r0 (c9 m [i,j] [xB k' p,cB c])):aq prog f (.rv (.one (.ptr i 0)):: .rv (.one (.ptr j 0))::args) m K:=by
 refine bw [i,j] m.length rfl rfl p5 aD (args0:= .rv (.one (.ptr 0 0)):: .rv (.one (.ptr 1 0))::args) (by rw[aaR,aaR,ha];rfl) (λn b' hn=>?_) hc (λr1 m1 sr=>?_)
 .match n,hn with
  |0,hn=>
   cases hn;refine .inr ⟨λh=>h,_,?_,.eq rfl (nA _ _)⟩
   rw[aV]at hi;exact hi
  |1,hn=>
   cases hn;refine .inr ⟨λh=>h,_,?_,.eq rfl (jz _)⟩
   rw[aV]at hj;exact hj
  |n+2,hn=>simp at hn
 .obtain⟨rfl,rfl⟩:=sr;refine⟨Yj _,?_⟩;rw[hr];exact hK
theorem l56:bz prog f56=some c56.er:=by kernel_rfl
def Rw(x:(Int×Int)×Int×Int):CV:= .bx [Rt x.1,cG x.2.1,cG x.2.2]
def acf:LC:=bP (bP c56.code)
def acg:LC:=rc acf
theorem D1(k:Kr)(p:Nat)(hw:KW k p)(fd need:Int):
  aw prog 1 acg (oR prog c56.me (λr m=>r=Rw (br k p fd need)/\∃ex,m=xB k p::ex))
   ⟨kT 44 [(0,.rv (.one (.ptr 0 0))),(6,.rv (.one (.ptr 1 0))),(9,.rv (.one (.ptr 2 0))),(10,an .i64 (gU (ap k.ps p) fd need).2)],
    [xB k p,.var [.ah (.val (.int .i64 0)),.ah (.val (.int .i64 0))],.var [.ah (.val (.int .i64 (gU (ap k.ps p) fd need).1.1)),.ah (.val (.int .i64 (gU (ap k.ps p) fd need).1.2))]]⟩:=by
 have FM:= @KW.at k p hw fd need;have HV:br k p fd need=if(gU (ap k.ps p) fd need).2≠0 then((0,0),0,(gU (ap k.ps p) fd need).2)else((gU (ap k.ps p) fd need).1,dM k.ops (gU (ap k.ps p) fd need).1.1,0):=rfl
 rw[HV];clear HV;generalize gU (ap k.ps p) fd need=w at FM|-;obtain⟨⟨o,r⟩,e⟩:=w;refine bv (λhe=>?_) (λhe=>?_)
 .rw[if_pos he];exact⟨rfl,_,rfl⟩
 .have he:e=0:=he;subst he;obtain⟨n,j,h1,h2,h3,h4⟩:=FM rfl;have h1:o=n:=h1;subst h1;rw[if_neg aC];refine af (nX h2) ?_;have ho:dM k.ops (n:Int)=k.ops[n].bp:=by rw[dM,ZW,vR h2]
  refine⟨⟨rfl,af (nX h2) rfl,rfl,rfl,trivial⟩,?_⟩;show _=Rw ((_,_),dM k.ops (n:Int),0)/\_;rw[ho];exact⟨rfl,_,rfl⟩
theorem ug(k:Kr)(p:Nat)(hw:KW k p)(fd need:Int):
  body prog c56 [.rv (.one (.ptr 0 0)),an .i64 fd,an .i64 need] [xB k p] (λr m=>r=Rw (br k p fd need)/\∃ex,m=xB k p::ex):=by
 have hg:=dJ hw.hp;rw[<-eD hw.hp]at hg;refine af hg ?_;refine⟨?_,?_⟩
 .refine D0 _ fd need ?_;refine⟨trivial,⟨rfl,af hg rfl,rfl,rfl,trivial⟩,trivial,_,View.o1 3 [0,1,2] [] ?_,D1 k p hw fd need⟩
  .exact .au
 .refine⟨⟨rfl,af hg rfl,rfl,rfl,trivial⟩,?_⟩;refine D0 _ fd need ?_;refine⟨trivial,trivial,_,View.o1 3 [0,1,2] [] ?_,D1 k p hw fd need⟩
  .exact .au
theorem kY(k:Kr)(p:Nat)(hw:KW k p)(fd need:Int){m:Mem}(id:Nat)(hb:cF m id=some (xB k p)){K:CV->Mem->Prop}(hK:K (Rw (br k p fd need)) m):
  aq prog 56 [.rv (.one (.ptr id 0)),an .i64 fd,an .i64 need] m K:=
 fC (args0:=[.rv (.one (.ptr 0 0)),an .i64 fd,an .i64 need]) (cs:=xC k p) id hb rfl rfl
  (λ_ hK=>e7 rfl (cj func56 l56 (ug k p hw fd need)) hK) hK
theorem l63:bz prog f63=some c63:=by kernel_rfl
theorem l69:bz prog f69=some c69:=by kernel_rfl
def TX(Q:CV->Mem->Prop)(r:CV)(m:Mem):Prop:=∃r' m',View 1 ⟨[r],m⟩ ⟨[r'],m'⟩/\Q r' m'
theorem GL{ps:List bl}{n:Nat}(hn:n<ps.length)(y:List eA):aX (aa (ps.map bl.enc)) n ((bl.enc ⟨ps[n].aO,ps[n].fenced,ps[n].code,y⟩).map .ah)=aa ((cS ps n y).map bl.enc):=by
 have:cS ps n y=ps.set n {ps[n]with aQ:=y}:=by rw[cS,vR hn]
 rw[this,bb,aa,aa,abB,abB]
theorem GM(k:Kr)(p:Nat)(hk:dP k.l k.ops k.ps)(hp:p<k.ps.length)(l:List eA)(e:Int):
  body prog c63 [.rv (.one (.ptr 0 0)),ma l,an .i64 e] [xB k p] (TX λr m=>r=an .i64 e/\m=[xB (eC k p l e) p]):=by
 refine bu (λhe=>?_) (λhe=>?_)
 .have he:e=0:=he;subst he;refine i4 k.l k.ops k.ps ⟨hk.ll,λo ho=>(hk.sm o ho).oD⟩ hk.lo hk.lp hk.sl hk.ne ?_
  refine af (mJ hp) ?_;refine af (bN bl.enc k.ps hp) ?_;refine⟨trivial,_,_,View.o 4 [0] [1,2,3] (.eq rfl .nil) (.pt rfl rfl (Vh (k:=eC k p l 0) (iH rfl rfl) (iH rfl rfl) (iH rfl ?_)) (.nil _)),rfl,rfl⟩;refine congrArg (λx=>some (Bk.row 4 x)) ?_
  exact GL hp l
 .have he:¬e=0:=he;refine⟨_,_,View.o 1 [0] [] (.eq rfl .nil) (.pt rfl rfl (.eq rfl (nA _ _)) (.nil _)),rfl,?_⟩;rw[eC,if_neg he]
theorem D2(k:Kr)(p:Nat)(hk:dP k.l k.ops k.ps)(hp:p<k.ps.length)(l:List eA)(e:Int){m:Mem}(id:Nat)(hb:cF m id=some (xB k p)){K:CV->Mem->Prop}(hK:K (an .i64 e) (aX m id (xB (eC k p l e) p))):
  aq prog 63 [.rv (.one (.ptr id 0)),ma l,an .i64 e] m K:=
 IC (args:=[ma l,an .i64 e]) (λ_=>rfl) (λ_=>rfl)
  (bL (bc func63 l63 (GM k p hk hp l e)) λr m1⟨r',m',hv,hq⟩=>⟨r',m',hv,hq⟩) id hb hK
theorem BP(k:Kr)(p:Nat)(hk:dP k.l k.ops k.ps)(l:List Obj)(e:Int):
  body prog c69 [.rv (.one (.ptr 0 0)),cC l,an .i64 e] [xB k p] (TX λr m=>r=an .i64 e/\m=[xB (bF k l e) p]):=by
 refine bu (λhe=>?_) (λhe=>?_)
 .have he:e=0:=he;subst he;refine i4 k.l k.ops k.ps ⟨hk.ll,λo ho=>(hk.sm o ho).oD⟩ hk.lo hk.lp hk.sl hk.ne ?_
  exact⟨_,_,View.o 4 [0] [1,2,3] (.eq rfl .nil) (.pt rfl rfl (Vh (k:=bF k l 0) (.ah _) (iH rfl rfl) (iH rfl rfl)) (.nil _)),rfl,rfl⟩
 .have he:¬e=0:=he;refine⟨_,_,View.o 1 [0] [] (.eq rfl .nil) (.pt rfl rfl (.eq rfl (nA _ _)) (.nil _)),rfl,?_⟩;rw[bF,if_neg he]
theorem oa(k:Kr)(p:Nat)(hk:dP k.l k.ops k.ps)(l:List Obj)(e:Int){m:Mem}(id:Nat)(hb:cF m id=some (xB k p)){K:CV->Mem->Prop}(hK:K (an .i64 e) (aX m id (xB (bF k l e) p))):
  aq prog 69 [.rv (.one (.ptr id 0)),cC l,an .i64 e] m K:=
 IC (args:=[cC l,an .i64 e]) (λ_=>rfl) (λ_=>rfl)
  (bL (bc func69 l69 (BP k p hk l e)) λr m1⟨r',m',hv,hq⟩=>⟨r',m',hv,hq⟩) id hb hK
end Kn
namespace Kn
def OC(k:Kr)(n:Nat)(bp bX:Int)(r:CV)(m:Mem):Prop:=∃r' m',View 0 ⟨[r],m⟩ ⟨[r'],m'⟩/\
 (((aE k n bp bX).2.2≠0/\r'= .bx [jx nZ,cG 0,cG (aE k n bp bX).2.2]/\m'=[])\/
 ((aE k n bp bX).2.2=0/\r'= .bx [.agg [.row 0 9 0 none,.ah (fh (aE k n bp bX).1.ops),.ah (gE (aE k n bp bX).1.ps)],cG (aE k n bp bX).2.1,cG 0]/\m'=[.row 9 (aa ((aE k n bp bX).1.l.map Obj.enc))]))
theorem t3V{Y:Nat->Nat}{m:Mem}{Z:Nat->Prop}{a a' b b' c c':RV}(h1:yH Y m Z a a')(h2:yH Y m Z b b')(h0:yH Y m Z c c'):rJ Y m Z (.bx [a,b,c]) (.bx [a',b',c']):=
 .bx rfl λi r r' e1 e2=>by
  match i,e1,e2 with
  |0,e1,e2=>cases e1;cases e2;exact h1
  |1,e1,e2=>cases e1;cases e2;exact h2
  |2,e1,e2=>cases e1;cases e2;exact h0
  |n+3,e1,e2=>simp at e1
theorem ach{Y:Nat->Nat}{m:Mem}{Z:Nat->Prop}{x y:Int}:rJ Y m Z (.bx [.agg [.aM,.aM,.aM],cG x,cG y]) (.bx [jx nZ,cG x,cG y]):=
 t3V (.agg rfl λi c c' h1 h2=>by
  match i,h1,h2 with
  |0,h1,h2=>cases h1;cases h2;exact .fT (.aM 9)
  |1,h1,h2=>cases h1;cases h2;exact .fT (.aM 2)
  |2,h1,h2=>cases h1;cases h2;exact .fT (.aM 4)
  |n+3,h1,h2=>simp at h1) (.one (.bh (.ah _))) (.one (.bh (.ah _)))
def Q18(k:Kr)(n:Nat)(bp bX:Int):Ex->St->Prop:=oR prog c72.me (OC k n bp bX)
theorem D3{k:Kr}{n:Nat}{bp bX e:Int}{m:Mem}(h:aE k n bp bX=(nZ,0,e))(he:e≠0):OC k n bp bX (.bx [.agg [.aM,.aM,.aM],cG 0,cG e]) m:=by refine⟨_,[],View.of m.length [] [] rfl rfl rfl rfl rfl rfl (.put ach .nil) (.nil _),.inl ?_⟩;rw[h];exact⟨he,rfl,rfl⟩
theorem OD(k:Kr)(l:List Obj)(O:List bI)(ps:List bl)(n i:Nat)(hn:n<ps.length)(hi:i<O.length)(bp fd bX:Int)(y:List eA)(h:aE k n bp bX=(⟨l,O.set i ⟨bp,0⟩,cS ps n y⟩,fd,0)):
  aw prog 0 G60 (Q18 k n bp bX)
   ⟨kT 74 [(1,an .i64 (n:Nat)),(2,an .i64 bp),(8,.rv (.one (.ptr 0 0))),(11,an .i64 (i:Nat)),(12,ma y),(13,an .i64 fd),(15,.rv (.one (.ptr 4 0)))],M60 l O ps⟩:=by
 refine af (Bm hi) ?_;have ho:=bN bI.enc O hi;generalize O[i]=x at ho;obtain⟨xo,xa⟩:=x;refine af ho ?_;refine af (mJ hn) ?_;have hp:=bN bl.enc ps hn;have p8:cS ps n y=ps.set n {ps[n]with aQ:=y}:=by rw[cS,vR hn]
 rw[p8]at h;generalize ps[n]=z at hp h;obtain⟨aO,fenced,cd,aQ⟩:=z;refine af hp ?_;refine⟨.bx [.agg [.row 0 9 0 none,.ah (fh (O.set i ⟨bp,0⟩)),.ah (gE (ps.set n ⟨aO,fenced,cd,y⟩))],cG fd,cG 0],[.row 9 (aa (l.map Obj.enc))],
  View.o 5 [1] [2,3] (.put (t3V (.agg rfl λj c c' h1 h2=>?_) (.one (.bh (.ah _))) (.one (.bh (.ah _)))) .nil) (.pn rfl rfl rfl),.inr ⟨by rw[h],by rw[h],by rw[h]⟩⟩
 match j,h1,h2 with
 |0,h1,h2=>cases h1;cases h2;exact .bh (Y:=sg [1] 5) (.row 0 9 0 none)
 |1,h1,h2=>
  cases h1;cases h2;refine .fT (iH rfl (congrArg (λx=>some (Bk.row 2 x)) ?_))
  show aX (aa (O.map bI.enc)) i ((bI.enc ⟨bp,0⟩).map .ah)=_;rw[bb,aa,aa,abB,abB]
 |2,h1,h2=>
  cases h1;cases h2;refine .fT (iH rfl (congrArg (λx=>some (Bk.row 4 x)) ?_))
  show aX (aa (ps.map bl.enc)) n ((bl.enc ⟨aO,fenced,cd,y⟩).map .ah)=_;rw[bb,aa,aa,abB,abB]
 |n+3,h1,h2=>simp at h1
theorem OF(k:Kr)(hk:dP k.l k.ops k.ps)(n:Nat)(hn:n<k.ps.length)(bp bX:Int)(i:Nat)(hi:i=cY k.ops)(vI:i<=k.ops.length)(kz:¬(EX k.ops=none/\k.ops.length>=60)):
  aw prog 0 G30 (Q18 k n bp bX)
   ⟨kT 74 [(1,an .i64 (n:Nat)),(2,an .i64 bp),(3,an .i64 bX),(4,.rv (.one (.ptr 0 0))),(8,.rv (.one (.ptr 1 0))),(11,an .i64 (i:Nat))],[.var ((kC k.l k.ops k.ps).map .ah),.var [.aM,.aM,.aM]]⟩:=by
 have ui:ap k.ps n=k.ps[n].aQ:=by rw[ap,vR hn]
 have yU:=hk.sl _ (aay hn);have UR:k.ops.length<=4194304:=hk.lo;have hS:aE k n bp bX=if(fw k.ps[n].aQ (i:Nat) bX).2.2≠0 then(nZ,0,(fw k.ps[n].aQ (i:Nat) bX).2.2)
   else(⟨k.l,jy k.ops i ⟨bp,0⟩,cS k.ps n (fw k.ps[n].aQ (i:Nat) bX).1⟩,(fw k.ps[n].aQ (i:Nat) bX).2.1,0):=by
  rw[aE,if_neg kz,ui,<-hi]
 refine af (dJ hn) ?_;generalize k.ps[n].aQ=S at yU hS;refine Bv S om (i:Nat) bX ?_;generalize fw S (i:Nat) bX=A at hS;obtain⟨y,fd,e⟩:=A;refine bv (λhe=>?_) (λhe=>?_)
 .rw[if_pos he]at hS;exact D3 hS he
 have he:e=0:=he;subst he;rw[if_neg aC]at hS;refine i4 k.l k.ops k.ps ⟨hk.ll,λo ho=>(hk.sm o ho).oD⟩ hk.lo hk.lp hk.sl hk.ne ?_
 refine bu (λlY=>?_) (λlY=>?_)
 .have lY:i=k.ops.length:=by have lY:(i:Int)=((aa (k.ops.map bI.enc)).length:Int):=lY;rw[bj,N7]at lY;omega
  have jC:jy k.ops i ⟨bp,0⟩=(k.ops++ [bI.mk 0 0]).set i ⟨bp,0⟩:=by rw[jy,if_pos lY,lY];simp
  rw[jC]at hS;refine⟨by simp only[b7,bj,N7,aar,abm];omega,?_⟩
  refine⟨_,View.o1 8 [1,2,7,4,5] [] ?_,OD k k.l (k.ops++ [bI.mk 0 0]) k.ps n i hn (by simp;omega) bp fd bX y hS⟩
  .exact .pe rfl rfl rfl (.pr rfl rfl rfl (.pt rfl rfl (.bM (by simp[b7,aa,bI.enc])) (.pr rfl rfl rfl (.pm rfl rfl rfl))))
 .have aD:i<k.ops.length:=by have lY:¬(i:Int)=((aa (k.ops.map bI.enc)).length:Int):=lY;rw[bj,N7]at lY;omega
  have jC:jy k.ops i ⟨bp,0⟩=k.ops.set i ⟨bp,0⟩:=by rw[jy,if_neg om]
  rw[jC]at hS;refine⟨_,View.o1 6 [1,2,3,4,5] [] ?_,OD k k.l k.ops k.ps n i hn aD bp fd bX y hS⟩
  .exact .au
theorem BQ(k:Kr)(hk:dP k.l k.ops k.ps)(n:Nat)(hn:n<k.ps.length)(bp bX:Int):body prog c72 [eJ k.l k.ops k.ps,an .i64 (n:Nat),an .i64 bp,an .i64 bX] [] (OC k n bp bX):=by
 refine Ip k.ops hk.lo ?_;have UR:k.ops.length<=4194304:=hk.lo;cases ho:EX k.ops with
 |none=>
  have US:LV k.ops= -1:=by rw[LV,ho]
  have Qa:cY k.ops=k.ops.length:=by rw[cY,ho];rfl
  rw[US];refine aP (λxE=>?_) (λxE=>?_)
  .have xE:k.ops.length>=60:=by have xE:((k.ops.map bI.enc).length:Int)>=60:=xE;rw[N7]at xE;omega
   exact D3 (by rw[aE,if_pos ⟨ho,xE⟩]) (by decide)
  .have xE:¬k.ops.length>=60:=by have xE:¬((k.ops.map bI.enc).length:Int)>=60:=xE;rw[N7]at xE;omega
   refine⟨_,View.o 2 [0,1] [] ?_ ?_,OF k hk n hn bp bX k.ops.length Qa.symm (Yj _) (λh=>xE h.2)⟩
   .have hlen:an .i64 (((k.ops.map bI.enc).length:Nat):Int)=an .i64 ((k.ops.length:Nat):Int):=by rw[N7]
    repeat(first|exact .nil|refine .aH ?_|refine .eq rfl ?_)
    refine .eq hlen.symm ?_;repeat(first|exact .nil|refine .aH ?_|refine .eq rfl ?_)
   .exact .au
 |some i=>
  have US:LV k.ops=(i:Nat):=by rw[LV,ho]
  have Qa:cY k.ops=i:=by rw[cY,ho];rfl
  have vI:=Bw ho;rw[US];refine⟨_,View.o1 2 [0,1] [] ?_,OF k hk n hn bp bX i Qa.symm om (λh=>by rw[ho]at h;cases h.1)⟩
  .exact .au
theorem xZ(k:Kr)(hk:dP k.l k.ops k.ps)(n:Nat)(hn:n<k.ps.length)(bp bX:Int){m:Mem}{K:CV->Mem->Prop}(h1:(aE k n bp bX).2.2≠0->K (.bx [jx nZ,cG 0,cG (aE k n bp bX).2.2]) m)(h2:(aE k n bp bX).2.2=0->K (.bx [.agg [.row m.length 9 0 none,.ah (fh (aE k n bp bX).1.ops),.ah (gE (aE k n bp bX).1.ps)],cG (aE k n bp bX).2.1,cG 0]) (m++ [.row 9 (aa ((aE k n bp bX).1.l.map Obj.enc))])):
  aq prog 72 [eJ k.l k.ops k.ps,an .i64 (n:Nat),an .i64 bp,an .i64 bX] m K:=by
 refine bw [] m.length rfl rfl rfl rfl rfl (λi b' hi=>by simp at hi)
  (bL (cj func72 l72 (BQ k hk n hn bp bX)) λr m1⟨r',m',hv,hq⟩=>⟨r',m',hv,hq⟩) (λr m1 hp=>⟨aav _,?_⟩)
 rcases hp with⟨e1,rfl,rfl⟩|⟨e1,rfl,rfl⟩
 .have:=h1 e1;show K _ (gI m []);rw[cg,abV];exact this
 .have:=h2 e1;show K _ (gI m [Bk.bh _ _]);rw[cg,Bk.jG];exact this
end Kn
def c70:LF:= ⟨42,[.tmp 6,.tmp 7],(.seq (.ai [qu 4 (.box 1),qu 5 (.box 2),qu 6 (.aN (qi 0)),qu 7 (.aN (qi 0))]) (.seq (.ai [qf 11 4 5,qw (.store 1 11 (qi (-1))),qf 12 6 5,qw (.store 1 12 (qi (-1)))]) (.seq (.bV [qm 14 0,qu 15 (.aR 14),qf 16 0 15,qf 17 0 16,ql 18 17,qL 19 9 5,qu 20 (qc 111 [18,19]),qm 13 20,qu 21 (.ext 13 0),qu 22 (.ext 13 1),qu 23 (.ext 13 2),qm 8 21,qm 9 22,qm 10 23] [(eE 6 0 (.cons 6 (some []) (eE 7 7 .nil)))]) (.seq (.seq (.ai [qm 24 10,qu 25 (.aL .neq 24 (qi 0))]) (.cond 25 (.seq (.ai [qm 26 10,qu 6 (.aN (qi 0)),qm 7 26]) .ret) .skip)) (.seq (.ai [qm 28 8,qf 29 1 4,ql 30 29,qf 31 2 4,ql 32 31,qm 33 9,qu 34 (qc 112 [28,30,32,33]),qm 27 34,qu 35 (.ext 27 0),qu 36 (.ext 27 1),qm 8 35,qm 10 36]) (.seq (.ai [qm 37 9,qm 38 0,qm 39 8,qm 40 10,qu 41 (qc 69 [38,39,40]),qm 6 37,qm 7 41]) .ret))))))⟩
namespace Kn
def gR(o:Obj):Obj:={o with bs:= -1,be:= -1}
def GN(f:R4):CV:= .rv (.agg ((V9 f).map .ah))
def BR(l:List Obj)(f:R4)(n:Int):List Obj×Int:=cQ (bO.f9 f.name) l f.cL (bO.cI f.name) n
def ce(k:Kr)(f:R4)(o:Obj):Kr×Int×Int:=
 if(aG k.l (gR o)).2.2≠0 then(k,0,(aG k.l (gR o)).2.2)
 else(bF k (BR (aG k.l (gR o)).1 f (aG k.l (gR o)).2.1).1 (BR (aG k.l (gR o)).1 f (aG k.l (gR o)).2.1).2,(aG k.l (gR o)).2.1,(BR (aG k.l (gR o)).1 f (aG k.l (gR o)).2.1).2)
structure Rx(o:Obj):Prop where
 sm:o.sm
 en:o.ak=[]
theorem Rx.gR{o:Obj}(h:Rx o):Rx (gR o):=⟨⟨h.sm.t,h.sm.d,h.sm.e,h.sm.q,h.sm.qd⟩,h.en⟩
theorem xW.make{l:List Obj}(h:xW l){o:Obj}(ho:Rx o):xW (aG l o).1:=by
 have key:∀l',(∀x,x∈l'->x∈l\/x=o)->l.length<=l'.length->l'.length<=4194304->xW l':=λl' hm hl AP=>by
  refine⟨⟨AP,λx hx=>?_⟩,λx hx=>?_⟩
  .rcases hm x hx with hx|rfl
   .exact h.oD.2 x hx
   .exact ho.sm.oD
  .rcases hm x hx with hx|rfl
   .obtain⟨es,h1,h2,h3,h4⟩:=h.en x hx;exact⟨es,h1,h2,h3,λe he=>⟨(h4 e he).1,by have:=(h4 e he).2;omega⟩⟩
   .exact⟨[],ho.en,List.Pairwise.nil,aC,aC⟩
 have hf:=h.oD.1;unfold aG;split
 .rename_i k _;refine key _ (λx hx=>aaQ hx) aC (by simpa using hf)
 .split
  .exact⟨⟨aC,aC⟩,aC⟩
  .refine key _ (λx hx=>by simpa using hx) aC (by simp only[aa5,aar,abm];omega)
theorem l70:bz prog f70=some c70:=by kernel_rfl
def Yy(a b:Int):CV:= .bx [cG a,cG b]
theorem D4(k:Kr)(p:Nat)(hw:KW k p)(f:R4)(o:Obj)(ho:Rx o):
  body prog c70 [.rv (.one (.ptr 0 0)),GN f,o.cv] [xB k p] (TX λr m=>r=Yy (ce k f o).2.1 (ce k f o).2.2/\m=[xB (ce k f o).1 p]):=by
 have hs:=xW.make hw.E0 ho.gR;refine Bd k.l hw.oD (gR o) ?_;have hS:ce k f o=if(aG k.l (gR o)).2.2≠0 then(k,0,(aG k.l (gR o)).2.2)
  else(bF k (BR (aG k.l (gR o)).1 f (aG k.l (gR o)).2.1).1 (BR (aG k.l (gR o)).1 f (aG k.l (gR o)).2.1).2,(aG k.l (gR o)).2.1,(BR (aG k.l (gR o)).1 f (aG k.l (gR o)).2.1).2):=rfl
 rw[hS];clear hS;generalize aG k.l (gR o)=M at hs|-;obtain⟨l,n,e⟩:=M;refine⟨trivial,?_⟩;refine bv (λhe=>?_) (λhe=>?_)
 .rw[if_pos he];exact⟨_,_,View.o 3 [0] [] (.eq rfl .nil) (.pt rfl rfl (.eq rfl (nA _ _)) (.nil _)),rfl,rfl⟩
 .have he:e=0:=he;subst he;rw[if_neg aC];refine Kx l hs f.cL n (bO.cI f.name) (bO.f9 f.name) (λh=>bO.BB f.name h) ?_
  refine oa k p hw.kr _ _ 0 rfl ?_;exact⟨_,_,View.o 3 [0] [] (.eq rfl .nil) (.pt rfl rfl (.eq rfl (nA _ _)) (.nil _)),rfl,rfl⟩
theorem uu(k:Kr)(p:Nat)(hw:KW k p)(f:R4)(o:Obj)(ho:Rx o){m:Mem}(id:Nat)(hb:cF m id=some (xB k p)){K:CV->Mem->Prop}(hK:K (Yy (ce k f o).2.1 (ce k f o).2.2) (aX m id (xB (ce k f o).1 p))):aq prog 70 [.rv (.one (.ptr id 0)),GN f,o.cv] m K:=
 IC (args:=[GN f,o.cv]) (λ_=>rfl) (λ_=>rfl)
  (bL (bc func70 l70 (D4 k p hw f o ho)) λr m1⟨r',m',hv,hq⟩=>⟨r',m',hv,hq⟩) id hb hK
end Kn
def c55:LF:= ⟨117,[.cell true 4 8],(.seq (.ai [qu 8 (.alloc [qd 0,qd 0,qd 0,.aM])]) (.seq (.bV [qm 15 0,qu 16 (.aR 15),qf 17 0 16,qf 18 0 17,ql 19 18,qm 20 2,qm 21 1,qu 22 (.aR 21),qf 23 7 22,ql 24 23,qm 25 3,qu 26 (qc 67 [19,20,24,25,qb true]),qm 14 26,qu 27 (.ext 14 0),qu 28 (.ext 14 1),qu 9 (.alloc [qd 0,qd 0,(.ah (.val (.string ⟨#[]⟩)))]),qw (.store 3 9 27),qm 10 28] [(eE 11 0 (.wm (.cons 11 (some []) (eE 3 12 (.cons 15 (some [9,4]) (.cons 16 (some []) (.cons 17 none .nil))))) (.cons 15 (some [9,4]) (.cons 11 (some []) (eE 3 12 (.cons 16 (some []) (.cons 17 none .nil)))))))]) (.cX (.seq (.ai [qf 29 0 9,ql 30 29,qm 11 30]) (.seq (.block 0 (.seq (.ai [qm 32 10,qu 33 (.aL .neq 32 (qi 0)),qm 31 33]) (.cond 31 .skip (.seq (.ai [qm 35 11,qu 36 (.aL .lss 35 (qi 0)),qm 37 36,qg 38 (.aN 1) 37 true,qg 39 (.aR 38) 37 true,qg 40 (.bY 5 39) 37 true,qg 41 (.load false 1 40) 37 true,qg 42 (.aL .and 41 (qi 1)) 37 true,qg 43 (.aL .eql 42 (qi 0)) 37 true,qu 44 (.pick 37 43 (qb false)),qm 34 44]) (.cond 34 (.ai [qu 10 (.aN (qi 6))]) (.seq (.ai [qm 46 11,qu 47 (.aL .lss 46 (qi 0)),qm 45 47]) (.cond 45 (.ai [qm 49 0,qL 50 3 9,qu 51 (.build [qd 0,.aM,.aM,(.ah (.val (.string ⟨#[]⟩))),qd 0,.aM,qd 0,qd 0,qd 0] [(0,1,qi 1)]),qu 52 (qc 70 [49,50,51]),qm 48 52,qu 53 (.ext 48 0),qu 54 (.ext 48 1),qm 11 53,qm 10 54]) (.seq (.ai [qm 56 1,qu 57 (.aR 56),qf 58 5 57,ql 59 58,qu 60 (.aL .and 59 (qi 2)),qu 61 (.aL .neq 60 (qi 0)),qm 62 61,qg 63 (.aN 0) 62 true,qg 64 (.aR 63) 62 true,qg 65 (.bY 0 64) 62 true,qg 66 (.bY 0 65) 62 true,qg 67 (.load false 1 66) 62 true,qg 68 (.aN 11) 62 true,qg 69 (.cw 9 67 68) 62 true,qg 70 (.bY 0 69) 62 true,qg 71 (.load false 1 70) 62 true,qg 72 (.aL .eql 71 (qi 2)) 62 true,qu 73 (.pick 62 72 (qb false)),qm 55 73]) (.cond 55 (.ai [qu 10 (.aN (qi 12))]) .skip))))))))) (.cX (.seq (.seq (.ai [qm 74 10,qu 75 (.aL .neq 74 (qi 0))]) (.cond 75 (.seq (.ai [qm 76 10,qu 77 (.build [qd 0,qd 0,qd 0,.aM] [(0,1,76)]),qw (.store 4 8 77)]) .ret) .skip)) (.seq (.bV [qm 79 0,qu 80 (.aR 79),qf 81 0 80,qL 82 3 81,qm 83 0,qu 84 (.aR 83),qf 85 3 84,ql 86 85,qm 87 11,qm 88 1,qu 89 (.aR 88),qf 90 6 89,ql 91 90,qu 92 (qc 72 [82,86,87,91]),qm 78 92,qu 93 (.ext 78 0),qu 94 (.ext 78 1),qu 95 (.ext 78 2),qu 12 (.alloc [.aM,.aM,.aM]),qw (.store 3 12 93),qm 13 94,qm 10 95] [(eE 13 0 (.wm (.cons 13 (some []) (eE 4 14 (.cons 18 (some [12,7,3]) (.cons 19 (some []) (.cons 20 none (.cons 21 none .nil)))))) (.cons 18 (some [12,7,3]) (.cons 13 (some []) (eE 4 14 (.cons 19 (some []) (.cons 20 none (.cons 21 none .nil))))))))]) (.cX (.seq (.seq (.ai [qm 96 10,qu 97 (.aL .neq 96 (qi 0))]) (.cond 97 (.seq (.ai [qm 98 10,qu 99 (.build [qd 0,qd 0,qd 0,.aM] [(0,1,98)]),qw (.store 4 8 99)]) .ret) .skip)) (.cX (.seq (.seq (.ai [qm 100 1,qu 101 (.aR 100),qf 102 5 101,ql 103 102,qu 104 (.aL .and 103 (qi 2)),qu 105 (.aL .neq 104 (qi 0))]) (.cond 105 (.ai [qf 106 0 12,ql 107 106,qm 108 11,qu 109 (.cw 9 107 108),qf 110 1 109,qw (.store 1 110 qe)]) .skip)) (.seq (.ai [qm 111 0,qL 112 3 12,qu 113 (.aR 111),qf 114 0 113,qw (.store 3 114 112)]) (.seq (.ai [qm 115 13,qu 116 (.build [qd 0,qd 0,qd 0,.aM] [(1,1,115)]),qw (.store 4 8 116)]) .ret))))))))))))))⟩
namespace Kn
def pz:Obj:=⟨1,[],[],⟨#[]⟩,0,[],0,0,0⟩
theorem Ag:Rx pz:=⟨⟨⟨⟨[],rfl⟩,⟨[],rfl⟩,by simp[pz]⟩,by simp[pz],by simp[pz],by simp[pz],by simp[pz]⟩,rfl⟩
def gV(k:Kr)(ar:Int)(s:bO.dU)(ay follow:Bool):R4:=qD (k.l.map Obj.ob) ar s ay follow
theorem sZ(k:Kr)(p:Nat)(hw:KW k p)(ar:Int)(s:bO.dU)(ay follow:Bool){m:Mem}{K:CV->Mem->Prop}(h:K (Wa (gV k ar s ay follow)) m):
  aq prog 67 [cC k.l,an .i64 ar,bO.vT s,aF ay,aF follow] m K:=by
 rw[show cC k.l=Bh (k.l.map Obj.ob)from congrArg (λd=>CV.rv (.one (.ah d))) (Vd k.l)]
 exact Ro _ hw.lk ar s ay follow h
def GO(l:List Obj)(z:Int):Int:=match l[z.toNat]? with|some o=>o.ag|none=>0
def bW(k:Kr)(c:Cl)(f:R4):Kr×Int×Int:=
 if f.fp≠0 then(k,f.bp,f.fp)
 else if f.bp<0 then(if mc c.bA 1=0 then(k,f.bp,6)else ce k f pz)
 else if mc c.bA 2≠0/\GO k.l f.bp=2 then(k,f.bp,12)
 else(k,f.bp,0)
def lK(l:List Obj)(z:Int):List Obj:=match l[z.toNat]? with|some o=>l.set z.toNat {o with data:=[]}|none=>l
def jd(p:Nat)(c:Cl)(x:Kr×Int×Int):Kr×An:=
 if x.2.2≠0 then(x.1,An.no x.2.2)
 else if(aE x.1 p x.2.1 c.aY).2.2≠0 then(x.1,An.no (aE x.1 p x.2.1 c.aY).2.2)
 else(if mc c.bA 2≠0 then⟨lK (aE x.1 p x.2.1 c.aY).1.l x.2.1,(aE x.1 p x.2.1 c.aY).1.ops,(aE x.1 p x.2.1 c.aY).1.ps⟩else(aE x.1 p x.2.1 c.aY).1,⟨0,(aE x.1 p x.2.1 c.aY).2.1,0,[]⟩)
def eO(k:Kr)(p:Nat)(c:Cl)(ar:Int)(ay:Bool):Kr×An:=jd p c (bW k c (gV k ar c.cE ay true))
theorem Ry{m:Mem}{Z:Nat->Prop}{p:Option Nat}{id:Nat}{l:List Obj}{k:Nat}{c:List CC}{x:Obj}(hc:kN m Z (some id) c x.enc)(hz:Z id)(hm:m[id]? =some (.row 9 (aX (aa (l.map Obj.enc)) k c))):
  d6 m Z p (.row id 9 0 none) (dt (l.set k x)):=by
 rw[bb]at hm;refine d6.row id 9 0 none _ _ hz hm (by simp[aa]) (λi cs es h1 h2=>?_) (λi cs es j c' d h1 h2 h3 h4=>?_)
 .rw[abb]at h1;rw[Tr,abb]at h2;by_cases e:k=i
  .subst e;rw[if_pos rfl]at h1 h2;split at h1
   .cases h1;split at h2
    .cases h2;exact hc.len
    .cases h2
   .cases h1
  .rw[if_neg e]at h1 h2;rw[aa,Tr,Tr]at h1;cases hx:l[i]? with
   |none=>rw[hx]at h2;cases h2
   |some y=>
    rw[hx]at h1 h2;cases h1;cases h2;simp
 .rw[abb]at h1;rw[Tr,abb]at h2;by_cases e:k=i
  .subst e;rw[if_pos rfl]at h1 h2;split at h1
   .cases h1;split at h2
    .cases h2;exact hc.get j c' d h3 h4
    .cases h2
   .cases h1
  .rw[if_neg e]at h1 h2;rw[aa,Tr,Tr]at h1;cases hx:l[i]? with
   |none=>rw[hx]at h2;cases h2
   |some y=>
    rw[hx]at h1 h2;cases h1;cases h2;rw[Tr,h4]at h3;cases h3;exact .ah _
theorem l55:bz prog f55=some c55.er:=by kernel_rfl
def C29:LC:=bP (bP c55.code)
def G29:LC:=rc C29
def C74:LC:=bP (bP G29)
def G74:LC:=rc C74
def C96:LC:=bP (bP G74)
def G96:LC:=rc C96
def acj:LC:=bP G96
def ack:LC:=rc acj
def je:Bk:= .var [.ah (.val (.int .i64 0)),.ah (.val (.int .i64 0)),.ah (.val (.int .i64 0)),.aM]
def TC(k:Kr)(p:Nat)(c:Cl)(a:An)(r:CV)(m:Mem):Prop:=∃r' m',View 2 ⟨[r],m⟩ ⟨[r'],m'⟩/\r'=a.cv/\m'=[xB k p,cB c]
def QC(me:List Rv)(k:Kr)(p:Nat)(c:Cl)(a:An):Ex->St->Prop:=oR prog me (TC k p c a)
theorem OG{Y:Nat->Nat}{m:Mem}{Z:Nat->Prop}{e n x:Int}:rJ Y m Z (.rv (.agg [.ah (.val (.int .i64 e)),.ah (.val (.int .i64 n)),.ah (.val (.int .i64 x)),.aM])) (An.cv ⟨e,n,x,[]⟩):=
 .rv (.agg rfl λi c c' h1 h2=>by
  match i,h1,h2 with
  |0,h1,h2=>cases h1;cases h2;exact .bh (.ah _)
  |1,h1,h2=>cases h1;cases h2;exact .bh (.ah _)
  |2,h1,h2=>cases h1;cases h2;exact .bh (.ah _)
  |3,h1,h2=>cases h1;cases h2;exact .fT (.aM 1)
  |n+4,h1,h2=>simp at h1)
theorem dd{k:Kr}{p:Nat}{c:Cl}{X:Mem}{e n x:Int}:TC k p c ⟨e,n,x,[]⟩ (.rv (.agg [.ah (.val (.int .i64 e)),.ah (.val (.int .i64 n)),.ah (.val (.int .i64 x)),.aM])) (xB k p::cB c::X):=
 ⟨_,_,View.of (X.length+2) [0,1] [] rfl rfl rfl rfl rfl (by simp[eR,Nat.blt]) (.put OG .nil) (.pt rfl rfl (.eq rfl (nA _ _)) (.pt rfl rfl (.eq rfl (jz _)) (.nil _))),rfl,rfl⟩
theorem OH{l:List Obj}{n:Nat}(h:n<l.length):d5 (n:Int) (lenOf (aa (l.map Obj.enc)).length 0 none)=some n:=cy (by show n<(aa (l.map Obj.enc)).length;rw[bj,N7];exact h)
theorem GP(k1:Kr)(p:Nat)(c:Cl)(O:Kr)(j:Nat)(hj:j<O.l.length)(fd:Int)(kf:Kr)(hk:kf=if mc c.bA 2≠0 then⟨lK O.l j,O.ops,O.ps⟩else O):
  aw prog 2 ack (QC c55.me kf p c ⟨0,fd,0,[]⟩)
   ⟨kT 117 [(0,.rv (.one (.ptr 0 0))),(1,.rv (.one (.ptr 1 0))),(8,.rv (.one (.ptr 2 0))),(11,an .i64 (j:Nat)),(12,.rv (.one (.ptr 3 0))),(13,an .i64 fd)],
    [xB k1 p,cB c,je,.var [.row 4 9 0 none,.ah (fh O.ops),.ah (gE O.ps)],.row 9 (aa (O.l.map Obj.enc))]⟩:=by
 refine bv (λh2=>?_) (λh2=>?_)
 .have h2:mc c.bA 2≠0:=h2;rw[if_pos h2]at hk;subst hk;refine af (OH hj) ?_;have ho:=bN Obj.enc O.l hj;have ht:lK O.l (j:Nat)=O.l.set j {O.l[j]with data:=[]}:=by rw[lK,ZW,vR hj]
  rw[ht];generalize O.l[j]=x at ho;obtain⟨ag,data,ak,target,bs,ax,be,am,up⟩:=x;refine af ho ?_;refine⟨_,_,View.o 5 [0,1] [4] (.put OG .nil) (.pt rfl rfl (Vh (k:=⟨O.l.set j ⟨ag,[],ak,target,bs,ax,be,am,up⟩,O.ops,O.ps⟩) (Ry (.cons (.ah _) (.cons (.aM 1) (.cons (.ah _) (.cons (.ah _) (.cons (.ah _) (.cons (.ah _) (.cons (.ah _) (.cons (.ah _) (.cons (.ah _) .nil))))))))) rfl rfl) (.ah _) (.ah _)) (.pt rfl rfl (.eq rfl (jz _)) (.nil _))),rfl,rfl⟩
 .have h2:¬mc c.bA 2≠0:=λh=>h h2
  rw[if_neg h2]at hk;subst hk;exact⟨_,_,View.o 5 [0,1] [4] (.put OG .nil) (.pt rfl rfl (Vh (iH rfl rfl) (.ah _) (.ah _)) (.pt rfl rfl (.eq rfl (jz _)) (.nil _))),rfl,rfl⟩
theorem KF{k:Kr}{n:Nat}{bp bX:Int}(h:(aE k n bp bX).2.2=0):(aE k n bp bX).1.l=k.l:=by
 unfold aE at h|-;split at h
 .simp at h
 .rename_i h1;rw[if_neg h1];split at h
  .rename_i h2;exact absurd h h2
  .rename_i h2;rw[if_neg h2]
theorem x4(k1:Kr)(p:Nat)(c:Cl)(e:Int)(he:e≠0):
  aw prog 2 G96 (QC c55.me k1 p c (An.no e)) ⟨kT 117 [(0,.rv (.one (.ptr 0 0))),(1,.rv (.one (.ptr 1 0))),(8,.rv (.one (.ptr 2 0))),(10,an .i64 e)],[xB k1 p,cB c,je]⟩:=by
 refine bv (λh2=>?_) (λh2=>absurd h2 he)
 exact dd (X:=[_])
theorem x5(k1:Kr)(p:Nat)(c:Cl)(O:Kr)(j:Nat)(hj:j<O.l.length)(fd:Int)(kf:Kr)(hk:kf=if mc c.bA 2≠0 then⟨lK O.l j,O.ops,O.ps⟩else O):
  aw prog 2 G96 (QC c55.me kf p c ⟨0,fd,0,[]⟩)
   ⟨kT 117 [(0,.rv (.one (.ptr 0 0))),(1,.rv (.one (.ptr 1 0))),(8,.rv (.one (.ptr 2 0))),(10,an .i64 0),(11,an .i64 (j:Nat)),(12,.rv (.one (.ptr 3 0))),(13,an .i64 fd)],
    [xB k1 p,cB c,je,.var [.row 4 9 0 none,.ah (fh O.ops),.ah (gE O.ps)],.row 9 (aa (O.l.map Obj.enc))]⟩:=by
 refine⟨_,View.o1 5 [0,1,2,3,4] [] ?_,GP k1 p c O j hj fd kf hk⟩
 .exact .au
theorem KG(p:Nat)(c:Cl)(x:Kr×Int×Int)(hx:x.2.2=0->dP x.1.l x.1.ops x.1.ps/\p<x.1.ps.length/\∃j:Nat,x.2.1=j/\j<x.1.l.length):
  aw prog 2 G74 (QC c55.me (jd p c x).1 p c (jd p c x).2)
   ⟨kT 117 [(0,.rv (.one (.ptr 0 0))),(1,.rv (.one (.ptr 1 0))),(8,.rv (.one (.ptr 2 0))),(10,an .i64 x.2.2),(11,an .i64 x.2.1)],[xB x.1 p,cB c,je]⟩:=by
 obtain⟨k1,bp,e⟩:=x;refine bv (λh2=>?_) (λh2=>?_)
 .have h2:e≠0:=h2;have e1:jd p c (k1,bp,e)=(k1,An.no e):=by rw[jd,if_pos h2]
  rw[e1];exact dd (X:=[_])
 have h2:e=0:=h2;subst h2;obtain⟨hk,hp,j,hj,kM⟩:=hx rfl;have hj:bp=(j:Nat):=hj;subst hj;have hS:jd p c (k1,(j:Int),0)=if(aE k1 p j c.aY).2.2≠0 then(k1,An.no (aE k1 p j c.aY).2.2)
  else(if mc c.bA 2≠0 then⟨lK (aE k1 p j c.aY).1.l j,(aE k1 p j c.aY).1.ops,(aE k1 p j c.aY).1.ps⟩else(aE k1 p j c.aY).1,⟨0,(aE k1 p j c.aY).2.1,0,[]⟩):=by
  rw[jd,if_neg aC]
 rw[hS];have A0:= @KF k1 p (j:Int) c.aY;refine⟨?_,?_⟩
 .refine xZ k1 hk p hp (j:Int) c.aY (λhe=>?_) (λhe=>?_)
  .rw[if_pos he];refine⟨trivial,⟨rfl,rfl,rfl,trivial⟩,trivial,_,View.o1 4 [0,1,2] [] ?_,x4 k1 p c _ he⟩
   .exact .au
  .rw[if_neg (by simp[he])]
   have hl:=A0 he;refine⟨trivial,⟨rfl,rfl,rfl,trivial⟩,trivial,_,View.o1 5 [0,1,2,4,3] [] ?_,x5 k1 p c (aE k1 p j c.aY).1 j (by rw[hl];exact kM) _ _ rfl⟩
   .exact .au
 .refine⟨⟨rfl,rfl,rfl,trivial⟩,?_⟩;refine xZ k1 hk p hp (j:Int) c.aY (λhe=>?_) (λhe=>?_)
  .rw[if_pos he];refine⟨trivial,trivial,_,View.o1 4 [0,1,2] [] ?_,x4 k1 p c _ he⟩
   .exact .au
  .rw[if_neg (by simp[he])]
   have hl:=A0 he;refine⟨trivial,trivial,_,View.o1 5 [0,1,2,3,4] [] ?_,x5 k1 p c (aE k1 p j c.aY).1 j (by rw[hl];exact kM) _ _ rfl⟩
   .exact .au
theorem BS(a b:CV)(k:Int)(t:ByteArray):lC [a,b,.rv (.agg [.ah (.val (.int .i64 k)),.aM,.aM,.ah (.val (.string t)),.ah (.val (.int .i64 0)),.aM,.ah (.val (.int .i64 0)),.ah (.val (.int .i64 0)),.ah (.val (.int .i64 0))])] [a,b,Obj.cv ⟨k,[],[],t,0,[],0,0,0⟩]:=
 .dH _ (.dH _ (.agg (.cons (.dH _) (.cons (.aM 1) (.cons (.aM 2) (.cons (.dH _) (.cons (.dH _) (.cons (.aM 4) (.cons (.dH _) (.cons (.dH _) (.cons (.dH _) .nil))))))))) .nil))
structure GQ(k:Kr)(p:Nat)(c:Cl)(f:R4):Prop where
 fi:f.fp=0->f.bp<(k.l.length:Int)
 x:(bW k c f).2.2=0->dP (bW k c f).1.l (bW k c f).1.ops (bW k c f).1.ps/\p<(bW k c f).1.ps.length/\∃j:Nat,(bW k c f).2.1=j/\j<(bW k c f).1.l.length
theorem KH(k:Kr)(p:Nat)(hw:KW k p)(c:Cl)(f:R4)(hf:GQ k p c f):
  aw prog 2 G29 (QC c55.me (jd p c (bW k c f)).1 p c (jd p c (bW k c f)).2)
   ⟨kT 117 [(0,.rv (.one (.ptr 0 0))),(1,.rv (.one (.ptr 1 0))),(8,.rv (.one (.ptr 2 0))),(9,.rv (.one (.ptr 3 0))),(10,an .i64 f.fp)],[xB k p,cB c,je,.var ((V9 f).map .ah)]⟩:=by
 have LW:=KG p c (bW k c f) hf.x;have Qu:=hf.fi;clear hf;obtain⟨bp,cL,name,fp⟩:=f;refine bv (λhe=>?_) (λhe=>?_)
 .have he:fp≠0:=he;have e1:bW k c ⟨bp,cL,name,fp⟩=(k,bp,fp):=by rw[bW,if_pos he]
  rw[e1]at LW|-;refine⟨_,View.o1 4 [0,1,2] [] ?_,LW⟩
  .exact .au
 have he:fp=0:=he;subst he;have Qu:bp<(k.l.length:Int):=Qu rfl;refine aP (λh1=>?_) (λh1=>?_)
 .have h1:bp<0:=h1;refine bu (λh2=>?_) (λh2=>?_)
  .have h2:mc c.bA 1=0:=h2;have e1:bW k c ⟨bp,cL,name,0⟩=(k,bp,6):=by rw[bW,if_neg aC,if_pos h1,if_pos h2]
   rw[e1]at LW|-;refine⟨_,View.o1 4 [0,1,2] [] ?_,LW⟩
   .exact .au
  .have h2:¬mc c.bA 1=0:=h2;have e1:bW k c ⟨bp,cL,name,0⟩=ce k ⟨bp,cL,name,0⟩ pz:=by rw[bW,if_neg aC,if_pos h1,if_neg h2]
   rw[e1]at LW|-;refine cM (decide_eq_true h1) ?_;refine nj (BS _ _ _ _) (uu k p hw ⟨bp,cL,name,0⟩ pz Ag 0 rfl ?_);refine⟨_,View.o1 4 [0,1,2] [] ?_,LW⟩
   .exact .au
 .have h1:¬bp<0:=h1;obtain⟨j,rfl⟩:∃j:Nat,bp=j:=⟨bp.toNat,om⟩;have hj:j<k.l.length:=om;have Qb:GO k.l (j:Int)=k.l[j].ag:=by rw[GO,ZW,vR hj]
  refine bv (λh2=>?_) (λh2=>?_)
  .have h2:mc c.bA 2≠0:=h2;refine af (jc hj) ?_;refine bu (λh3=>?_) (λh3=>?_)
   .have h3:k.l[j].ag=2:=h3;have e1:bW k c ⟨(j:Nat),cL,name,0⟩=(k,(j:Int),12):=by rw[bW,if_neg aC,if_neg h1,if_pos ⟨h2,by rw[<-h3,<-Qb]⟩]
    rw[e1]at LW|-;refine⟨_,View.o1 4 [0,1,2] [] ?_,LW⟩
    .exact .au
   .have h3:¬k.l[j].ag=2:=h3;have e1:bW k c ⟨(j:Nat),cL,name,0⟩=(k,(j:Int),0):=by rw[bW,if_neg aC,if_neg h1,if_neg (by rw[Qb];exact λh=>h3 h.2)]
    rw[e1]at LW|-;refine⟨_,View.o1 4 [0,1,2] [] ?_,LW⟩
    .exact .au
  .have h2:¬mc c.bA 2≠0:=λh=>h h2
   have e1:bW k c ⟨(j:Nat),cL,name,0⟩=(k,(j:Int),0):=by rw[bW,if_neg aC,if_neg h1,if_neg (λh=>h2 h.1)]
   rw[e1]at LW|-;refine⟨_,View.o1 4 [0,1,2] [] ?_,LW⟩
   .exact .au
theorem GR(k:Kr)(p:Nat)(hw:KW k p)(c:Cl)(ar:Int)(ay:Bool)(hf:GQ k p c (gV k ar c.cE ay true)):
  body prog c55 [.rv (.one (.ptr 0 0)),.rv (.one (.ptr 1 0)),an .i64 ar,aF ay] [xB k p,cB c] (TC (eO k p c ar ay).1 p c (eO k p c ar ay).2):=by
 have hs:=KH k p hw c _ hf;show body prog c55 _ _ (TC (jd p c (bW k c (gV k ar c.cE ay true))).1 p c (jd p c (bW k c (gV k ar c.cE ay true))).2);refine⟨?_,?_⟩
 .refine sZ k p hw ar c.cE ay true ?_;refine⟨trivial,⟨rfl,rfl,trivial⟩,trivial,_,View.o1 4 [0,1,2,3] [] ?_,hs⟩
  .exact .au
 .refine⟨⟨rfl,rfl,trivial⟩,?_⟩;refine sZ k p hw ar c.cE ay true ?_;refine⟨trivial,trivial,_,View.o1 4 [0,1,2,3] [] ?_,hs⟩
  .exact .au
theorem D5(k:Kr)(p:Nat)(hw:KW k p)(c:Cl)(ar:Int)(ay:Bool)(hf:GQ k p c (gV k ar c.cE ay true)){m:Mem}(i j:Nat)(p5:fL [i,j]=true)(aD:eR m.length [i,j]=true)(hi:cF m i=some (xB k p))(hj:cF m j=some (cB c)){K:CV->Mem->Prop}(hK:K (eO k p c ar ay).2.cv (c9 m [i,j] [xB (eO k p c ar ay).1 p,cB c])):
  aq prog 55 [.rv (.one (.ptr i 0)),.rv (.one (.ptr j 0)),an .i64 ar,aF ay] m K:=
 TA (args:=[an .i64 ar,aF ay]) (λ_=>rfl) (λ_=>rfl)
  (bL (cj func55 l55 (GR k p hw c ar ay hf)) λr m1⟨r',m',hv,hq⟩=>⟨r',m',hv,hq⟩) i j p5 aD hi hj hK
end Kn
def c32:LF:= ⟨78,[.cell true 4 4],(.seq (.ai [qu 4 (.alloc [qd 0,qd 0,qd 0,.aM])]) (.seq (.seq (.ai [qm 9 1,qu 10 (.aR 9),qf 11 6 10,ql 12 11,qu 13 (qc 54 [12]),qu 14 (.un .not 13),qm 15 14,qg 16 (.aN 1) 15 false,qg 17 (.aR 16) 15 false,qg 18 (.bY 5 17) 15 false,qg 19 (.load false 1 18) 15 false,qg 20 (.aL .lss 19 (qi 0)) 15 false,qu 21 (.pick 15 (qb true) 20),qm 22 21,qg 23 (.aN 1) 22 false,qg 24 (.aR 23) 22 false,qg 25 (.bY 5 24) 22 false,qg 26 (.load false 1 25) 22 false,qg 27 (.aL .gtr 26 (qi 3)) 22 false,qu 28 (.pick 22 (qb true) 27)]) (.cond 28 (.seq (.ai [qu 29 (.build [qd 0,qd 0,qd 0,.aM] [(0,1,qi 3)]),qw (.store 4 4 29)]) .ret) .skip)) (.seq (.seq (.ai [qm 30 1,qu 31 (.aR 30),qf 32 1 31,ql 33 32,qu 34 (.aL .eql 33 (qi 2))]) (.cond 34 (.seq (.ai [qm 35 0,qm 36 1,qu 37 (qc 55 [35,36,qi 0,qb false]),qw (.store 4 4 37)]) .ret) .skip)) (.seq (.ai [qm 38 1,qu 39 (.aR 38),qf 40 6 39,ql 41 40,qu 42 (.aL .or (qi 8) 41),qm 5 42]) (.seq (.seq (.ai [qm 43 1,qu 44 (.aR 43),qf 45 5 44,ql 46 45,qu 47 (.aL .and 46 (qi 1)),qu 48 (.aL .neq 47 (qi 0))]) (.cond 48 (.ai [qm 49 5,qu 50 (.aL .or 49 (qi 16)),qm 5 50]) .skip)) (.seq (.seq (.ai [qm 51 1,qu 52 (.aR 51),qf 53 5 52,ql 54 53,qu 55 (.aL .and 54 (qi 2)),qu 56 (.aL .neq 55 (qi 0))]) (.cond 56 (.ai [qm 57 5,qu 58 (.aL .or 57 (qi 2)),qm 5 58]) .skip)) (.cX (.seq (.ai [qm 60 0,qm 61 1,qu 62 (.aR 61),qf 63 2 62,ql 64 63,qm 65 5,qu 66 (qc 56 [60,64,65]),qm 59 66,qu 67 (.ext 59 0),qu 68 (.ext 59 1),qu 69 (.ext 59 2),qu 6 (.alloc [qd 0,qd 0]),qw (.store 2 6 67),qm 7 68,qm 8 69]) (.seq (.seq (.ai [qm 70 8,qu 71 (.aL .neq 70 (qi 0))]) (.cond 71 (.seq (.ai [qm 72 8,qu 73 (.build [qd 0,qd 0,qd 0,.aM] [(0,1,72)]),qw (.store 4 4 73)]) .ret) .skip)) (.seq (.ai [qm 74 0,qm 75 1,qm 76 7,qu 77 (qc 55 [74,75,76,qb true]),qw (.store 4 4 77)]) .ret))))))))))⟩
namespace Kn
def lL(c:Cl):Int:=if mc c.bA 2≠0 then Vg (if mc c.bA 1≠0 then Vg (Vg 8 c.aY) 16 else Vg 8 c.aY) 2 else(if mc c.bA 1≠0 then Vg (Vg 8 c.aY) 16 else Vg 8 c.aY)
def fx(k:Kr)(p:Nat)(c:Cl):Kr×An:=
 if Tb.fm c.aY=false\/c.bA<0\/c.bA>3 then(k,An.no 3)
 else if c.ag=2 then eO k p c 0 false
 else if(br k p c.fd (lL c)).2.2≠0 then(k,An.no (br k p c.fd (lL c)).2.2)
 else eO k p c (br k p c.fd (lL c)).2.1 true
theorem GS{k:Kr}{p:Nat}{c:Cl}{X:Mem}{a:An}:TC k p c a a.cv (xB k p::cB c::X):=
 ⟨_,_,View.of (X.length+2) [0,1] [] rfl rfl rfl rfl rfl (by simp[eR,Nat.blt]) (.eq rfl .nil) (.pt rfl rfl (.eq rfl (nA _ _)) (.pt rfl rfl (.eq rfl (jz _)) (.nil _))),rfl,rfl⟩
theorem l32:bz prog f32=some c32.er:=by kernel_rfl
def acl:LC:=bP (bP (bP (bP (bP (bP c32.code)))))
def Yz:LC:=rc acl
theorem OI(k:Kr)(p:Nat)(hw:KW k p)(c:Cl)(need:Int)(hf:∀ar,GQ k p c (gV k ar c.cE true true))(R:Kr×An)(hR:R=if(br k p c.fd need).2.2≠0 then(k,An.no (br k p c.fd need).2.2)else eO k p c (br k p c.fd need).2.1 true):
  aw prog 2 Yz (QC c32.me R.1 p c R.2) ⟨kT 78 [(0,.rv (.one (.ptr 0 0))),(1,.rv (.one (.ptr 1 0))),(4,.rv (.one (.ptr 2 0))),(5,an .i64 need)],[xB k p,cB c,je]⟩:=by
 refine kY k p hw c.fd need 0 rfl ?_;generalize br k p c.fd need=w at hR|-;obtain⟨⟨o,r⟩,b,e⟩:=w;refine bv (λhe=>?_) (λhe=>?_)
 .have he:e≠0:=he;rw[if_pos he]at hR;subst hR;exact dd (X:=[_,_])
 .have he:e=0:=he;subst he;rw[if_neg aC]at hR;subst hR;refine D5 k p hw c b true (hf b) 0 1 rfl rfl rfl rfl ?_;exact GS (X:=[_,_])
theorem KJ(k:Kr)(p:Nat)(hw:KW k p)(c:Cl)(hf:∀ar ay,GQ k p c (gV k ar c.cE ay true)):
  body prog c32 [.rv (.one (.ptr 0 0)),.rv (.one (.ptr 1 0))] [xB k p,cB c] (TC (fx k p c).1 p c (fx k p c).2):=by
 have hv:∀need R,R=(if(br k p c.fd need).2.2≠0 then(k,An.no (br k p c.fd need).2.2)else eO k p c (br k p c.fd need).2.1 true)->
  aw prog 2 Yz (QC c32.me R.1 p c R.2) ⟨kT 78 [(0,.rv (.one (.ptr 0 0))),(1,.rv (.one (.ptr 1 0))),(4,.rv (.one (.ptr 2 0))),(5,an .i64 need)],[xB k p,cB c,je]⟩:=λneed R hR=>OI k p hw c need (λb=>hf b true) R hR
 refine Tb.xD c.aY ?_;cases hr:Tb.fm c.aY with
 |false=>
  have e1:fx k p c=(k,An.no 3):=by rw[fx,if_pos (.inl hr)]
  rw[e1];exact dd (X:=[_])
 |true=>
  refine aP (λh1=>?_) (λh1=>?_)
  .have h1:c.bA<0:=h1;have e1:fx k p c=(k,An.no 3):=by rw[fx,if_pos (.inr (.inl h1))]
   rw[e1];exact dd (X:=[_])
  have h1:¬c.bA<0:=h1;refine aP (λh2=>?_) (λh2=>?_)
  .have h2:c.bA>3:=h2;have e1:fx k p c=(k,An.no 3):=by rw[fx,if_pos (.inr (.inr h2))]
   rw[e1];exact dd (X:=[_])
  have h2:¬c.bA>3:=h2;have e0:fx k p c=if c.ag=2 then eO k p c 0 false
   else if(br k p c.fd (lL c)).2.2≠0 then(k,An.no (br k p c.fd (lL c)).2.2)
   else eO k p c (br k p c.fd (lL c)).2.1 true:=by rw[fx,if_neg (by simp[hr,h1,h2])]
  rw[e0];refine bu (λh3=>?_) (λh3=>?_)
  .have h3:c.ag=2:=h3;rw[if_pos h3];refine D5 k p hw c 0 false (hf 0 false) 0 1 rfl rfl rfl rfl ?_;exact GS (X:=[_])
  have h3:¬c.ag=2:=h3;rw[if_neg h3];refine bv (λh4=>?_) (λh4=>?_)
  .have h4:mc c.bA 1≠0:=h4;refine bv (λh5=>?_) (λh5=>?_)
   .have h5:mc c.bA 2≠0:=h5;refine⟨_,View.o 3 [0,1,2] [] ?_ ?_,hv (lL c) _ rfl⟩
    .rw[lL,if_pos h4,if_pos h5];repeat(first|exact .nil|refine .aH ?_|refine .eq rfl ?_)
    .exact .au
   .have h5:¬mc c.bA 2≠0:=λh=>h h5
    refine⟨_,View.o 3 [0,1,2] [] ?_ ?_,hv (lL c) _ rfl⟩
    .rw[lL,if_pos h4,if_neg h5];repeat(first|exact .nil|refine .aH ?_|refine .eq rfl ?_)
    .exact .au
  .have h4:¬mc c.bA 1≠0:=λh=>h h4
   refine bv (λh5=>?_) (λh5=>?_)
   .have h5:mc c.bA 2≠0:=h5;refine⟨_,View.o 3 [0,1,2] [] ?_ ?_,hv (lL c) _ rfl⟩
    .rw[lL,if_neg h4,if_pos h5];repeat(first|exact .nil|refine .aH ?_|refine .eq rfl ?_)
    .exact .au
   .have h5:¬mc c.bA 2≠0:=λh=>h h5
    refine⟨_,View.o 3 [0,1,2] [] ?_ ?_,hv (lL c) _ rfl⟩
    .rw[lL,if_neg h4,if_neg h5];repeat(first|exact .nil|refine .aH ?_|refine .eq rfl ?_)
    .exact .au
theorem dY{f:Nat}{k k':Kr}{p:Nat}{c:Cl}{a:An}(hc:aq prog f [.rv (.one (.ptr 0 0)),.rv (.one (.ptr 1 0))] [xB k p,cB c] (TC k' p c a)){m:Mem}(i j:Nat)(p5:fL [i,j]=true)(aD:eR m.length [i,j]=true)(hi:cF m i=some (xB k p))(hj:cF m j=some (cB c)){K:CV->Mem->Prop}(hK:K a.cv (c9 m [i,j] [xB k' p,cB c])):aq prog f [.rv (.one (.ptr i 0)),.rv (.one (.ptr j 0))] m K:=
 TA (args:=[]) (λ_=>rfl) (λ_=>rfl) (bL hc λr m1⟨r',m',hv,hq⟩=>⟨r',m',hv,hq⟩) i j p5 aD hi hj hK
theorem Ah(k:Kr)(p:Nat)(hw:KW k p)(c:Cl)(hf:∀ar ay,GQ k p c (gV k ar c.cE ay true)):aq prog 32 [.rv (.one (.ptr 0 0)),.rv (.one (.ptr 1 0))] [xB k p,cB c] (TC (fx k p c).1 p c (fx k p c).2):=
 cj func32 l32 (KJ k p hw c hf)
end Kn
def c33:LF:= ⟨172,[.cell true 4 4],(.seq (.ai [qu 4 (.alloc [qd 0,qd 0,qd 0,.aM])]) (.seq (.ai [qu 15 (.rM),qw (.tz (.i .i64) 15 (qi 4) (qi 1)),qw (.tz (.i .i64) 15 (qi 5) (qi 2)),qw (.tz (.i .i64) 15 (qi 6) (qi 4)),qm 16 15,qm 17 1,qu 18 (.aR 17),qf 19 1 18,ql 20 19,qu 21 (.yN (.one (qd 0)) (.i .i64) 16 20 false),qm 5 21]) (.cX (.seq (.ai [qm 23 0,qm 24 1,qu 25 (.aR 24),qf 26 2 25,ql 27 26,qm 28 5,qu 29 (qc 56 [23,27,28]),qm 22 29,qu 30 (.ext 22 0),qu 31 (.ext 22 1),qu 32 (.ext 22 2),qu 6 (.alloc [qd 0,qd 0]),qw (.store 2 6 30),qm 7 31,qm 8 32]) (.seq (.seq (.ai [qm 33 8,qu 34 (.aL .neq 33 (qi 0))]) (.cond 34 (.seq (.ai [qm 35 8,qu 36 (.build [qd 0,qd 0,qd 0,.aM] [(0,1,35)]),qw (.store 4 4 36)]) .ret) .skip)) (.seq (.bV [qm 37 0,qu 38 (.aR 37),qf 39 0 38,qf 40 1 39,ql 41 40,qf 42 0 6,ql 43 42,qu 44 (.cw 2 41 43),qf 45 1 44,ql 46 45,qm 9 46] [eE 11 0 .nil]) (.seq (.ai [qu 47 (.build [qd 0,qd 0,qd 0,.aM] []),qu 10 (.alloc [qd 0,qd 0,qd 0,.aM]),qw (.store 4 10 47)]) (.seq (.seq (.ai [qm 48 1,qu 49 (.aR 48),qf 50 1 49,ql 51 50]) (.block 0 (.seq (.ai [qu 70 (.aL .eql 51 (qi 4)),qm 69 70]) (.cond 69 (.seq (.bV [qm 72 0,qu 73 (.aR 72),qf 74 0 73,qf 75 0 74,ql 76 75,qm 77 7,qu 78 (.cw 9 76 77),qL 79 9 78,qm 80 9,qm 81 1,qu 82 (.aR 81),qf 83 4 82,ql 84 83,qu 85 (qc 57 [79,80,84]),qm 71 85,qu 86 (.ext 71 0),qu 87 (.ext 71 1),qm 11 86,qm 12 87] [(eE 13 0 (.cons 13 (some []) (eE 5 14 .nil)))]) (.seq (.seq (.ai [qm 88 12,qu 89 (.aL .neq 88 (qi 0))]) (.cond 89 (.seq (.ai [qm 90 12,qu 91 (.build [qd 0,qd 0,qd 0,.aM] [(0,1,90)]),qw (.store 4 4 91)]) .ret) .skip)) (.seq (.ai [qm 92 9,qm 93 11,qu 94 (.len 1 93),qu 95 (.aL .add 92 94),qm 9 95]) (.ai [qm 96 11,qu 97 (.len 1 96),qm 98 11,qf 99 1 10,qw (.store 1 99 97),qf 100 3 10,qw (.store 1 100 98)])))) (.seq (.ai [qu 102 (.aL .eql 51 (qi 5)),qm 101 102]) (.cond 101 (.seq (.bV [qm 104 0,qu 105 (.aR 104),qf 106 0 105,qf 107 0 106,ql 108 107,qm 109 7,qu 110 (.cw 9 108 109),qL 111 9 110,qm 112 9,qm 113 1,qu 114 (.aR 113),qf 115 8 114,ql 116 115,qu 117 (qc 58 [111,112,116]),qm 103 117,qu 118 (.ext 103 0),qu 119 (.ext 103 1),qu 13 (.alloc [qd 0,.aM,.aM,(.ah (.val (.string ⟨#[]⟩))),qd 0,.aM,qd 0,qd 0,qd 0]),qw (.store 9 13 118),qm 14 119] [(eE 13 0 (.wm (.cons 13 (some []) (eE 3 14 (.cons 17 (some [12,7,6,4]) (.cons 18 (some []) (.cons 19 none .nil))))) (.cons 17 (some [12,7,6,4]) (.cons 13 (some []) (eE 3 14 (.cons 18 (some []) (.cons 19 none .nil)))))))]) (.cX (.seq (.seq (.ai [qm 120 14,qu 121 (.aL .neq 120 (qi 0))]) (.cond 121 (.seq (.ai [qm 122 14,qu 123 (.build [qd 0,qd 0,qd 0,.aM] [(0,1,122)]),qw (.store 4 4 123)]) .ret) .skip)) (.seq (.ai [qm 124 0,qm 125 0,qu 126 (.aR 125),qf 127 0 126,qL 128 3 127,qu 129 (qc 59 [128]),qu 130 (.aR 124),qf 131 0 130,qw (.store 3 131 129)]) (.seq (.bV [qm 132 0,qu 133 (.aR 132),qf 134 0 133,qf 135 0 134,ql 136 135,qm 137 7,qL 138 9 13,qu 139 (.cw 9 136 137),qw (.store 9 139 138)] [(eE 8 0 (.cons 8 (some []) .nil))]) (.seq (.ai [qm 140 9,qm 141 1,qu 142 (.aR 141),qf 143 8 142,ql 144 143,qu 145 (.len 1 144),qu 146 (.aL .add 140 145),qm 9 146]) (.ai [qm 147 1,qu 148 (.aR 147),qf 149 8 148,ql 150 149,qu 151 (.len 1 150),qf 152 1 10,qw (.store 1 152 151)]))))))) (.seq (.seq (.ai [qm 52 1,qu 53 (.aR 52),qf 54 4 53,ql 55 54,qu 56 (.aL .lss 55 (qi 0)),qm 57 56,qg 58 (.aN 1) 57 false,qg 59 (.aR 58) 57 false,qg 60 (.bY 4 59) 57 false,qg 61 (.load false 1 60) 57 false,qg 62 (.aL .gtr 61 (qi 60)) 57 false,qu 63 (.pick 57 (qb true) 62)]) (.cond 63 (.seq (.ai [qu 64 (.build [qd 0,qd 0,qd 0,.aM] [(0,1,qi 3)]),qw (.store 4 4 64)]) .ret) .skip)) (.ai [qm 65 1,qu 66 (.aR 65),qf 67 4 66,ql 68 67,qm 9 68])))))))) (.cX (.seq (.ai [qm 153 0,qm 154 0,qu 155 (.aR 154),qf 156 0 155,qL 157 3 156,qu 158 (qc 59 [157]),qu 159 (.aR 153),qf 160 0 159,qw (.store 3 160 158)]) (.seq (.bV [qm 161 0,qu 162 (.aR 161),qf 163 0 162,qf 164 1 163,ql 165 164,qf 166 0 6,ql 167 166,qm 168 9,qu 169 (.cw 2 165 167),qf 170 1 169,qw (.store 1 170 168)] [(eE 10 0 (.cons 10 (some []) .nil))]) (.seq (.ai [qL 171 4 10,qw (.store 4 4 171)]) .ret))))))))))))⟩
namespace Kn
def lM(l:List Obj)(z:Int):Obj:=(l[z.toNat]?).getD ij
def pA(k:Kr)(z a:Int):Kr:=⟨k.l,(match k.ops[z.toNat]? with|some o=>k.ops.set z.toNat {o with dp:=a}|none=>k.ops),k.ps⟩
def setObj(k:Kr)(z:Int)(o:Obj):Kr:=⟨k.l.set z.toNat o,k.ops,k.ps⟩
def BT(a b:Int):Int:=IntKind.i64.wrap (a+b)
def oz(ag:Int):Int:=if ag=4 then 1 else if ag=5 then 2 else 4
def pB(k:Kr)(n:Int)(dp:Int)(r:List (List Dt)×Int):Kr×An:=
 if r.2≠0 then(k,An.no r.2)else(pA k n (BT dp r.1.length),⟨0,r.1.length,0,r.1⟩)
def mP(k:Kr)(n:Int)(bp:Int)(dp:Int)(len:Nat)(r:Obj×Int):Kr×An:=
 if r.2≠0 then(k,An.no r.2)else(pA (setObj k bp r.1) n (BT dp len),⟨0,len,0,[]⟩)
def oc(k:Kr)(n:Int)(dp:Int):Kr×An:=
 if dp<0\/dp>60 then(k,An.no 3)else(pA k n dp,⟨0,0,0,[]⟩)
def kF(k:Kr)(c:Cl)(w:(Int×Int)×Int×Int):Kr×An:=
 if w.2.2≠0 then(k,An.no w.2.2)
 else if c.ag=4 then pB k w.1.1 (py k.ops w.1.1) (j9 (lM k.l w.2.1).ag (lM k.l w.2.1).data (py k.ops w.1.1) c.n)
 else if c.ag=5 then mP k w.1.1 w.2.1 (py k.ops w.1.1) c.data.length (fo (lM k.l w.2.1) (py k.ops w.1.1) (jv c.data))
 else oc k w.1.1 c.n
def gd(k:Kr)(p:Nat)(c:Cl):Kr×An:=kF k c (br k p c.fd (oz c.ag))
theorem uv{l:List Obj}{n:Nat}(h:n<l.length):lM l (n:Int)=l[n]:=by rw[lM,ZW,vR h];rfl
def We(d:List Int)(A:Nat)(b:List Int):List Int:=if b.length=0 then d else cV (d++List.replicate (A+b.length-d.length) 0) A b
theorem GU(d b:List Int)(A:Nat):qE (jv d) A (jv b)=jv (We d A b):=by
 have hl:∀x:List Int,(jv x).length=x.length:=λx=>by simp[jv]
 have hz:∀n,List.replicate n zb=jv (List.replicate n 0):=λn=>by simp[jv,zb]
 unfold qE We;rw[hl];split
 .rfl
 .unfold UZ cV;rw[hl,hz,hl];simp only[jv,abn,adg,adZ]
theorem ID(d b:List Int)(A:Nat)(hb:b.length<=60)(hA:A+b.length<=60):(We d A b).length<=60\/(We d A b).length<=d.length:=by
 unfold We;split
 .exact .inr (Yj _)
 .unfold cV;simp only[aa5,aaE,abu,List.length_replicate];omega
theorem s7{o:Obj}(ho:o.sm){dp:Int}{b:List Int}(h:(fo o dp (jv b)).2=0):(fo o dp (jv b)).1.sm/\o.ag=1/\0<=dp/\dp<=60/\(b.length:Int)<=60-dp/\(fo o dp (jv b)).1={o with data:=qE o.data dp.toNat (jv b)}:=by
 have hl:(jv b).length=b.length:=by simp[jv]
 unfold fo at h|-;split at h
 .simp at h
 .rename_i h1;split at h
  .simp at h
  .rename_i h2;split at h
   .simp at h
   .rename_i h3;split at h
    .simp at h
    .rename_i h4;rw[if_neg h1,if_neg h2,if_neg h3,if_neg h4];rw[hl]at h4;obtain⟨⟨⟨d,hd⟩,wK,ht3⟩,my,he,hq,hqd⟩:=ho;refine⟨⟨⟨⟨We d dp.toNat b,?_⟩,wK,ht3⟩,?_,he,hq,hqd⟩,om,om,om,om,rfl⟩
     .show qE o.data dp.toNat (jv b)=_;rw[hd,GU]
     .show(qE o.data dp.toNat (jv b)).length<=64;rw[hd,GU,show ∀x:List Int,(jv x).length=x.length from λx=>by simp[jv]]
      have agQ:d.length<=64:=by rw[hd]at my;simpa[jv]using my
      have:=ID d b dp.toNat om om;omega
theorem dP.KK{k:Kr}(h:dP k.l k.ops k.ps){z:Int}{o:Obj}(ho:o.sm):dP (setObj k z o).l (setObj k z o).ops (setObj k z o).ps:=by
 refine⟨λx hx=>?_,by simpa[setObj]using h.ll,h.lo,h.lp,h.sl,h.ne⟩
 rcases aaQ hx with hx|rfl
 .exact h.sm x hx
 .exact ho
theorem l33:bz prog f33=some c33.er:=by kernel_rfl
def acm:LC:=bP (bP c33.code)
def Vi:LC:=rc acm
def YA:LC:=bP (bP (bP (bP (bP Vi))))
def acn:LC:=rc YA
theorem rq(k:Kr)(hk:dP k.l k.ops k.ps)(p:Nat)(c:Cl)(n:Nat)(hn:n<k.ops.length)(r dp:Int)(a:An):
  aw prog 2 acn (QC c33.me (pA k n dp) p c a)
   ⟨kT 172 [(0,.rv (.one (.ptr 0 0))),(1,.rv (.one (.ptr 1 0))),(4,.rv (.one (.ptr 2 0))),(6,.rv (.one (.ptr 3 0))),(9,an .i64 dp),(10,.rv (.one (.ptr 4 0)))],
    [xB k p,cB c,je,.var [.ah (.val (.int .i64 (n:Nat))),.ah (.val (.int .i64 r))],.var (a.enc.map .ah)]⟩:=by
 refine i4 k.l k.ops k.ps ⟨hk.ll,λo ho=>(hk.sm o ho).oD⟩ hk.lo hk.lp hk.sl hk.ne ?_
 refine af (Bm hn) ?_;have ho:=bN bI.enc k.ops hn;have hs:pA k n dp=⟨k.l,k.ops.set n {k.ops[n]with dp:=dp},k.ps⟩:=by rw[pA,ZW,vR hn]
 rw[hs];generalize k.ops[n]=x at ho;obtain⟨xo,xa⟩:=x;refine af ho ?_;refine⟨trivial,_,_,View.o 8 [0,1] [5,6,7] (.eq rfl .nil) (.pt rfl rfl (Vh (k:=⟨k.l,k.ops.set n ⟨xo,dp⟩,k.ps⟩) (iH rfl rfl) (iH rfl (congrArg (λx=>some (Bk.row 2 x)) ?_)) (iH rfl rfl)) (.pt rfl rfl (.eq rfl (jz _)) (.nil _))),rfl,rfl⟩
 show aX (aa (k.ops.map bI.enc)) n ((bI.enc ⟨xo,dp⟩).map .ah)=_;rw[bb,aa,aa,abB,abB]
def unB:LC->LC
 | .block _ b=>b
 |x=>x
def aco:LC:=match unB (bP (XS (bP (bP (bP (bP Vi))))))with
 | .seq _ (.cond _ _ (.seq _ (.cond _ (.seq _ g) _)))=>g
 |x=>x
def acp:LC:=rc aco
def GV(a b d:Int)(x:Int):Prop:=x=a\/x=b\/x=d
theorem TB{Y:Nat->Nat}{m:Mem}{Z:Nat->Prop}{id:Nat}{e n x:Int}:mH Y m Z id (.var [.ah (.val (.int .i64 e)),.ah (.val (.int .i64 n)),.ah (.val (.int .i64 x)),.aM]) (.var ((An.enc ⟨e,n,x,[]⟩).map .ah)):=
 fv.var (.cons (.bh (.ah _)) (.cons (.bh (.ah _)) (.cons (.bh (.ah _)) (.cons (.fT (.aM 1)) .nil))))
theorem GW(k:Kr)(p:Nat)(hw:KW k p)(c:Cl)(n j:Nat)(hn:n<k.ops.length)(hj:j<k.l.length)(r dp:Int)(o':Obj)(e:Int)(ho:e=0->o'.sm):
  aw prog 2 acp (Fb 0 (TZ (aw prog 2 YA) (QC c33.me (mP k n j dp c.data.length (o',e)).1 p c (mP k n j dp c.data.length (o',e)).2)))
   ⟨kT 172 [(0,.rv (.one (.ptr 0 0))),(1,.rv (.one (.ptr 1 0))),(4,.rv (.one (.ptr 2 0))),(6,.rv (.one (.ptr 3 0))),(7,an .i64 (j:Nat)),(9,an .i64 dp),(10,.rv (.one (.ptr 4 0))),(13,.rv (.one (.ptr 5 0))),(14,an .i64 e)],
    [xB k p,cB c,je,.var [.ah (.val (.int .i64 (n:Nat))),.ah (.val (.int .i64 r))],.var [.ah (.val (.int .i64 0)),.ah (.val (.int .i64 0)),.ah (.val (.int .i64 0)),.aM],.var (o'.enc.map .ah)]⟩:=by
 refine bv (λhe=>?_) (λhe=>?_)
 .have he:e≠0:=he;rw[mP,if_pos he];exact dd (X:=[_,_,_,_])
 have he:e=0:=he;subst he;have ho:=ho rfl;rw[mP,if_neg aC];refine i4 k.l k.ops k.ps hw.oD hw.kr.lo hw.kr.lp hw.kr.sl hw.kr.ne ?_;refine af (OH hj) ?_;refine af (bN Obj.enc k.l hj) ?_;refine⟨trivial,?_⟩;have hx:aX (aa (k.l.map Obj.enc)) j (o'.enc.map .ah)=aa ((setObj k j o').l.map Obj.enc):=nU Obj.enc k.l j o';refine⟨_,View.o 9 [0,1,2,3,4] [6,7,8] ?_ ?_,rq (setObj k j o') (dP.KK hw.kr ho) p c n hn r (BT dp c.data.length) ⟨0,c.data.length,0,[]⟩⟩
 .have hl:∀x:List Int,(jv x).length=x.length:=λx=>by simp[jv]
  have h9:an .i64 (IntKind.i64.wrap (dp+((jv c.data).length:Nat)))=an .i64 (BT dp c.data.length):=by rw[hl];rfl
  repeat(first|exact .nil|refine .aH ?_|refine .eq rfl ?_|refine .eq h9.symm ?_)
 .have h9:((jv c.data).length:Int)=(c.data.length:Int):=by simp[jv]
  refine .pt rfl rfl (Vh (k:=setObj k j o') (iH rfl (congrArg (λx=>some (Bk.row 9 x)) hx)) (iH rfl rfl) (iH rfl rfl)) (.pt rfl rfl (.eq rfl (jz _)) (.pt rfl rfl (.eq rfl (by simp[je])) (.pe rfl rfl rfl (.pt rfl rfl ?_ (.nil _)))))
  rw[<-h9];exact TB
theorem Rz{ops:List bI}{n:Nat}(h:n<ops.length):py ops (n:Int)=ops[n].dp:=by rw[py,ZW,vR h]
theorem KL(k:Kr)(p:Nat)(hw:KW k p)(c:Cl)(need:Int)(Cr:GV 4 5 6 c.ag)(hd:c.data.length<=4194304):
  aw prog 2 Vi (QC c33.me (kF k c (br k p c.fd need)).1 p c (kF k c (br k p c.fd need)).2)
   ⟨kT 172 [(0,.rv (.one (.ptr 0 0))),(1,.rv (.one (.ptr 1 0))),(4,.rv (.one (.ptr 2 0))),(5,an .i64 need)],[xB k p,cB c,je]⟩:=by
 refine kY k p hw c.fd need 0 rfl ?_;have hh:= @KW.held k p hw c.fd need;generalize br k p c.fd need=w at hh|-;obtain⟨⟨o,r⟩,b,e⟩:=w;refine bv (λhe=>?_) (λhe=>?_)
 .have he:e≠0:=he;have e1:kF k c ((o,r),b,e)=(k,An.no e):=by rw[kF,if_pos he]
  rw[e1];exact dd (X:=[_,_])
 have he:e=0:=he;subst he;obtain⟨n,j,h1,h2,h3,h4,h5⟩:=hh rfl;have h1:o=n:=h1;have h3:b=j:=h3;subst h1 h3;have kU:=(hw.kr.sm _ (aay h4)).oD;have Fm:=hw.kr.sm _ (aay h4);have Qd:=uv h4;refine af (nX h2) ?_;have hS:kF k c ((((n:Nat):Int),r),((j:Nat):Int),0)=if c.ag=4 then pB k n k.ops[n].dp (j9 k.l[j].ag k.l[j].data k.ops[n].dp c.n)
  else if c.ag=5 then mP k n j k.ops[n].dp c.data.length (fo k.l[j] k.ops[n].dp (jv c.data))else oc k n c.n:=by
  rw[kF,if_neg aC,Qd,Rz h2]
 rw[hS];refine bu (λk4=>?_) (λk4=>?_)
 .have k4:c.ag=4:=k4;rw[if_pos k4];refine af (jc h4) ?_;refine OB k.l[j] kU.1 k.ops[n].dp c.n ?_;generalize j9 k.l[j].ag k.l[j].data k.ops[n].dp c.n=R;obtain⟨d,e⟩:=R;refine⟨trivial,?_⟩;refine bv (λhe=>?_) (λhe=>?_)
  .have he:e≠0:=he;rw[pB,if_pos he];exact dd (X:=[_,_,_])
  .have he:e=0:=he;subst he;rw[pB,if_neg aC];refine⟨_,View.o1 5 [0,1,2,3,4] [] ?_,rq k hw.kr p c n h2 r (BT k.ops[n].dp d.length) ⟨0,d.length,0,d⟩⟩
   .exact .au
 have k4:¬c.ag=4:=k4;rw[if_neg k4];refine bu (λk5=>?_) (λk5=>?_)
 .have k5:c.ag=5:=k5;rw[if_pos k5];have hb:(jv c.data).length<=4194304:=by simpa[jv]using hd
  have Cs:=λ(h:(fo k.l[j] k.ops[n].dp (jv c.data)).2=0)=>(s7 Fm h).1
  have hg:=jc h4;have YB:=λo' e(h:e=0->Obj.sm o')=>GW k p hw c n j h2 h4 r k.ops[n].dp o' e h
  refine af hg ?_;refine⟨?_,?_⟩
  .refine DO k.l[j] kU k.ops[n].dp (jv c.data) hb ?_;generalize fo k.l[j] k.ops[n].dp (jv c.data)=R at Cs|-;obtain⟨o',e⟩:=R;refine⟨trivial,⟨rfl,rfl,af hg rfl,rfl,trivial⟩,trivial,_,View.o1 6 [0,1,2,3,4,5] [] ?_,YB o' e Cs⟩
   .exact .au
  .refine⟨⟨rfl,rfl,af hg rfl,rfl,trivial⟩,?_⟩;refine DO k.l[j] kU k.ops[n].dp (jv c.data) hb ?_;generalize fo k.l[j] k.ops[n].dp (jv c.data)=R at Cs|-;obtain⟨o',e⟩:=R;refine⟨trivial,trivial,_,View.o1 6 [0,1,2,3,4,5] [] ?_,YB o' e Cs⟩
   .exact .au
 .have k5:¬c.ag=5:=k5;rw[if_neg k5];refine aP (λh6=>?_) (λh6=>?_)
  .have h6:c.n<0:=h6;rw[oc,if_pos (.inl h6)];exact dd (X:=[_,_,_])
  have h6:¬c.n<0:=h6;refine aP (λh7=>?_) (λh7=>?_)
  .have h7:c.n>60:=h7;rw[oc,if_pos (.inr h7)];exact dd (X:=[_,_,_])
  have h7:¬c.n>60:=h7;rw[oc,if_neg om];refine⟨_,View.o1 5 [0,1,2,3,4] [] ?_,rq k hw.kr p c n h2 r c.n ⟨0,0,0,[]⟩⟩
  .exact .pt rfl rfl (.eq rfl (nA _ _)) (.pt rfl rfl (.eq rfl (jz _)) (.pt rfl rfl (.eq rfl (by simp[je])) (.pe rfl rfl rfl (.pt rfl rfl TB (.nil _)))))
theorem GX(k:Kr)(p:Nat)(hw:KW k p)(c:Cl)(Cr:GV 4 5 6 c.ag)(hd:c.data.length<=4194304):
  body prog c33 [.rv (.one (.ptr 0 0)),.rv (.one (.ptr 1 0))] [xB k p,cB c] (TC (gd k p c).1 p c (gd k p c).2):=by
 have hs:=λneed=>KL k p hw c need Cr hd
 have TD:gd k p c=kF k c (br k p c.fd (oz c.ag)):=rfl;rw[TD];clear TD;obtain⟨be,ag,fd,fY,n,bA,aY,cE,data⟩:=c;rcases Cr with h|h|h
 .have h:ag=4:=h;subst h;refine⟨_,View.o1 4 [0,1,2] [] ?_,hs 1⟩
  .exact .au
 .have h:ag=5:=h;subst h;refine⟨_,View.o1 4 [0,1,2] [] ?_,hs 2⟩
  .exact .au
 .have h:ag=6:=h;subst h;refine⟨_,View.o1 4 [0,1,2] [] ?_,hs 4⟩
  .exact .au
theorem ru(k:Kr)(p:Nat)(hw:KW k p)(c:Cl)(Cr:GV 4 5 6 c.ag)(hd:c.data.length<=4194304):aq prog 33 [.rv (.one (.ptr 0 0)),.rv (.one (.ptr 1 0))] [xB k p,cB c] (TC (gd k p c).1 p c (gd k p c).2):=
 cj func33 l33 (GX k p hw c Cr hd)
end Kn
def c34:LF:= ⟨66,[.cell true 4 4],(.seq (.ai [qu 4 (.alloc [qd 0,qd 0,qd 0,.aM])]) (.seq (.bV [qm 8 0,qu 9 (.aR 8),qf 10 0 9,qf 11 2 10,ql 12 11,qm 13 0,qu 14 (.aR 13),qf 15 3 14,ql 16 15,qu 17 (.cw 4 12 16),qf 18 3 17,ql 19 18,qm 5 19] [eE 13 0 .nil]) (.seq (.ai [qu 6 (.aN (qi 0))]) (.seq (.ai [qu 7 (.aN (qi 0))]) (.seq (.seq (.ai [qm 20 1,qu 21 (.aR 20),qf 22 1 21,ql 23 22]) (.block 0 (.seq (.ai [qu 38 (.aL .eql 23 (qi 7)),qm 37 38]) (.cond 37 (.ai [qm 40 5,qm 41 1,qu 42 (.aR 41),qf 43 2 42,ql 44 43,qu 45 (qc 60 [40,44]),qm 39 45,qu 46 (.ext 39 0),qu 47 (.ext 39 1),qm 5 46,qm 7 47]) (.seq (.ai [qu 49 (.aL .eql 23 (qi 8)),qm 48 49]) (.cond 48 (.ai [qm 51 5,qm 52 1,qu 53 (.aR 52),qf 54 2 53,ql 55 54,qu 56 (qc 61 [51,55]),qm 50 56,qu 57 (.ext 50 0),qu 58 (.ext 50 1),qu 59 (.ext 50 2),qm 5 57,qm 6 58,qm 7 59]) (.bV [qm 25 5,qm 26 1,qu 27 (.aR 26),qf 28 2 27,ql 29 28,qm 30 1,qu 31 (.aR 30),qf 32 6 31,ql 33 32,qu 34 (qc 62 [25,29,33]),qm 24 34,qu 35 (.ext 24 0),qu 36 (.ext 24 1),qm 5 35,qm 7 36] [(eE 9 0 (.cons 9 (some []) (eE 5 10 .nil)))]))))))) (.cX (.seq (.ai [qm 60 0,qm 61 5,qm 62 7,qu 63 (qc 63 [60,61,62]),qm 64 6,qu 65 (.build [qd 0,qd 0,qd 0,.aM] [(0,1,63),(1,1,64)]),qw (.store 4 4 65)]) .ret)))))))⟩
namespace Kn
def D6(k:Kr)(p:Nat)(x:List eA×Int×Int):Kr×An:=(eC k p x.1 x.2.2,⟨x.2.2,x.2.1,0,[]⟩)
def jg(l:List eA)(c:Cl):List eA×Int×Int:=
 if c.ag=7 then((rn l c.fd).1,0,(rn l c.fd).2)else if c.ag=8 then ur l c.fd else((vU l c.fd c.aY).1,0,(vU l c.fd c.aY).2)
def iI(k:Kr)(p:Nat)(c:Cl):Kr×An:=D6 k p (jg (ap k.ps p) c)
theorem l34:bz prog f34=some c34.er:=by kernel_rfl
def acq:LC:=bP (bP (bP (bP (bP c34.code))))
def acr:LC:=rc acq
theorem OJ(k:Kr)(p:Nat)(hw:KW k p)(c:Cl)(x:List eA×Int×Int):
  aw prog 2 acr (QC c34.me (D6 k p x).1 p c (D6 k p x).2)
   ⟨kT 66 [(0,.rv (.one (.ptr 0 0))),(1,.rv (.one (.ptr 1 0))),(4,.rv (.one (.ptr 2 0))),(5,ma x.1),(6,an .i64 x.2.1),(7,an .i64 x.2.2)],[xB k p,cB c,je]⟩:=by
 refine D2 k p hw.kr hw.hp x.1 x.2.2 0 rfl ?_;exact dd (X:=[_])
theorem KM(k:Kr)(p:Nat)(hw:KW k p)(c:Cl):
  body prog c34 [.rv (.one (.ptr 0 0)),.rv (.one (.ptr 1 0))] [xB k p,cB c] (TC (iI k p c).1 p c (iI k p c).2):=by
 have hs:=OJ k p hw c (jg (ap k.ps p) c);have hg:=dJ hw.hp;rw[<-eD hw.hp]at hg;have hl:(ap k.ps p).length<=2097152:=by rw[eD hw.hp];have:=hw.kr.sl _ (aay hw.hp);omega
 have hS:iI k p c=D6 k p (jg (ap k.ps p) c):=rfl;rw[hS];clear hS;refine af hg ?_;generalize ap k.ps p=S at hl hs|-;refine bu (λh7=>?_) (λh7=>?_)
 .have h7:c.ag=7:=h7;rw[jg,if_pos h7]at hs|-;refine KD S hl c.fd ?_;refine⟨_,View.o1 3 [0,1,2] [] ?_,hs⟩
  .exact .au
 have h7:¬c.ag=7:=h7;rw[jg,if_neg h7]at hs|-;refine bu (λh8=>?_) (λh8=>?_)
 .have h8:c.ag=8:=h8;rw[if_pos h8]at hs|-;refine Ru S hl c.fd ?_;refine⟨_,View.o1 3 [0,1,2] [] ?_,hs⟩
  .exact .au
 have h8:¬c.ag=8:=h8;rw[if_neg h8]at hs|-;refine KE S hl c.fd c.aY ?_;refine⟨trivial,_,View.o1 3 [0,1,2] [] ?_,hs⟩
 .exact .au
theorem uw(k:Kr)(p:Nat)(hw:KW k p)(c:Cl):aq prog 34 [.rv (.one (.ptr 0 0)),.rv (.one (.ptr 1 0))] [xB k p,cB c] (TC (iI k p c).1 p c (iI k p c).2):=
 cj func34 l34 (KM k p hw c)
end Kn
def c35:LF:= ⟨85,[.cell true 4 4],(.seq (.ai [qu 4 (.alloc [qd 0,qd 0,qd 0,.aM])]) (.seq (.ai [qu 5 (.aN (qi 128))]) (.seq (.seq (.ai [qm 12 1,qu 13 (.aR 12),qf 14 1 13,ql 15 14,qu 16 (.aL .eql 15 (qi 11))]) (.cond 16 (.ai [qu 5 (.aN (qi 64))]) .skip)) (.cX (.seq (.ai [qm 18 0,qm 19 1,qu 20 (.aR 19),qf 21 2 20,ql 22 21,qm 23 5,qu 24 (qc 56 [18,22,23]),qm 17 24,qu 25 (.ext 17 0),qu 26 (.ext 17 1),qu 27 (.ext 17 2),qu 6 (.alloc [qd 0,qd 0]),qw (.store 2 6 25),qm 7 26,qm 8 27]) (.seq (.seq (.ai [qm 28 8,qu 29 (.aL .neq 28 (qi 0))]) (.cond 29 (.seq (.ai [qm 30 8,qu 31 (.build [qd 0,qd 0,qd 0,.aM] [(0,1,30)]),qw (.store 4 4 31)]) .ret) .skip)) (.seq (.ai [qm 32 0,qu 33 (.aR 32),qf 34 0 33,qf 35 0 34,ql 36 35,qm 37 7,qu 38 (.cw 9 36 37),qL 39 9 38,qu 9 (.alloc [qd 0,.aM,.aM,(.ah (.val (.string ⟨#[]⟩))),qd 0,.aM,qd 0,qd 0,qd 0]),qw (.store 9 9 39)]) (.seq (.seq (.ai [qm 40 1,qu 41 (.aR 40),qf 42 1 41,ql 43 42,qu 44 (.aL .eql 43 (qi 11))]) (.cond 44 (.seq (.seq (.ai [qf 45 0 9,ql 46 45,qu 47 (.aL .neq 46 (qi 2))]) (.cond 47 (.seq (.ai [qu 48 (.build [qd 0,qd 0,qd 0,.aM] [(0,1,qi 11)]),qw (.store 4 4 48)]) .ret) .skip)) (.seq (.ai [qL 49 9 9,qu 50 (qc 65 [49]),qu 51 (qc 64 [50,(.c (.rv (.one (.ah (.val (.string ⟨#[10]⟩))))))]),qm 10 51]) (.seq (.ai [qf 52 2 9,ql 53 52,qu 54 (.len 1 53),qm 55 10,qu 56 (.Wn 55),qu 57 (.build [qd 0,qd 0,qd 0,.aM] [(1,1,54),(3,1,56)]),qw (.store 4 4 57)]) .ret))) .skip)) (.seq (.ai [qf 58 1 9,ql 59 58,qu 60 (.len 1 59),qf 61 2 9,ql 62 61,qu 63 (.len 1 62),qu 64 (.aL .add 60 63),qf 65 5 9,ql 66 65,qu 67 (.len 1 66),qu 68 (.aL .add 64 67),qm 11 68]) (.seq (.seq (.bV [qf 69 0 9,ql 70 69,qu 71 (.aL .eql 70 (qi 5)),qm 72 71,qg 73 (.aN 0) 72 true,qg 74 (.aR 73) 72 true,qg 75 (.bY 0 74) 72 true,qg 76 (.load true 3 75) 72 true,qg 77 (.bY 6 9) 72 true,qg 78 (.load false 1 77) 72 true,qg 79 (qc 29 [76,78]) 72 true,qu 80 (.pick 72 79 (qb false))] [(eE 10 0 (.cons 10 (some []) (.cons 11 none .nil)))]) (.cond 80 (.ai [qu 11 (.aN (qi 1))]) .skip)) (.seq (.ai [qf 81 0 9,ql 82 81,qm 83 11,qu 84 (.build [qd 0,qd 0,qd 0,.aM] [(1,1,82),(2,1,83)]),qw (.store 4 4 84)]) .ret)))))))))))⟩
namespace bO
def lN(sep:dU)(l:List dU):dU:=Lib.join l sep
theorem D7(l:List dU):(l.map cI).map (·.data.toList)=l:=by rw[abJ];exact List.map_id'' (λ_=>rfl) l
theorem RA(l:List dU)(sep:dU)(hN:l.length<=4194304)(hlen:(lN sep l).length<=140737488355328){m:Mem}{K:CV->Mem->Prop}(h:K (vT (lN sep l)) m):aq prog 64 [txV l,vT sep] m K:=by
 refine⟨⟨f64,func64,rfl,by decide⟩,λρ w vs hM hl hd=>?_⟩
 obtain⟨v0,h0,d0⟩:=hd 0 _ rfl;obtain⟨v1,h1,d1⟩:=hd 1 _ rfl;have Fq:v1= .string (cI sep):=(bH d1).1;have EN:vs=[v0,v1]:=by
  match vs,hl with
  | [a,b],_=>simp at h0 h1;rw[h0,h1]
 have iu:∀(W':World)(v:Value),v= .string (cI (lN sep l))->Below w.heap.size w W'->∃XA r m' U',Ending.returned v= .returned XA/\K r m'/\aA U' m' W'/\cf U' W' r XA/\Ext ρ m w U' m' W':=by
  rintro W' v rfl hb;refine⟨_,_,m,ρ,rfl,h,hM.vM ⟨hb.size,λb hS=>hb.block b (hM.S b hS),λk hk=>hb.block _ (hM.aO k hk).1⟩,dj.val _ rfl,?_⟩
  exact⟨Yj _,λ_ _=>rfl,λ_ h=>h,λ_ h=>.inl h,λk h=>.inr ⟨k,h,rfl⟩,λb tL _=>hb.block b tL,hb.size,hb.os,hb.tape,hb.output⟩
 have hD:dj ρ.S w (.sl 1 (l.map tD)) v0:=d0;rw[EN,Fq];generalize M4:l.map tD=elems at hD;cases hD with
 |nil _ a cap hc=>
  have:l=[]:=by simpa using M4
  subst this;refine(Kh a cap (cI sep) w).mono λe W'⟨he,hw⟩=>?_
  subst he;exact iu W' _ rfl (hw▸Below.refl _ _)
 |sl _ _ b off cap u hS oW bg dq hc cr=>
  have acs:elems.length=(l.map cI).length:=by rw[<-M4];simp
  rw[acs]at oW|-;refine(Rf b off cap (l.map cI) (cI sep) w (λj x hj=>?_) (hM.S b hS) (by rw[N7];omega) oW (by rw[D7];exact hlen)).mono λe W'⟨he,hw⟩=>?_
  .rw[Tr]at hj;cases Wf:l[j]? with
   |none=>rw[Wf]at hj;cases hj
   |some t=>
    rw[Wf]at hj;simp only[aaG,aaA]at hj;subst hj;have e1:elems[j]? =some [.val (.string (cI t))]:=by rw[<-M4,Tr,Wf];rfl
    have e2:=hc j _ 0 _ e1 rfl;have e3:=cr j _ 0 _ e1 rfl;have e4:u j 0= .string (cI t):=by
     generalize u j 0=x at e3;cases e3 with
     |val _ _=>rfl
    rw[e4]at e2;simpa using e2
  .subst he;refine iu W' _ ?_ hw;rw[D7];rfl
end bO
namespace Kn
def s8(e:NE):bO.dU:=e.1.data.toList
def tB(t:bO.dU):List (List Dt):=jv (t.map λb=>((b.toNat:Nat):Int))
def GY(o:Obj):bO.dU:=bO.lN [10] ((o.ak.map ou).map s8)
def IE(k:Kr)(o:Obj):Int:=if o.ag=5/\fN k.ps o.be=true then 1 else BT (BT o.data.length o.ak.length) o.ax.length
def BU(k:Kr)(c:Cl)(o:Obj):An:=
 if c.ag=11 then(if o.ag≠2 then An.no 11 else⟨0,o.ak.length,0,tB (GY o)⟩)else⟨0,o.ag,IE k o,[]⟩
def pC(k:Kr)(c:Cl)(w:(Int×Int)×Int×Int):An:=if w.2.2≠0 then An.no w.2.2 else BU k c (lM k.l w.2.1)
def OK(c:Cl):Int:=if c.ag=11 then 64 else 128
def lO(k:Kr)(p:Nat)(c:Cl):Kr×An:=(k,pC k c (br k p c.fd (OK c)))
theorem YC(es:List NE):es.map ZT=(es.map s8).map bO.tD:=by
 rw[abJ];refine acU λe _=>?_
 obtain⟨t,ht⟩:=bO.BA e.1;show [Dt.val (.string e.1)]=[Dt.val (.string (bO.cI e.1.data.toList))];rw[ht];rfl
theorem D8:∀(l:List bO.dU)(n:Nat),(∀t,t∈l->t.length<=n)->(bO.lN [10] l).length<=l.length*(n+1)
 | [],_,_=>by simp[bO.lN,Lib.join]
 | [t],n,h=>by have:=h t aC;simp[bO.lN,Lib.join];omega
 |t::u::r,n,h=>by
  have h1:=h t aC;have h2:=D8 (u::r) n λx hx=>h x (by simp[hx])
  have e:(bO.lN [10] (t::u::r)).length=t.length+1+(bO.lN [10] (u::r)).length:=by simp[bO.lN,Lib.join];omega
  rw[e];simp only[aar]at h2|-;have e2:(r.length+1+1)*(n+1)=(r.length+1)*(n+1)+(n+1):=by rw[abk (r.length+1) 1 (n+1),ab4]
  rw[e2];omega
theorem KN(t:bO.dU):qT (bO.cI t)=aa (tB t):=by show t.map _=_;rw[aa,tB,jv,abJ,abJ];rfl
theorem l35:bz prog f35=some c35.er:=by kernel_rfl
def C18:LC:=bP (bP (bP c35.code))
def G18:LC:=rc C18
theorem acu{m:Mem}{e n x:Int}{id:Nat}{d:List (List Dt)}{Z:Nat->Prop}{Y:Nat->Nat}(hz:Z id)(hm:m[id]? =some (.row 1 (aa d))):
  rJ Y m Z (.rv (.agg [.ah (.val (.int .i64 e)),.ah (.val (.int .i64 n)),.ah (.val (.int .i64 x)),.row id 1 0 none])) (An.cv ⟨e,n,x,d⟩):=
 .rv (.agg rfl λi c c' h1 h2=>by
  match i,h1,h2 with
  |0,h1,h2=>cases h1;cases h2;exact .bh (.ah _)
  |1,h1,h2=>cases h1;cases h2;exact .bh (.ah _)
  |2,h1,h2=>cases h1;cases h2;exact .bh (.ah _)
  |3,h1,h2=>cases h1;cases h2;exact .fT (iH hz hm)
  |n+4,h1,h2=>simp at h1)
theorem KO(k:Kr)(p:Nat)(hw:KW k p)(c:Cl)(need:Int):
  aw prog 2 G18 (QC c35.me k p c (pC k c (br k p c.fd need)))
   ⟨kT 85 [(0,.rv (.one (.ptr 0 0))),(1,.rv (.one (.ptr 1 0))),(4,.rv (.one (.ptr 2 0))),(5,an .i64 need)],[xB k p,cB c,je]⟩:=by
 refine kY k p hw c.fd need 0 rfl ?_;have hh:= @KW.held k p hw c.fd need;generalize br k p c.fd need=w at hh|-;obtain⟨⟨o,r⟩,b,e⟩:=w;refine bv (λhe=>?_) (λhe=>?_)
 .have he:e≠0:=he;have e1:pC k c ((o,r),b,e)=An.no e:=by rw[pC,if_pos he]
  rw[e1];exact dd (X:=[_,_])
 have he:e=0:=he;subst he;obtain⟨n,j,h1,h2,h3,h4,h5⟩:=hh rfl;have h3:b=j:=h3;subst h3;have Fm:=hw.kr.sm _ (aay h4);have MM:=hw.nm _ (aay h4);have e1:pC k c ((o,r),((j:Nat):Int),0)=BU k c k.l[j]:=by rw[pC,if_neg aC,uv h4]
 rw[e1];refine af (jc h4) ?_;generalize k.l[j]=ob at Fm MM|-;refine bu (λLX=>?_) (λLX=>?_)
 .have LX:c.ag=11:=LX;rw[BU,if_pos LX];refine bv (λHH=>?_) (λHH=>?_)
  .have HH:ob.ag≠2:=HH;rw[if_pos HH];exact dd (X:=[_,_,_])
  have HH:¬ob.ag≠2:=λh=>h HH
  rw[if_neg HH];obtain⟨es,ol⟩:=Fm.t.2.1;have M4:es.length<=8:=by have:=Fm.e;rw[ol]at this;simpa using this
  have Ty:ob.ak.map ou=es:=by rw[ol,nV]
  rw[Ty]at MM;have hN:GY ob=bO.lN [10] (es.map s8):=by rw[GY,Ty]
  rw[hN];have hJ:(bO.lN [10] (es.map s8)).length<=200:=by
   have:=D8 (es.map s8) 12 λt ht=>by obtain⟨e,he,rfl⟩:=aaz.1 ht;have:=MM e he;show e.1.data.toList.length<=12;rwa [abY]
   rw[N7]at this;omega
  refine Ok ob es ol om ?_;rw[YC];refine bO.RA (es.map s8) [10] (by rw[N7];omega) om ?_
  have dq:(bO.cI (bO.lN [10] (es.map s8))).size<=140737488355328:=by rw[bO.nv];omega
  have hR:=KN (bO.lN [10] (es.map s8));generalize bO.lN [10] (es.map s8)=T at dq hR;refine⟨dq,?_⟩;refine⟨_,_,View.o 6 [0,1] [5] (.put (acu rfl (congrArg (λx=>some (Bk.row 1 x)) hR)) .nil) (.pt rfl rfl (.eq rfl (nA _ _)) (.pt rfl rfl (.eq rfl (jz _)) (.nil _))),rfl,rfl⟩
 have LX:¬c.ag=11:=LX;rw[BU,if_neg LX];have hq:(ob.ax.length:Int)=((ob.ax.map dn.enc).length:Int):=by rw[N7]
 refine bu (λh5=>?_) (λh5=>?_)
 .have h5:ob.ag=5:=h5;refine pj k.l k.ops k.ps ob.be ?_;refine⟨trivial,?_⟩;cases hl:fN k.ps ob.be with
  |true=>
   rw[IE,if_pos ⟨h5,hl⟩];exact dd (X:=[_,_,_])
  |false=>
   rw[IE,if_neg (by simp[hl]),hq]
   exact dd (X:=[_,_,_])
 .have h5:¬ob.ag=5:=h5;rw[IE,if_neg (λh=>h5 h.1),hq]
  refine⟨trivial,?_⟩;exact dd (X:=[_,_,_])
theorem GZ(k:Kr)(p:Nat)(hw:KW k p)(c:Cl):
  body prog c35 [.rv (.one (.ptr 0 0)),.rv (.one (.ptr 1 0))] [xB k p,cB c] (TC (lO k p c).1 p c (lO k p c).2):=by
 have hs:=λneed=>KO k p hw c need
 refine bu (λh=>?_) (λh=>?_)
 .have h:c.ag=11:=h;have e:lO k p c=(k,pC k c (br k p c.fd 64)):=by rw[lO,OK,if_pos h]
  rw[e];refine⟨_,View.o1 3 [0,1,2] [] ?_,hs 64⟩
  .exact .au
 .have h:¬c.ag=11:=h;have e:lO k p c=(k,pC k c (br k p c.fd 128)):=by rw[lO,OK,if_neg h]
  rw[e];refine⟨_,View.o1 3 [0,1,2] [] ?_,hs 128⟩
  .exact .au
theorem x6(k:Kr)(p:Nat)(hw:KW k p)(c:Cl):aq prog 35 [.rv (.one (.ptr 0 0)),.rv (.one (.ptr 1 0))] [xB k p,cB c] (TC (lO k p c).1 p c (lO k p c).2):=
 cj func35 l35 (GZ k p hw c)
end Kn
def c36:LF:= ⟨142,[.cell true 4 4],(.seq (.ai [qu 4 (.alloc [qd 0,qd 0,qd 0,.aM])]) (.seq (.ai [qu 5 (.aN (qi 24))]) (.seq (.seq (.ai [qm 16 1,qu 17 (.aR 16),qf 18 1 17,ql 19 18,qu 20 (.aL .eql 19 (qi 14))]) (.cond 20 (.ai [qu 5 (.aN (qi 40))]) .skip)) (.cX (.seq (.ai [qm 22 0,qm 23 1,qu 24 (.aR 23),qf 25 2 24,ql 26 25,qm 27 5,qu 28 (qc 56 [22,26,27]),qm 21 28,qu 29 (.ext 21 0),qu 30 (.ext 21 1),qu 31 (.ext 21 2),qu 6 (.alloc [qd 0,qd 0]),qw (.store 2 6 29),qm 7 30,qm 8 31]) (.seq (.seq (.ai [qm 32 8,qu 33 (.aL .neq 32 (qi 0))]) (.cond 33 (.seq (.ai [qm 34 8,qu 35 (.build [qd 0,qd 0,qd 0,.aM] [(0,1,34)]),qw (.store 4 4 35)]) .ret) .skip)) (.seq (.seq (.ai [qm 36 1,qu 37 (.aR 36),qf 38 1 37,ql 39 38,qu 40 (.aL .eql 39 (qi 13))]) (.cond 40 (.seq (.ai [qm 42 1,qu 43 (.aR 42),qf 44 8 43,ql 45 44,qu 46 (.VO 45),qu 47 (qc 66 [46]),qm 41 47,qu 48 (.ext 41 0),qu 49 (.ext 41 1),qu 50 (.ext 41 2),qm 9 48,qm 10 49,qm 11 50]) (.seq (.ai [qm 51 11,qu 52 (.aL .neq 51 (qi 0))]) (.cond 52 (.seq (.ai [qm 53 11,qu 54 (.build [qd 0,qd 0,qd 0,.aM] [(0,1,53)]),qw (.store 4 4 54)]) .ret) .skip))) .skip)) (.cX (.seq (.bV [qm 56 0,qu 57 (.aR 56),qf 58 0 57,qf 59 0 58,ql 60 59,qm 61 7,qm 62 1,qu 63 (.aR 62),qf 64 7 63,ql 65 64,qu 66 (qc 67 [60,61,65,qb true,qb false]),qm 55 66,qu 67 (.ext 55 0),qu 68 (.ext 55 1),qu 12 (.alloc [qd 0,qd 0,(.ah (.val (.string ⟨#[]⟩)))]),qw (.store 3 12 67),qm 8 68] [(eE 10 0 (.wm (.cons 10 (some []) (eE 3 11 (.cons 14 (some [9,4]) (.cons 15 (some []) (.cons 16 none .nil))))) (.cons 14 (some [9,4]) (.cons 10 (some []) (eE 3 11 (.cons 15 (some []) (.cons 16 none .nil)))))))]) (.cX (.seq (.block 0 (.seq (.ai [qm 77 8,qu 78 (.aL .neq 77 (qi 0)),qm 76 78]) (.cond 76 .skip (.seq (.ai [qf 80 2 12,ql 81 80,qu 82 (.aL .eql 81 (.c (.rv (.one (.ah (.val (.string ⟨#[]⟩))))))),qm 79 82]) (.cond 79 (.ai [qu 8 (.aN (qi 8))]) (.seq (.ai [qm 84 1,qu 85 (.aR 84),qf 86 1 85,ql 87 86,qu 88 (.aL .eql 87 (qi 14)),qm 89 88,qg 90 (.bY 0 12) 89 true,qg 91 (.load false 1 90) 89 true,qg 92 (.aL .lss 91 (qi 0)) 89 true,qu 93 (.pick 89 92 (qb false)),qm 83 93]) (.cond 83 (.ai [qu 8 (.aN (qi 6))]) (.seq (.ai [qm 95 1,qu 96 (.aR 95),qf 97 1 96,ql 98 97,qu 99 (.aL .eql 98 (qi 14)),qm 94 99]) (.cond 94 (.seq (.bV [qm 101 0,qu 102 (.aR 101),qf 103 0 102,qf 104 0 103,ql 105 104,qf 106 1 12,ql 107 106,qf 108 2 12,ql 109 108,qu 110 (qc 68 [105,107,109]),qm 100 110,qu 111 (.ext 100 0),qu 112 (.ext 100 1),qu 113 (.ext 100 2),qm 13 111,qm 14 112,qm 15 113] [(eE 9 0 (.cons 9 (some []) (eE 7 10 .nil)))]) (.ai [qm 114 0,qm 115 13,qm 116 15,qu 117 (qc 69 [114,115,116]),qm 8 117])) (.seq (.ai [qf 119 0 12,ql 120 119,qu 121 (.aL .geq 120 (qi 0)),qm 118 121]) (.cond 118 (.ai [qu 8 (.aN (qi 7))]) (.seq (.ai [qm 123 1,qu 124 (.aR 123),qf 125 1 124,ql 126 125,qu 127 (.aL .eql 126 (qi 13)),qm 122 127]) (.cond 122 (.bV [qm 129 0,qL 130 3 12,qm 131 1,qu 132 (.aR 131),qf 133 8 132,ql 134 133,qu 135 (.VO 134),qu 136 (.build [qd 0,.aM,.aM,(.ah (.val (.string ⟨#[]⟩))),qd 0,.aM,qd 0,qd 0,qd 0] [(0,1,qi 3),(3,1,135)]),qu 137 (qc 70 [129,130,136]),qm 128 137,qu 138 (.ext 128 0),qu 139 (.ext 128 1),qm 8 139] [(eE 6 0 (.cons 6 (some [1]) (.cons 7 none (.cons 8 (some []) (eE 4 9 .nil)))))]) (.ai [qm 70 0,qL 71 3 12,qu 72 (.build [qd 0,.aM,.aM,(.ah (.val (.string ⟨#[]⟩))),qd 0,.aM,qd 0,qd 0,qd 0] [(0,1,qi 2)]),qu 73 (qc 70 [70,71,72]),qm 69 73,qu 74 (.ext 69 0),qu 75 (.ext 69 1),qm 8 75])))))))))))))) (.cX (.seq (.ai [qm 140 8,qu 141 (.build [qd 0,qd 0,qd 0,.aM] [(0,1,140)]),qw (.store 4 4 141)]) .ret)))))))))))))⟩
namespace Kn
def x7(d:List Int):bO.dU:=d.map λn=>UInt8.ofNat n.toNat
def x8(d:List Int):Obj:=⟨3,[],[],bO.cI (x7 d),0,[],0,0,0⟩
def G0:Obj:=⟨2,[],[],⟨#[]⟩,0,[],0,0,0⟩
theorem BV(k:Int)(t:ByteArray):Rx ⟨k,[],[],t,0,[],0,0,0⟩:=⟨⟨⟨⟨[],rfl⟩,⟨[],rfl⟩,aC⟩,aC,aC,aC,aC⟩,rfl⟩
def D9(k:Kr)(f:R4):List Obj×Int×Int:=cT k.l f.cL (bO.cI f.name)
def mC(k:Kr)(c:Cl)(f:R4):Kr×Int:=
 if f.fp≠0 then(k,f.fp)
 else if f.name=[]then(k,8)
 else if c.ag=14 then(if f.bp<0 then(k,6)else(bF k (D9 k f).1 (D9 k f).2.2,(D9 k f).2.2))
 else if f.bp>=0 then(k,7)
 else if c.ag=13 then((ce k f (x8 c.data)).1,(ce k f (x8 c.data)).2.2)
 else((ce k f G0).1,(ce k f G0).2.2)
def s9(c:Cl):Int:=if c.ag=14 then 40 else 24
def im(k:Kr)(c:Cl)(w:(Int×Int)×Int×Int):Kr×Int:=
 if w.2.2≠0 then(k,w.2.2)
 else if c.ag=13/\(bO.cO (x7 c.data)).2.2≠0 then(k,(bO.cO (x7 c.data)).2.2)
 else mC k c (gV k w.2.1 c.cE true false)
def OL(x:Kr×Int):Kr×An:=(x.1,An.no x.2)
def iJ(k:Kr)(p:Nat)(c:Cl):Kr×An:=OL (im k c (br k p c.fd (s9 c)))
theorem l36:bz prog f36=some c36.er:=by kernel_rfl
def acv:LC:=bP (bP (bP c36.code))
def YD:LC:=rc acv
def acw:LC:=bP (bP (bP YD))
def YE:LC:=rc acw
def acx:LC:=bP YE
def YF:LC:=rc acx
def YG:LC:=bP YF
def YH:LC:=rc YG
theorem KP(k:Kr)(p:Nat)(c:Cl)(e:Int):
  aw prog 2 YH (QC c36.me k p c (An.no e)) ⟨kT 142 [(0,.rv (.one (.ptr 0 0))),(1,.rv (.one (.ptr 1 0))),(4,.rv (.one (.ptr 2 0))),(8,an .i64 e)],[xB k p,cB c,je]⟩:=dd (X:=[_])
theorem acy(t:bO.dU){A B:Prop}(ha:t=[]->A)(hb:t≠[]->B): @Bool.rec (λ_=>Prop) B A ((bO.cI t).toList==(⟨#[]⟩:ByteArray).toList):=bO.lH (b:=[]) ha hb
theorem m3{Y:Nat->Nat}(hσ:Y 0=0/\Y 1=1/\Y 2=2){Z:Nat->Prop}(hZ:¬Z 0/\¬Z 1/\¬Z 2){k:Kr}{p:Nat}{c:Cl}{X:Mem}:eI Y (xB k p::cB c::je::X) Z 0 [xB k p,cB c,je]:=by
 obtain⟨h0,h1,h2⟩:=hσ;obtain⟨z0,z1,z2⟩:=hZ;exact .put (by rw[h0];exact z0) (by rw[h0];rfl) (.eq rfl (nA _ _)) (.put (by rw[h1];exact z1) (by rw[h1];rfl) (.eq rfl (jz _)) (.put (by rw[h2];exact z2) (by rw[h2];rfl) (.eq rfl (by simp[je])) (.nil _)))
theorem OM(k:Kr)(p:Nat)(hw:KW k p)(c:Cl)(f:R4):
  aw prog 2 YF (QC c36.me (OL (mC k c f)).1 p c (OL (mC k c f)).2)
   ⟨kT 142 [(0,.rv (.one (.ptr 0 0))),(1,.rv (.one (.ptr 1 0))),(4,.rv (.one (.ptr 2 0))),(8,an .i64 f.fp),(12,.rv (.one (.ptr 3 0)))],[xB k p,cB c,je,.var ((V9 f).map .ah)]⟩:=by
 have G1:=λk e=>KP k p c e
 obtain⟨bp,cL,name,fp⟩:=f;refine bv (λhe=>?_) (λhe=>?_)
 .have he:fp≠0:=he;have e1:mC k c ⟨bp,cL,name,fp⟩=(k,fp):=by rw[mC,if_pos he]
  rw[e1];refine⟨_,View.o1 4 [0,1,2] [] (m3 ⟨rfl,rfl,rfl⟩ ⟨dI rfl,dI rfl,dI rfl⟩),G1 k fp⟩
 have he:fp=0:=he;subst he;refine acy name (λh1=>?_) (λh1=>?_)
 .have e1:mC k c ⟨bp,cL,name,0⟩=(k,8):=by rw[mC,if_neg aC,if_pos h1]
  rw[e1];refine⟨_,View.o1 4 [0,1,2] [] (m3 ⟨rfl,rfl,rfl⟩ ⟨dI rfl,dI rfl,dI rfl⟩),G1 k 8⟩
 have e0:mC k c ⟨bp,cL,name,0⟩=if c.ag=14 then(if bp<0 then(k,6)else(bF k (D9 k ⟨bp,cL,name,0⟩).1 (D9 k ⟨bp,cL,name,0⟩).2.2,(D9 k ⟨bp,cL,name,0⟩).2.2))
   else if bp>=0 then(k,7)
   else if c.ag=13 then((ce k ⟨bp,cL,name,0⟩ (x8 c.data)).1,(ce k ⟨bp,cL,name,0⟩ (x8 c.data)).2.2)
   else((ce k ⟨bp,cL,name,0⟩ G0).1,(ce k ⟨bp,cL,name,0⟩ G0).2.2):=by rw[mC,if_neg aC,if_neg h1]
 rw[e0];refine bu (λON=>?_) (λON=>?_)
 .have ON:c.ag=14:=ON;rw[if_pos ON];refine aP (λho=>?_) (λho=>?_)
  .have ho:bp<0:=ho;rw[if_pos ho];refine⟨_,View.o1 4 [0,1,2] [] (m3 ⟨rfl,rfl,rfl⟩ ⟨dI rfl,dI rfl,dI rfl⟩),G1 k 6⟩
  have ho:¬bp<0:=ho;rw[if_neg ho];refine cM (beq_iff_eq.2 ON) ?_;refine GJ k.l hw.E0 cL (bO.cI name) ?_;refine⟨trivial,?_⟩;refine oa k p hw.kr _ _ 0 rfl ?_;refine⟨_,View.o1 4 [0,1,2] [] (m3 ⟨rfl,rfl,rfl⟩ ⟨dI rfl,dI rfl,dI rfl⟩),G1 _ _⟩
 have ON:¬c.ag=14:=ON;rw[if_neg ON];refine si (beq_eq_false_iff_ne.2 ON) ?_;refine aP (λho=>?_) (λho=>?_)
 .have ho:bp>=0:=ho;rw[if_pos ho];refine⟨_,View.o1 4 [0,1,2] [] (m3 ⟨rfl,rfl,rfl⟩ ⟨dI rfl,dI rfl,dI rfl⟩),G1 k 7⟩
 have ho:¬bp>=0:=ho;rw[if_neg ho];refine bu (λE3=>?_) (λE3=>?_)
 .have E3:c.ag=13:=E3;rw[if_pos E3];refine af (t6 c.data) ?_;refine⟨⟨rfl,trivial⟩,?_⟩;refine nj (BS _ _ _ _) (uu k p hw ⟨bp,cL,name,0⟩ (x8 c.data) (BV _ _) 0 rfl ?_);refine⟨trivial,?_⟩;refine⟨_,View.o1 4 [0,1,2] [] (m3 ⟨rfl,rfl,rfl⟩ ⟨dI rfl,dI rfl,dI rfl⟩),G1 _ _⟩
 have E3:¬c.ag=13:=E3;rw[if_neg E3];refine nj (BS _ _ _ _) (uu k p hw ⟨bp,cL,name,0⟩ G0 (BV _ _) 0 rfl ?_);refine⟨_,View.o1 4 [0,1,2] [] (m3 ⟨rfl,rfl,rfl⟩ ⟨dI rfl,dI rfl,dI rfl⟩),G1 _ _⟩
theorem Ea(k:Kr)(p:Nat)(hw:KW k p)(c:Cl)(ar:Int)(R:Kr×Int)(hR:R=mC k c (gV k ar c.cE true false)):
  aw prog 2 YE (QC c36.me (OL R).1 p c (OL R).2)
   ⟨kT 142 [(0,.rv (.one (.ptr 0 0))),(1,.rv (.one (.ptr 1 0))),(4,.rv (.one (.ptr 2 0))),(7,an .i64 ar)],[xB k p,cB c,je]⟩:=by
 have hs:=OM k p hw c (gV k ar c.cE true false);rw[<-hR]at hs;refine⟨?_,?_⟩
 .refine sZ k p hw ar c.cE true false ?_;refine⟨trivial,⟨rfl,rfl,trivial⟩,trivial,_,View.o1 4 [0,1,2,3] [] ?_,hs⟩
  .exact .au
 .refine⟨⟨rfl,rfl,trivial⟩,?_⟩;refine sZ k p hw ar c.cE true false ?_;refine⟨trivial,trivial,_,View.o1 4 [0,1,2,3] [] ?_,hs⟩
  .exact .au
theorem OO(k:Kr)(p:Nat)(hw:KW k p)(c:Cl)(need:Int):
  aw prog 2 YD (QC c36.me (OL (im k c (br k p c.fd need))).1 p c (OL (im k c (br k p c.fd need))).2)
   ⟨kT 142 [(0,.rv (.one (.ptr 0 0))),(1,.rv (.one (.ptr 1 0))),(4,.rv (.one (.ptr 2 0))),(5,an .i64 need)],[xB k p,cB c,je]⟩:=by
 refine kY k p hw c.fd need 0 rfl ?_;generalize br k p c.fd need=w;obtain⟨⟨o,r⟩,b,e⟩:=w;refine bv (λhe=>?_) (λhe=>?_)
 .have he:e≠0:=he;have e1:im k c ((o,r),b,e)=(k,e):=by rw[im,if_pos he]
  rw[e1];exact dd (X:=[_,_])
 have he:e=0:=he;subst he;refine bu (λE3=>?_) (λE3=>?_)
 .have E3:c.ag=13:=E3;refine af (t6 c.data) ?_;refine bO.xK (x7 c.data) ?_;refine bv (λhs=>?_) (λhs=>?_)
  .have hs:(bO.cO (x7 c.data)).2.2≠0:=hs;have e1:im k c ((o,r),b,0)=(k,(bO.cO (x7 c.data)).2.2):=by rw[im,if_neg aC,if_pos ⟨E3,hs⟩]
   rw[e1];exact dd (X:=[_,_])
  .have hs:¬(bO.cO (x7 c.data)).2.2≠0:=λh=>h hs
   refine⟨_,View.o1 4 [0,1,2] [] (m3 ⟨rfl,rfl,rfl⟩ ⟨dI rfl,dI rfl,dI rfl⟩),Ea k p hw c b (im k c ((o,r),b,0)) (by rw[im,if_neg aC,if_neg (λh=>hs h.2)])⟩
 .have E3:¬c.ag=13:=E3;refine⟨_,View.o1 4 [0,1,2] [] (m3 ⟨rfl,rfl,rfl⟩ ⟨dI rfl,dI rfl,dI rfl⟩),Ea k p hw c b (im k c ((o,r),b,0)) (by rw[im,if_neg aC,if_neg (λh=>E3 h.1)])⟩
theorem ul(k:Kr)(p:Nat)(hw:KW k p)(c:Cl):
  body prog c36 [.rv (.one (.ptr 0 0)),.rv (.one (.ptr 1 0))] [xB k p,cB c] (TC (iJ k p c).1 p c (iJ k p c).2):=by
 have hs:=λneed=>OO k p hw c need
 refine bu (λh=>?_) (λh=>?_)
 .have h:c.ag=14:=h;have e:iJ k p c=OL (im k c (br k p c.fd 40)):=by rw[iJ,s9,if_pos h]
  rw[e];refine⟨_,View.o1 3 [0,1,2] [] (m3 ⟨rfl,rfl,rfl⟩ ⟨dI rfl,dI rfl,dI rfl⟩),hs 40⟩
 .have h:¬c.ag=14:=h;have e:iJ k p c=OL (im k c (br k p c.fd 24)):=by rw[iJ,s9,if_neg h]
  rw[e];refine⟨_,View.o1 3 [0,1,2] [] (m3 ⟨rfl,rfl,rfl⟩ ⟨dI rfl,dI rfl,dI rfl⟩),hs 24⟩
theorem uy(k:Kr)(p:Nat)(hw:KW k p)(c:Cl):aq prog 36 [.rv (.one (.ptr 0 0)),.rv (.one (.ptr 1 0))] [xB k p,cB c] (TC (iJ k p c).1 p c (iJ k p c).2):=
 cj func36 l36 (ul k p hw c)
end Kn
def c38:LF:= ⟨85,[.cell true 4 4],(.seq (.ai [qu 4 (.alloc [qd 0,qd 0,qd 0,.aM])]) (.seq (.ai [qm 11 0,qm 12 1,qu 13 (.aR 12),qf 14 2 13,ql 15 14,qu 16 (qc 56 [11,15,qi 256]),qm 10 16,qu 17 (.ext 10 0),qu 18 (.ext 10 1),qu 19 (.ext 10 2),qu 5 (.alloc [qd 0,qd 0]),qw (.store 2 5 17),qm 6 18,qm 7 19]) (.seq (.seq (.ai [qm 20 7,qu 21 (.aL .neq 20 (qi 0))]) (.cond 21 (.seq (.ai [qm 22 7,qu 23 (.build [qd 0,qd 0,qd 0,.aM] [(0,1,22)]),qw (.store 4 4 23)]) .ret) .skip)) (.seq (.ai [qm 24 1,qu 25 (.aR 24),qf 26 8 25,ql 27 26,qu 28 (.build [.aM,(.ah (.val (.bool false))),qd 0,qd 0] [(0,1,27)]),qu 8 (.alloc [.aM,(.ah (.val (.bool false))),qd 0,qd 0]),qw (.store 4 8 28)]) (.seq (.seq (.ai [qm 29 1,qu 30 (.aR 29),qf 31 3 30,ql 32 31,qu 33 (.aL .geq 32 (qi 0))]) (.cond 33 (.seq (.seq (.bV [qm 35 0,qu 36 (.aR 35),qf 37 0 36,qf 38 2 37,ql 39 38,qm 40 0,qu 41 (.aR 40),qf 42 3 41,ql 43 42,qu 44 (.cw 4 39 43),qf 45 3 44,ql 46 45,qm 47 1,qu 48 (.aR 47),qf 49 3 48,ql 50 49,qu 51 (qc 73 [46,50]),qm 34 51,qu 52 (.ext 34 0),qu 53 (.ext 34 1),qf 54 2 8,qw (.store 2 54 52),qm 7 53] [(eE 16 0 (.cons 16 (some []) (eE 4 17 (.cons 21 (some []) (.cons 22 none .nil)))))]) (.seq (.ai [qm 55 7,qu 56 (.aL .neq 55 (qi 0))]) (.cond 56 (.seq (.ai [qm 57 7,qu 58 (.build [qd 0,qd 0,qd 0,.aM] [(0,1,57)]),qw (.store 4 4 58)]) .ret) .skip))) (.ai [qf 59 1 8,qw (.store 1 59 (qb true))])) .skip)) (.cX (.seq (.bV [qm 61 0,qu 62 (.aR 61),qf 63 0 62,qf 64 0 63,ql 65 64,qm 66 6,qL 67 4 8,qu 68 (qc 74 [65,66,67]),qm 60 68,qu 69 (.ext 60 0),qu 70 (.ext 60 1),qm 9 69,qm 7 70] [(eE 7 0 (.cons 7 (some []) (eE 5 8 .nil)))]) (.seq (.seq (.ai [qm 71 0,qm 72 9,qm 73 7,qu 74 (qc 69 [71,72,73]),qm 7 74]) (.seq (.ai [qm 75 7,qu 76 (.aL .neq 75 (qi 0))]) (.cond 76 (.seq (.ai [qm 77 7,qu 78 (.build [qd 0,qd 0,qd 0,.aM] [(0,1,77)]),qw (.store 4 4 78)]) .ret) .skip))) (.seq (.ai [qm 79 1,qu 80 (.aR 79),qf 81 8 80,ql 82 81,qu 83 (.len 1 82),qu 84 (.build [qd 0,qd 0,qd 0,.aM] [(1,1,83)]),qw (.store 4 4 84)]) .ret)))))))))⟩
def c39:LF:= ⟨82,[.cell true 4 4],(.seq (.ai [qu 4 (.alloc [qd 0,qd 0,qd 0,.aM])]) (.seq (.ai [qm 15 0,qm 16 1,qu 17 (.aR 16),qf 18 2 17,ql 19 18,qu 20 (qc 56 [15,19,qi 512]),qm 14 20,qu 21 (.ext 14 0),qu 22 (.ext 14 1),qu 23 (.ext 14 2),qu 5 (.alloc [qd 0,qd 0]),qw (.store 2 5 21),qm 6 22,qm 7 23]) (.seq (.seq (.ai [qm 24 7,qu 25 (.aL .neq 24 (qi 0))]) (.cond 25 (.seq (.ai [qm 26 7,qu 27 (.build [qd 0,qd 0,qd 0,.aM] [(0,1,26)]),qw (.store 4 4 27)]) .ret) .skip)) (.seq (.ai [qm 29 0,qu 30 (.aR 29),qf 31 0 30,qf 32 0 31,ql 33 32,qm 34 6,qu 35 (qc 75 [33,34]),qm 28 35,qu 36 (.ext 28 0),qu 37 (.ext 28 1),qu 38 (.ext 28 2),qu 9 (.alloc [.aM,(.ah (.val (.bool false))),qd 0,qd 0]),qm 8 36,qw (.store 4 9 37),qm 7 38]) (.seq (.seq (.ai [qm 39 7,qu 40 (.aL .neq 39 (qi 0))]) (.cond 40 (.seq (.ai [qm 41 7,qu 42 (.build [qd 0,qd 0,qd 0,.aM] [(0,1,41)]),qw (.store 4 4 42)]) .ret) .skip)) (.seq (.ai [qu 10 (.aN (qi (-1)))]) (.seq (.seq (.ai [qf 43 1 9,ql 44 43]) (.cond 44 (.seq (.bV [qm 46 0,qu 47 (.aR 46),qf 48 0 47,qf 49 2 48,ql 50 49,qm 51 0,qu 52 (.aR 51),qf 53 3 52,ql 54 53,qu 55 (.cw 4 50 54),qf 56 3 55,ql 57 56,qf 58 2 9,qL 59 2 58,qu 60 (qc 76 [57,59]),qm 45 60,qu 61 (.ext 45 0),qu 62 (.ext 45 1),qu 63 (.ext 45 2),qm 11 61,qm 12 62,qm 13 63] [(eE 14 0 (.cons 14 (some []) (eE 7 15 .nil)))]) (.seq (.seq (.ai [qm 64 13,qu 65 (.aL .neq 64 (qi 0))]) (.cond 65 (.seq (.ai [qm 66 13,qu 67 (.build [qd 0,qd 0,qd 0,.aM] [(0,1,66)]),qw (.store 4 4 67)]) .ret) .skip)) (.seq (.ai [qm 68 0,qm 69 11,qu 70 (qc 63 [68,69,qi 0])]) (.ai [qm 71 12,qm 10 71])))) .skip)) (.cX (.seq (.ai [qm 72 0,qm 73 8,qu 74 (qc 69 [72,73,qi 0])]) (.seq (.ai [qf 75 0 9,ql 76 75,qu 77 (.len 1 76),qm 78 10,qf 79 0 9,ql 80 79,qu 81 (.build [qd 0,qd 0,qd 0,.aM] [(1,1,77),(2,1,78),(3,1,80)]),qw (.store 4 4 81)]) .ret))))))))))⟩
namespace Kn
def Ai(d:List Int)(g:(Int×Int)×Bool):dn:=⟨jv d,g.2,g.1.1,g.1.2⟩
def kh(k:Kr)(c:Cl)(r:List Obj×Int):Kr×An:=(bF k r.1 r.2,if r.2≠0 then An.no r.2 else⟨0,c.data.length,0,[]⟩)
def ta(k:Kr)(p:Nat)(c:Cl)(bp:Int):Kr×An:=
 if c.fY>=0 then
  (if(c7 (ap k.ps p) c.fY).2≠0 then(k,An.no (c7 (ap k.ps p) c.fY).2)else kh k c (fj k.l bp (Ai c.data ((c7 (ap k.ps p) c.fY).1,true))))
 else kh k c (fj k.l bp (Ai c.data ((0,0),false)))
def vu(k:Kr)(p:Nat)(c:Cl)(w:(Int×Int)×Int×Int):Kr×An:=if w.2.2≠0 then(k,An.no w.2.2)else ta k p c w.2.1
def iK(k:Kr)(p:Nat)(c:Cl):Kr×An:=vu k p c (br k p c.fd 256)
theorem l38:bz prog f38=some c38.er:=by kernel_rfl
def acz:LC:=bP (bP (bP (bP (bP c38.code))))
def acA:LC:=rc acz
theorem OP(k:Kr)(p:Nat)(hw:KW k p)(c:Cl)(bp:Int)(m:dn)(hm:m.data.length<=4194304):
  aw prog 2 acA (QC c38.me (kh k c (fj k.l bp m)).1 p c (kh k c (fj k.l bp m)).2)
   ⟨kT 85 [(0,.rv (.one (.ptr 0 0))),(1,.rv (.one (.ptr 1 0))),(4,.rv (.one (.ptr 2 0))),(6,an .i64 bp),(8,.rv (.one (.ptr 3 0)))],[xB k p,cB c,je,.var (m.enc.map .ah)]⟩:=by
 refine QW k.l hw.oD bp m hm ?_;generalize fj k.l bp m=r;obtain⟨l,e⟩:=r;refine⟨trivial,?_⟩;refine oa k p hw.kr l e 0 rfl ?_;refine bv (λhe=>?_) (λhe=>?_)
 .have he:e≠0:=he;rw[kh,if_pos he];exact dd (X:=[_,_])
 .have he:¬e≠0:=λh=>h he
  have hq:(c.data.length:Int)=((jv c.data).length:Int):=by simp[jv]
  rw[kh,if_neg he,hq];exact dd (X:=[_,_])
theorem tX(k:Kr)(p:Nat)(hw:KW k p)(c:Cl)(hd:c.data.length<=4194304):
  body prog c38 [.rv (.one (.ptr 0 0)),.rv (.one (.ptr 1 0))] [xB k p,cB c] (TC (iK k p c).1 p c (iK k p c).2):=by
 have hs:=λbp m hm=>OP k p hw c bp m hm
 have my:(jv c.data).length<=4194304:=by simpa[jv]using hd
 refine kY k p hw c.fd 256 0 rfl ?_;have hS:iK k p c=vu k p c (br k p c.fd 256):=rfl;rw[hS];clear hS;generalize br k p c.fd 256=w;obtain⟨⟨o,r⟩,b,e⟩:=w;refine bv (λhe=>?_) (λhe=>?_)
 .have he:e≠0:=he;rw[vu,if_pos he];exact dd (X:=[_,_])
 have he:e=0:=he;subst he;rw[vu,if_neg aC];refine aP (λh2=>?_) (λh2=>?_)
 .have h2:c.fY>=0:=h2;have hg:=dJ hw.hp;rw[<-eD hw.hp]at hg;refine af hg ?_;have e1:ta k p c b=if(c7 (ap k.ps p) c.fY).2≠0 then(k,An.no (c7 (ap k.ps p) c.fY).2)else kh k c (fj k.l b (Ai c.data ((c7 (ap k.ps p) c.fY).1,true))):=by rw[ta,if_pos h2]
  rw[e1];refine BO (ap k.ps p) c.fY ?_;generalize c7 (ap k.ps p) c.fY=g;obtain⟨⟨go,gr⟩,e⟩:=g;refine⟨trivial,trivial,?_⟩;refine bv (λhe=>?_) (λhe=>?_)
  .have he:e≠0:=he;rw[if_pos he];exact dd (X:=[_,_,_])
  have he:¬e≠0:=λh=>h he
  rw[if_neg he];refine⟨_,View.o1 5 [0,1,2,4] [] ?_,hs b (Ai c.data ((go,gr),true)) my⟩
  .exact .au
 .have h2:¬c.fY>=0:=h2;have e1:ta k p c b=kh k c (fj k.l b (Ai c.data ((0,0),false))):=by rw[ta,if_neg h2]
  rw[e1];refine⟨_,View.o1 5 [0,1,2,4] [] ?_,hs b (Ai c.data ((0,0),false)) my⟩
  .exact .au
theorem KQ(k:Kr)(p:Nat)(hw:KW k p)(c:Cl)(hd:c.data.length<=4194304):aq prog 38 [.rv (.one (.ptr 0 0)),.rv (.one (.ptr 1 0))] [xB k p,cB c] (TC (iK k p c).1 p c (iK k p c).2):=
 cj func38 l38 (tX k p hw c hd)
def vy(k:Kr)(l:List Obj)(m:dn)(fd:Int):Kr×An:=(bF k l 0,⟨0,m.data.length,fd,m.data⟩)
def x9(k:Kr)(p:Nat)(r:List Obj×dn×Int):Kr×An:=
 if r.2.2≠0 then(k,An.no r.2.2)
 else if r.2.1.has=true then
  (if(fw (ap k.ps p) r.2.1.dG r.2.1.bX).2.2≠0 then(k,An.no (fw (ap k.ps p) r.2.1.dG r.2.1.bX).2.2)
   else vy (eC k p (fw (ap k.ps p) r.2.1.dG r.2.1.bX).1 0) r.1 r.2.1 (fw (ap k.ps p) r.2.1.dG r.2.1.bX).2.1)
 else vy k r.1 r.2.1 (-1)
def ya(k:Kr)(p:Nat)(w:(Int×Int)×Int×Int):Kr×An:=if w.2.2≠0 then(k,An.no w.2.2)else x9 k p (fM k.l w.2.1)
def gW(k:Kr)(p:Nat)(c:Cl):Kr×An:=ya k p (br k p c.fd 512)
theorem tc{l:List eA}{o r:Int}(hl:l.length<=10):(fw l o r).1.length<=10:=by
 unfold fw Tb.iS;split
 .simp
 .split
  .simpa using hl
  .split
   .simp
   .rename_i h;simp only[N7,aa5,aar,abm]at h|-;omega
theorem OQ{k:Kr}(hk:dP k.l k.ops k.ps){p:Nat}(hp:p<k.ps.length){l:List eA}(hl:l.length<=10):dP k.l k.ops (cS k.ps p l):=by
 have e:cS k.ps p l=k.ps.set p {k.ps[p]with aQ:=l}:=by rw[cS,vR hp]
 rw[e];refine⟨hk.sm,hk.ll,hk.lo,by simpa using hk.lp,λx hx=>?_,λh=>hk.ne (by simpa using h)⟩
 rcases aaQ hx with hx|rfl
 .exact hk.sl x hx
 .exact hl
theorem l39:bz prog f39=some c39.er:=by kernel_rfl
def acB:LC:=bP (bP (bP (bP (bP (bP (bP c39.code))))))
def acC:LC:=rc acB
theorem Eb(k:Kr)(p:Nat)(hk:dP k.l k.ops k.ps)(c:Cl)(l:List Obj)(m:dn)(fd:Int):
  aw prog 2 acC (QC c39.me (vy k l m fd).1 p c (vy k l m fd).2)
   ⟨kT 82 [(0,.rv (.one (.ptr 0 0))),(1,.rv (.one (.ptr 1 0))),(4,.rv (.one (.ptr 2 0))),(8,cC l),(9,.rv (.one (.ptr 3 0))),(10,an .i64 fd)],[xB k p,cB c,je,.var (m.enc.map .ah)]⟩:=by
 refine oa k p hk l 0 0 rfl ?_;exact GS (k:=bF k l 0) (a:=⟨0,m.data.length,fd,m.data⟩) (X:=[_,_])
theorem tZ(k:Kr)(p:Nat)(hw:KW k p)(c:Cl):
  body prog c39 [.rv (.one (.ptr 0 0)),.rv (.one (.ptr 1 0))] [xB k p,cB c] (TC (gW k p c).1 p c (gW k p c).2):=by
 refine kY k p hw c.fd 512 0 rfl ?_;have hS:gW k p c=ya k p (br k p c.fd 512):=rfl;rw[hS];clear hS;generalize br k p c.fd 512=w;obtain⟨⟨o,r⟩,b,e⟩:=w;refine bv (λhe=>?_) (λhe=>?_)
 .have he:e≠0:=he;rw[ya,if_pos he];exact dd (X:=[_,_])
 have he:e=0:=he;subst he;rw[ya,if_neg aC];refine QX k.l hw.oD b ?_;generalize fM k.l b=R;obtain⟨l,m,e⟩:=R;refine bv (λhe=>?_) (λhe=>?_)
 .have he:e≠0:=he;rw[x9,if_pos he];exact dd (X:=[_,_,_])
 have he:e=0:=he;subst he;have hR:x9 k p (l,m,0)=if m.has=true then
   (if(fw (ap k.ps p) m.dG m.bX).2.2≠0 then(k,An.no (fw (ap k.ps p) m.dG m.bX).2.2)
    else vy (eC k p (fw (ap k.ps p) m.dG m.bX).1 0) l m (fw (ap k.ps p) m.dG m.bX).2.1)
  else vy k l m (-1):=by rw[x9,if_neg aC]
 rw[hR];clear hR;obtain⟨data,has,dG,bX⟩:=m;cases has with
 |false=>
  rw[if_neg aC];refine⟨_,View.o1 5 [0,1,2,4] [] ?_,Eb k p hw.kr c l ⟨data,false,dG,bX⟩ (-1)⟩
  .exact .au
 |true=>
  rw[if_pos rfl];have hg:=dJ hw.hp;rw[<-eD hw.hp]at hg;have hl:(ap k.ps p).length<=10:=by rw[eD hw.hp];exact hw.kr.sl _ (aay hw.hp)
  refine af hg ?_;have jY:= @tc (ap k.ps p) dG bX hl;refine Bv (ap k.ps p) om dG bX ?_;have hkr:= @OQ k hw.kr p hw.hp;generalize fw (ap k.ps p) dG bX=T at jY|-;obtain⟨t,fd,e⟩:=T;refine⟨trivial,?_⟩;refine bv (λhe=>?_) (λhe=>?_)
  .have he:e≠0:=he;rw[if_pos he];exact dd (X:=[_,_,_])
  have he:e=0:=he;subst he;rw[if_neg aC];refine D2 k p hw.kr hw.hp t 0 0 rfl ?_;refine⟨_,View.o1 5 [0,1,2,4] [] ?_,Eb (eC k p t 0) p (hkr jY) c l ⟨data,true,dG,bX⟩ fd⟩
  .exact .au
theorem KR(k:Kr)(p:Nat)(hw:KW k p)(c:Cl):aq prog 39 [.rv (.one (.ptr 0 0)),.rv (.one (.ptr 1 0))] [xB k p,cB c] (TC (gW k p c).1 p c (gW k p c).2):=
 cj func39 l39 (tZ k p hw c)
end Kn
def c37:LF:= ⟨69,[.cell true 4 2],(.seq (.ai [qu 2 (.alloc [qd 0,qd 0,qd 0,.aM])]) (.seq (.ai [qm 10 0,qu 11 (.aR 10),qf 12 0 11,qf 13 0 12,ql 14 13,qu 15 (qc 71 [14]),qm 9 15,qu 16 (.ext 9 0),qu 17 (.ext 9 1),qu 18 (.ext 9 2),qu 4 (.alloc [qd 0,qd 0]),qm 3 16,qw (.store 2 4 17),qm 5 18]) (.seq (.seq (.ai [qm 19 5,qu 20 (.aL .neq 19 (qi 0))]) (.cond 20 (.seq (.ai [qm 21 5,qu 22 (.build [qd 0,qd 0,qd 0,.aM] [(0,1,21)]),qw (.store 4 2 22)]) .ret) .skip)) (.seq (.ai [qm 23 0,qu 24 (.aR 23),qf 25 0 24,qL 26 3 25,qu 27 (qc 59 [26]),qu 6 (.alloc [.aM,.aM,.aM]),qw (.store 3 6 27)]) (.seq (.ai [qm 28 3,qf 29 0 6,qw (.store 1 29 28)]) (.cX (.seq (.bV [qL 31 3 6,qm 32 0,qu 33 (.aR 32),qf 34 3 33,ql 35 34,qu 36 (.Cz 2 1 4 (qi 0)),ql 37 36,qu 38 (qc 72 [31,35,37,qi 896]),qm 30 38,qu 39 (.ext 30 0),qu 40 (.ext 30 1),qu 41 (.ext 30 2),qw (.store 3 6 39),qm 7 40,qm 5 41] [(eE 7 0 (.cons 7 (some []) (eE 4 8 (.cons 12 (some []) (.cons 13 none (.cons 14 none .nil))))))]) (.seq (.seq (.ai [qm 42 5,qu 43 (.aL .neq 42 (qi 0))]) (.cond 43 (.seq (.ai [qm 44 5,qu 45 (.build [qd 0,qd 0,qd 0,.aM] [(0,1,44)]),qw (.store 4 2 45)]) .ret) .skip)) (.seq (.bV [qL 47 3 6,qm 48 0,qu 49 (.aR 48),qf 50 3 49,ql 51 50,qu 52 (.Cz 2 1 4 (qi 1)),ql 53 52,qu 54 (qc 72 [47,51,53,qi 896]),qm 46 54,qu 55 (.ext 46 0),qu 56 (.ext 46 1),qu 57 (.ext 46 2),qw (.store 3 6 55),qm 8 56,qm 5 57] [(eE 7 0 (.cons 7 (some []) (eE 4 8 (.cons 12 (some []) (.cons 13 none (.cons 14 none .nil))))))]) (.seq (.seq (.ai [qm 58 5,qu 59 (.aL .neq 58 (qi 0))]) (.cond 59 (.seq (.ai [qm 60 5,qu 61 (.build [qd 0,qd 0,qd 0,.aM] [(0,1,60)]),qw (.store 4 2 61)]) .ret) .skip)) (.seq (.ai [qm 62 0,qL 63 3 6,qu 64 (.aR 62),qf 65 0 64,qw (.store 3 65 63)]) (.seq (.ai [qm 66 7,qm 67 8,qu 68 (.build [qd 0,qd 0,qd 0,.aM] [(1,1,66),(2,1,67)]),qw (.store 4 2 68)]) .ret))))))))))))⟩
namespace Kn
def td(p:Nat)(a:Kr×Int×Int)(e1:Int)(k:Kr):Kr×An:=
 if a.2.2≠0 then(k,An.no a.2.2)
 else if(aE a.1 p e1 896).2.2≠0 then(k,An.no (aE a.1 p e1 896).2.2)
 else((aE a.1 p e1 896).1,⟨0,a.2.1,(aE a.1 p e1 896).2.1,[]⟩)
def yb(k:Kr)(p:Nat)(P:List Obj×(Int×Int)×Int):Kr×An:=
 if P.2.2≠0 then(k,An.no P.2.2)else td p (aE ⟨P.1,k.ops,k.ps⟩ p P.2.1.1 896) P.2.1.2 k
def gX(k:Kr)(p:Nat):Kr×An:=yb k p (fG k.l)
structure Vj(k:Kr)(p:Nat)(P:List Obj×(Int×Int)×Int):Prop where
 a:P.2.2=0->dP P.1 k.ops k.ps
 b:P.2.2=0->(aE ⟨P.1,k.ops,k.ps⟩ p P.2.1.1 896).2.2=0->dP (aE ⟨P.1,k.ops,k.ps⟩ p P.2.1.1 896).1.l (aE ⟨P.1,k.ops,k.ps⟩ p P.2.1.1 896).1.ops (aE ⟨P.1,k.ops,k.ps⟩ p P.2.1.1 896).1.ps/\p<(aE ⟨P.1,k.ops,k.ps⟩ p P.2.1.1 896).1.ps.length
theorem l37:bz prog f37=some c37.er:=by kernel_rfl
def acD:LC:=bP (bP (bP (bP (bP c37.code))))
def acE:LC:=rc acD
def kB(k:Kr):Bk:= .var ((kC k.l k.ops k.ps).map .ah)
theorem YI(k:Kr):kB k≠.aU:=by intro h;cases h
def TP(k:Kr)(p:Nat)(a:An)(r:CV)(m:Mem):Prop:=∃r' m',View 1 ⟨[r],m⟩ ⟨[r'],m'⟩/\r'=a.cv/\m'=[xB k p]
theorem IF{k:Kr}{p:Nat}{X:Mem}{e n x:Int}:TP k p ⟨e,n,x,[]⟩ (.rv (.agg [.ah (.val (.int .i64 e)),.ah (.val (.int .i64 n)),.ah (.val (.int .i64 x)),.aM])) (xB k p::X):=
 ⟨_,_,View.of (X.length+1) [0] [] rfl rfl rfl rfl rfl (by simp[eR,Nat.blt]) (.put OG .nil) (.pt rfl rfl (.eq rfl (nA _ _)) (.nil _)),rfl,rfl⟩
theorem OR(k:Kr)(p:Nat)(k1:Kr)(hp:p<k1.ps.length)(hk:dP k1.l k1.ops k1.ps)(e0 e1:Int)(hb:(aE k1 p e0 896).2.2=0->dP (aE k1 p e0 896).1.l (aE k1 p e0 896).1.ops (aE k1 p e0 896).1.ps/\p<(aE k1 p e0 896).1.ps.length):
  aw prog 1 acE (oR prog c37.me (TP (td p (aE k1 p e0 896) e1 k).1 p (td p (aE k1 p e0 896) e1 k).2))
   ⟨kT 69 [(0,.rv (.one (.ptr 0 0))),(2,.rv (.one (.ptr 1 0))),(4,.rv (.one (.ptr 2 0))),(6,.rv (.one (.ptr 3 0)))],[xB k p,je,.var [.ah (.val (.int .i64 e0)),.ah (.val (.int .i64 e1))],kB k1]⟩:=by
 refine uj k1 hk p hp e0 896 ?_;generalize aE k1 p e0 896=A at hb|-;obtain⟨k2,fd,e⟩:=A;refine⟨trivial,trivial,?_⟩;refine bv (λhe=>?_) (λhe=>?_)
 .have he:e≠0:=he;rw[td,if_pos he];exact IF (X:=[_,_,_])
 have he:e=0:=he;subst he;obtain⟨oZ,yJ⟩:=hb rfl;have e2:td p (k2,fd,0) e1 k=if(aE k2 p e1 896).2.2≠0 then(k,An.no (aE k2 p e1 896).2.2)else((aE k2 p e1 896).1,⟨0,fd,(aE k2 p e1 896).2.1,[]⟩):=by rw[td,if_neg aC]
 rw[e2];refine uj k2 oZ p yJ e1 896 ?_;generalize aE k2 p e1 896=B;obtain⟨k3,fY,e⟩:=B;refine⟨trivial,trivial,?_⟩;refine bv (λhe=>?_) (λhe=>?_)
 .have he:e≠0:=he;rw[if_pos he];exact IF (X:=[_,_,_])
 have he:¬e≠0:=λh=>h he
 rw[if_neg he];exact IF (k:=k3) (X:=[_,_,_])
theorem G2(k:Kr)(p:Nat)(hw:KW k p)(hi:Vj k p (fG k.l)):
  body prog c37 [.rv (.one (.ptr 0 0))] [xB k p] (TP (gX k p).1 p (gX k p).2):=by
 refine QU k.l hw.oD ?_;have hS:gX k p=yb k p (fG k.l):=rfl;rw[hS];clear hS;generalize fG k.l=P at hi|-;obtain⟨l,⟨e0,e1⟩,e⟩:=P;refine bv (λhe=>?_) (λhe=>?_)
 .have he:e≠0:=he;rw[yb,if_pos he];exact IF (X:=[_,_])
 have he:e=0:=he;subst he;rw[yb,if_neg aC];refine i4 k.l k.ops k.ps hw.oD hw.kr.lo hw.kr.lp hw.kr.sl hw.kr.ne ?_;refine⟨_,View.o1 7 [0,1,2,6] [3,4,5] ?_,OR k p ⟨l,k.ops,k.ps⟩ hw.hp (hi.a rfl) e0 e1 (hi.b rfl)⟩
 .exact .pt rfl rfl (.eq rfl (nA _ _)) (.pt rfl rfl (.eq rfl (by simp[je])) (.pe rfl rfl rfl (.pt rfl rfl (fv.var (.cons (.bh (.ah _)) (.cons (.fT (iH rfl rfl)) (.cons (.fT (iH rfl rfl)) .nil)))) (.nil _))))
theorem OS(k:Kr)(p:Nat)(hw:KW k p)(hi:Vj k p (fG k.l)){m:Mem}(id:Nat)(hb:cF m id=some (xB k p)){K:CV->Mem->Prop}(hK:K (gX k p).2.cv (aX m id (xB (gX k p).1 p))):
  aq prog 37 [.rv (.one (.ptr id 0))] m K:=
 IC (args:=[]) (λ_=>rfl) (λ_=>rfl)
  (bL (cj func37 l37 (G2 k p hw hi)) λr m1⟨r',m',hv,hq⟩=>⟨r',m',hv,hq⟩) id hb hK
end Kn
def c40:LF:= ⟨195,[.cell true 4 4],(.seq (.ai [qu 4 (.alloc [qd 0,qd 0,qd 0,.aM])]) (.seq (.seq (.ai [qm 17 1,qu 18 (.aR 17),qf 19 1 18,ql 20 19]) (.block 0 (.seq (.ai [qu 22 (.aL .eql 20 (qi 1)),qm 21 22]) (.cond 21 (.seq (.ai [qm 23 0,qm 24 0,qu 25 (.aR 24),qf 26 0 25,qL 27 3 26,qu 28 (qc 59 [27]),qu 29 (.aR 23),qf 30 0 29,qw (.store 3 30 28)]) (.seq (.bV [qm 31 0,qu 32 (.aR 31),qf 33 0 32,qf 34 2 33,ql 35 34,qm 36 0,qu 37 (.aR 36),qf 38 3 37,ql 39 38,qu 40 (.cw 4 35 39),qf 41 1 40,qw (.store 1 41 (qb true))] [(eE 11 0 (.cons 11 (some []) .nil))]) (.seq (.ai [qu 42 (.build [qd 0,qd 0,qd 0,.aM] []),qw (.store 4 4 42)]) .ret))) (.seq (.ai [qu 44 (.aL .eql 20 (qi 22)),qm 43 44]) (.cond 43 (.seq (.seq (.bV [qm 45 0,qu 46 (.aR 45),qf 47 0 46,qf 48 2 47,ql 49 48,qm 50 0,qu 51 (.aR 50),qf 52 3 51,ql 53 52,qu 54 (.cw 4 49 53),qf 55 1 54,ql 56 55] [eE 12 0 .nil]) (.cond 56 (.seq (.ai [qu 57 (.build [qd 0,qd 0,qd 0,.aM] [(1,1,qi 1)]),qw (.store 4 4 57)]) .ret) .skip)) (.seq (.ai [qu 58 (.build [qd 0,qd 0,qd 0,.aM] []),qw (.store 4 4 58)]) .ret)) (.seq (.ai [qu 60 (.aL .eql 20 (qi 18)),qm 59 60]) (.cond 59 (.seq (.bV [qm 62 0,qu 63 (.aR 62),qf 64 0 63,qL 65 3 64,qm 66 0,qu 67 (.aR 66),qf 68 3 67,ql 69 68,qu 70 (qc 77 [65,69]),qm 61 70,qu 71 (.ext 61 0),qu 72 (.ext 61 1),qu 73 (.ext 61 2),qu 74 (.ext 61 3),qu 5 (.alloc [.aM,.aM,.aM]),qw (.store 3 5 71),qm 6 72,qm 7 73,qm 8 74] [(eE 8 0 (.wm (.cons 8 (some []) (eE 5 9 (.cons 14 (some [7,3]) (.cons 15 (some []) (eE 3 16 .nil))))) (.cons 14 (some [7,3]) (.cons 8 (some []) (eE 5 9 (.cons 15 (some []) (eE 3 16 .nil)))))))]) (.seq (.seq (.ai [qm 75 8,qu 76 (.aL .neq 75 (qi 0))]) (.cond 76 (.seq (.ai [qm 77 8,qu 78 (.build [qd 0,qd 0,qd 0,.aM] [(0,1,77)]),qw (.store 4 4 78)]) .ret) .skip)) (.seq (.ai [qm 79 0,qL 80 3 5,qu 81 (.aR 79),qf 82 0 81,qw (.store 3 82 80)]) (.seq (.ai [qm 83 6,qm 84 7,qu 85 (.build [qd 0,qd 0,qd 0,.aM] [(1,1,83),(2,1,84)]),qw (.store 4 4 85)]) .ret)))) (.seq (.ai [qu 87 (.aL .eql 20 (qi 19)),qm 86 87]) (.cond 86 (.seq (.bV [qm 89 0,qu 90 (.aR 89),qf 91 0 90,qL 92 3 91,qm 93 0,qu 94 (.aR 93),qf 95 3 94,ql 96 95,qm 97 1,qu 98 (.aR 97),qf 99 4 98,ql 100 99,qu 101 (qc 78 [92,96,100]),qm 88 101,qu 102 (.ext 88 0),qu 103 (.ext 88 1),qu 9 (.alloc [.aM,.aM,.aM]),qw (.store 3 9 102),qm 10 103] [(eE 12 0 (.wm (.cons 12 (some []) (eE 3 13 (.cons 16 (some [11,7,3]) (.cons 17 (some []) (.cons 18 none .nil))))) (.cons 16 (some [11,7,3]) (.cons 12 (some []) (eE 3 13 (.cons 17 (some []) (.cons 18 none .nil)))))))]) (.seq (.seq (.ai [qm 104 10,qu 105 (.aL .eql 104 (qi 0))]) (.cond 105 (.ai [qm 106 0,qL 107 3 9,qu 108 (.aR 106),qf 109 0 108,qw (.store 3 109 107)]) .skip)) (.seq (.ai [qm 110 10,qu 111 (.build [qd 0,qd 0,qd 0,.aM] [(0,1,110)]),qw (.store 4 4 111)]) .ret))) .skip)))))))))) (.seq (.ai [qu 112 (.rM),qw (.tz (.i .i64) 112 (qi 20) (qi 2048)),qw (.tz (.i .i64) 112 (qi 21) (qi 1024)),qm 113 112,qm 114 1,qu 115 (.aR 114),qf 116 1 115,ql 117 116,qu 118 (.yN (.one (qd 0)) (.i .i64) 113 117 false),qm 11 118]) (.cX (.seq (.ai [qm 120 0,qm 121 1,qu 122 (.aR 121),qf 123 2 122,ql 124 123,qm 125 11,qu 126 (qc 56 [120,124,125]),qm 119 126,qu 127 (.ext 119 0),qu 128 (.ext 119 1),qu 129 (.ext 119 2),qu 12 (.alloc [qd 0,qd 0]),qw (.store 2 12 127),qm 13 128,qm 14 129]) (.seq (.block 1 (.seq (.ai [qm 131 14,qu 132 (.aL .neq 131 (qi 0)),qm 130 132]) (.cond 130 (.seq (.ai [qm 133 14,qu 134 (.build [qd 0,qd 0,qd 0,.aM] [(0,1,133)]),qw (.store 4 4 134)]) .ret) (.seq (.ai [qm 136 0,qu 137 (.aR 136),qf 138 0 137,qf 139 0 138,ql 140 139,qm 141 13,qu 142 (.cw 9 140 141),qf 143 0 142,ql 144 143,qu 145 (.aL .neq 144 (qi 5)),qm 135 145]) (.cond 135 (.seq (.ai [qu 146 (.build [qd 0,qd 0,qd 0,.aM] [(0,1,qi 8)]),qw (.store 4 4 146)]) .ret) .skip))))) (.seq (.ai [qm 147 0,qu 148 (.aR 147),qf 149 0 148,qf 150 0 149,ql 151 150,qm 152 13,qu 153 (.cw 9 151 152),qf 154 6 153,ql 155 154,qm 15 155]) (.seq (.seq (.ai [qm 156 1,qu 157 (.aR 156),qf 158 1 157,ql 159 158,qu 160 (.aL .eql 159 (qi 21))]) (.cond 160 (.seq (.seq (.ai [qm 161 0,qu 162 (.aR 161),qf 163 0 162,qL 164 3 163,qm 165 15,qu 166 (qc 29 [164,165])]) (.cond 166 (.seq (.ai [qu 167 (.build [qd 0,qd 0,qd 0,.aM] [(0,1,qi 16)]),qw (.store 4 4 167)]) .ret) .skip)) (.seq (.ai [qm 168 0,qu 169 (.aR 168),qf 170 0 169,qf 171 2 170,ql 172 171,qm 173 15,qu 174 (.cw 4 172 173),qf 175 2 174,ql 176 175,qu 177 (.build [qd 0,qd 0,qd 0,.aM] [(1,1,176)]),qw (.store 4 4 177)]) .ret)) .skip)) (.seq (.ai [qm 179 0,qu 180 (.aR 179),qf 181 0 180,qL 182 3 181,qm 183 15,qu 184 (qc 78 [182,183,qi 255]),qm 178 184,qu 185 (.ext 178 0),qu 186 (.ext 178 1),qu 16 (.alloc [.aM,.aM,.aM]),qw (.store 3 16 185),qm 14 186]) (.seq (.seq (.ai [qm 187 14,qu 188 (.aL .eql 187 (qi 0))]) (.cond 188 (.ai [qm 189 0,qL 190 3 16,qu 191 (.aR 189),qf 192 0 191,qw (.store 3 192 190)]) .skip)) (.seq (.ai [qm 193 14,qu 194 (.build [qd 0,qd 0,qd 0,.aM] [(0,1,193)]),qw (.store 4 4 194)]) .ret)))))))))))⟩
namespace Kn
def k7(ps:List bl)(p:Nat):Bool:=match ps[p]? with|some x=>x.fenced|none=>false
def lP(ps:List bl)(p:Nat):List bl:=match ps[p]? with|some x=>ps.set p {x with fenced:=true}|none=>ps
def G3(ps:List bl)(z:Int):Int:=match ps[z.toNat]? with|some x=>x.code|none=>0
def io(k:Kr)(e:Kr×Int):Kr×An:=(if e.2=0 then e.1 else k,An.no e.2)
def pD(k:Kr)(f:Kr×Int×Int×Int):Kr×An:=if f.2.2.2≠0 then(k,An.no f.2.2.2)else(f.1,⟨0,f.2.1,f.2.2.1,[]⟩)
def rx(k:Kr)(c:Cl)(o:Obj):Kr×An:=
 if o.ag≠5 then(k,An.no 8)
 else if c.ag=21 then(if fN k.ps o.be=true then(k,An.no 16)else(k,⟨0,G3 k.ps o.be,0,[]⟩))
 else io k (gD k o.be 255)
def lQ(k:Kr)(c:Cl)(w:(Int×Int)×Int×Int):Kr×An:=if w.2.2≠0 then(k,An.no w.2.2)else rx k c (lM k.l w.2.1)
def dR(k:Kr)(p:Nat)(c:Cl):Kr×An:=
 if c.ag=1 then(⟨k.l,k.ops,lP k.ps p⟩,⟨0,0,0,[]⟩)
 else if c.ag=22 then(k,⟨0,if k7 k.ps p=true then 1 else 0,0,[]⟩)
 else if c.ag=18 then pD k (fX k p)
 else if c.ag=19 then io k (gD k p c.n)
 else lQ k c (br k p c.fd (if c.ag=20 then 2048 else 1024))
def ry(x:Int):Prop:=x=1\/x=22\/x=18\/x=19\/x=20\/x=21
theorem l40:bz prog f40=some c40.er:=by kernel_rfl
def YJ:LC:=bP (bP (bP c40.code))
def YK:LC:=rc YJ
theorem G4(k:Kr)(p:Nat)(hw:KW k p)(c:Cl)(need:Int)(hq:∀o,o∈k.l->o.ag=5->∃n:Nat,o.be=n/\n<k.ps.length):
  aw prog 2 YK (QC c40.me (lQ k c (br k p c.fd need)).1 p c (lQ k c (br k p c.fd need)).2)
   ⟨kT 195 [(0,.rv (.one (.ptr 0 0))),(1,.rv (.one (.ptr 1 0))),(4,.rv (.one (.ptr 2 0))),(11,an .i64 need)],[xB k p,cB c,je]⟩:=by
 refine kY k p hw c.fd need 0 rfl ?_;have hh:= @KW.held k p hw c.fd need;generalize br k p c.fd need=w at hh|-;obtain⟨⟨o,r⟩,b,e⟩:=w;refine bv (λhe=>?_) (λhe=>?_)
 .have he:e≠0:=he;rw[lQ,if_pos he];exact dd (X:=[_,_])
 have he:e=0:=he;subst he;obtain⟨n,j,h1,h2,h3,h4,h5⟩:=hh rfl;have h3:b=j:=h3;subst h3;have e1:lQ k c ((o,r),((j:Nat):Int),0)=rx k c k.l[j]:=by rw[lQ,if_neg aC,uv h4]
 rw[e1];have Uo:=hq _ (aay h4);have hg:=jc h4;generalize k.l[j]=ob at Uo hg|-;refine af hg ?_;refine bv (λh6=>?_) (λh6=>?_)
 .have h6:ob.ag≠5:=h6;rw[rx,if_pos h6];exact dd (X:=[_,_])
 have h6:ob.ag=5:=h6;rw[rx,if_neg (λh=>h h6)]
 obtain⟨q,Ig,Qf⟩:=Uo h6;refine af hg ?_;refine bu (λh7=>?_) (λh7=>?_)
 .have h7:c.ag=21:=h7;rw[if_pos h7];refine pj k.l k.ops k.ps ob.be ?_;cases hl:fN k.ps ob.be with
  |true=>
   rw[if_pos rfl];exact dd (X:=[_,_])
  |false=>
   rw[if_neg aC];have hc:G3 k.ps ob.be=k.ps[q].code:=by rw[G3,Ig,ZW,vR Qf]
   rw[hc];refine af (x:=[.val (.bool k.ps[q].aO),.val (.bool k.ps[q].fenced),.val (.int .i64 k.ps[q].code),y8 k.ps[q].aQ]) (by rw[Ig];exact dJ Qf) ?_
   exact dd (X:=[_,_])
 .have h7:¬c.ag=21:=h7;rw[if_neg h7];refine Bu k hw.kr ob.be 255 ?_;generalize gD k ob.be 255=E;obtain⟨k2,e⟩:=E;refine bu (λhe=>?_) (λhe=>?_)
  .have he:e=0:=he;subst he;rw[io,if_pos rfl];exact dd (X:=[_,_,_])
  .have he:¬e=0:=he;rw[io,if_neg he];exact dd (X:=[_,_,_])
theorem Ec{ps:List bl}{n:Nat}(hn:n<ps.length):aX (aa (ps.map bl.enc)) n ((bl.enc ⟨ps[n].aO,true,ps[n].code,ps[n].aQ⟩).map .ah)=aa ((lP ps n).map bl.enc):=by
 have:lP ps n=ps.set n {ps[n]with fenced:=true}:=by rw[lP,vR hn]
 rw[this,bb,aa,aa,abB,abB]
theorem Ed(k:Kr)(p:Nat)(hw:KW k p)(c:Cl)(hc:c.ag=1):
  body prog c40 [.rv (.one (.ptr 0 0)),.rv (.one (.ptr 1 0))] [xB k p,cB c] (TC ⟨k.l,k.ops,lP k.ps p⟩ p c ⟨0,0,0,[]⟩):=by
 obtain⟨be,ag,fd,fY,n,bA,aY,cE,data⟩:=c;have hc:ag=1:=hc;subst hc;refine i4 k.l k.ops k.ps hw.oD hw.kr.lo hw.kr.lp hw.kr.sl hw.kr.ne ?_;refine af (mJ hw.hp) ?_;refine af (bN bl.enc k.ps hw.hp) ?_;refine⟨trivial,_,_,View.o 6 [0,1] [3,4,5] (.put OG .nil) (.pt rfl rfl (Vh (k:=⟨k.l,k.ops,lP k.ps p⟩) (iH rfl rfl) (iH rfl rfl) (iH rfl (congrArg (λx=>some (Bk.row 4 x)) (Ec hw.hp)))) (.pt rfl rfl (.eq rfl (jz _)) (.nil _))),rfl,rfl⟩
theorem G5(k:Kr)(p:Nat)(hw:KW k p)(c:Cl)(hc:c.ag=22):
  body prog c40 [.rv (.one (.ptr 0 0)),.rv (.one (.ptr 1 0))] [xB k p,cB c] (TC k p c ⟨0,if k7 k.ps p=true then 1 else 0,0,[]⟩):=by
 obtain⟨be,ag,fd,fY,n,bA,aY,cE,data⟩:=c;have hc:ag=22:=hc;subst hc;have hp:=hw.hp;have hf:k7 k.ps p=k.ps[p].fenced:=by rw[k7,vR hp]
 rw[hf];refine af (dJ hp) ?_;cases k.ps[p].fenced with
 |true=>exact dd (X:=[_])
 |false=>exact dd (X:=[_])
theorem G6(k:Kr)(p:Nat)(hw:KW k p)(c:Cl)(hc:c.ag=18):
  body prog c40 [.rv (.one (.ptr 0 0)),.rv (.one (.ptr 1 0))] [xB k p,cB c] (TC (pD k (fX k p)).1 p c (pD k (fX k p)).2):=by
 obtain⟨be,ag,fd,fY,n,bA,aY,cE,data⟩:=c;have hc:ag=18:=hc;subst hc;have YL:k.l.length<=4194303:=by have:=hw.l40;omega
 refine⟨?_,?_⟩
 .refine Is k hw.kr YL p ?_;generalize fX k p=F;obtain⟨k2,ch,fd,e⟩:=F;refine⟨trivial,⟨rfl,rfl,trivial⟩,trivial,?_⟩;refine bv (λhe=>?_) (λhe=>?_)
  .have he:e≠0:=he;rw[pD,if_pos he];exact dd (X:=[_,_])
  .have he:¬e≠0:=λh=>h he
   rw[pD,if_neg he];exact dd (k:=k2) (X:=[_,_])
 .refine⟨⟨rfl,rfl,trivial⟩,?_⟩;refine Is k hw.kr YL p ?_;generalize fX k p=F;obtain⟨k2,ch,fd,e⟩:=F;refine⟨trivial,trivial,?_⟩;refine bv (λhe=>?_) (λhe=>?_)
  .have he:e≠0:=he;rw[pD,if_pos he];exact dd (X:=[_,_])
  .have he:¬e≠0:=λh=>h he
   rw[pD,if_neg he];exact dd (k:=k2) (X:=[_,_])
theorem G7(k:Kr)(p:Nat)(hw:KW k p)(c:Cl)(hc:c.ag=19):
  body prog c40 [.rv (.one (.ptr 0 0)),.rv (.one (.ptr 1 0))] [xB k p,cB c] (TC (io k (gD k p c.n)).1 p c (io k (gD k p c.n)).2):=by
 obtain⟨be,ag,fd,fY,n,bA,aY,cE,data⟩:=c;have hc:ag=19:=hc;subst hc;show body prog c40 _ _ (TC (io k (gD k p n)).1 p _ (io k (gD k p n)).2);refine⟨?_,?_⟩
 .refine Bu k hw.kr p n ?_;generalize gD k p n=F;obtain⟨k2,e⟩:=F;refine⟨trivial,⟨rfl,rfl,rfl,trivial⟩,trivial,?_⟩;refine bu (λhe=>?_) (λhe=>?_)
  .have he:e=0:=he;rw[io,if_pos he];exact dd (k:=k2) (X:=[_,_])
  .have he:¬e=0:=he;rw[io,if_neg he];exact dd (X:=[_,_])
 .refine⟨⟨rfl,rfl,rfl,trivial⟩,?_⟩;refine Bu k hw.kr p n ?_;generalize gD k p n=F;obtain⟨k2,e⟩:=F;refine⟨trivial,trivial,?_⟩;refine bu (λhe=>?_) (λhe=>?_)
  .have he:e=0:=he;rw[io,if_pos he];exact dd (k:=k2) (X:=[_,_])
  .have he:¬e=0:=he;rw[io,if_neg he];exact dd (X:=[_,_])
theorem yc(k:Kr)(p:Nat)(hw:KW k p)(c:Cl)(hc:c.ag=20\/c.ag=21)(hq:∀o,o∈k.l->o.ag=5->∃n:Nat,o.be=n/\n<k.ps.length):
  body prog c40 [.rv (.one (.ptr 0 0)),.rv (.one (.ptr 1 0))] [xB k p,cB c] (TC (lQ k c (br k p c.fd (if c.ag=20 then 2048 else 1024))).1 p c (lQ k c (br k p c.fd (if c.ag=20 then 2048 else 1024))).2):=by
 have hs:=λneed=>G4 k p hw c need hq
 obtain⟨be,ag,fd,fY,n,bA,aY,cE,data⟩:=c;rcases hc with hc|hc
 .have hc:ag=20:=hc;subst hc;refine⟨_,View.o1 4 [0,1,2] [] ?_,hs 2048⟩
  .exact .au
 .have hc:ag=21:=hc;subst hc;refine⟨_,View.o1 4 [0,1,2] [] ?_,hs 1024⟩
  .exact .au
theorem jM(k:Kr)(p:Nat)(hw:KW k p)(c:Cl)(hc:ry c.ag)(hq:∀o,o∈k.l->o.ag=5->∃n:Nat,o.be=n/\n<k.ps.length):
  aq prog 40 [.rv (.one (.ptr 0 0)),.rv (.one (.ptr 1 0))] [xB k p,cB c] (TC (dR k p c).1 p c (dR k p c).2):=by
 refine cj func40 l40 ?_;rcases hc with hc|hc|hc|hc|hc|hc
 .rw[dR,if_pos hc];exact Ed k p hw c hc
 .rw[dR,if_neg om,if_pos hc];exact G5 k p hw c hc
 .rw[dR,if_neg om,if_neg om,if_pos hc];exact G6 k p hw c hc
 .rw[dR,if_neg om,if_neg om,if_neg om,if_pos hc];exact G7 k p hw c hc
 .rw[dR,if_neg om,if_neg om,if_neg om,if_neg om];exact yc k p hw c (.inl hc) hq
 .rw[dR,if_neg om,if_neg om,if_neg om,if_neg om];exact yc k p hw c (.inr hc) hq
end Kn
def c95:LF:= ⟨74,[.tmp 6],(.seq (.ai [qu 3 (.box 0),qu 6 (.aN (qi 0))]) (.seq (.seq (.ai [qf 7 0 3,ql 8 7]) (.block 0 (.seq (.ai [qu 10 (.aL .eql 8 (qi 1)),qm 9 10]) (.cond 9 (.seq (.ai [qf 11 3 3,ql 12 11,qu 13 (.aL .lss 12 (qi 0)),qm 14 13,qg 15 (.bY 3 3) 14 false,qg 16 (.load false 1 15) 14 false,qg 17 (.aL .geq 16 (qi 6)) 14 false,qu 18 (.pick 14 (qb true) 17)]) (.cond 18 (.seq (.ai [qu 6 (.aN (qi 3))]) .ret) .skip)) (.seq (.seq (.ai [qu 20 (.aL .eql 8 (qi 2)),qm 19 20]) (.cond 19 .skip (.seq (.ai [qu 21 (.aL .eql 8 (qi 3)),qm 19 21]) (.cond 19 .skip (.ai [qu 22 (.aL .eql 8 (qi 4)),qm 19 22]))))) (.cond 19 (.seq (.seq (.ai [qf 23 3 3,ql 24 23,qu 25 (.aL .lss 24 (qi 0)),qm 26 25,qg 27 (.bY 3 3) 26 false,qg 28 (.load false 1 27) 26 false,qg 29 (.aL .geq 28 (qi 2147483648)) 26 false,qu 30 (.pick 26 (qb true) 29),qm 31 30,qg 32 (.aN 1) 31 false,qg 33 (.bY 1 3) 31 false,qg 34 (.load false 1 33) 31 false,qg 35 (.aN 2) 31 false,qg 36 (qc 127 [32,34,qi 40,35]) 31 false,qg 37 (.un .not 36) 31 false,qu 38 (.pick 31 (qb true) 37),qm 39 38,qg 40 (.aN 1) 39 false,qg 41 (.bY 2 3) 39 false,qg 42 (.load false 1 41) 39 false,qg 43 (.aN 2) 39 false,qg 44 (qc 127 [40,42,qi 40,43]) 39 false,qg 45 (.un .not 44) 39 false,qu 46 (.pick 39 (qb true) 45)]) (.cond 46 (.seq (.ai [qu 6 (.aN (qi 3))]) .ret) .skip)) (.seq (.ai [qu 6 (.aN (qi 0))]) .ret)) (.seq (.ai [qu 48 (.aL .eql 8 (qi 5)),qm 47 48]) (.cond 47 (.seq (.ai [qm 49 1,qf 50 3 3,ql 51 50,qm 52 2,qm 53 2,qu 54 (qc 127 [49,51,52,53]),qu 55 (.un .not 54)]) (.cond 55 (.seq (.ai [qu 6 (.aN (qi 3))]) .ret) .skip)) (.seq (.ai [qu 57 (.aL .eql 8 (qi 6)),qm 56 57]) (.cond 56 (.seq (.ai [qf 58 3 3,ql 59 58,qu 60 (.aL .neq 59 (qi 1)),qm 61 60,qg 62 (.bY 3 3) 61 true,qg 63 (.load false 1 62) 61 true,qg 64 (.aL .neq 63 (qi 0)) 61 true,qu 65 (.pick 61 64 (qb false))]) (.cond 65 (.seq (.ai [qu 6 (.aN (qi 3))]) .ret) .skip)) (.seq (.ai [qu 6 (.aN (qi 1))]) .ret))))))))))) (.seq (.seq (.ai [qf 66 1 3,ql 67 66,qu 68 (.aL .neq 67 (qi 0)),qm 69 68,qg 70 (.bY 2 3) 69 false,qg 71 (.load false 1 70) 69 false,qg 72 (.aL .neq 71 (qi 0)) 69 false,qu 73 (.pick 69 (qb true) 72)]) (.cond 73 (.seq (.ai [qu 6 (.aN (qi 2))]) .ret) .skip)) (.seq (.ai [qu 6 (.aN (qi 0))]) .ret))))⟩
def c127:LF:= ⟨24,[.tmp 8],(.seq (.ai [qu 8 (.aN (qb false))]) (.seq (.ai [qm 9 1,qu 10 (.aL .geq 9 (qi 0)),qm 11 10,qg 12 (.aN 1) 11 true,qg 13 (.aN 2) 11 true,qg 14 (.aL .leq 12 13) 11 true,qu 15 (.pick 11 14 (qb false)),qm 16 15,qg 17 (.aN 0) 16 true,qg 18 (.aL .add 17 (qi 1)) 16 true,qg 19 (.aN 1) 16 true,qg 20 (.aL .add 18 19) 16 true,qg 21 (.aN 3) 16 true,qg 22 (.aL .lss 20 21) 16 true,qu 23 (.pick 16 22 (qb false)),qm 8 23]) .ret))⟩
structure dv where
 op:Int
 jt:Int
 jf:Int
 k:Int
 deriving DecidableEq
def dv.enc(i:dv):List Dt:=[.val (.int .i64 i.op),.val (.int .i64 i.jt),.val (.int .i64 i.jf),.val (.int .i64 i.k)]
def dv.cv(i:dv):CV:= .rv (.agg (i.enc.map .ah))
def yd(l:List dv):Dt:= .sl 4 (l.map dv.enc)
def te(l:List dv):CV:= .rv (.one (.ah (yd l)))
def BW(f:Int×Int):CV:= .rv (.agg [.ah (.val (.int .i64 f.1)),.ah (.val (.int .i64 f.2))])
def oA(a n ye s:Int):Bool:=decide (n>=0)&&decide (n<=ye)&&decide (a+1+n<s)
theorem l127:bz prog f127=some c127:=by kernel_rfl
theorem KT(a n ye s:Int)(ha:0<=a)(Wg:a<=4194304)(hm:ye<=4194304):body prog c127 [an .i64 a,an .i64 n,an .i64 ye,an .i64 s] [] (λr m=>r=aF (oA a n ye s)):=by
 refine aJ (λh=>?_) (λh=>?_)
 .refine aJ (λh2=>?_) (λh2=>?_)
  .have e1:n>=0:=of_decide_eq_true h;have e2:n<=ye:=of_decide_eq_true h2;show aF _=aF _;rw[oA,h,h2,iD (n:=a+1) om om,iD om om];rfl
  .show aF _=aF _;rw[oA,h,h2];rfl
 .show aF _=aF _;rw[oA,h];rfl
theorem RB(a n ye s:Int)(ha:0<=a)(Wg:a<=4194304)(hm:ye<=4194304){m:Mem}{K:CV->Mem->Prop}(h:K (aF (oA a n ye s)) m):aq prog 127 [an .i64 a,an .i64 n,an .i64 ye,an .i64 s] m K:=
 bC func127 l127 rfl (aap rfl) (KT a n ye s ha Wg hm) rfl rfl h
def yf(i:dv):Int:=if(i.jt !=0)||(i.jf !=0)then 2 else 0
def iT(i:dv)(a s:Int):Int:=
 if(i.op==1)then(if(decide (i.k<0)||decide (i.k>=6))then 3 else yf i)
 else if(i.op==2)||(i.op==3)||(i.op==4)then(if(decide (i.k<0)||decide (i.k>=2147483648)|| !oA a i.jt 40 s|| !oA a i.jf 40 s)then 3 else 0)
 else if(i.op==5)then(if !oA a i.k s s then 3 else yf i)
 else if(i.op==6)then(if(i.k !=1)&&(i.k !=0)then 3 else yf i)
 else 1
theorem l95:bz prog f95=some c95:=by kernel_rfl
theorem G8(i:dv)(a s:Int)(ha:0<=a)(Wg:a<=4194304)(hs:s<=4194304):body prog c95 [i.cv,an .i64 a,an .i64 s] [] (λr m=>r=an .i64 (iT i a s)):=by
 repeat' (first
  |(refine aJ (λh=>?_) (λh=>?_))
  |(refine RB _ _ _ _ ha Wg om ?_))
 all_goals(show an .i64 _=an .i64 _;refine congrArg _ ?_;simp only[iT,yf, *];try(first|rfl|simp[*]))
theorem OT(i:dv)(a s:Int)(ha:0<=a)(Wg:a<=4194304)(hs:s<=4194304){m:Mem}{K:CV->Mem->Prop}(h:K (an .i64 (iT i a s)) m):aq prog 95 [i.cv,an .i64 a,an .i64 s] m K:=
 bC func95 l95 rfl (aap rfl) (G8 i a s ha Wg hs) rfl rfl h
def c53:LF:= ⟨46,[.cell true 2 2],(.seq (.ai [qu 2 (.alloc [qd 0,qd 0])]) (.seq (.seq (.ai [qm 6 0,qu 7 (.len 1 6),qu 8 (.aL .lss 7 (qi 1)),qm 9 8,qg 10 (.aN 0) 9 false,qg 11 (.len 1 10) 9 false,qg 12 (.aL .gtr 11 (qi 400)) 9 false,qu 13 (.pick 9 (qb true) 12)]) (.cond 13 (.seq (.ai [qu 14 (.build [qd 0,qd 0] [(0,1,qi 5)]),qw (.store 2 2 14)]) .ret) .skip)) (.seq (.seq (.ai [qm 15 0,qu 16 (.len 1 15),qu 17 (.aN (qi 0))]) (.block 0 (.loop (.seq (.ai [qu 18 (.aL .lss 17 16)]) (.seq (.cond 18 .skip (.exit 0)) (.seq (.block 1 (.seq (.ai [qm 19 17,qu 20 (.cw 4 15 17),qL 21 4 20,qu 4 (.alloc [qd 0,qd 0,qd 0,qd 0]),qm 3 19,qw (.store 4 4 21)]) (.seq (.ai [qL 22 4 4,qm 23 3,qm 24 0,qu 25 (.len 1 24),qu 26 (qc 95 [22,23,25]),qm 5 26]) (.seq (.ai [qm 27 5,qu 28 (.aL .neq 27 (qi 0))]) (.cond 28 (.seq (.ai [qm 29 5,qm 30 3,qu 31 (.build [qd 0,qd 0] [(0,1,29),(1,1,30)]),qw (.store 2 2 31)]) .ret) .skip))))) (.ai [qu 32 (.aL .add 17 (qi 1)),qm 17 32]))))))) (.seq (.seq (.ai [qm 33 0,qm 34 0,qu 35 (.len 1 34),qu 36 (.aL .sub 35 (qi 1)),qu 37 (.cw 4 33 36),qf 38 0 37,ql 39 38,qu 40 (.aL .neq 39 (qi 6))]) (.cond 40 (.seq (.ai [qm 41 0,qu 42 (.len 1 41),qu 43 (.aL .sub 42 (qi 1)),qu 44 (.build [qd 0,qd 0] [(0,1,qi 2),(1,1,43)]),qw (.store 2 2 44)]) .ret) .skip)) (.seq (.ai [qu 45 (.build [qd 0,qd 0] []),qw (.store 2 2 45)]) .ret)))))⟩
def vV(s:Int):Nat->List dv->Int×Int
 |_,[]=>(0,0)
 |k,i::r=>if iT i (k:Int) s=0 then vV s (k+1) r else(iT i (k:Int) s,(k:Int))
theorem BX(s:Int):∀(l:List dv)(k:Nat),(∀(j:Nat)i,l[j]? =some i->iT i ((k+j:Nat):Int) s=0)->vV s k l=(0,0)
 | [],_,_=>rfl
 |i::r,k,h=>by
  rw[vV,if_pos (by simpa using h 0 i rfl)]
  exact BX s r (k+1) λj x hx=>by
   have:=h (j+1) x (by simpa using hx)
   rwa [show k+(j+1)=k+1+j by omega]at this
theorem Ee(s:Int):∀(l:List dv)(k j:Nat)(i:dv),l[j]? =some i->(∀(j':Nat)i,j'<j->l[j']? =some i->iT i ((k+j':Nat):Int) s=0)->iT i ((k+j:Nat):Int) s≠0->vV s k l=(iT i ((k+j:Nat):Int) s,((k+j:Nat):Int))
 | [],_,j,i,h,_,_=>by simp at h
 |x::r,k,0,i,h,_,hb=>by
  simp at h;subst h;rw[vV,if_neg (by simpa using hb)];rfl
 |x::r,k,j+1,i,h,hg,hb=>by
  rw[vV,if_pos (by simpa using hg 0 x om rfl)]
  rw[show k+(j+1)=k+1+j by omega]at hb|-
  exact Ee s r (k+1) j i (by simpa using h) (λj' y hj hy=>by
   have:=hg (j'+1) y om (by simpa using hy)
   rwa [show k+(j'+1)=k+1+j' by omega]at this) hb
def kG(p:List dv):Int×Int:=
 if p.length<1\/p.length>400 then(5,0)
 else if(vV p.length 0 p).1≠0 then vV p.length 0 p
 else match p[p.length-1]? with
  |some i=>if i.op=6 then(0,0)else(2,((p.length-1:Nat):Int))
  |none=>(0,0)
theorem l53:bz prog f53=some c53:=by kernel_rfl
theorem Ha(p:List dv):body prog c53 [te p] [] (λr m=>r=BW (kG p)):=by
 refine aJ (λh=>?_) (λh0=>?_)
 .have h:p.length<1:=by have h:(((p.map dv.enc).length:Nat):Int)<1:=of_decide_eq_true h;rw[N7]at h;omega
  rw[kG,if_pos (.inl h)];exact rfl
 .refine aJ (λh=>?_) (λh1=>?_)
  .have h:p.length>400:=by have h:(((p.map dv.enc).length:Nat):Int)>400:=of_decide_eq_true h;simp at h;omega
   rw[kG,if_pos (.inr h)];exact rfl
  .have h0:¬p.length<1:=by have h:¬(((p.map dv.enc).length:Nat):Int)<1:=of_decide_eq_false h0;rw[N7]at h;omega
   have h1:¬p.length>400:=by have h:¬(((p.map dv.enc).length:Nat):Int)>400:=of_decide_eq_false h1;rw[N7]at h;omega
   have hc:kG p=if(vV p.length 0 p).1≠0 then vV p.length 0 p else match p[p.length-1]? with
     |some i=>if i.op=6 then(0,0)else(2,((p.length-1:Nat):Int))
     |none=>(0,0):=by rw[kG,if_neg om]
   refine sA (λk=>k<=p.length/\∀(j:Nat)i,j<k->p[j]? =some i->iT i (j:Int) p.length=0) (λk=>[(17,an .i64 (k:Nat)),(3,.aH),(4,.aH),(5,.aH),(18,.aH),(19,.aH),(20,.aH),(21,.aH),(22,.aH),(23,.aH),(24,.aH),(25,.aH),(26,.aH),(27,.aH),(28,.aH),(32,.aH)])
    (λk=>[.var [.ah (.val (.int .i64 0)),.ah (.val (.int .i64 0))]]) (λk=>p.length-k) 0 ⟨aav _,λj i h=>absurd h (aa9 j)⟩ ?_ (λk hk=>?_)
   .refine View.o1 1 [0] [] ?_
    .exact .put (by simp[bD]) rfl (.eq rfl aC) (.nil _)
   .refine aJ (λh=>?_) (λh=>?_)
    .have aD:k<p.length:=by have h:(k:Int)<((p.map dv.enc).length:Int):=of_decide_eq_true h;rw[N7]at h;omega
     have hg:dA (p.map dv.enc) (k:Nat)=some (p[k].enc):=by rw[bG,Tr,vR aD];rfl
     have hlen:(((p.map dv.enc).length:Nat):Int)=(p.length:Int):=by rw[N7]
     refine af hg ?_;have va:∀{m:Mem}{K:CV->Mem->Prop},K (an .i64 (iT p[k] k p.length)) m->aq prog 95 [p[k].cv,an .i64 k,an .i64 (((p.map dv.enc).length:Nat):Int)] m K:=by intro m K h;rw[hlen];exact OT _ _ _ om om om h
     refine va ?_;refine aJ (λh3=>?_) (λh3=>?_)
     .have h3:iT p[k] k p.length≠0:=by simpa using h3
      have:=Ee p.length p 0 k p[k] (vR aD) (λj i hj hi=>by simpa using hk.2 j i hj hi) (by simpa using h3)
      rw[aa6]at this;rw[hc,this,if_pos h3];exact rfl
     .have h3:iT p[k] k p.length=0:=by simpa using h3
      refine⟨k+1,⟨aD,λj i hj hi=>?_⟩,?_,View.o 2 [0] [] ?_ ?_⟩
      .rcases aag j k with h5|h5
       .exact hk.2 j i h5 hi
       .have:j=k:=om;subst this;rw[vR aD]at hi;cases hi;exact h3
      .show p.length-(k+1)<p.length-k;omega
      .repeat(first|exact .nil|refine .aH ?_|refine .put (.bh (cR om).symm) ?_|refine .eq rfl ?_)
      .exact .put (by simp[bD]) rfl (.eq rfl aC) (.nil _)
    .have eG:¬(k:Int)<((p.map dv.enc).length:Int):=of_decide_eq_false h;rw[N7]at eG;have f4:=BX p.length p 0 λj i hi=>by have:=(Ki.1 hi).1;simpa using hk.2 j i om hi
     rw[hc,f4,if_neg aC];have mB:p.length-1<p.length:=om;rw[vR mB];have hw:IntKind.i64.wrap ((((p.map dv.enc).length:Nat):Int)-1)=((p.length-1:Nat):Int):=by rw[N7,iD om om];omega
     have hg:dA (p.map dv.enc) (IntKind.i64.wrap ((((p.map dv.enc).length:Nat):Int)-1))=some (p[p.length-1].enc):=by rw[hw,bG,Tr,vR mB];rfl
     refine af hg ?_;refine aJ (λh3=>?_) (λh3=>?_)
     .have h3:p[p.length-1].op≠6:=by simpa using h3
      show BW (2,IntKind.i64.wrap ((((p.map dv.enc).length:Nat):Int)-1))=_;rw[hw];simp only;rw[if_neg h3]
     .have h3:p[p.length-1].op=6:=by simpa using h3
      simp only;rw[if_pos h3];exact rfl
theorem OU(p:List dv){m:Mem}{K:CV->Mem->Prop}(h:K (BW (kG p)) m):aq prog 53 [te p] m K:=
 bC func53 l53 rfl (aap rfl) (Ha p) rfl rfl h
theorem Hb(jt jf k a s:Int):iT ⟨1,jt,jf,k⟩ a s=if k<0\/k>=6 then 3 else if jt≠0\/jf≠0 then 2 else 0:=by simp[iT,yf,<-Bool.decide_or]
theorem uz(o jt jf k a s:Int)(ho:o=2\/o=3\/o=4):iT ⟨o,jt,jf,k⟩ a s=if k<0\/k>=2147483648\/jt<0\/jf<0\/jt>40\/jf>40\/jt>s-a-2\/jf>s-a-2 then 3 else 0:=by
 have h1:(o==1)=false:=by rcases ho with rfl|rfl|rfl<;>rfl
 have h2:((o==2)||(o==3)||(o==4))=true:=by rcases ho with rfl|rfl|rfl<;>rfl
 simp only[iT,h1,h2,abR,if_false,if_true];by_cases hc:k<0\/k>=2147483648\/jt<0\/jf<0\/jt>40\/jf>40\/jt>s-a-2\/jf>s-a-2
 .rw[if_pos hc,if_pos];simp only[oA,ab0,abU,adl,decide_eq_true_eq,decide_eq_false_iff_not];omega
 .rw[if_neg hc,if_neg];simp only[oA,ab0,abU,adl,decide_eq_true_eq,decide_eq_false_iff_not];omega
theorem OV(jt jf k a s:Int)(ha:0<=a):iT ⟨5,jt,jf,k⟩ a s=if k<0\/k>s-a-2 then 3 else if jt≠0\/jf≠0 then 2 else 0:=by
 have e:(!oA a k s s)=decide (k<0\/k>s-a-2):=by rw[adM];simp only[oA,abU,adl,decide_eq_true_eq,decide_eq_false_iff_not];omega
 simp[iT,e,yf,<-Bool.decide_or]
theorem yg(jt jf k a s:Int):iT ⟨6,jt,jf,k⟩ a s=if k≠0/\k≠1 then 3 else if jt≠0\/jf≠0 then 2 else 0:=by simp[iT,yf,<-Bool.decide_or,<-Bool.decide_and];simp only[and_comm]
theorem Vk(o jt jf k a s:Int)(ho:o<1\/o>6):iT ⟨o,jt,jf,k⟩ a s=1:=by
 have h:∀c:Int,1<=c->c<=6->(o==c)=false:=λc h1 h2=>by rw[beq_eq_false_iff_ne];omega
 simp[iT,h 1 om om,h 2 om om,h 3 om om,h 4 om om,h 5 om om,h 6 om om]
def c30:LF:= ⟨75,[.tmp 4,.tmp 5],(.seq (.ai [qu 3 (.box 1),qu 4 (.aN (qi 0)),qu 5 (.aN (qi 0))]) (.seq (.seq (.ai [qm 11 0,qu 12 (qc 53 [11]),qu 6 (.alloc [qd 0,qd 0]),qw (.store 2 6 12)]) (.seq (.ai [qf 13 0 6,ql 14 13,qu 15 (.aL .neq 14 (qi 0))]) (.cond 15 (.seq (.ai [qu 4 (.aN (qi 0)),qu 5 (.aN (qi 0))]) .ret) .skip))) (.seq (.ai [qu 7 (.aN (qi 0))]) (.seq (.ai [qu 8 (.aN (qi 0))]) (.block 0 (.loop (.seq (.block 1 (.seq (.ai [qm 18 0,qm 19 8,qu 20 (.cw 4 18 19),qL 21 4 20,qu 9 (.alloc [qd 0,qd 0,qd 0,qd 0]),qw (.store 4 9 21)]) (.seq (.ai [qu 10 (.aN (qb false))]) (.seq (.seq (.ai [qf 22 0 9,ql 23 22]) (.block 2 (.seq (.ai [qu 25 (.aL .eql 23 (qi 1)),qm 24 25]) (.cond 24 (.seq (.ai [qf 26 3 9,ql 27 26,qu 28 (.Cz 6 1 3 27),ql 29 28,qm 7 29]) (.seq (.ai [qm 30 8,qu 31 (.aL .add 30 (qi 1)),qm 8 31]) (.exit 1))) (.seq (.ai [qu 33 (.aL .eql 23 (qi 5)),qm 32 33]) (.cond 32 (.seq (.ai [qm 34 8,qf 35 3 9,ql 36 35,qu 37 (.aL .add (qi 1) 36),qu 38 (.aL .add 34 37),qm 8 38]) (.exit 1)) (.seq (.ai [qu 40 (.aL .eql 23 (qi 6)),qm 39 40]) (.cond 39 (.seq (.ai [qf 41 3 9,ql 42 41,qm 43 5,qu 44 (.aL .add 43 (qi 1)),qm 4 42,qm 5 44]) .ret) (.seq (.ai [qu 46 (.aL .eql 23 (qi 2)),qm 45 46]) (.cond 45 (.ai [qm 47 7,qf 48 3 9,ql 49 48,qu 50 (.aL .eql 47 49),qm 10 50]) (.seq (.ai [qu 52 (.aL .eql 23 (qi 3)),qm 51 52]) (.cond 51 (.ai [qm 53 7,qf 54 3 9,ql 55 54,qu 56 (.aL .geq 53 55),qm 10 56]) (.seq (.ai [qu 58 (.aL .eql 23 (qi 4)),qm 57 58]) (.cond 57 (.ai [qm 59 7,qf 60 3 9,ql 61 60,qu 62 (.aL .and 59 61),qu 63 (.aL .neq 62 (qi 0)),qm 10 63]) .skip)))))))))))))) (.seq (.ai [qm 64 10]) (.cond 64 (.ai [qm 65 8,qf 66 1 9,ql 67 66,qu 68 (.aL .add (qi 1) 67),qu 69 (.aL .add 65 68),qm 8 69]) (.ai [qm 70 8,qf 71 2 9,ql 72 71,qu 73 (.aL .add (qi 1) 72),qu 74 (.aL .add 70 73),qm 8 74]))))))) (.ai [qm 16 5,qu 17 (.aL .add 16 (qi 1)),qm 5 17]))))))))⟩
structure qF where
 r0:Int
 r1:Int
 r2:Int
 r3:Int
 r4:Int
 r5:Int
def qF.enc(r:qF):List Dt:=[.val (.int .i64 r.r0),.val (.int .i64 r.r1),.val (.int .i64 r.r2),.val (.int .i64 r.r3),.val (.int .i64 r.r4),.val (.int .i64 r.r5)]
def qF.cv(r:qF):CV:= .rv (.agg (r.enc.map .ah))
def qF.get(r:qF):Nat->Int
 |0=>r.r0
 |1=>r.r1
 |2=>r.r2
 |3=>r.r3
 |4=>r.r4
 |_=>r.r5
theorem qF.acF(r:qF){k:Nat}(h:k<6):jp (r.enc.map .ah) (0+k*1) 1=some [.ah (.val (.int .i64 (r.get k)))]:=by
 rw[show 0+k*1=k by omega]
 apply zQ
 match k,h with
 |0,_=>rfl
 |1,_=>rfl
 |2,_=>rfl
 |3,_=>rfl
 |4,_=>rfl
 |5,_=>rfl
def OW(a b:Int):Int:=IntKind.i64.wrap ((BitVec.ofInt 64 a&&&BitVec.ofInt 64 b).toNat:Int)
def tu(i:dv)(de:Int)(r:qF):Nat×Int:=
 if i.op=1 then(1,r.get i.k.toNat)
 else if i.op=5 then(1+i.k.toNat,de)
 else if(if i.op=2 then de==i.k else if i.op=3 then decide (de>=i.k)else if i.op=4 then OW de i.k !=0 else false)=true then(1+i.jt.toNat,de)
 else(1+i.jf.toNat,de)
theorem OY(x y:Nat)(k de:Int)(r:qF):(de=k->tu ⟨2,x,y,k⟩ de r=(1+x,de))/\(de≠k->tu ⟨2,x,y,k⟩ de r=(1+y,de)):=
 ⟨λh=>by subst h;simp[tu],λh=>by simp[tu,h]⟩
theorem OZ(x y:Nat)(k de:Int)(r:qF):(de>=k->tu ⟨3,x,y,k⟩ de r=(1+x,de))/\(¬de>=k->tu ⟨3,x,y,k⟩ de r=(1+y,de)):=
 ⟨λh=>by simp[tu];omega,λh=>by simp[tu];omega⟩
theorem O0(x y:Nat)(k de:Int)(r:qF):(OW de k≠0->tu ⟨4,x,y,k⟩ de r=(1+x,de))/\(OW de k=0->tu ⟨4,x,y,k⟩ de r=(1+y,de)):=
 ⟨λh=>by simp[tu,h],λh=>by simp[tu,h]⟩
theorem RC(i:dv)(de:Int)(r:qF):1<=(tu i de r).1:=by
 unfold tu;repeat' split
 all_goals simp
def gS(p:List dv)(r:qF)(a:Nat)(de:Int):Int×Int:=
 if h:a<p.length then
  if p[a].op=6 then(p[a].k,1)
  else((gS p r (a+(tu p[a] de r).1) (tu p[a] de r).2).1,(gS p r (a+(tu p[a] de r).1) (tu p[a] de r).2).2+1)
 else(0,0)
 termination_by p.length-a
 decreasing_by
 all_goals
  have:=RC p[a] de r;omega
theorem lm{p:List dv}{r:qF}{a:Nat}{de:Int}{i:dv}(h:p[a]? =some i)(ho:i.op=6):gS p r a de=(i.k,1):=by obtain⟨aD,rfl⟩:=Ki.1 h;rw[gS,dif_pos aD,if_pos ho]
theorem fy{p:List dv}{r:qF}{a:Nat}{de:Int}{i:dv}(h:p[a]? =some i)(ho:i.op≠6){d:Nat}{acc2:Int}(hn:tu i de r=(d,acc2)):gS p r a de=((gS p r (a+d) acc2).1,(gS p r (a+d) acc2).2+1):=by obtain⟨aD,rfl⟩:=Ki.1 h;rw[gS,dif_pos aD,if_neg ho,hn]
theorem Ef(s:Int):∀(l:List dv)(k:Nat),(vV s k l).1=0->∀(j:Nat)i,l[j]? =some i->iT i ((k+j:Nat):Int) s=0
 | [],_,_,j,i,h=>by simp at h
 |x::r,k,h,j,i,hi=>by
  simp only[vV]at h;split at h
  .rename_i h0;cases j with
   |zero=>simp at hi;subst hi;simpa using h0
   |succ j=>
    have:=Ef s r (k+1) h j i (by simpa using hi)
    rwa [show k+1+j=k+(j+1) by omega]at this
  .rename_i h0;exact absurd h h0
theorem Aj{p:List dv}(h:(kG p).1=0):1<=p.length/\p.length<=400/\(∀(j:Nat)i,p[j]? =some i->iT i (j:Int) p.length=0)/\∃i,p[p.length-1]? =some i/\i.op=6:=by
 unfold kG at h;split at h
 .simp at h
 .rename_i hl;split at h
  .rename_i hc;exact absurd h hc
  .rename_i hc;have f4:=Ef p.length p 0 (by simpa using hc)
   refine⟨om,om,λj i hi=>by simpa using f4 j i hi,?_⟩
   have aD:p.length-1<p.length:=om;rw[vR aD]at h|-;simp only at h;split at h
   .rename_i h6;exact⟨_,rfl,h6⟩
   .simp at h
theorem RD{i:dv}{a s:Int}(h:iT i a s=0):i.op=1\/i.op=2\/i.op=3\/i.op=4\/i.op=5\/i.op=6:=by
 by_cases ho:i.op<1\/i.op>6
 .have:=Vk i.op i.jt i.jf i.k a s ho;have e:iT ⟨i.op,i.jt,i.jf,i.k⟩ a s=iT i a s:=rfl;omega
 .omega
theorem KU{p:List dv}(h:(kG p).1=0){a:Nat}{o jt jf k:Int}(hi:p[a]? =some ⟨o,jt,jf,k⟩):
  (o=1/\0<=k/\k<6/\a+1<p.length)\/((o=2\/o=3\/o=4)/\0<=jt/\0<=jf/\a+1+jt.toNat<p.length/\a+1+jf.toNat<p.length/\jt<=40/\jf<=40)\/(o=5/\0<=k/\a+1+k.toNat<p.length)\/(o=6/\(k=0\/k=1)):=by
 obtain⟨h1,h2,h3,i6,h4,h5⟩:=Aj h;have he:=h3 a _ hi;have aD:=(Ki.1 hi).1;rcases RD he with ho|ho|ho|ho|ho|ho<;>simp only at ho<;>subst ho
 .rw[Hb]at he;have dy:a≠p.length-1:=λe=>by rw[<-e,hi]at h4;cases h4;simp at h5
  split at he
  .simp at he
  .exact .inl ⟨rfl,om,om,om⟩
 .rw[uz _ _ _ _ _ _ om]at he;split at he
  .simp at he
  .exact .inr (.inl ⟨om,om,om,om,om,om,om⟩)
 .rw[uz _ _ _ _ _ _ om]at he;split at he
  .simp at he
  .exact .inr (.inl ⟨om,om,om,om,om,om,om⟩)
 .rw[uz _ _ _ _ _ _ om]at he;split at he
  .simp at he
  .exact .inr (.inl ⟨om,om,om,om,om,om,om⟩)
 .rw[OV _ _ _ _ _ om]at he;split at he
  .simp at he
  .exact .inr (.inr (.inl ⟨rfl,om,om⟩))
 .rw[yg]at he;split at he
  .simp at he
  .exact .inr (.inr (.inr ⟨rfl,om⟩))
def uA(p:List dv)(r:qF):Int×Int:=if(kG p).1=0 then gS p r 0 0 else(0,0)
theorem l30:bz prog f30=some c30:=by kernel_rfl
def TE(x:Int×Int):CV:= .bx [cG x.1,cG x.2]
theorem Vl{s:Nat}(h:s<9223372036854775807):((s+1:Nat):Int)=IntKind.i64.wrap ((s:Int)+1):=by
 rw[show(s:Int)+1=((s+1:Nat):Int) by omega,ot om]
theorem O3(p:List dv)(r:qF):body prog c30 [te p,r.cv] [] (λx m=>x=TE (uA p r)):=by
 refine OU p ?_;refine bv (λh=>?_) (λh=>?_)
 .have e:uA p r=(0,0):=by rw[uA,if_neg h]
  rw[e];exact rfl
 .have e:uA p r=gS p r 0 0:=by rw[uA,if_pos h]
  rw[e];obtain⟨g1,g2,g3,_⟩:=Aj h;refine sA (α:=Nat×Int×Nat) (λx=>x.1<p.length/\x.2.2<=x.1/\(gS p r x.1 x.2.1).1=(gS p r 0 0).1/\(gS p r x.1 x.2.1).2+x.2.2=(gS p r 0 0).2)
   (λx=>[(8,an .i64 (x.1:Nat)),(7,an .i64 x.2.1),(5,an .i64 (x.2.2:Nat)),(6,.aH),(9,.aH),(10,.aH),(11,.aH),(12,.aH),(13,.aH),(14,.aH),(15,.aH),(16,.aH),(17,.aH),(18,.aH),(19,.aH),(20,.aH),(21,.aH),(22,.aH),(23,.aH),(24,.aH),(25,.aH),(26,.aH),(27,.aH),(28,.aH),(29,.aH),(30,.aH),(31,.aH),(32,.aH),(33,.aH),(34,.aH),(35,.aH),(36,.aH),(37,.aH),(38,.aH),(39,.aH),(40,.aH),(41,.aH),(42,.aH),(43,.aH),(44,.aH),(45,.aH),(46,.aH),(47,.aH),(48,.aH),(49,.aH),(50,.aH),(51,.aH),(52,.aH),(53,.aH),(54,.aH),(55,.aH),(56,.aH),(57,.aH),(58,.aH),(59,.aH),(60,.aH),(61,.aH),(62,.aH),(63,.aH),(64,.aH),(65,.aH),(66,.aH),(67,.aH),(68,.aH),(69,.aH),(70,.aH),(71,.aH),(72,.aH),(73,.aH),(74,.aH)])
   (λx=>[.var (r.enc.map .ah)]) (λx=>p.length-x.1) (0,0,0) ⟨by show 0<p.length;omega,Yj 0,rfl,aC⟩ ?_ (λx hJ=>?_)
  .refine View.o1 2 [0] [] ?_
   .exact .put (by simp[bD]) rfl (.eq rfl aC) (.nil _)
  .obtain⟨a,de,s⟩:=x;obtain⟨aD,ui,sr,rk⟩:=hJ;have aD:a<p.length:=aD;have ui:s<=a:=ui;have sr:(gS p r a de).1=(gS p r 0 0).1:=sr;have rk:(gS p r a de).2+s=(gS p r 0 0).2:=rk;have hi:=vR aD;generalize p[a]=i at hi;obtain⟨o,jt,jf,k⟩:=i;have hg:dA (p.map dv.enc) (a:Nat)=some [.val (.int .i64 o),.val (.int .i64 jt),.val (.int .i64 jf),.val (.int .i64 k)]:=by rw[bG,Tr,hi];rfl
   have next:∀(d:Nat)(acc2:Int),gS p r a de=((gS p r (a+d) acc2).1,(gS p r (a+d) acc2).2+1)->(1<=d/\a+d<p.length)->∀{G:Prop},
     (((a+d<p.length)/\s+1<=a+d/\(gS p r (a+d) acc2).1=(gS p r 0 0).1/\(gS p r (a+d) acc2).2+((s+1:Nat):Int)=(gS p r 0 0).2)->(p.length-(a+d)<p.length-a)->G)->G:=by
    intro d acc2 hw hd G hG;refine hG ⟨hd.2,om,?_,?_⟩ om
    .rw[<-sr,hw]
    .rw[<-rk,hw];simp only;omega
   refine af hg ?_;rcases KU h hi with⟨rfl,k1,k2,k3⟩|⟨ho,j1,j2,j3,j4,j5,j6⟩|⟨rfl,k1,k2⟩|⟨rfl,k1⟩
   .obtain⟨n,rfl⟩:∃n:Nat,k=n:=⟨k.toNat,om⟩;refine af (cy om) ?_;refine af (r.acF om) ?_;refine next 1 (r.get n) (fy hi aC (by simp[tu])) om (λhJ hm=>?_)
    exact⟨(a+1,r.get n,s+1),hJ,hm,View.o 2 [0] [] (by
     repeat(first|exact .nil|refine .aH ?_|refine .put (.bh (cR om).symm) ?_|refine .eq rfl ?_|refine .eq (congrArg (λx=>an .i64 x) ((by rw[ot (n:=a+1) om]:((a+1:Nat):Int)=_))) ?_)) (.put (by simp[bD]) rfl (.eq rfl aC) (.nil _))⟩
   .obtain⟨x,rfl⟩:∃n:Nat,jt=n:=⟨jt.toNat,om⟩;obtain⟨y,rfl⟩:∃n:Nat,jf=n:=⟨jf.toNat,om⟩;have ex:IntKind.i64.wrap ((a:Int)+IntKind.i64.wrap (1+(x:Int)))=((a+(1+x):Nat):Int):=by rw[iD (n:=1+(x:Int)) om om,iD om om];omega
    have ey:IntKind.i64.wrap ((a:Int)+IntKind.i64.wrap (1+(y:Int)))=((a+(1+y):Nat):Int):=by rw[iD (n:=1+(y:Int)) om om,iD om om];omega
    rcases ho with rfl|rfl|rfl
    .refine bu (λhy=>?_) (λhy=>?_)
     .skip
      refine next (1+x) de (fy hi aC ((OY x y k de r).1 hy)) om (λhJ hm=>?_)
      exact⟨(a+(1+x),de,s+1),hJ,hm,View.o 2 [0] [] (by
       repeat(first|exact .nil|refine .aH ?_|refine .put (.bh (cR om).symm) ?_|refine .eq rfl ?_|refine .eq (congrArg (λx=>an .i64 x) (ex.symm)) ?_)) (.put (by simp[bD]) rfl (.eq rfl aC) (.nil _))⟩
     .skip
      refine next (1+y) de (fy hi aC ((OY x y k de r).2 hy)) om (λhJ hm=>?_)
      exact⟨(a+(1+y),de,s+1),hJ,hm,View.o 2 [0] [] (by
       repeat(first|exact .nil|refine .aH ?_|refine .put (.bh (cR om).symm) ?_|refine .eq rfl ?_|refine .eq (congrArg (λx=>an .i64 x) (ey.symm)) ?_)) (.put (by simp[bD]) rfl (.eq rfl aC) (.nil _))⟩
    .refine aP (λhy=>?_) (λhy=>?_)
     .skip
      refine next (1+x) de (fy hi aC ((OZ x y k de r).1 hy)) om (λhJ hm=>?_)
      exact⟨(a+(1+x),de,s+1),hJ,hm,View.o 2 [0] [] (by
       repeat(first|exact .nil|refine .aH ?_|refine .put (.bh (cR om).symm) ?_|refine .eq rfl ?_|refine .eq (congrArg (λx=>an .i64 x) (ex.symm)) ?_)) (.put (by simp[bD]) rfl (.eq rfl aC) (.nil _))⟩
     .skip
      refine next (1+y) de (fy hi aC ((OZ x y k de r).2 hy)) om (λhJ hm=>?_)
      exact⟨(a+(1+y),de,s+1),hJ,hm,View.o 2 [0] [] (by
       repeat(first|exact .nil|refine .aH ?_|refine .put (.bh (cR om).symm) ?_|refine .eq rfl ?_|refine .eq (congrArg (λx=>an .i64 x) (ey.symm)) ?_)) (.put (by simp[bD]) rfl (.eq rfl aC) (.nil _))⟩
    .refine bv (λhy=>?_) (λhy=>?_)
     .skip
      refine next (1+x) de (fy hi aC ((O0 x y k de r).1 hy)) om (λhJ hm=>?_)
      exact⟨(a+(1+x),de,s+1),hJ,hm,View.o 2 [0] [] (by
       repeat(first|exact .nil|refine .aH ?_|refine .put (.bh (cR om).symm) ?_|refine .eq rfl ?_|refine .eq (congrArg (λx=>an .i64 x) (ex.symm)) ?_)) (.put (by simp[bD]) rfl (.eq rfl aC) (.nil _))⟩
     .skip
      refine next (1+y) de (fy hi aC ((O0 x y k de r).2 hy)) om (λhJ hm=>?_)
      exact⟨(a+(1+y),de,s+1),hJ,hm,View.o 2 [0] [] (by
       repeat(first|exact .nil|refine .aH ?_|refine .put (.bh (cR om).symm) ?_|refine .eq rfl ?_|refine .eq (congrArg (λx=>an .i64 x) (ey.symm)) ?_)) (.put (by simp[bD]) rfl (.eq rfl aC) (.nil _))⟩
   .obtain⟨n,rfl⟩:∃n:Nat,k=n:=⟨k.toNat,om⟩;have ex:IntKind.i64.wrap ((a:Int)+IntKind.i64.wrap (1+(n:Int)))=((a+(1+n):Nat):Int):=by rw[iD (n:=1+(n:Int)) om om,iD om om];omega
    refine next (1+n) de (fy hi aC (by simp[tu])) om (λhJ hm=>?_)
    exact⟨(a+(1+n),de,s+1),hJ,hm,View.o 2 [0] [] (by
     repeat(first|exact .nil|refine .aH ?_|refine .put (.bh (cR om).symm) ?_|refine .eq rfl ?_|refine .eq (congrArg (λx=>an .i64 x) (ex.symm)) ?_)) (.put (by simp[bD]) rfl (.eq rfl aC) (.nil _))⟩
   .have hb:gS p r a de=(k,1):=lm hi rfl;rw[hb]at sr rk;show CV.bx [cG k,cG (IntKind.i64.wrap ((s:Int)+1))]=_;rw[<-Vl (s:=s) om];have e2:gS p r 0 0=(k,((s+1:Nat):Int)):=Prod.ext sr.symm (by rw[<-rk];simp only;omega)
    rw[e2];rfl
theorem Vm(p:List dv)(r:qF){m:Mem}{K:CV->Mem->Prop}(h:K (TE (uA p r)) m):aq prog 30 [te p,r.cv] m K:=
 bC func30 l30 rfl (aap rfl) (O3 p r) rfl rfl h
def c19:LF:= ⟨116,[.cell true 3 6,.cell true 4 7],(.seq (.ai [qu 4 (.box 1),qu 5 (.box 2),qu 6 (.alloc [.aM,.aM,.aM]),qu 7 (.alloc [qd 0,qd 0,qd 0,.aM])]) (.seq (.block 0 (.seq (.ai [qL 13 3 4,qf 14 0 5,ql 15 14,qu 16 (qc 29 [13,15]),qu 17 (.un .not 16),qm 12 17]) (.cond 12 (.seq (.ai [qL 18 3 4,qu 19 (.build [qd 0,qd 0,qd 0,.aM] [(0,1,qi 6)]),qw (.store 3 6 18),qw (.store 4 7 19)]) .ret) (.seq (.ai [qf 21 1 5,ql 22 21,qu 23 (.aL .lss 22 (qi 1)),qm 24 23,qg 25 (.bY 1 5) 24 false,qg 26 (.load false 1 25) 24 false,qg 27 (.aL .gtr 26 (qi 22)) 24 false,qu 28 (.pick 24 (qb true) 27),qm 20 28]) (.cond 20 (.seq (.ai [qL 29 3 4,qu 30 (.build [qd 0,qd 0,qd 0,.aM] [(0,1,qi 1)]),qw (.store 3 6 29),qw (.store 4 7 30)]) .ret) .skip))))) (.cX (.seq (.seq (.ai [qf 31 2 4,ql 32 31,qf 33 0 5,ql 34 33,qu 35 (.cw 4 32 34),qf 36 1 35,ql 37 36]) (.cond 37 (.seq (.ai [qm 39 0,qL 40 9 5,qu 41 (qc 31 [40]),qu 42 (qc 30 [39,41]),qm 38 42,qu 43 (.ext 38 0),qu 44 (.ext 38 1),qm 8 43,qm 9 44]) (.seq (.ai [qm 45 8,qu 46 (.aL .neq 45 (qi 1)),qm 47 46,qg 48 (.bY 1 5) 47 false,qg 49 (.load false 1 48) 47 false,qg 50 (.aL .eql 49 (qi 2)) 47 false,qu 51 (.pick 47 (qb true) 50)]) (.cond 51 (.seq (.ai [qL 52 3 4,qu 53 (.build [qd 0,qd 0,qd 0,.aM] [(0,1,qi 9)]),qw (.store 3 6 52),qw (.store 4 7 53)]) .ret) .skip))) .skip)) (.cX (.seq (.ai [qL 54 3 4,qf 55 0 5,ql 56 55,qu 57 (.build [.aM,.aM,.aM,qd 0] [(0,3,54),(3,1,56)]),qu 58 (.box 57),qm 10 58]) (.seq (.ai [qu 11 (.alloc [qd 0,qd 0,qd 0,.aM])]) (.seq (.seq (.ai [qf 59 1 5,ql 60 59]) (.block 1 (.seq (.seq (.ai [qu 64 (.aL .eql 60 (qi 2)),qm 63 64]) (.cond 63 .skip (.ai [qu 65 (.aL .eql 60 (qi 3)),qm 63 65]))) (.cond 63 (.ai [qm 66 10,qu 67 (qc 32 [66,5]),qw (.store 4 11 67)]) (.seq (.seq (.ai [qu 69 (.aL .eql 60 (qi 4)),qm 68 69]) (.cond 68 .skip (.seq (.ai [qu 70 (.aL .eql 60 (qi 5)),qm 68 70]) (.cond 68 .skip (.ai [qu 71 (.aL .eql 60 (qi 6)),qm 68 71]))))) (.cond 68 (.ai [qm 72 10,qu 73 (qc 33 [72,5]),qw (.store 4 11 73)]) (.seq (.seq (.ai [qu 75 (.aL .eql 60 (qi 7)),qm 74 75]) (.cond 74 .skip (.seq (.ai [qu 76 (.aL .eql 60 (qi 8)),qm 74 76]) (.cond 74 .skip (.ai [qu 77 (.aL .eql 60 (qi 9)),qm 74 77]))))) (.cond 74 (.ai [qm 78 10,qu 79 (qc 34 [78,5]),qw (.store 4 11 79)]) (.seq (.seq (.ai [qu 81 (.aL .eql 60 (qi 10)),qm 80 81]) (.cond 80 .skip (.ai [qu 82 (.aL .eql 60 (qi 11)),qm 80 82]))) (.cond 80 (.ai [qm 83 10,qu 84 (qc 35 [83,5]),qw (.store 4 11 84)]) (.seq (.seq (.ai [qu 86 (.aL .eql 60 (qi 12)),qm 85 86]) (.cond 85 .skip (.seq (.ai [qu 87 (.aL .eql 60 (qi 13)),qm 85 87]) (.cond 85 .skip (.ai [qu 88 (.aL .eql 60 (qi 14)),qm 85 88]))))) (.cond 85 (.ai [qm 89 10,qu 90 (qc 36 [89,5]),qw (.store 4 11 90)]) (.seq (.ai [qu 92 (.aL .eql 60 (qi 15)),qm 91 92]) (.cond 91 (.ai [qm 93 10,qu 94 (qc 37 [93]),qw (.store 4 11 94)]) (.seq (.ai [qu 96 (.aL .eql 60 (qi 16)),qm 95 96]) (.cond 95 (.ai [qm 97 10,qu 98 (qc 38 [97,5]),qw (.store 4 11 98)]) (.seq (.ai [qu 100 (.aL .eql 60 (qi 17)),qm 99 100]) (.cond 99 (.ai [qm 101 10,qu 102 (qc 39 [101,5]),qw (.store 4 11 102)]) (.ai [qm 61 10,qu 62 (qc 40 [61,5]),qw (.store 4 11 62)]))))))))))))))))))) (.cX (.seq (.seq (.ai [qf 103 0 11,ql 104 103,qu 105 (.aL .neq 104 (qi 0))]) (.cond 105 (.seq (.bV [qL 106 3 4,qf 107 0 11,ql 108 107,qu 109 (.build [qd 0,qd 0,qd 0,.aM] [(0,1,108)]),qw (.store 3 6 106),qw (.store 4 7 109)] [(eE 4 0 (.cons 4 (some [2]) (.cons 5 (some []) .nil)))]) .ret) .skip)) (.seq (.bV [qm 110 10,qu 111 (.aR 110),qf 112 0 111,qL 113 3 112,qu 114 (qc 41 [113]),qL 115 4 11,qw (.store 3 6 114),qw (.store 4 7 115)] [(eE 4 0 (.cons 5 none (.cons 4 (some [5]) (.cons 6 (some [5]) (.cons 7 (some []) .nil)))))]) .ret)))))))))))⟩
def c31:LF:= ⟨22,[.cell true 6 2],(.seq (.ai [qu 1 (.box 0),qu 2 (.alloc [qd 0,qd 0,qd 0,qd 0,qd 0,qd 0])]) (.seq (.ai [qf 3 1 1,ql 4 3,qu 5 (.aL .and 4 (qi 2147483647)),qf 6 2 1,ql 7 6,qu 8 (.aL .and 7 (qi 2147483647)),qf 9 3 1,ql 10 9,qu 11 (.aL .and 10 (qi 2147483647)),qf 12 4 1,ql 13 12,qu 14 (.aL .and 13 (qi 2147483647)),qf 15 5 1,ql 16 15,qu 17 (.aL .and 16 (qi 2147483647)),qf 18 6 1,ql 19 18,qu 20 (.aL .and 19 (qi 2147483647)),qu 21 (.build [qd 0,qd 0,qd 0,qd 0,qd 0,qd 0] [(0,1,5),(1,1,8),(2,1,11),(3,1,14),(4,1,17),(5,1,20)]),qw (.store 6 2 21)]) .ret))⟩
namespace Kn
def tE(a:Int):Int:=mc a 2147483647
def od(c:Cl):qF:=⟨tE c.ag,tE c.fd,tE c.fY,tE c.n,tE c.bA,tE c.aY⟩
def fE(k:Kr)(p:Nat)(c:Cl):Kr×An:=
 if c.ag=2\/c.ag=3 then fx k p c
 else if c.ag=4\/c.ag=5\/c.ag=6 then gd k p c
 else if c.ag=7\/c.ag=8\/c.ag=9 then iI k p c
 else if c.ag=10\/c.ag=11 then lO k p c
 else if c.ag=12\/c.ag=13\/c.ag=14 then iJ k p c
 else if c.ag=15 then gX k p
 else if c.ag=16 then iK k p c
 else if c.ag=17 then gW k p c
 else dR k p c
def Qh(k:Kr)(x:Kr×An):Kr×An:=if x.2.fp≠0 then(k,An.no x.2.fp)else(fa x.1,x.2)
def gF(prog:List dv)(k:Kr)(c:Cl):Kr×An:=
 if fN k.ps c.be=false then(k,An.no 6)
 else if c.ag<1\/c.ag>22 then(k,An.no 1)
 else if k7 k.ps c.be.toNat=true/\((uA prog (od c)).1≠1\/c.ag=2)then(k,An.no 9)
 else Qh k (fE k c.be.toNat c)
structure O4(k:Kr)(p:Nat)(c:Cl):Prop where
 w:KW k p
 op:∀ar ay,GQ k p c (gV k ar c.cE ay true)
 pr:Vj k p (fG k.l)
 q:∀o,o∈k.l->o.ag=5->∃n:Nat,o.be=n/\n<k.ps.length
 iu:(fE k p c).2.fp=0->dP (fE k p c).1.l (fE k p c).1.ops (fE k p c).1.ps
theorem l31:bz prog f31=some c31:=by kernel_rfl
theorem KV(c:Cl){m:Mem}{K:CV->Mem->Prop}(h:K (od c).cv m):aq prog 31 [c.cv] m K:=
 bC func31 l31 rfl (aap rfl) (show body prog c31 [c.cv] [] (λr m=>r=(od c).cv)from rfl) rfl rfl h
theorem l19:bz prog f19=some c19.er:=by kernel_rfl
def acG:LC:=bP (bP c19.code)
def YM:LC:=rc acG
def acH:LC:=bP YM
def YN:LC:=rc acH
def YO:LC:=bP (bP (bP YN))
def YP:LC:=rc YO
def Wh(x:Kr×An):CV:= .bx [jx x.1,x.2.rv]
def QD(x:Kr×An):Ex->St->Prop:=oR prog c19.me (λr m=>cN m r (Wh x))
def z3B:Bk:= .var [.aM,.aM,.aM]
theorem Ak{m:Mem}{k:Kr}{e n x:Int}:cN m (.bx [jx k,.agg [.ah (.val (.int .i64 e)),.ah (.val (.int .i64 n)),.ah (.val (.int .i64 x)),.aM]]) (Wh (k,⟨e,n,x,[]⟩)):=by
 refine .bx rfl λi r r' h1 h2=>?_
 match i,h1,h2 with
 |0,h1,h2=>cases h1;cases h2;exact eZ.self rfl
 |1,h1,h2=>
  cases h1;cases h2;refine .agg rfl λi c c' h1 h2=>?_
  match i,h1,h2 with
  |0,h1,h2=>cases h1;cases h2;exact .self rfl
  |1,h1,h2=>cases h1;cases h2;exact .self rfl
  |2,h1,h2=>cases h1;cases h2;exact .self rfl
  |3,h1,h2=>cases h1;cases h2;exact .aM 1
  |n+4,h1,h2=>simp at h1
 |n+2,h1,h2=>simp at h1
theorem RE(k:Kr)(p:Nat)(c:Cl)(x:Kr×An)(hx:x.2.fp=0->dP x.1.l x.1.ops x.1.ps):
  aw prog 0 YP (QD (Qh k x))
   ⟨kT 116 [(4,.rv (.one (.ptr 0 0))),(6,.rv (.one (.ptr 1 0))),(7,.rv (.one (.ptr 2 0))),(10,.rv (.one (.ptr 3 0))),(11,.rv (.one (.ptr 4 0)))],[kB k,z3B,je,xB x.1 p,.var (x.2.enc.map .ah)]⟩:=by
 obtain⟨k',⟨fp,n,mm,data⟩⟩:=x;refine bv (λhe=>?_) (λhe=>?_)
 .have he:fp≠0:=he;rw[Qh,if_pos he];refine⟨⟨rfl,trivial⟩,trivial,?_⟩;exact Ak
 .have he:fp=0:=he;subst he;rw[Qh,if_neg aC];refine J8 k' (hx rfl) ?_;refine⟨⟨rfl,trivial⟩,⟨rfl,trivial⟩,trivial,?_⟩;exact cN.self rfl
theorem Vn(k:Kr)(p:Nat)(b9:p<k.ps.length)(c:Cl)(hc:c.be=p)(hk:¬(c.ag<1\/c.ag>22))(hi:O4 k p c)(hd:c.data.length<=4194304):
  aw prog 0 YN (QD (Qh k (fE k p c)))
   ⟨kT 116 [(4,.rv (.one (.ptr 0 0))),(5,.rv (.one (.ptr 1 0))),(6,.rv (.one (.ptr 2 0))),(7,.rv (.one (.ptr 3 0)))],[kB k,cB c,z3B,je]⟩:=by
 have hs:=λ(x:Kr×An)(h:fE k p c=x)=>RE k p c x (by rw[<-h];exact hi.iu)
 obtain⟨be,ag,fd,fY,n,bA,aY,cE,data⟩:=c;have hc:be=(p:Nat):=hc;subst hc;have hr:ag=1\/ag=2\/ag=3\/ag=4\/ag=5\/ag=6\/ag=7\/ag=8\/ag=9\/ag=10\/ag=11\/ag=12\/ag=13\/ag=14\/ag=15\/ag=16\/ag=17\/ag=18\/ag=19\/ag=20\/ag=21\/ag=22:=by have hk:¬(ag<1\/ag>22):=hk;omega
 rcases hr with h|h|h|h|h|h|h|h|h|h|h|h|h|h|h|h|h|h|h|h|h|h
 .subst h;have dS:fE k p ⟨(p:Nat),1,fd,fY,n,bA,aY,cE,data⟩=dR k p ⟨(p:Nat),1,fd,fY,n,bA,aY,cE,data⟩:=by rw[fE,if_neg aC,if_neg aC,if_neg aC,if_neg aC,if_neg aC,if_neg aC,if_neg aC,if_neg aC]
  rw[dS];refine dY (jM k p hi.w _ (by simp[ry]) hi.q) 4 1 rfl rfl rfl rfl ?_
  refine⟨_,View.o1 6 [0,2,3,4,5] [] ?_,hs _ dS⟩
  .exact .au
 .subst h;have dS:fE k p ⟨(p:Nat),2,fd,fY,n,bA,aY,cE,data⟩=fx k p ⟨(p:Nat),2,fd,fY,n,bA,aY,cE,data⟩:=by rw[fE,if_pos aC]
  rw[dS];refine dY (Ah k p hi.w _ hi.op) 4 1 rfl rfl rfl rfl ?_;refine⟨_,View.o1 6 [0,2,3,4,5] [] ?_,hs _ dS⟩
  .exact .au
 .subst h;have dS:fE k p ⟨(p:Nat),3,fd,fY,n,bA,aY,cE,data⟩=fx k p ⟨(p:Nat),3,fd,fY,n,bA,aY,cE,data⟩:=by rw[fE,if_pos aC]
  rw[dS];refine dY (Ah k p hi.w _ hi.op) 4 1 rfl rfl rfl rfl ?_;refine⟨_,View.o1 6 [0,2,3,4,5] [] ?_,hs _ dS⟩
  .exact .au
 .subst h;have dS:fE k p ⟨(p:Nat),4,fd,fY,n,bA,aY,cE,data⟩=gd k p ⟨(p:Nat),4,fd,fY,n,bA,aY,cE,data⟩:=by rw[fE,if_neg aC,if_pos aC]
  rw[dS];refine dY (ru k p hi.w _ (.inl rfl) hd) 4 1 rfl rfl rfl rfl ?_;refine⟨_,View.o1 6 [0,2,3,4,5] [] ?_,hs _ dS⟩
  .exact .au
 .subst h;have dS:fE k p ⟨(p:Nat),5,fd,fY,n,bA,aY,cE,data⟩=gd k p ⟨(p:Nat),5,fd,fY,n,bA,aY,cE,data⟩:=by rw[fE,if_neg aC,if_pos aC]
  rw[dS];refine dY (ru k p hi.w _ (.inr (.inl rfl)) hd) 4 1 rfl rfl rfl rfl ?_;refine⟨_,View.o1 6 [0,2,3,4,5] [] ?_,hs _ dS⟩
  .exact .au
 .subst h;have dS:fE k p ⟨(p:Nat),6,fd,fY,n,bA,aY,cE,data⟩=gd k p ⟨(p:Nat),6,fd,fY,n,bA,aY,cE,data⟩:=by rw[fE,if_neg aC,if_pos aC]
  rw[dS];refine dY (ru k p hi.w _ (.inr (.inr rfl)) hd) 4 1 rfl rfl rfl rfl ?_;refine⟨_,View.o1 6 [0,2,3,4,5] [] ?_,hs _ dS⟩
  .exact .au
 .subst h;have dS:fE k p ⟨(p:Nat),7,fd,fY,n,bA,aY,cE,data⟩=iI k p ⟨(p:Nat),7,fd,fY,n,bA,aY,cE,data⟩:=by rw[fE,if_neg aC,if_neg aC,if_pos aC]
  rw[dS];refine dY (uw k p hi.w _) 4 1 rfl rfl rfl rfl ?_;refine⟨_,View.o1 6 [0,2,3,4,5] [] ?_,hs _ dS⟩
  .exact .au
 .subst h;have dS:fE k p ⟨(p:Nat),8,fd,fY,n,bA,aY,cE,data⟩=iI k p ⟨(p:Nat),8,fd,fY,n,bA,aY,cE,data⟩:=by rw[fE,if_neg aC,if_neg aC,if_pos aC]
  rw[dS];refine dY (uw k p hi.w _) 4 1 rfl rfl rfl rfl ?_;refine⟨_,View.o1 6 [0,2,3,4,5] [] ?_,hs _ dS⟩
  .exact .au
 .subst h;have dS:fE k p ⟨(p:Nat),9,fd,fY,n,bA,aY,cE,data⟩=iI k p ⟨(p:Nat),9,fd,fY,n,bA,aY,cE,data⟩:=by rw[fE,if_neg aC,if_neg aC,if_pos aC]
  rw[dS];refine dY (uw k p hi.w _) 4 1 rfl rfl rfl rfl ?_;refine⟨_,View.o1 6 [0,2,3,4,5] [] ?_,hs _ dS⟩
  .exact .au
 .subst h;have dS:fE k p ⟨(p:Nat),10,fd,fY,n,bA,aY,cE,data⟩=lO k p ⟨(p:Nat),10,fd,fY,n,bA,aY,cE,data⟩:=by rw[fE,if_neg aC,if_neg aC,if_neg aC,if_pos aC]
  rw[dS];refine dY (x6 k p hi.w _) 4 1 rfl rfl rfl rfl ?_;refine⟨_,View.o1 6 [0,2,3,4,5] [] ?_,hs _ dS⟩
  .exact .au
 .subst h;have dS:fE k p ⟨(p:Nat),11,fd,fY,n,bA,aY,cE,data⟩=lO k p ⟨(p:Nat),11,fd,fY,n,bA,aY,cE,data⟩:=by rw[fE,if_neg aC,if_neg aC,if_neg aC,if_pos aC]
  rw[dS];refine dY (x6 k p hi.w _) 4 1 rfl rfl rfl rfl ?_;refine⟨_,View.o1 6 [0,2,3,4,5] [] ?_,hs _ dS⟩
  .exact .au
 .subst h;have dS:fE k p ⟨(p:Nat),12,fd,fY,n,bA,aY,cE,data⟩=iJ k p ⟨(p:Nat),12,fd,fY,n,bA,aY,cE,data⟩:=by rw[fE,if_neg aC,if_neg aC,if_neg aC,if_neg aC,if_pos aC]
  rw[dS];refine dY (uy k p hi.w _) 4 1 rfl rfl rfl rfl ?_;refine⟨_,View.o1 6 [0,2,3,4,5] [] ?_,hs _ dS⟩
  .exact .au
 .subst h;have dS:fE k p ⟨(p:Nat),13,fd,fY,n,bA,aY,cE,data⟩=iJ k p ⟨(p:Nat),13,fd,fY,n,bA,aY,cE,data⟩:=by rw[fE,if_neg aC,if_neg aC,if_neg aC,if_neg aC,if_pos aC]
  rw[dS];refine dY (uy k p hi.w _) 4 1 rfl rfl rfl rfl ?_;refine⟨_,View.o1 6 [0,2,3,4,5] [] ?_,hs _ dS⟩
  .exact .au
 .subst h;have dS:fE k p ⟨(p:Nat),14,fd,fY,n,bA,aY,cE,data⟩=iJ k p ⟨(p:Nat),14,fd,fY,n,bA,aY,cE,data⟩:=by rw[fE,if_neg aC,if_neg aC,if_neg aC,if_neg aC,if_pos aC]
  rw[dS];refine dY (uy k p hi.w _) 4 1 rfl rfl rfl rfl ?_;refine⟨_,View.o1 6 [0,2,3,4,5] [] ?_,hs _ dS⟩
  .exact .au
 .subst h;have dS:fE k p ⟨(p:Nat),15,fd,fY,n,bA,aY,cE,data⟩=gX k p:=by rw[fE,if_neg aC,if_neg aC,if_neg aC,if_neg aC,if_neg aC,if_pos aC]
  rw[dS];refine OS k p hi.w hi.pr 4 rfl ?_;refine⟨_,View.o1 6 [0,2,3,4,5] [] ?_,hs _ dS⟩
  .exact .au
 .subst h;have dS:fE k p ⟨(p:Nat),16,fd,fY,n,bA,aY,cE,data⟩=iK k p ⟨(p:Nat),16,fd,fY,n,bA,aY,cE,data⟩:=by rw[fE,if_neg aC,if_neg aC,if_neg aC,if_neg aC,if_neg aC,if_neg aC,if_pos aC]
  rw[dS];refine dY (KQ k p hi.w _ hd) 4 1 rfl rfl rfl rfl ?_;refine⟨_,View.o1 6 [0,2,3,4,5] [] ?_,hs _ dS⟩
  .exact .au
 .subst h;have dS:fE k p ⟨(p:Nat),17,fd,fY,n,bA,aY,cE,data⟩=gW k p ⟨(p:Nat),17,fd,fY,n,bA,aY,cE,data⟩:=by rw[fE,if_neg aC,if_neg aC,if_neg aC,if_neg aC,if_neg aC,if_neg aC,if_neg aC,if_pos aC]
  rw[dS];refine dY (KR k p hi.w _) 4 1 rfl rfl rfl rfl ?_;refine⟨_,View.o1 6 [0,2,3,4,5] [] ?_,hs _ dS⟩
  .exact .au
 .subst h;have dS:fE k p ⟨(p:Nat),18,fd,fY,n,bA,aY,cE,data⟩=dR k p ⟨(p:Nat),18,fd,fY,n,bA,aY,cE,data⟩:=by rw[fE,if_neg aC,if_neg aC,if_neg aC,if_neg aC,if_neg aC,if_neg aC,if_neg aC,if_neg aC]
  rw[dS];refine dY (jM k p hi.w _ (by simp[ry]) hi.q) 4 1 rfl rfl rfl rfl ?_
  refine⟨_,View.o1 6 [0,2,3,4,5] [] ?_,hs _ dS⟩
  .exact .au
 .subst h;have dS:fE k p ⟨(p:Nat),19,fd,fY,n,bA,aY,cE,data⟩=dR k p ⟨(p:Nat),19,fd,fY,n,bA,aY,cE,data⟩:=by rw[fE,if_neg aC,if_neg aC,if_neg aC,if_neg aC,if_neg aC,if_neg aC,if_neg aC,if_neg aC]
  rw[dS];refine dY (jM k p hi.w _ (by simp[ry]) hi.q) 4 1 rfl rfl rfl rfl ?_
  refine⟨_,View.o1 6 [0,2,3,4,5] [] ?_,hs _ dS⟩
  .exact .au
 .subst h;have dS:fE k p ⟨(p:Nat),20,fd,fY,n,bA,aY,cE,data⟩=dR k p ⟨(p:Nat),20,fd,fY,n,bA,aY,cE,data⟩:=by rw[fE,if_neg aC,if_neg aC,if_neg aC,if_neg aC,if_neg aC,if_neg aC,if_neg aC,if_neg aC]
  rw[dS];refine dY (jM k p hi.w _ (by simp[ry]) hi.q) 4 1 rfl rfl rfl rfl ?_
  refine⟨_,View.o1 6 [0,2,3,4,5] [] ?_,hs _ dS⟩
  .exact .au
 .subst h;have dS:fE k p ⟨(p:Nat),21,fd,fY,n,bA,aY,cE,data⟩=dR k p ⟨(p:Nat),21,fd,fY,n,bA,aY,cE,data⟩:=by rw[fE,if_neg aC,if_neg aC,if_neg aC,if_neg aC,if_neg aC,if_neg aC,if_neg aC,if_neg aC]
  rw[dS];refine dY (jM k p hi.w _ (by simp[ry]) hi.q) 4 1 rfl rfl rfl rfl ?_
  refine⟨_,View.o1 6 [0,2,3,4,5] [] ?_,hs _ dS⟩
  .exact .au
 .subst h;have dS:fE k p ⟨(p:Nat),22,fd,fY,n,bA,aY,cE,data⟩=dR k p ⟨(p:Nat),22,fd,fY,n,bA,aY,cE,data⟩:=by rw[fE,if_neg aC,if_neg aC,if_neg aC,if_neg aC,if_neg aC,if_neg aC,if_neg aC,if_neg aC]
  rw[dS];refine dY (jM k p hi.w _ (by simp[ry]) hi.q) 4 1 rfl rfl rfl rfl ?_
  refine⟨_,View.o1 6 [0,2,3,4,5] [] ?_,hs _ dS⟩
  .exact .au
theorem Vo(prog:List dv)(k:Kr)(p:Nat)(hp:p<k.ps.length)(c:Cl)(hc:c.be=p)(hk:¬(c.ag<1\/c.ag>22))(hi:O4 k p c)(hd:c.data.length<=4194304)(R:Kr×An)(hR:R=if k7 k.ps p=true/\((uA prog (od c)).1≠1\/c.ag=2)then(k,An.no 9)else Qh k (fE k p c)):
  aw Tryz.prog 0 YM (QD R)
   ⟨kT 116 [(0,te prog),(4,.rv (.one (.ptr 0 0))),(5,.rv (.one (.ptr 1 0))),(6,.rv (.one (.ptr 2 0))),(7,.rv (.one (.ptr 3 0)))],[kB k,cB c,z3B,je]⟩:=by
 have hs:=Vn k p hp c hc hk hi hd;have hf:k7 k.ps p=k.ps[p].fenced:=by rw[k7,vR hp]
 refine af (x:=[.val (.bool k.ps[p].aO),.val (.bool k.ps[p].fenced),.val (.int .i64 k.ps[p].code),y8 k.ps[p].aQ]) (by rw[hc];exact dJ hp) ?_
 rw[hf]at hR;generalize k.ps[p].fenced=YQ at hR;cases YQ with
 |false=>
  rw[if_neg aC]at hR;subst hR;refine⟨_,View.o1 4 [0,1,2,3] [] ?_,hs⟩
  .exact .au
 |true=>
  refine KV c ?_;refine Vm prog (od c) ?_;generalize uA prog (od c)=rr at hR;obtain⟨n,st⟩:=rr;refine bv (λhn=>?_) (λhn=>?_)
  .have hn:n≠1:=hn;rw[if_pos ⟨rfl,.inl hn⟩]at hR;subst hR;exact Ak
  have hn:¬n≠1:=λh=>h hn
  refine bu (λh2=>?_) (λh2=>?_)
  .have h2:c.ag=2:=h2;rw[if_pos ⟨rfl,.inr h2⟩]at hR;subst hR;exact Ak
  have h2:¬c.ag=2:=h2;rw[if_neg (λh=>h.2.elim hn h2)]at hR
  subst hR;refine⟨_,View.o1 4 [0,1,2,3] [] ?_,hs⟩
  .exact .au
theorem RF(prog:List dv)(k:Kr)(c:Cl)(hi:∀(p:Nat)(hp:p<k.ps.length),c.be=p->k.ps[p].aO=true->O4 k p c)(hd:c.data.length<=4194304):
  body Tryz.prog c19 [te prog,eJ k.l k.ops k.ps,c.cv] [] (λr m=>cN m r (Wh (gF prog k c))):=by
 refine pj k.l k.ops k.ps c.be ?_;cases hl:fN k.ps c.be with
 |false=>
  rw[gF,if_pos hl];exact Ak
 |true=>
  obtain⟨p,hc,hp,bK⟩:=pl hl;have e0:gF prog k c=if c.ag<1\/c.ag>22 then(k,An.no 1)
   else if k7 k.ps p=true/\((uA prog (od c)).1≠1\/c.ag=2)then(k,An.no 9)else Qh k (fE k p c):=by
   rw[gF,if_neg (by rw[hl];simp),hc,ZW]
  rw[e0];refine aP (λh1=>?_) (λh1=>?_)
  .have h1:c.ag<1:=h1;rw[if_pos (.inl h1)];exact Ak
  have h1:¬c.ag<1:=h1;refine aP (λh2=>?_) (λh2=>?_)
  .have h2:c.ag>22:=h2;rw[if_pos (.inr h2)];exact Ak
  have h2:¬c.ag>22:=h2;rw[if_neg om];refine⟨_,View.o1 4 [0,1,2,3] [] ?_,Vo prog k p hp c hc om (hi p hp hc bK) hd _ rfl⟩
  .exact .au
theorem YR(prog:List dv)(k:Kr)(c:Cl)(hi:∀(p:Nat)(hp:p<k.ps.length),c.be=p->k.ps[p].aO=true->O4 k p c)(hd:c.data.length<=4194304){m:Mem}{K:CV->Mem->Prop}(h:K (Wh (gF prog k c)) m):
  aq Tryz.prog 19 [te prog,eJ k.l k.ops k.ps,c.cv] m K:=
 bi (cj func19 l19 (RF prog k c hi hd)) (by simp[eJ,dt,fh,gE,te,Cl.cv,Cl.enc,CV.dC,CC.dC,RV.dC]) λr m1 hf=>⟨_,hf,h⟩
end Kn
end Go.Proofs.YtodckkkbiidffaaGreatDoor
