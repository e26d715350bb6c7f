/- Part 29 of 43: what the law stands on. -/
import Derived.Test.YtojhmadmlnfpcaaGreatDoorK16
import Derived.Test.YtojhmadmlnfpcaaGreatDoorK27
import Derived.Test.YtojhmadmlnfpcaaGreatDoorK28
set_option linter.unusedVariables false
set_option linter.unusedSimpArgs false
set_option linter.unnecessarySimpa false
set_option maxRecDepth 100000
set_option maxHeartbeats 64000000
namespace Go.Proofs.YtojhmadmlnfpcaaGreatDoor
open Go.AM Go.ChangeShapes Go.WideShapes Go.ChangeAt Go.RowKit
structure wB(l:List Obj):Prop where
 mP:jZ l
 en:∀o,o∈l->∃es:List NE,o.ak=es.map fq/\EM es/\es.length<=4194304/\∀e,e∈es->0<=e.2/\e.2<(l.length:Int)
def MU(R:List Obj×Int)(r:CV)(m:Mem):Prop:=∃r' m',View 0 ⟨[r],m⟩ ⟨[r'],m'⟩/\r'= .bF [mD R.1,cH R.2]/\m'=[]
theorem fX{R:List Obj×Int}{m:Mem}(e:Int)(h:R=([],e)):MU R (.bF [.one .aI,cH e]) m:=by subst h;refine⟨_,_,View.of m.length [] [] rfl rfl rfl rfl rfl rfl (.put (VK (.one (.fv (.aI 9))) (.one (.aQ (.aa _)))) .nil) (.nil _),rfl,rfl⟩
theorem rB{l:List Obj}{n p:Nat}(hn:n<l.length)(hp:p<l.length){name:ByteArray}{E:List (List Dt)}(hE:E=(iK (name,(p:Int)) (l[n].ak.map nu)).map fq){q:Obj}(hq:q={l[p]with am:=IntKind.i64.wrap (l[p].am+1),up:=if l[p].ah=2 then(n:Int)else l[p].up}):
  ∃o2,(l.set p q)[n]? =some o2/\(l.set p q).set n {o2 with ak:=E}=jw l n p name:=by
 subst hE;unfold jw;rw[aab hn];simp only[];by_cases h:p=n
 .subst h;rw[aal hn,aal hn];refine⟨_,rfl,?_⟩;simp only[abO];subst hq;rfl
 .rw[aas h,aab hn,aas (fun e=>h e.symm),aab hp]
  refine⟨_,rfl,?_⟩;simp only[];rw[List.set_comm _ _ h,<-hq]
theorem CO(l:List Obj)(hs:wB l)(cL bv:Int)(name:ByteArray)(b:Bool)(hN:∀{m:Mem}{K:CV->Mem->Prop},K (ay b) m->ar Tryz.prog 113 [eM name] m K):
  body Tryz.prog c119 [cg l,an .i64 cL,eM name,an .i64 bv] [] (MU (de b l cL name bv)):=by
 have hE:∀R,R=de b l cL name bv->body Tryz.prog c119 [cg l,an .i64 cL,eM name,an .i64 bv] [] (MU R)->body Tryz.prog c119 [cg l,an .i64 cL,eM name,an .i64 bv] [] (MU (de b l cL name bv)):=fun R h h2=>h▸h2
 refine aB (fun h1=>?_) (fun h1=>?_)
 .exact fX 6 (by unfold de;rw[wx h1];rfl)
 obtain⟨n,rfl⟩:∃n:Nat,cL=n:=⟨cL.toNat,by have h1:¬cL<0:=h1;omega⟩
 refine aB (fun h2=>?_) (fun h2=>?_)
 .have h2:(n:Int)>=((l.map Obj.enc).length:Int):=h2;rw[aad]at h2;exact fX 6 (by unfold de;rw[wy h2];rfl)
 have h2:¬(n:Int)>=((l.map Obj.enc).length:Int):=h2;rw[aad]at h2;have hn:n<l.length:=om;have Oc:=iC hn;refine ag Oc ?_;refine bH (fun h3=>?_) (fun h3=>?_)
 .exact fX 6 (by unfold de;rw[wz hn h3];rfl)
 have h3:l[n].ah≠0:=h3;have d1:=wA hn h3;refine aB (fun h4=>?_) (fun h4=>?_)
 .exact fX 6 (by unfold de;rw[d1,wx h4];rfl)
 obtain⟨p,rfl⟩:∃p:Nat,bv=p:=⟨bv.toNat,by have h4:¬bv<0:=h4;omega⟩
 refine aB (fun h5=>?_) (fun h5=>?_)
 .have h5:(p:Int)>=((l.map Obj.enc).length:Int):=h5;rw[aad]at h5;exact fX 6 (by unfold de;rw[d1,wy h5];rfl)
 have h5:¬(p:Int)>=((l.map Obj.enc).length:Int):=h5;rw[aad]at h5;have hp:p<l.length:=om;have hgp:=iC hp;refine ag hgp ?_;refine bH (fun h6=>?_) (fun h6=>?_)
 .exact fX 6 (by unfold de;rw[d1,wz hp h6];rfl)
 have h6:l[p].ah≠0:=h6;have d2:=wA hp h6;have hR:de b l n name p=y8 b l[n] (jw l n p name) name:=by unfold de;rw[if_pos d1,if_pos d2,aaw,aaw,aab hn]
 rw[hR];unfold y8;refine ag Oc ?_;refine br (fun h7=>?_) (fun h7=>?_)
 .exact fX 11 (if_pos h7)
 have h7:l[n].ah=2:=by simpa using h7
 rw[if_neg (by rw[h7];simp)]
 refine ag Oc ?_;refine bH (fun h8=>?_) (fun h8=>?_)
 .exact fX 6 (if_pos h8)
 have h8:l[n].am≠0:=h8;rw[if_neg h8];refine hN ?_;cases b with
 |false=>exact fX 7 (if_pos rfl)
 |true=>
 rw[if_neg aG];obtain⟨es,he,AD,Pw,dD⟩:=hs.en _ (aau hn);have Q9:l[n].ak.map nu=es:=by rw[he,m6]
 refine CJ l n hn h7 es he om name ?_;have Xp:wt l es n name=fx es name:=y5 AD name;rw[Xp,Q9];refine aB (fun h9=>?_) (fun h9=>?_)
 .exact fX 7 (if_pos h9)
 rw[if_neg h9];refine ag Oc ?_;refine aB (fun SK=>?_) (fun SK=>?_)
 .exact fX 15 (if_pos (by have SK:(l[n].ak.length:Int)>=8:=SK;omega))
 have SK:¬(l[n].ak.length:Int)>=8:=SK;rw[if_neg om];have Zq:Aq es name=false:=by
  have h9:¬fx es name>=0:=h9;rw[<-Xp]at h9;cases hb:Aq es name with
  |false=>rfl
  |true=>
   exfalso;apply h9;unfold wt;rw[if_pos hb];unfold Aq at hb;cases hg:es[pT es name]? with
   |none=>rw[hg]at hb;cases hb
   |some e=>exact(dD e (aag hg)).1
 have nH:∀Q,df (bP n Q 0 l) n=some [.aa (.val (.int .i64 l[n].ah)),.aa (.sl 1 l[n].data),.row Q 2 0 none,.aa (.val (.string l[n].target)),.aa (.val (.int .i64 l[n].aJ)),.aa (.sl 4 (l[n].aj.map bw.enc)),.aa (.val (.int .i64 l[n].aL)),.aa (.val (.int .i64 l[n].am)),.aa (.val (.int .i64 l[n].up))]:=fun Q=>by rw[aX,fO,aab hn,aaS,aaC,j9,if_pos rfl]
 have Xq:AA l n l.length= .row 2 (af (es.map cZ)):=by
  unfold AA;rw[show Nat.blt n l.length=true by simpa using hn]
  show Bk.row 2 (af (match l[n]? with|some o=>o.ak|none=>[]))=_
  rw[aab hn];show Bk.row 2 (af l[n].ak)=_;rw[he];rfl
 have VM:∀Q,lenOf (bP n Q 0 l).length 0 none=l.length:=fun Q=>fN n Q l 0
 have sA:∀Q(k:Nat),k<l.length->dU (k:Nat) (lenOf (bP n Q 0 l).length 0 none)=some k:=fun Q k hk=>bT (by rw[VM];exact hk)
 refine AB l hs.mP n ?_;rw[Xq];refine ag (sA 1 n hn) ?_;refine ag (nH 1) ?_;refine Sp es om name 146 (fun e m K h=>Sy e name h) (id:=1) rfl ?_
 refine ag (sA 1 n hn) ?_;refine ag (nH 1) ?_;have RU:pT es name<=es.length:=(ov AD name es.length 0 es.length om om om (fun k e hk=>absurd hk (aaL k)) (fun k e hk he=>by have:=(aac.1 he).1;omega)).1
 refine Jm (es.map cZ) (cZ (name,(p:Int))) (pT es name) (by rw[aad];exact RU) (by rw[aad];exact Pw) 1 2 rfl rfl rfl rfl ?_
 refine ag (sA 1 n hn) ?_;refine ag (nH 1) ?_;have mW:ba (bP n 1 0 l) n [.aa (.val (.int .i64 l[n].ah)),.aa (.sl 1 l[n].data),.row 3 2 0 none,.aa (.val (.string l[n].target)),.aa (.val (.int .i64 l[n].aJ)),.aa (.sl 4 (l[n].aj.map bw.enc)),.aa (.val (.int .i64 l[n].aL)),.aa (.val (.int .i64 l[n].am)),.aa (.val (.int .i64 l[n].up))]=bP n 3 0 l:=by have:=Fx (p:=n) (Q:=1) (Q':=3) (aab hn);rw[<-this,j9,if_pos rfl]
 have Jn:(es.map cZ).take (pT es name)++cZ (name,(p:Int))::(es.map cZ).drop (pT es name)=(iK (name,(p:Int)) (l[n].ak.map nu)).map fq:=by rw[Q9,SC AD Zq,aaU,aaX,abS,acJ];rfl
 have jc:∀L2:List Obj,L2=jw l n p name->aw Tryz.prog 0 Y9 (nG Tryz.prog c119.lj (MU (jw l n p name,0))) ⟨mg 128 [(10,cg L2)],[]⟩:=fun L2 h=>by subst h;exact⟨_,_,View.o 0 [] [] (.eq rfl .nil) (.nil _),rfl,rfl⟩
 by_cases Tz:p=n
 .have VN:df (bP n 3 0 l) p=some [.aa (.val (.int .i64 l[p].ah)),.aa (.sl 1 l[p].data),.row 3 2 0 none,.aa (.val (.string l[p].target)),.aa (.val (.int .i64 l[p].aJ)),.aa (.sl 4 (l[p].aj.map bw.enc)),.aa (.val (.int .i64 l[p].aL)),.aa (.val (.int .i64 l[p].am)),.aa (.val (.int .i64 l[p].up))]:=by rw[aX,fO,aab hp,aaS,aaC,j9,if_pos Tz]
  have n9:ba (ba (bP n 1 0 l) n [.aa (.val (.int .i64 l[n].ah)),.aa (.sl 1 l[n].data),.row 3 2 0 none,.aa (.val (.string l[n].target)),.aa (.val (.int .i64 l[n].aJ)),.aa (.sl 4 (l[n].aj.map bw.enc)),.aa (.val (.int .i64 l[n].aL)),.aa (.val (.int .i64 l[n].am)),.aa (.val (.int .i64 l[n].up))]) p [.aa (.val (.int .i64 l[p].ah)),.aa (.sl 1 l[p].data),.row 3 2 0 none,.aa (.val (.string l[p].target)),.aa (.val (.int .i64 l[p].aJ)),.aa (.sl 4 (l[p].aj.map bw.enc)),.aa (.val (.int .i64 l[p].aL)),.aa (.val (.int .i64 (IntKind.i64.wrap (l[p].am+1)))),.aa (.val (.int .i64 l[p].up))]=bP n 3 0 (l.set p {l[p]with am:=IntKind.i64.wrap (l[p].am+1)}):=by
   rw[mW];have:=oW (p:=n) (Q:=3) (o:={l[p]with am:=IntKind.i64.wrap (l[p].am+1)}) hp
   rw[<-this,j9,if_pos Tz]
  have eL:∀l2:List Obj,l2.length=l.length->dU (p:Nat) (lenOf (bP n 3 0 l2).length 0 none)=some p:=fun l2 h=>bT (by rw[show lenOf (bP n 3 0 l2).length 0 none=l2.length from fN n 3 l2 0,h];exact hp)
  have uz:df (ba (ba (bP n 1 0 l) n [.aa (.val (.int .i64 l[n].ah)),.aa (.sl 1 l[n].data),.row 3 2 0 none,.aa (.val (.string l[n].target)),.aa (.val (.int .i64 l[n].aJ)),.aa (.sl 4 (l[n].aj.map bw.enc)),.aa (.val (.int .i64 l[n].aL)),.aa (.val (.int .i64 l[n].am)),.aa (.val (.int .i64 l[n].up))]) p [.aa (.val (.int .i64 l[p].ah)),.aa (.sl 1 l[p].data),.row 3 2 0 none,.aa (.val (.string l[p].target)),.aa (.val (.int .i64 l[p].aJ)),.aa (.sl 4 (l[p].aj.map bw.enc)),.aa (.val (.int .i64 l[p].aL)),.aa (.val (.int .i64 (IntKind.i64.wrap (l[p].am+1)))),.aa (.val (.int .i64 l[p].up))]) p=some [.aa (.val (.int .i64 l[p].ah)),.aa (.sl 1 l[p].data),.row 3 2 0 none,.aa (.val (.string l[p].target)),.aa (.val (.int .i64 l[p].aJ)),.aa (.sl 4 (l[p].aj.map bw.enc)),.aa (.val (.int .i64 l[p].aL)),.aa (.val (.int .i64 (IntKind.i64.wrap (l[p].am+1)))),.aa (.val (.int .i64 l[p].up))]:=by
   rw[bn,aX,aal (by rw[mW,fN];exact hp)]
  refine ag (by rw[mW];exact eL l rfl:dU (p:Nat) (lenOf (ba (bP n 1 0 l) n [.aa (.val (.int .i64 l[n].ah)),.aa (.sl 1 l[n].data),.row 3 2 0 none,.aa (.val (.string l[n].target)),.aa (.val (.int .i64 l[n].aJ)),.aa (.sl 4 (l[n].aj.map bw.enc)),.aa (.val (.int .i64 l[n].aL)),.aa (.val (.int .i64 l[n].am)),.aa (.val (.int .i64 l[n].up))]).length 0 none)=some p) ?_
  refine ag (by rw[mW];exact VN:df (ba (bP n 1 0 l) n [.aa (.val (.int .i64 l[n].ah)),.aa (.sl 1 l[n].data),.row 3 2 0 none,.aa (.val (.string l[n].target)),.aa (.val (.int .i64 l[n].aJ)),.aa (.sl 4 (l[n].aj.map bw.enc)),.aa (.val (.int .i64 l[n].aL)),.aa (.val (.int .i64 l[n].am)),.aa (.val (.int .i64 l[n].up))]) p=some [.aa (.val (.int .i64 l[p].ah)),.aa (.sl 1 l[p].data),.row 3 2 0 none,.aa (.val (.string l[p].target)),.aa (.val (.int .i64 l[p].aJ)),.aa (.sl 4 (l[p].aj.map bw.enc)),.aa (.val (.int .i64 l[p].aL)),.aa (.val (.int .i64 l[p].am)),.aa (.val (.int .i64 l[p].up))]) ?_
  refine ag (by rw[mW];exact eL l rfl:dU (p:Nat) (lenOf (ba (bP n 1 0 l) n [.aa (.val (.int .i64 l[n].ah)),.aa (.sl 1 l[n].data),.row 3 2 0 none,.aa (.val (.string l[n].target)),.aa (.val (.int .i64 l[n].aJ)),.aa (.sl 4 (l[n].aj.map bw.enc)),.aa (.val (.int .i64 l[n].aL)),.aa (.val (.int .i64 l[n].am)),.aa (.val (.int .i64 l[n].up))]).length 0 none)=some p) ?_
  refine ag (by rw[mW];exact VN:df (ba (bP n 1 0 l) n [.aa (.val (.int .i64 l[n].ah)),.aa (.sl 1 l[n].data),.row 3 2 0 none,.aa (.val (.string l[n].target)),.aa (.val (.int .i64 l[n].aJ)),.aa (.sl 4 (l[n].aj.map bw.enc)),.aa (.val (.int .i64 l[n].aL)),.aa (.val (.int .i64 l[n].am)),.aa (.val (.int .i64 l[n].up))]) p=some [.aa (.val (.int .i64 l[p].ah)),.aa (.sl 1 l[p].data),.row 3 2 0 none,.aa (.val (.string l[p].target)),.aa (.val (.int .i64 l[p].aJ)),.aa (.sl 4 (l[p].aj.map bw.enc)),.aa (.val (.int .i64 l[p].aL)),.aa (.val (.int .i64 l[p].am)),.aa (.val (.int .i64 l[p].up))]) ?_
  refine ag (by rw[n9];exact eL _ (aaE ..):dU (p:Nat) (lenOf (ba (ba (bP n 1 0 l) n [.aa (.val (.int .i64 l[n].ah)),.aa (.sl 1 l[n].data),.row 3 2 0 none,.aa (.val (.string l[n].target)),.aa (.val (.int .i64 l[n].aJ)),.aa (.sl 4 (l[n].aj.map bw.enc)),.aa (.val (.int .i64 l[n].aL)),.aa (.val (.int .i64 l[n].am)),.aa (.val (.int .i64 l[n].up))]) p [.aa (.val (.int .i64 l[p].ah)),.aa (.sl 1 l[p].data),.row 3 2 0 none,.aa (.val (.string l[p].target)),.aa (.val (.int .i64 l[p].aJ)),.aa (.sl 4 (l[p].aj.map bw.enc)),.aa (.val (.int .i64 l[p].aL)),.aa (.val (.int .i64 (IntKind.i64.wrap (l[p].am+1)))),.aa (.val (.int .i64 l[p].up))]).length 0 none)=some p) ?_
  refine ag uz ?_;refine bH (fun hk=>?_) (fun hk=>?_)
  .have hk:l[p].ah=2:=hk;have MV:ba (ba (ba (bP n 1 0 l) n [.aa (.val (.int .i64 l[n].ah)),.aa (.sl 1 l[n].data),.row 3 2 0 none,.aa (.val (.string l[n].target)),.aa (.val (.int .i64 l[n].aJ)),.aa (.sl 4 (l[n].aj.map bw.enc)),.aa (.val (.int .i64 l[n].aL)),.aa (.val (.int .i64 l[n].am)),.aa (.val (.int .i64 l[n].up))]) p [.aa (.val (.int .i64 l[p].ah)),.aa (.sl 1 l[p].data),.row 3 2 0 none,.aa (.val (.string l[p].target)),.aa (.val (.int .i64 l[p].aJ)),.aa (.sl 4 (l[p].aj.map bw.enc)),.aa (.val (.int .i64 l[p].aL)),.aa (.val (.int .i64 (IntKind.i64.wrap (l[p].am+1)))),.aa (.val (.int .i64 l[p].up))]) p [.aa (.val (.int .i64 l[p].ah)),.aa (.sl 1 l[p].data),.row 3 2 0 none,.aa (.val (.string l[p].target)),.aa (.val (.int .i64 l[p].aJ)),.aa (.sl 4 (l[p].aj.map bw.enc)),.aa (.val (.int .i64 l[p].aL)),.aa (.val (.int .i64 (IntKind.i64.wrap (l[p].am+1)))),.aa (.val (.int .i64 (n:Nat)))]=bP n 3 0 (l.set p {l[p]with am:=IntKind.i64.wrap (l[p].am+1),up:=(n:Int)}):=by
    rw[n9];have:=oW (p:=n) (Q:=3) (l:=l.set p {l[p]with am:=IntKind.i64.wrap (l[p].am+1)}) (k:=p) (o:={l[p]with am:=IntKind.i64.wrap (l[p].am+1),up:=(n:Int)}) (by rw[aaE];exact hp)
    rw[abO]at this;rw[<-this,j9,if_pos Tz]
   refine ag (by rw[n9];exact eL _ (aaE ..):dU (p:Nat) (lenOf (ba (ba (bP n 1 0 l) n [.aa (.val (.int .i64 l[n].ah)),.aa (.sl 1 l[n].data),.row 3 2 0 none,.aa (.val (.string l[n].target)),.aa (.val (.int .i64 l[n].aJ)),.aa (.sl 4 (l[n].aj.map bw.enc)),.aa (.val (.int .i64 l[n].aL)),.aa (.val (.int .i64 l[n].am)),.aa (.val (.int .i64 l[n].up))]) p [.aa (.val (.int .i64 l[p].ah)),.aa (.sl 1 l[p].data),.row 3 2 0 none,.aa (.val (.string l[p].target)),.aa (.val (.int .i64 l[p].aJ)),.aa (.sl 4 (l[p].aj.map bw.enc)),.aa (.val (.int .i64 l[p].aL)),.aa (.val (.int .i64 (IntKind.i64.wrap (l[p].am+1)))),.aa (.val (.int .i64 l[p].up))]).length 0 none)=some p) ?_
   refine ag uz ?_;obtain⟨o2,oM,eO⟩:=rB (name:=name) hn hp Jn (q:={l[p]with am:=IntKind.i64.wrap (l[p].am+1),up:=(n:Int)}) (by rw[if_pos hk])
   refine⟨_,View.o 4 [] [0,3] ?_ (.nil _),jc _ eO⟩
   iterate 10 refine .ap ?_
   refine .put (.rv (.one (.fv (p:=none) (Hv (Z:=fun k=>bq [0,3] k=true) rfl (by show some (Bk.row 9 _)=some (Bk.row 9 _);congr 1;exact congrArg _ MV) rfl rfl oM)))) ?_
   repeat(first|exact .nil|refine .ap ?_)
  .have hk:l[p].ah≠2:=hk;obtain⟨o2,oM,eO⟩:=rB (name:=name) hn hp Jn (q:={l[p]with am:=IntKind.i64.wrap (l[p].am+1)}) (by rw[if_neg hk])
   refine⟨_,View.o 4 [] [0,3] ?_ (.nil _),jc _ eO⟩
   iterate 10 refine .ap ?_
   refine .put (.rv (.one (.fv (p:=none) (Hv (Z:=fun k=>bq [0,3] k=true) rfl (by show some (Bk.row 9 _)=some (Bk.row 9 _);congr 1;exact congrArg _ n9) rfl rfl oM)))) ?_
   repeat(first|exact .nil|refine .ap ?_)
 .have VN:df (bP n 3 0 l) p=some [.aa (.val (.int .i64 l[p].ah)),.aa (.sl 1 l[p].data),.aa (.sl 2 l[p].ak),.aa (.val (.string l[p].target)),.aa (.val (.int .i64 l[p].aJ)),.aa (.sl 4 (l[p].aj.map bw.enc)),.aa (.val (.int .i64 l[p].aL)),.aa (.val (.int .i64 l[p].am)),.aa (.val (.int .i64 l[p].up))]:=by rw[aX,fO,aab hp,aaS,aaC,j9,if_neg Tz]
  have n9:ba (ba (bP n 1 0 l) n [.aa (.val (.int .i64 l[n].ah)),.aa (.sl 1 l[n].data),.row 3 2 0 none,.aa (.val (.string l[n].target)),.aa (.val (.int .i64 l[n].aJ)),.aa (.sl 4 (l[n].aj.map bw.enc)),.aa (.val (.int .i64 l[n].aL)),.aa (.val (.int .i64 l[n].am)),.aa (.val (.int .i64 l[n].up))]) p [.aa (.val (.int .i64 l[p].ah)),.aa (.sl 1 l[p].data),.aa (.sl 2 l[p].ak),.aa (.val (.string l[p].target)),.aa (.val (.int .i64 l[p].aJ)),.aa (.sl 4 (l[p].aj.map bw.enc)),.aa (.val (.int .i64 l[p].aL)),.aa (.val (.int .i64 (IntKind.i64.wrap (l[p].am+1)))),.aa (.val (.int .i64 l[p].up))]=bP n 3 0 (l.set p {l[p]with am:=IntKind.i64.wrap (l[p].am+1)}):=by
   rw[mW];have:=oW (p:=n) (Q:=3) (o:={l[p]with am:=IntKind.i64.wrap (l[p].am+1)}) hp
   rw[<-this,j9,if_neg Tz]
  have eL:∀l2:List Obj,l2.length=l.length->dU (p:Nat) (lenOf (bP n 3 0 l2).length 0 none)=some p:=fun l2 h=>bT (by rw[show lenOf (bP n 3 0 l2).length 0 none=l2.length from fN n 3 l2 0,h];exact hp)
  have uz:df (ba (ba (bP n 1 0 l) n [.aa (.val (.int .i64 l[n].ah)),.aa (.sl 1 l[n].data),.row 3 2 0 none,.aa (.val (.string l[n].target)),.aa (.val (.int .i64 l[n].aJ)),.aa (.sl 4 (l[n].aj.map bw.enc)),.aa (.val (.int .i64 l[n].aL)),.aa (.val (.int .i64 l[n].am)),.aa (.val (.int .i64 l[n].up))]) p [.aa (.val (.int .i64 l[p].ah)),.aa (.sl 1 l[p].data),.aa (.sl 2 l[p].ak),.aa (.val (.string l[p].target)),.aa (.val (.int .i64 l[p].aJ)),.aa (.sl 4 (l[p].aj.map bw.enc)),.aa (.val (.int .i64 l[p].aL)),.aa (.val (.int .i64 (IntKind.i64.wrap (l[p].am+1)))),.aa (.val (.int .i64 l[p].up))]) p=some [.aa (.val (.int .i64 l[p].ah)),.aa (.sl 1 l[p].data),.aa (.sl 2 l[p].ak),.aa (.val (.string l[p].target)),.aa (.val (.int .i64 l[p].aJ)),.aa (.sl 4 (l[p].aj.map bw.enc)),.aa (.val (.int .i64 l[p].aL)),.aa (.val (.int .i64 (IntKind.i64.wrap (l[p].am+1)))),.aa (.val (.int .i64 l[p].up))]:=by
   rw[bn,aX,aal (by rw[mW,fN];exact hp)]
  refine ag (by rw[mW];exact eL l rfl:dU (p:Nat) (lenOf (ba (bP n 1 0 l) n [.aa (.val (.int .i64 l[n].ah)),.aa (.sl 1 l[n].data),.row 3 2 0 none,.aa (.val (.string l[n].target)),.aa (.val (.int .i64 l[n].aJ)),.aa (.sl 4 (l[n].aj.map bw.enc)),.aa (.val (.int .i64 l[n].aL)),.aa (.val (.int .i64 l[n].am)),.aa (.val (.int .i64 l[n].up))]).length 0 none)=some p) ?_
  refine ag (by rw[mW];exact VN:df (ba (bP n 1 0 l) n [.aa (.val (.int .i64 l[n].ah)),.aa (.sl 1 l[n].data),.row 3 2 0 none,.aa (.val (.string l[n].target)),.aa (.val (.int .i64 l[n].aJ)),.aa (.sl 4 (l[n].aj.map bw.enc)),.aa (.val (.int .i64 l[n].aL)),.aa (.val (.int .i64 l[n].am)),.aa (.val (.int .i64 l[n].up))]) p=some [.aa (.val (.int .i64 l[p].ah)),.aa (.sl 1 l[p].data),.aa (.sl 2 l[p].ak),.aa (.val (.string l[p].target)),.aa (.val (.int .i64 l[p].aJ)),.aa (.sl 4 (l[p].aj.map bw.enc)),.aa (.val (.int .i64 l[p].aL)),.aa (.val (.int .i64 l[p].am)),.aa (.val (.int .i64 l[p].up))]) ?_
  refine ag (by rw[mW];exact eL l rfl:dU (p:Nat) (lenOf (ba (bP n 1 0 l) n [.aa (.val (.int .i64 l[n].ah)),.aa (.sl 1 l[n].data),.row 3 2 0 none,.aa (.val (.string l[n].target)),.aa (.val (.int .i64 l[n].aJ)),.aa (.sl 4 (l[n].aj.map bw.enc)),.aa (.val (.int .i64 l[n].aL)),.aa (.val (.int .i64 l[n].am)),.aa (.val (.int .i64 l[n].up))]).length 0 none)=some p) ?_
  refine ag (by rw[mW];exact VN:df (ba (bP n 1 0 l) n [.aa (.val (.int .i64 l[n].ah)),.aa (.sl 1 l[n].data),.row 3 2 0 none,.aa (.val (.string l[n].target)),.aa (.val (.int .i64 l[n].aJ)),.aa (.sl 4 (l[n].aj.map bw.enc)),.aa (.val (.int .i64 l[n].aL)),.aa (.val (.int .i64 l[n].am)),.aa (.val (.int .i64 l[n].up))]) p=some [.aa (.val (.int .i64 l[p].ah)),.aa (.sl 1 l[p].data),.aa (.sl 2 l[p].ak),.aa (.val (.string l[p].target)),.aa (.val (.int .i64 l[p].aJ)),.aa (.sl 4 (l[p].aj.map bw.enc)),.aa (.val (.int .i64 l[p].aL)),.aa (.val (.int .i64 l[p].am)),.aa (.val (.int .i64 l[p].up))]) ?_
  refine ag (by rw[n9];exact eL _ (aaE ..):dU (p:Nat) (lenOf (ba (ba (bP n 1 0 l) n [.aa (.val (.int .i64 l[n].ah)),.aa (.sl 1 l[n].data),.row 3 2 0 none,.aa (.val (.string l[n].target)),.aa (.val (.int .i64 l[n].aJ)),.aa (.sl 4 (l[n].aj.map bw.enc)),.aa (.val (.int .i64 l[n].aL)),.aa (.val (.int .i64 l[n].am)),.aa (.val (.int .i64 l[n].up))]) p [.aa (.val (.int .i64 l[p].ah)),.aa (.sl 1 l[p].data),.aa (.sl 2 l[p].ak),.aa (.val (.string l[p].target)),.aa (.val (.int .i64 l[p].aJ)),.aa (.sl 4 (l[p].aj.map bw.enc)),.aa (.val (.int .i64 l[p].aL)),.aa (.val (.int .i64 (IntKind.i64.wrap (l[p].am+1)))),.aa (.val (.int .i64 l[p].up))]).length 0 none)=some p) ?_
  refine ag uz ?_;refine bH (fun hk=>?_) (fun hk=>?_)
  .have hk:l[p].ah=2:=hk;have MV:ba (ba (ba (bP n 1 0 l) n [.aa (.val (.int .i64 l[n].ah)),.aa (.sl 1 l[n].data),.row 3 2 0 none,.aa (.val (.string l[n].target)),.aa (.val (.int .i64 l[n].aJ)),.aa (.sl 4 (l[n].aj.map bw.enc)),.aa (.val (.int .i64 l[n].aL)),.aa (.val (.int .i64 l[n].am)),.aa (.val (.int .i64 l[n].up))]) p [.aa (.val (.int .i64 l[p].ah)),.aa (.sl 1 l[p].data),.aa (.sl 2 l[p].ak),.aa (.val (.string l[p].target)),.aa (.val (.int .i64 l[p].aJ)),.aa (.sl 4 (l[p].aj.map bw.enc)),.aa (.val (.int .i64 l[p].aL)),.aa (.val (.int .i64 (IntKind.i64.wrap (l[p].am+1)))),.aa (.val (.int .i64 l[p].up))]) p [.aa (.val (.int .i64 l[p].ah)),.aa (.sl 1 l[p].data),.aa (.sl 2 l[p].ak),.aa (.val (.string l[p].target)),.aa (.val (.int .i64 l[p].aJ)),.aa (.sl 4 (l[p].aj.map bw.enc)),.aa (.val (.int .i64 l[p].aL)),.aa (.val (.int .i64 (IntKind.i64.wrap (l[p].am+1)))),.aa (.val (.int .i64 (n:Nat)))]=bP n 3 0 (l.set p {l[p]with am:=IntKind.i64.wrap (l[p].am+1),up:=(n:Int)}):=by
    rw[n9];have:=oW (p:=n) (Q:=3) (l:=l.set p {l[p]with am:=IntKind.i64.wrap (l[p].am+1)}) (k:=p) (o:={l[p]with am:=IntKind.i64.wrap (l[p].am+1),up:=(n:Int)}) (by rw[aaE];exact hp)
    rw[abO]at this;rw[<-this,j9,if_neg Tz]
   refine ag (by rw[n9];exact eL _ (aaE ..):dU (p:Nat) (lenOf (ba (ba (bP n 1 0 l) n [.aa (.val (.int .i64 l[n].ah)),.aa (.sl 1 l[n].data),.row 3 2 0 none,.aa (.val (.string l[n].target)),.aa (.val (.int .i64 l[n].aJ)),.aa (.sl 4 (l[n].aj.map bw.enc)),.aa (.val (.int .i64 l[n].aL)),.aa (.val (.int .i64 l[n].am)),.aa (.val (.int .i64 l[n].up))]) p [.aa (.val (.int .i64 l[p].ah)),.aa (.sl 1 l[p].data),.aa (.sl 2 l[p].ak),.aa (.val (.string l[p].target)),.aa (.val (.int .i64 l[p].aJ)),.aa (.sl 4 (l[p].aj.map bw.enc)),.aa (.val (.int .i64 l[p].aL)),.aa (.val (.int .i64 (IntKind.i64.wrap (l[p].am+1)))),.aa (.val (.int .i64 l[p].up))]).length 0 none)=some p) ?_
   refine ag uz ?_;obtain⟨o2,oM,eO⟩:=rB (name:=name) hn hp Jn (q:={l[p]with am:=IntKind.i64.wrap (l[p].am+1),up:=(n:Int)}) (by rw[if_pos hk])
   refine⟨_,View.o 4 [] [0,3] ?_ (.nil _),jc _ eO⟩
   iterate 10 refine .ap ?_
   refine .put (.rv (.one (.fv (p:=none) (Hv (Z:=fun k=>bq [0,3] k=true) rfl (by show some (Bk.row 9 _)=some (Bk.row 9 _);congr 1;exact congrArg _ MV) rfl rfl oM)))) ?_
   repeat(first|exact .nil|refine .ap ?_)
  .have hk:l[p].ah≠2:=hk;obtain⟨o2,oM,eO⟩:=rB (name:=name) hn hp Jn (q:={l[p]with am:=IntKind.i64.wrap (l[p].am+1)}) (by rw[if_neg hk])
   refine⟨_,View.o 4 [] [0,3] ?_ (.nil _),jc _ eO⟩
   iterate 10 refine .ap ?_
   refine .put (.rv (.one (.fv (p:=none) (Hv (Z:=fun k=>bq [0,3] k=true) rfl (by show some (Bk.row 9 _)=some (Bk.row 9 _);congr 1;exact congrArg _ n9) rfl rfl oM)))) ?_
   repeat(first|exact .nil|refine .ap ?_)
theorem Jo(l:List Obj)(hs:wB l)(cL bv:Int)(name:ByteArray)(b:Bool)(hN:∀{m:Mem}{K:CV->Mem->Prop},K (ay b) m->ar Tryz.prog 113 [eM name] m K){m:Mem}{K:CV->Mem->Prop}(h:K (.bF [mD (de b l cL name bv).1,cH (de b l cL name bv).2]) m):ar Tryz.prog 119 [cg l,an .i64 cL,eM name,an .i64 bv] m K:=by
 refine bb (K0:=fun r m=>r= .bF [mD (de b l cL name bv).1,cH (de b l cL name bv).2]/\m=[]) (bN (cm Tryz.func119 l119 (CO l hs cL bv name b hN)) fun r m1⟨r',m',hv,h1,h2⟩=>⟨r',m',hv,h1,h2⟩) (by simp[cg,an,eM,CV.dx,CC.dx]) fun r m1 hr=>?_
 obtain⟨rfl,rfl⟩:=hr;exact⟨_,cJ.self rfl,h⟩
def c51:LF:= ⟨3,[.tmp 0],(.seq (.ai [qu 0 (.aD qe)]) (.seq (.ai [qu 1 (.build [(qd 0),.aI,.aI,(.aa (.val (.string ⟨#[]⟩))),(qd 0),.aI,(qd 0),(qd 0),(qd 0)] [(0,1,(qi 2)),(7,1,(qi 1)),(4,1,(qi (-1))),(6,1,(qi (-1)))]),qu 2 (.mh 9 [(qd 0),.aI,.aI,(.aa (.val (.string ⟨#[]⟩))),(qd 0),.aI,(qd 0),(qd 0),(qd 0)] 1 [(0,1)]),qm 0 2]) .ret))⟩
def c75:LF:= ⟨90,[.tmp 6,.tmp 7,.tmp 8],(.seq (.ai [qu 5 (.box 2),qu 6 (.aD qe),qu 7 (.aD (qi 0)),qu 8 (.aD (qi 0))]) (.seq (.seq (.ai [qm 11 1,qu 12 (.aF .lss 11 (qi 0)),qm 13 12,qg 14 (.aD 1) 13 false,qg 15 (.aD 0) 13 false,qg 16 (.len 1 15) 13 false,qg 17 (.aF .geq 14 16) 13 false,qu 18 (.pick 13 (qb true) 17),qm 19 18,qg 20 (.aD 0) 19 false,qg 21 (.aD 1) 19 false,qg 22 (.bO 9 20 21) 19 false,qg 23 (.bg 0 22) 19 false,qg 24 (.load false 1 23) 19 false,qg 25 (.aF .eql 24 (qi 0)) 19 false,qu 26 (.pick 19 (qb true) 25)]) (.cond 26 (.seq (.ai [qu 6 (.aD qe),qu 7 (.aD (qi 0)),qu 8 (.aD (qi 6))]) .ret) .skip)) (.seq (.seq (.ai [qm 27 0,qm 28 1,qu 29 (.bO 9 27 28),qf 30 0 29,ql 31 30,qu 32 (.aF .neq 31 (qi 2))]) (.cond 32 (.seq (.ai [qu 6 (.aD qe),qu 7 (.aD (qi 0)),qu 8 (.aD (qi 11))]) .ret) .skip)) (.seq (.ai [qm 33 0,qm 34 1,ql 35 5,qu 36 (qc 115 [33,34,35]),qm 9 36]) (.seq (.block 0 (.seq (.ai [qm 38 9,qu 39 (.aF .lss 38 (qi 0)),qm 37 39]) (.cond 37 (.seq (.ai [qu 6 (.aD qe),qu 7 (.aD (qi 0)),qu 8 (.aD (qi 6))]) .ret) (.seq (.ai [qm 41 0,qm 42 9,qu 43 (.bO 9 41 42),qf 44 0 43,ql 45 44,qu 46 (.aF .eql 45 (qi 2)),qm 47 46,qg 48 (.aD 0) 47 true,qg 49 (.aD 9) 47 true,qg 50 (.bO 9 48 49) 47 true,qg 51 (.bg 2 50) 47 true,qg 52 (.load false 1 51) 47 true,qg 53 (.len 1 52) 47 true,qg 54 (.aF .gtr 53 (qi 0)) 47 true,qu 55 (.pick 47 54 (qb false)),qm 40 55]) (.cond 40 (.seq (.ai [qu 6 (.aD qe),qu 7 (.aD (qi 0)),qu 8 (.aD (qi 18))]) .ret) .skip))))) (.seq (.ai [qm 56 0,qu 57 (qc 105 [56]),qm 10 57]) (.seq (.ai [qm 58 10,qm 59 1,qm 60 10,qm 61 1,qu 62 (.bO 9 60 61),qf 63 2 62,ql 64 63,qu 65 (.fn 117 [5]),qu 66 (qc 116 [64,65]),qu 67 (.bO 9 58 59),qf 68 2 67,qw (.store 1 68 66)]) (.seq (.ai [qm 69 10,qm 70 9,qu 71 (.bO 9 69 70),qf 72 7 71,ql 73 72,qu 74 (.aF .sub 73 (qi 1)),qu 75 (.bO 9 69 70),qf 76 7 75,qw (.store 1 76 74)]) (.seq (.seq (.ai [qm 77 10,qm 78 9,qu 79 (.bO 9 77 78),qf 80 0 79,ql 81 80,qu 82 (.aF .eql 81 (qi 2))]) (.cond 82 (.ai [qm 83 10,qm 84 9,qm 85 9,qu 86 (.bO 9 83 84),qf 87 8 86,qw (.store 1 87 85)]) .skip)) (.cO (.seq (.ai [qm 88 10,qm 89 9,qm 6 88,qm 7 89,qu 8 (.aD (qi 0))]) .ret)))))))))))⟩
def c116:LF:= ⟨42,[.tmp 4],(.seq (.ai [qu 4 (.aD qe)]) (.seq (.ai [qm 8 0,qm 9 1,qu 10 (qc 144 [8,9]),qm 5 10]) (.seq (.seq (.ai [qm 11 5,qu 12 (.aF .eql 11 (qi (-1)))]) (.cond 12 (.seq (.ai [qm 13 0,qm 4 13]) .ret) .skip)) (.seq (.seq (.ai [qm 14 5,qu 15 (.aF .add 14 (qi 1)),qm 6 15]) (.block 0 (.loop (.seq (.seq (.ai [qm 16 6,qm 17 0,qu 18 (.len 1 17),qu 19 (.aF .lss 16 18)]) (.cond 19 .skip (.exit 0))) (.seq (.block 1 (.seq (.ai [qm 22 0,qm 23 6,qu 24 (.bO 2 22 23),qL 25 2 24,qu 7 (.alloc [(.aa (.val (.string ⟨#[]⟩))),(qd 0)]),qw (.store 2 7 25)]) (.seq (.ai [qm 26 1,qL 27 2 7,qu 28 (.call 26 [27]),qu 29 (.un .not 28)]) (.cond 29 (.seq (.ai [qm 30 0,qm 31 5,qL 32 2 7,qu 33 (.bO 2 30 31),qw (.store 2 33 32)]) (.ai [qm 34 5,qu 35 (.aF .add 34 (qi 1)),qm 5 35])) .skip)))) (.ai [qm 20 6,qu 21 (.aF .add 20 (qi 1)),qm 6 21])))))) (.seq (.ai [qm 36 0,qm 37 5,qu 38 (.nN 2 36 (some 37) none none),qw (.Ta 2 [(.aa (.val (.string ⟨#[]⟩))),(qd 0)] 38)]) (.seq (.ai [qm 39 0,qm 40 5,qu 41 (.nN 2 39 none (some 40) none),qm 4 41]) .ret))))))⟩
def c117:LF:= ⟨8,[.tmp 3],(.seq (.ai [qu 2 (.box 0),qu 3 (.aD (qb false))]) (.seq (.ai [qf 4 0 2,ql 5 4,ql 6 1,qu 7 (.aF .eql 5 6),qm 3 7]) .ret))⟩
def c144:LF:= ⟨19,[.tmp 4],(.seq (.ai [qu 4 (.aD (qi 0))]) (.seq (.seq (.ai [qm 6 0,qu 7 (.len 1 6),qu 8 (.aD (qi 0))]) (.block 0 (.loop (.seq (.ai [qu 9 (.aF .lss 8 7)]) (.seq (.cond 9 .skip (.exit 0)) (.seq (.block 1 (.seq (.ai [qm 10 8,qm 5 10]) (.seq (.ai [qm 11 1,qm 12 0,qm 13 5,qu 14 (.bO 2 12 13),qL 15 2 14,qu 16 (.call 11 [15])]) (.cond 16 (.seq (.ai [qm 17 5,qm 4 17]) .ret) .skip)))) (.ai [qu 18 (.aF .add 8 (qi 1)),qm 8 18]))))))) (.seq (.ai [qu 4 (.aD (qi (-1)))]) .ret)))⟩
inductive pw(σ:Nat->Nat)(m:Mem)(Z:Nat->Prop):List CC->List CC->Prop
 |nil:pw σ m Z [] []
 |cons {c c':CC} {r r':List CC} (h:qt σ m Z none c c') (hr:pw σ m Z r r'):pw σ m Z (c::r) (c'::r')
theorem pw.len{σ:Nat->Nat}{m:Mem}{Z:Nat->Prop}{cs eu:List CC}(h:pw σ m Z cs eu):cs.length=eu.length:=by
 induction h<;>simp[*]
theorem pw.get{σ:Nat->Nat}{m:Mem}{Z:Nat->Prop}{cs eu:List CC}(h:pw σ m Z cs eu):∀(i:Nat)c c',cs[i]? =some c->eu[i]? =some c'->qt σ m Z none c c':=by
 induction h with
 |nil=>intro i c c' h;simp at h
 |cons h hr ih=>
  intro i c c' h1 h2;cases i with
  |zero=>simp at h1 h2;subst h1 h2;exact h
  |succ i=>exact ih i c c' (by simpa using h1) (by simpa using h2)
theorem pw.agg{σ:Nat->Nat}{m:Mem}{Z:Nat->Prop}{cs eu:List CC}(h:pw σ m Z cs eu):qv σ m Z (.rv (.agg cs)) (.rv (.agg eu)):= .rv (.agg h.len h.get)
theorem l117:bs Tryz.prog Tryz.f117=some c117:=by kernel_rfl
theorem l144:bs Tryz.prog Tryz.f144=some c144:=by kernel_rfl
theorem l116:bs Tryz.prog Tryz.f116=some c116:=by kernel_rfl
theorem l75:bs Tryz.prog Tryz.f75=some c75.er:=by kernel_rfl
theorem l51:bs Tryz.prog Tryz.f51=some c51:=by kernel_rfl
def G88:LC:=Y7 (mH (mH (mH (mH (mH (mH (mH (mH (mH c75.code)))))))))
def MW(name:ByteArray):Bk:= .var [.aa (.val (.string name))]
theorem CP(e:NE)(name:ByteArray):body Tryz.prog c117 [wh e,.rv (.one (.ptr 0 0))] [.var ([Dt.val (.string name)].map .aa)] (fun r m=>r=ay (e.1.toList==name.toList)/\∃ex,m= .var ([Dt.val (.string name)].map .aa)::ex):=by exact⟨rfl,_,rfl⟩
theorem MX(e:NE)(name:ByteArray)(K:CV->Mem->Prop)(h:K (ay (e.1.toList==name.toList)) [.var ([Dt.val (.string name)].map .aa)]):ar Tryz.prog 117 [wh e,.rv (.one (.ptr 0 0))] [.var ([Dt.val (.string name)].map .aa)] K:=
 eJ rfl (aZ Tryz.func117 l117 (CP e name)) h
theorem Fy{es:List NE}{k:Nat}(h:k<es.length):df (af (es.map cZ)) k=some [.aa (.val (.string es[k].1)),.aa (.val (.int .i64 es[k].2))]:=by rw[aX];simp[af,h,cZ]
theorem Jp(es:List NE):lenOf (af (es.map cZ)).length 0 none=es.length:=by show(af (es.map cZ)).length=_;simp[af]
theorem CQ(es:List NE)(hl:es.length<=4194304)(name:ByteArray)(j:Nat)(hj:j<es.length)(hjn:es[j].1.toList=name.toList)(hb:∀(i:Nat)e,i<j->es[i]? =some e->e.1.toList≠name.toList):
  body Tryz.prog c144 [.rv (.one (.row 0 2 0 none)),.rv (.one (.fn 117 [1]))] [.row 2 (af (es.map cZ)),MW name] (fun r m=>r=an .i64 (j:Nat)/\m=[.row 2 (af (es.map cZ)),MW name]):=by
 refine aO (fun k=>k<=j) [0,1] (fun k=>[(7,an .i64 (es.length:Nat)),(8,an .i64 (k:Nat))]) (fun _=>[.row 2 (af (es.map cZ)),MW name]) (fun k=>j-k) 0 (aao _) ?_ (fun k hk=>?_)
 .refine View.o 2 [0,1] [] ?_ ?_
  .repeat(first|exact .nil|refine .ap ?_|refine .eq rfl ?_|refine .put (.aQ (by rw[Jp];rfl)) ?_)
  .exact .pr rfl rfl rfl (.pt rfl rfl (.fK (ds:=[.val (.string name)]) rfl) (.nil _))
 have hk:k<=j:=hk;have fP:k<es.length:=om;refine cF (decide_eq_true (by show(k:Int)<(es.length:Int);omega)) ?_
 refine ag (bT (by rw[Jp];exact fP):dU (k:Nat) (lenOf (af (es.map cZ)).length 0 none)=some k) ?_
 refine ag (Fy fP) ?_;refine fb (args0:=[wh es[k],.rv (.one (.ptr 0 0))]) (cs:=[.val (.string name)]) 1 rfl rfl (r0:=ay (es[k].1.toList==name.toList)) rfl (fun K hK=>MX es[k] name K hK) ?_
 refine aE (fun h=>?_) (fun h=>?_)
 .have h:es[k].1.toList=name.toList:=by simpa using h
  have:k=j:=by
   rcases aaq k j with h2|h2
   .exact absurd h (hb k _ h2 (aab fP))
   .omega
  subst this;exact⟨rfl,rfl⟩
 .have eW:k≠j:=fun e=>by subst e;rw[hjn]at h;simp at h
  refine⟨k+1,(by show k+1<=j;omega),(show j-(k+1)<j-k by omega),View.o 2 [0,1] [] ?_ ?_⟩
  .repeat(first|exact .nil|refine .ap ?_|refine .put (.aQ (aq om).symm) ?_|refine .eq rfl ?_)
  .exact .pr rfl rfl rfl (.pt rfl rfl (.fK (ds:=[.val (.string name)]) rfl) (.nil _))
structure StD where
 t:Nat
 y:NE
def kX(a b:List NE)(t:Nat)(y:NE):List NE:=a++b.take t++y::b.drop t
theorem MY{a b:List NE}{t:Nat}(h:t<=b.length)(y:NE):(kX a b t y).length=a.length+b.length+1:=by simp[kX];omega
theorem Jq{a b:List NE}{t:Nat}(h:t<b.length)(y:NE):(kX a b t y).set (a.length+t) b[t]=kX a b (t+1) b[t]/\(kX a b t y)[a.length+1+t]? =some b[t]:=by
 have h1:(a++b.take t).length=a.length+t:=by simp;omega
 have hd:b.drop t=b[t]::b.drop (t+1):=ab5 h;constructor
 .unfold kX;rw[aco _ _ om,h1,ab9,List.set_cons_zero,List.take_succ_eq_append_getElem h,hd];simp only[acg,List.singleton_append]
 .unfold kX;rw[aan om,h1,show a.length+1+t-(a.length+t)=1 by omega,hd]
  rfl
def Px:NE:=(⟨#[]⟩,0)
theorem Jr(a b:List NE)(x:NE)(hl:a.length+b.length<=4194303)(name:ByteArray)(hx:x.1.toList=name.toList)(ha:∀e,e∈a->e.1.toList≠name.toList)(hb:∀e,e∈b->e.1.toList≠name.toList):
  body Tryz.prog c116 [.rv (.one (.row 0 2 0 none)),.rv (.one (.fn 117 [1]))] [.row 2 (af ((a++x::b).map cZ)),MW name]
  (fun r m=>r= .rv (.one (.row 0 2 0 (some (a.length+b.length))))/\m=[.row 2 (af ((a++b++ [Px]).map cZ)),MW name]):=by
 have hlen:(a++x::b).length=a.length+b.length+1:=by simp;omega
 refine(aZ Tryz.func144 l144 (CQ (a++x::b) om name a.length om (by simp[hx]) (fun i e hi he=>?_))).mono fun r m⟨hr,hm⟩=>?_
 .rw[aar hi]at he;exact ha e (aag he)
 subst hr hm;refine aO (fun s:StD=>s.t<=b.length) [0,1] (fun s=>[(5,an .i64 ((a.length+s.t:Nat):Int)),(6,an .i64 ((a.length+1+s.t:Nat):Int))]) (fun s=>[.row 2 (af ((kX a b s.t s.y).map cZ)),MW name]) (fun s=>b.length-s.t) ⟨0,x⟩ (aao _) ?_ (fun s hs=>?_)
 .refine View.o 2 [0,1] [] ?_ ?_
  .repeat(first|exact .nil|refine .ap ?_|refine .eq rfl ?_|refine .put (.aQ (aq om).symm) ?_)
  .exact .pt rfl rfl (.bV (by show af _=af _;simp[kX])) (.pt rfl rfl (.fK (ds:=[.val (.string name)]) rfl) (.nil _))
 obtain⟨t,y⟩:=s;have hs:t<=b.length:=hs;have lJ:=MY (a:=a) hs y;refine aB (fun h=>?_) (fun h=>?_)
 .have h:((a.length+1+t:Nat):Int)<((lenOf (af ((kX a b t y).map cZ)).length 0 none:Nat):Int):=h;rw[Jp,lJ]at h;have ht:t<b.length:=om;obtain⟨n1,n2⟩:=Jq (a:=a) ht y;have mU:a.length+1+t<(kX a b t y).length:=om;have mt:(kX a b t y)[a.length+1+t]=b[t]:=by rw[aab mU]at n2;exact abo n2
  have hr:=Fy mU;rw[mt]at hr;refine ag (bT (by rw[Jp];exact mU):dU ((a.length+1+t:Nat):Int) (lenOf (af ((kX a b t y).map cZ)).length 0 none)=some (a.length+1+t)) ?_
  refine ag hr ?_;have eW:=hb b[t] (aau ht);generalize hbt:b[t]=v at n1 eW;refine fb (args0:=[wh v,.rv (.one (.ptr 0 0))]) (cs:=[.val (.string name)]) 1 rfl rfl (r0:=ay (v.1.toList==name.toList)) rfl (fun K hK=>MX v name K hK) ?_
  refine cF (by simpa using eW) ?_
  refine ag (bT (by rw[Jp,lJ];omega):dU ((a.length+t:Nat):Int) (lenOf (af ((kX a b t y).map cZ)).length 0 none)=some (a.length+t)) ?_
  refine ag (Fy (by rw[lJ];omega):df (af ((kX a b t y).map cZ)) (a.length+t)=_) ?_
  have jU:ba (af ((kX a b t y).map cZ)) (a.length+t) [.aa (.val (.string v.1)),.aa (.val (.int .i64 v.2))]=af ((kX a b (t+1) v).map cZ):=by rw[<-n1,bn,aa6];simp[af,aa6,cZ]
  have e1:=aq (k:=a.length+t) om;have e2:=aq (k:=a.length+1+t) om;refine⟨⟨t+1,v⟩,ht,(show b.length-(t+1)<b.length-t by omega),View.o 3 [0,1] [] ?_ ?_⟩
  .repeat(first|exact .nil|refine .ap ?_|refine .put (.aQ e1.symm) ?_|refine .put (.aQ e2.symm) ?_|refine .eq rfl ?_)
  .exact .pt rfl rfl (.bV jU) (.pt rfl rfl (.fK (ds:=[.val (.string name)]) rfl) (.nil _))
 .have h:¬((a.length+1+t:Nat):Int)<((lenOf (af ((kX a b t y).map cZ)).length 0 none:Nat):Int):=h;rw[Jp,lJ]at h;have ht:t=b.length:=om;subst ht;have Xr:(af ((kX a b b.length y).map cZ)).length=a.length+b.length+1:=by rw[<-lJ];simp[af]
  have eO:cN (af ((kX a b b.length y).map cZ)) (a.length+b.length) [[.aa (.val (.string ⟨#[]⟩)),.aa (.val (.int .i64 0))]]=af ((a++b++ [Px]).map cZ):=by
   have h1:af ((kX a b b.length y).map cZ)=af ((a++b).map cZ)++ [[.aa (.val (.string y.1)),.aa (.val (.int .i64 y.2))]]:=by simp[kX,af,cZ]
   have h2:(af ((a++b).map cZ)).length=a.length+b.length:=by simp[af]
   rw[h1,cN,List.take_left' h2,acj (by rw[aa3,h2];simp)]
   simp[af,cZ,Px]
  generalize hX:af ((kX a b b.length y).map cZ)=X at Xr eO;have Xs:lenOf X.length 0 none=a.length+b.length+1:=Xr;refine cF (t:=(Nat.ble (a.length+b.length) (lenOf X.length 0 none)&&Nat.ble (lenOf X.length 0 none) (X.length-0))) (by rw[Xs,Xr];simp[aaR]) ?_
  have Ra:cN X (a.length+b.length) (gg (lenOf X.length 0 none-(a.length+b.length)) [.aa (.val (.string ⟨#[]⟩)),.aa (.val (.int .i64 0))])=af ((a++b++ [Px]).map cZ):=by
   rw[Xs,show a.length+b.length+1-(a.length+b.length)=1 by omega]
   exact eO
  refine cF (t:=Nat.ble (lenOf X.length 0 none) X.length) (by rw[Xs,Xr];simp[aaR]) ?_
  refine cF (t:=Nat.blt (a.length+b.length) (lenOf X.length 0 none)) (by rw[Xs,abe];omega) ?_
  refine cF (t:=(Nat.ble 0 (a.length+b.length)&&Nat.ble (a.length+b.length) ((cN X (a.length+b.length) (gg (lenOf X.length 0 none-(a.length+b.length)) [.aa (.val (.string ⟨#[]⟩)),.aa (.val (.int .i64 0))])).length-0))) (by rw[Ra];simp[af,aaR]) ?_
  exact⟨rfl,congrArg (fun z=>[Bk.row 2 z,MW name]) Ra⟩
theorem Hw(a b:List NE)(x:NE)(hl:a.length+b.length<=4194303)(name:ByteArray)(hx:x.1.toList=name.toList)(ha:∀e,e∈a->e.1.toList≠name.toList)(hb:∀e,e∈b->e.1.toList≠name.toList){m:Mem}{K:CV->Mem->Prop}(i j:Nat)(pM:gp [i,j]=true)(aC:fm m.length [i,j]=true)(hi:df m i=some (.row 2 (af ((a++x::b).map cZ))))(hj:df m j=some (MW name))(h:K (.rv (.one (.row i 2 0 (some (a.length+b.length))))) (dn m [i,j] [.row 2 (af ((a++b++ [Px]).map cZ)),MW name])):ar Tryz.prog 116 [.rv (.one (.row i 2 0 none)),.rv (.one (.fn 117 [j]))] m K:=by
 refine bC [i,j] m.length rfl rfl pM aC (args0:=[.rv (.one (.row 0 2 0 none)),.rv (.one (.fn 117 [1]))]) rfl (m0:=[.row 2 (af ((a++x::b).map cZ)),MW name]) (fun k b' hk=>?_) (aZ Tryz.func116 l116 (Jr a b x hl name hx ha hb)) (fun r1 m1 hr=>?_)
 .match k,hk with
  |0,hk=>cases hk;exact .inr ⟨fun h=>h,_,by rw[aX]at hi;exact hi,.bV rfl⟩
  |1,hk=>cases hk;exact .inr ⟨fun h=>h,_,by rw[aX]at hj;exact hj,.fK (ds:=[.val (.string name)]) rfl⟩
  |n+2,hk=>simp at hk
 .obtain⟨rfl,rfl⟩:=hr;refine⟨aG,?_⟩;show K (.rv (.one (.row i 2 0 (some (a.length+b.length))))) (dn m [i,j] [.row 2 ((af ((a++b++ [Px]).map cZ)).map (fun cs=>cs.map (CC.aQ (sg [i,j] m.length)))),MW name])
  rw[gU];exact h
end Go.Proofs.YtojhmadmlnfpcaaGreatDoor
