/- Part 24 of 35. -/
import Derived.Test.YtllkfpggoigbaaaGreatDoorS15
import Derived.Test.YtllkfpggoigbaaaGreatDoorS20
import Derived.Test.YtllkfpggoigbaaaGreatDoorS21
import Derived.Test.YtllkfpggoigbaaaGreatDoorS22
import Derived.Test.YtllkfpggoigbaaaGreatDoorS23
set_option linter.unusedVariables false
set_option linter.unusedSimpArgs false
set_option linter.unnecessarySimpa false
set_option maxRecDepth 100000
set_option maxHeartbeats 0
namespace Go.Proofs.YtllkfpggoigbaaaGreatDoor
open Proofs.Tryz
open Go.AM Go.ChangeShapes Go.WideShapes Go.ChangeAt Go.RowKit
def ni(p:Nat)(c:CC)(k:Nat)(o:Obj):List CC:= (dA o (if k=p then c else .ai (.sl 2 o.ag)) o.ak o.up)
def b9(p:Nat)(c:CC)(l:List Obj):List (List CC):=(l.zipIdx.map λx=>ni p c x.2 x.1)
theorem fQ(p:Nat)(c:CC)(l:List Obj)(i:Nat):(b9 p c l)[i]? =(l[i]?).map (ni p c i):=by
 simp only[b9,Qu,List.getElem?_zipIdx,abV];cases l[i]? <;>rfl
theorem iU(p:Nat)(c:CC)(l:List Obj):(b9 p c l).length=l.length:=by simp[b9]
theorem JE(p Q:Nat)(l:List Obj):b7 p Q 0 l=b9 p (.row Q 2 0 none) l:=by apply ab4;intro i;rw[gB,fQ,abV];rfl
theorem iV{p:Nat}{c:CC}{l:List Obj}{k:Nat}{o:Obj}(hk:k<l.length):aX (b9 p c l) k (ni p c k o)=b9 p c (l.set k o):=by
 rw[bh];apply ab4;intro i;rw[fQ];by_cases h:k=i
 .subst h;rw[aaj (by rw[iU];exact hk),aaj hk]
  rfl
 .rw[aam h,aam h,fQ]
theorem Hk{p:Nat}{c c':CC}{l:List Obj}{o:Obj}(hp:l[p]? =some o):aX (b9 p c l) p (ni p c' p o)=b9 p c' l:=by
 have eF:=(Lw.1 hp).1;rw[bh];apply ab4;intro i;rw[fQ];by_cases h:p=i
 .subst h;rw[aaj (by rw[iU];exact eF),hp]
  rfl
 .rw[aam h,fQ];cases l[i]? with
  |none=>rfl
  |some x=>
   have h2:¬i=p:=λe=>h e.symm
   simp only[aa3,ni,if_neg h2]
theorem Ey{m:Mem}{Z:Nat->Prop}{pp:Option Nat}{id p:Nat}{c:CC}{l:List Obj}{o:Obj}{E:List (List Dt)}(hz:Z id)(hm:m[id]? =some (.row 9 (b9 p c l)))(hq:cS m Z (some id) c (.sl 2 E))(hp:l[p]? =some o):
  cS m Z pp (.row id 9 0 none) (cT (l.set p {o with ag:=E})):=by
 have eF:=(Lw.1 hp).1;have key:∀(i:Nat)cs es,(b9 p c l)[i]? =some cs->((l.set p {o with ag:=E}).map Obj.enc)[i]? =some es->mb m Z (some id) cs es:=by
  intro i cs es h1 h2;rw[fQ]at h1;rw[Qu]at h2;by_cases h:p=i
  .subst h;rw[aaj eF]at h2;rw[hp]at h1;cases h1;cases h2;simp only[ni,if_pos,Obj.enc];exact .cons (.ai _) (.cons (.ai _) (.cons hq (.cons (.ai _) (.cons (.ai _) (.cons (.ai _) (.cons (.ai _) (.cons (.ai _) (.cons (.ai _) .nil))))))))
  .rw[aam h]at h2;cases hx:l[i]? with
   |none=>rw[hx]at h1;cases h1
   |some x=>
    rw[hx]at h1 h2;cases h1;cases h2;have h3:¬i=p:=λe=>h e.symm
    simp only[ni,if_neg h3,Obj.enc];exact .cons (.ai _) (.cons (.ai _) (.cons (.ai _) (.cons (.ai _) (.cons (.ai _) (.cons (.ai _) (.cons (.ai _) (.cons (.ai _) (.cons (.ai _) .nil))))))))
 exact cS.row id 9 0 none _ _ hz hm (by rw[iU,O9,abt]) (λi cs es h1 h2=>(key i cs es h1 h2).len) (λi cs es j c d h1 h2 h3 h4=>(key i cs es h1 h2).get j c d h3 h4)
def mh(l:List Obj)(n k:Nat)(name:ByteArray):List Obj:=match l[n]? with
 |none=>l
 |some o=>match (l.set n {o with ag:=((o.ag.map kO).filter λe=>decide (e.1.toList≠name.toList)).map bP})[k]? with
  |none=>l
  |some q=>(l.set n {o with ag:=((o.ag.map kO).filter λe=>decide (e.1.toList≠name.toList)).map bP}).set k {q with ak:=IntKind.i64.wrap (q.ak-1),up:=if q.ah=2 then(k:Int)else q.up}
def yJ(o:Obj)(l:List Obj)(n:Nat)(name:ByteArray):List Obj×Int×Int:=
 if o.ah≠2 then([],0,11)else if eY (o.ag.map kO) name<0 then([],0,6)else match l[(eY (o.ag.map kO) name).toNat]? with
  |none=>([],0,6)
  |some q=>if q.ah=2/\q.ag.length>0 then([],0,18)else(mh l n (eY (o.ag.map kO) name).toNat name,eY (o.ag.map kO) name,0)
def db(l:List Obj)(dir:Int)(name:ByteArray):List Obj×Int×Int:=
 if nW l dir 0=true then(match l[dir.toNat]? with
  |none=>([],0,6)
  |some o=>yJ o l dir.toNat name)else([],0,6)
theorem kM{l:List Obj}{n k:Nat}(hn:n<l.length)(hk:k<l.length){name:ByteArray}{E:List (List Dt)}(hE:E=((l[n].ag.map kO).filter λe=>decide (e.1.toList≠name.toList)).map bP){q:Obj}(hq:q={l[k]with ak:=IntKind.i64.wrap (l[k].ak-1),up:=if l[k].ah=2 then(k:Int)else l[k].up}):
  ∃o2,(l.set k q)[n]? =some o2/\(l.set k q).set n {o2 with ag:=E}=mh l n k name:=by
 subst hE;unfold mh;rw[wy hn];simp only[];by_cases h:k=n
 .subst h;rw[aaj hn,aaj hn];refine⟨_,rfl,?_⟩;simp only[adl];subst hq;rfl
 .rw[aam h,wy hn,aam (λe=>h e.symm),wy hk]
  refine⟨_,rfl,?_⟩;simp only[];rw[List.set_comm _ _ h,<-hq]
theorem LU{es:List NE}(hs:Gw es){name:ByteArray}(h:¬eY es name<0)(dD:∀e,e∈es->0<=e.2):∃a x b,es=a++x::b/\x.1.toList=name.toList/\x.2=eY es name/\(∀e,e∈a->e.1.toList≠name.toList)/\(∀e,e∈b->e.1.toList≠name.toList)/\es.filter (λe=>decide (e.1.toList≠name.toList))=a++b:=by
 rcases gS es name with⟨x,hx,h1,h2⟩|⟨h2,_⟩
 .obtain⟨a,b,rfl⟩:=List.append_of_mem hx;have hu:∀y,y∈a++x::b->y.1.toList=name.toList->y=x:=λy hy he=>xX hs hy hx (he.trans h1.symm)
  have hp:=hs;unfold Gw at hp;rw[List.pairwise_append,adr]at hp;have hna:∀e,e∈a->e.1.toList≠name.toList:=λe he h3=>by have:=hp.2.2 e he x aD;rw[B7,h3,<-h1,pI]at this;cases this
  have hnb:∀e,e∈b->e.1.toList≠name.toList:=λe he h3=>by have:=hp.2.1.1 e he;rw[B7,h3,<-h1,pI]at this;cases this
  refine⟨a,x,b,rfl,h1,h2.symm,hna,hnb,?_⟩;rw[acx,ad9,if_neg (by simpa using h1),List.filter_eq_self.2 (λe he=>by simpa using hna e he),List.filter_eq_self.2 (λe he=>by simpa using hnb e he)]
 .rw[h2]at h;omega
def WQ(R:List Obj×Int×Int)(r:CV)(m:Mem):Prop:=∃r' m',View 0 ⟨[r],m⟩ ⟨[r'],m'⟩/\r'= .bG [nK R.1,cK R.2.1,cK R.2.2]/\m'=[]
theorem nX{R:List Obj×Int×Int}{m:Mem}(e:Int)(h:R=([],0,e)):WQ R (.bG [.one .bt,cK 0,cK e]) m:=by subst h;exact⟨_,_,View.of m.length [] [] rfl rfl rfl rfl rfl rfl (.put (aau (.one (.dG (.bt 9))) (.one (.aN (.ai _))) (.one (.aN (.ai _)))) .nil) (.nil _),rfl,rfl⟩
theorem Cz(l:List Obj)(hs:yI l)(dir:Int)(name:ByteArray):body prog c77 [cJ l,al .i64 dir,dM name] [] (WQ (db l dir name)):=by
 refine am (λh1=>?_) (λh1=>?_)
 .exact nX 6 (by unfold db;rw[yE h1];rfl)
 obtain⟨n,rfl⟩:∃n:Nat,dir=n:=⟨dir.toNat,by have h1:¬dir<0:=h1;omega⟩
 refine am (λh2=>?_) (λh2=>?_)
 .have h2:(n:Int)>=((l.map Obj.enc).length:Int):=h2;rw[O9]at h2;exact nX 6 (by unfold db;rw[yF h2];rfl)
 have h2:¬(n:Int)>=((l.map Obj.enc).length:Int):=h2;rw[O9]at h2;have hn:n<l.length:=om;have Q7:=jr hn;refine af Q7 ?_;refine ba (λh3=>?_) (λh3=>?_)
 .exact nX 6 (by unfold db;rw[yG hn h3];rfl)
 have h3:l[n].ah≠0:=h3;have hR:db l n name=yJ l[n] l n name:=by unfold db;rw[if_pos (yH hn h3),aal,wy hn]
 rw[hR];unfold yJ;refine af Q7 ?_;refine bF (λh7=>?_) (λh7=>?_)
 .exact nX 11 (if_pos h7)
 have h7:l[n].ah=2:=by simpa using h7
 rw[if_neg (by rw[h7];simp)]
 obtain⟨es,he,wu,SP,dD⟩:=hs.en _ (aaR hn);have U8:l[n].ag.map kO=es:=by rw[he,ib]
 refine Eo l n hn h7 es he om name ?_;have hfw:yz l es n name=eY es name:=A4 wu name;rw[hfw,U8];refine am (λh9=>?_) (λh9=>?_)
 .exact nX 6 (if_pos h9)
 have h9:¬eY es name<0:=h9;rw[if_neg h9];obtain⟨a,x,b,Fx,hx,VR,ha,hb,aeK⟩:=LU wu h9 λe he=>(dD e he).1
 have hxr:=dD x (by rw[Fx];simp)
 obtain⟨k,hk⟩:∃k:Nat,eY es name=k:=⟨(eY es name).toNat,om⟩;have dK:k<l.length:=om;have WB:=jr dK;rw[hk,aal,wy dK];simp only[];have aay:a.length+b.length<=4194303:=by rw[Fx]at SP;simp at SP;omega
 have pd:∀c,dh (b9 n c l) n=some (dA l[n] c l[n].ak l[n].up):=λc=>by rw[aW,fQ,wy hn,aa3,ni,if_pos rfl]
 have heb:Cv l n l.length= .row 2 (aa ((a++x::b).map dn)):=by
  unfold Cv;rw[show Nat.blt n l.length=true by simpa using hn]
  show Bk.row 2 (aa (match l[n]? with|some o=>o.ag|none=>[]))=_
  rw[wy hn];show Bk.row 2 (aa l[n].ag)=_;rw[he,Fx];rfl
 have eR:∀(c:CC)(l2:List Obj)(j:Nat),l2.length=l.length->j<l.length->dL (j:Nat) (lenOf (b9 n c l2).length 0 none)=some j:=λc l2 j h hj=>bJ (by rw[show lenOf (b9 n c l2).length 0 none=l2.length from iU n c l2,h];exact hj)
 have LN:((a++b).map dn)=((l[n].ag.map kO).filter λe=>decide (e.1.toList≠name.toList)).map bP:=by rw[U8,aeK];rfl
 have j7:∀L2:List Obj,L2=mh l n k name->aw prog 0 G88 (nu prog c77.lM (WQ (mh l n k name,(k:Int),0))) ⟨i5 90 [(9,al .i64 (k:Nat)),(10,cJ L2)],[]⟩:=λL2 h=>by subst h;exact⟨_,_,View.o 0 [] [] (.eq rfl .nil) (.nil _),rfl,rfl⟩
 have pi:(aX (b9 n (.row 2 2 0 none) l) n (dA l[n] (.row 2 2 0 (some (a.length+b.length))) l[n].ak l[n].up))=b9 n (.row 2 2 0 (some (a.length+b.length))) l:=by have:=Hk (p:=n) (c:= .row 2 2 0 none) (c':= .row 2 2 0 (some (a.length+b.length))) (wy hn);rw[<-this,ni,if_pos rfl]
 have ui:bA ((a++b++ [SR]).map dn) 0 (some (a.length+b.length))=(a++b).map dn:=by show((a++b++ [SR]).map dn).take (a.length+b.length)=_;rw[abM,List.take_left' aD]
 have hq:∀m:Mem,m[2]? =some (.row 2 (aa ((a++b++ [SR]).map dn)))->cS m (λk=>bc [1,2] k=true) (some 1) (.row 2 2 0 (some (a.length+b.length))) (.sl 2 ((a++b).map dn)):=λm hm=>by
  have:=cS.da (Z:=λk=>bc [1,2] k=true) (p:=some 1) rfl hm 0 (some (a.length+b.length))
  rw[ui]at this;exact this
 refine af WB ?_;refine ba (λFt=>?_) (λFt=>?_)
 .refine af WB ?_;refine am (λl4=>?_) (λl4=>?_)
  .exact nX 18 (if_pos ⟨Ft,by have l4:(l[k].ag.length:Int)>0:=l4;omega⟩)
  .rw[if_neg (λh=>l4 (by show(l[k].ag.length:Int)>0;omega))]
   refine Cw l hs.oi n ?_;rw[heb,JE];refine af (eR (.row 2 2 0 none) l n rfl hn) ?_;refine af (pd (.row 2 2 0 none)) ?_;refine JD a b x aay name hx ha hb 2 0 rfl rfl rfl rfl ?_;refine af (eR (.row 2 2 0 none) l n rfl hn) ?_;refine af (pd (.row 2 2 0 none)) ?_;by_cases Ez:k=n
   .have PB:dh (b9 n (.row 2 2 0 (some (a.length+b.length))) l) k=some (dA l[k] (.row 2 2 0 (some (a.length+b.length))) l[k].ak l[k].up):=by rw[aW,fQ,wy dK,aa3,ni,if_pos Ez]
    have pH:(aX (aX (b9 n (.row 2 2 0 none) l) n (dA l[n] (.row 2 2 0 (some (a.length+b.length))) l[n].ak l[n].up)) k (dA l[k] (.row 2 2 0 (some (a.length+b.length))) (IntKind.i64.wrap (l[k].ak-1)) l[k].up))=b9 n (.row 2 2 0 (some (a.length+b.length))) (l.set k {l[k]with ak:=(IntKind.i64.wrap (l[k].ak-1))}):=by
     rw[pi];have:=iV (p:=n) (c:= .row 2 2 0 (some (a.length+b.length))) (o:={l[k]with ak:=(IntKind.i64.wrap (l[k].ak-1))}) dK
     rw[<-this,ni,if_pos Ez]
    have vX:dh (aX (aX (b9 n (.row 2 2 0 none) l) n (dA l[n] (.row 2 2 0 (some (a.length+b.length))) l[n].ak l[n].up)) k (dA l[k] (.row 2 2 0 (some (a.length+b.length))) (IntKind.i64.wrap (l[k].ak-1)) l[k].up)) k=some (dA l[k] (.row 2 2 0 (some (a.length+b.length))) (IntKind.i64.wrap (l[k].ak-1)) l[k].up):=by
     rw[bh,aW,aaj (by rw[pi,iU];exact dK)]
    refine af (by rw[pi];exact eR _ l k rfl dK:dL (k:Nat) (lenOf (aX (b9 n (.row 2 2 0 none) l) n (dA l[n] (.row 2 2 0 (some (a.length+b.length))) l[n].ak l[n].up)).length 0 none)=some k) ?_
    refine af (by rw[pi];exact PB:dh (aX (b9 n (.row 2 2 0 none) l) n (dA l[n] (.row 2 2 0 (some (a.length+b.length))) l[n].ak l[n].up)) k=some (dA l[k] (.row 2 2 0 (some (a.length+b.length))) l[k].ak l[k].up)) ?_
    refine af (by rw[pi];exact eR _ l k rfl dK:dL (k:Nat) (lenOf (aX (b9 n (.row 2 2 0 none) l) n (dA l[n] (.row 2 2 0 (some (a.length+b.length))) l[n].ak l[n].up)).length 0 none)=some k) ?_
    refine af (by rw[pi];exact PB:dh (aX (b9 n (.row 2 2 0 none) l) n (dA l[n] (.row 2 2 0 (some (a.length+b.length))) l[n].ak l[n].up)) k=some (dA l[k] (.row 2 2 0 (some (a.length+b.length))) l[k].ak l[k].up)) ?_
    refine af (by rw[pH];exact eR _ _ k (abt ..) dK:dL (k:Nat) (lenOf (aX (aX (b9 n (.row 2 2 0 none) l) n (dA l[n] (.row 2 2 0 (some (a.length+b.length))) l[n].ak l[n].up)) k (dA l[k] (.row 2 2 0 (some (a.length+b.length))) (IntKind.i64.wrap (l[k].ak-1)) l[k].up)).length 0 none)=some k) ?_
    refine af vX ?_;refine ba (λqX=>?_) (λqX=>?_)
    .have qX:l[k].ah=2:=qX;have Px:(aX (aX (aX (b9 n (.row 2 2 0 none) l) n (dA l[n] (.row 2 2 0 (some (a.length+b.length))) l[n].ak l[n].up)) k (dA l[k] (.row 2 2 0 (some (a.length+b.length))) (IntKind.i64.wrap (l[k].ak-1)) l[k].up)) k (dA l[k] (.row 2 2 0 (some (a.length+b.length))) (IntKind.i64.wrap (l[k].ak-1)) (k:Nat)))=b9 n (.row 2 2 0 (some (a.length+b.length))) (l.set k {l[k]with ak:=(IntKind.i64.wrap (l[k].ak-1)),up:=(k:Int)}):=by
      rw[pH];have:=iV (p:=n) (c:= .row 2 2 0 (some (a.length+b.length))) (l:=l.set k {l[k]with ak:=(IntKind.i64.wrap (l[k].ak-1))}) (k:=k) (o:={l[k]with ak:=(IntKind.i64.wrap (l[k].ak-1)),up:=(k:Int)}) (by rw[abt];exact dK)
      rw[adl]at this;rw[<-this,ni,if_pos Ez]
     refine af (by rw[pH];exact eR _ _ k (abt ..) dK:dL (k:Nat) (lenOf (aX (aX (b9 n (.row 2 2 0 none) l) n (dA l[n] (.row 2 2 0 (some (a.length+b.length))) l[n].ak l[n].up)) k (dA l[k] (.row 2 2 0 (some (a.length+b.length))) (IntKind.i64.wrap (l[k].ak-1)) l[k].up)).length 0 none)=some k) ?_
     refine af vX ?_;obtain⟨o2,o0,eE⟩:=kM (name:=name) hn dK LN (q:={l[k]with ak:=(IntKind.i64.wrap (l[k].ak-1)),up:=(k:Int)}) (by rw[if_pos qX])
     refine⟨_,View.o 3 [] [1,2] ?_ (.nil _),j7 _ eE⟩
     iterate 9 refine .aH ?_
     refine .eq rfl ?_;refine .put (.rv (.one (.dG (p:=none) (Ey (Z:=λk=>bc [1,2] k=true) rfl (by show some (Bk.row 9 _)=some (Bk.row 9 _);congr 1;exact congrArg _ Px) (hq _ rfl) o0)))) ?_
     repeat(first|exact .nil|refine .aH ?_)
    .have qX:l[k].ah≠2:=qX;obtain⟨o2,o0,eE⟩:=kM (name:=name) hn dK LN (q:={l[k]with ak:=(IntKind.i64.wrap (l[k].ak-1))}) (by rw[if_neg qX])
     refine⟨_,View.o 3 [] [1,2] ?_ (.nil _),j7 _ eE⟩
     iterate 9 refine .aH ?_
     refine .eq rfl ?_;refine .put (.rv (.one (.dG (p:=none) (Ey (Z:=λk=>bc [1,2] k=true) rfl (by show some (Bk.row 9 _)=some (Bk.row 9 _);congr 1;exact congrArg _ pH) (hq _ rfl) o0)))) ?_
     repeat(first|exact .nil|refine .aH ?_)
   .have PB:dh (b9 n (.row 2 2 0 (some (a.length+b.length))) l) k=some (dA l[k] (.ai (.sl 2 l[k].ag)) l[k].ak l[k].up):=by rw[aW,fQ,wy dK,aa3,ni,if_neg Ez]
    have pH:(aX (aX (b9 n (.row 2 2 0 none) l) n (dA l[n] (.row 2 2 0 (some (a.length+b.length))) l[n].ak l[n].up)) k (dA l[k] (.ai (.sl 2 l[k].ag)) (IntKind.i64.wrap (l[k].ak-1)) l[k].up))=b9 n (.row 2 2 0 (some (a.length+b.length))) (l.set k {l[k]with ak:=(IntKind.i64.wrap (l[k].ak-1))}):=by
     rw[pi];have:=iV (p:=n) (c:= .row 2 2 0 (some (a.length+b.length))) (o:={l[k]with ak:=(IntKind.i64.wrap (l[k].ak-1))}) dK
     rw[<-this,ni,if_neg Ez]
    have vX:dh (aX (aX (b9 n (.row 2 2 0 none) l) n (dA l[n] (.row 2 2 0 (some (a.length+b.length))) l[n].ak l[n].up)) k (dA l[k] (.ai (.sl 2 l[k].ag)) (IntKind.i64.wrap (l[k].ak-1)) l[k].up)) k=some (dA l[k] (.ai (.sl 2 l[k].ag)) (IntKind.i64.wrap (l[k].ak-1)) l[k].up):=by
     rw[bh,aW,aaj (by rw[pi,iU];exact dK)]
    refine af (by rw[pi];exact eR _ l k rfl dK:dL (k:Nat) (lenOf (aX (b9 n (.row 2 2 0 none) l) n (dA l[n] (.row 2 2 0 (some (a.length+b.length))) l[n].ak l[n].up)).length 0 none)=some k) ?_
    refine af (by rw[pi];exact PB:dh (aX (b9 n (.row 2 2 0 none) l) n (dA l[n] (.row 2 2 0 (some (a.length+b.length))) l[n].ak l[n].up)) k=some (dA l[k] (.ai (.sl 2 l[k].ag)) l[k].ak l[k].up)) ?_
    refine af (by rw[pi];exact eR _ l k rfl dK:dL (k:Nat) (lenOf (aX (b9 n (.row 2 2 0 none) l) n (dA l[n] (.row 2 2 0 (some (a.length+b.length))) l[n].ak l[n].up)).length 0 none)=some k) ?_
    refine af (by rw[pi];exact PB:dh (aX (b9 n (.row 2 2 0 none) l) n (dA l[n] (.row 2 2 0 (some (a.length+b.length))) l[n].ak l[n].up)) k=some (dA l[k] (.ai (.sl 2 l[k].ag)) l[k].ak l[k].up)) ?_
    refine af (by rw[pH];exact eR _ _ k (abt ..) dK:dL (k:Nat) (lenOf (aX (aX (b9 n (.row 2 2 0 none) l) n (dA l[n] (.row 2 2 0 (some (a.length+b.length))) l[n].ak l[n].up)) k (dA l[k] (.ai (.sl 2 l[k].ag)) (IntKind.i64.wrap (l[k].ak-1)) l[k].up)).length 0 none)=some k) ?_
    refine af vX ?_;refine ba (λqX=>?_) (λqX=>?_)
    .have qX:l[k].ah=2:=qX;have Px:(aX (aX (aX (b9 n (.row 2 2 0 none) l) n (dA l[n] (.row 2 2 0 (some (a.length+b.length))) l[n].ak l[n].up)) k (dA l[k] (.ai (.sl 2 l[k].ag)) (IntKind.i64.wrap (l[k].ak-1)) l[k].up)) k (dA l[k] (.ai (.sl 2 l[k].ag)) (IntKind.i64.wrap (l[k].ak-1)) (k:Nat)))=b9 n (.row 2 2 0 (some (a.length+b.length))) (l.set k {l[k]with ak:=(IntKind.i64.wrap (l[k].ak-1)),up:=(k:Int)}):=by
      rw[pH];have:=iV (p:=n) (c:= .row 2 2 0 (some (a.length+b.length))) (l:=l.set k {l[k]with ak:=(IntKind.i64.wrap (l[k].ak-1))}) (k:=k) (o:={l[k]with ak:=(IntKind.i64.wrap (l[k].ak-1)),up:=(k:Int)}) (by rw[abt];exact dK)
      rw[adl]at this;rw[<-this,ni,if_neg Ez]
     refine af (by rw[pH];exact eR _ _ k (abt ..) dK:dL (k:Nat) (lenOf (aX (aX (b9 n (.row 2 2 0 none) l) n (dA l[n] (.row 2 2 0 (some (a.length+b.length))) l[n].ak l[n].up)) k (dA l[k] (.ai (.sl 2 l[k].ag)) (IntKind.i64.wrap (l[k].ak-1)) l[k].up)).length 0 none)=some k) ?_
     refine af vX ?_;obtain⟨o2,o0,eE⟩:=kM (name:=name) hn dK LN (q:={l[k]with ak:=(IntKind.i64.wrap (l[k].ak-1)),up:=(k:Int)}) (by rw[if_pos qX])
     refine⟨_,View.o 3 [] [1,2] ?_ (.nil _),j7 _ eE⟩
     iterate 9 refine .aH ?_
     refine .eq rfl ?_;refine .put (.rv (.one (.dG (p:=none) (Ey (Z:=λk=>bc [1,2] k=true) rfl (by show some (Bk.row 9 _)=some (Bk.row 9 _);congr 1;exact congrArg _ Px) (hq _ rfl) o0)))) ?_
     repeat(first|exact .nil|refine .aH ?_)
    .have qX:l[k].ah≠2:=qX;obtain⟨o2,o0,eE⟩:=kM (name:=name) hn dK LN (q:={l[k]with ak:=(IntKind.i64.wrap (l[k].ak-1))}) (by rw[if_neg qX])
     refine⟨_,View.o 3 [] [1,2] ?_ (.nil _),j7 _ eE⟩
     iterate 9 refine .aH ?_
     refine .eq rfl ?_;refine .put (.rv (.one (.dG (p:=none) (Ey (Z:=λk=>bc [1,2] k=true) rfl (by show some (Bk.row 9 _)=some (Bk.row 9 _);congr 1;exact congrArg _ pH) (hq _ rfl) o0)))) ?_
     repeat(first|exact .nil|refine .aH ?_)
 .rw[if_neg (λh=>Ft h.1)]
  refine Cw l hs.oi n ?_;rw[heb,JE];refine af (eR (.row 2 2 0 none) l n rfl hn) ?_;refine af (pd (.row 2 2 0 none)) ?_;refine JD a b x aay name hx ha hb 2 0 rfl rfl rfl rfl ?_;refine af (eR (.row 2 2 0 none) l n rfl hn) ?_;refine af (pd (.row 2 2 0 none)) ?_;by_cases Ez:k=n
  .have PB:dh (b9 n (.row 2 2 0 (some (a.length+b.length))) l) k=some (dA l[k] (.row 2 2 0 (some (a.length+b.length))) l[k].ak l[k].up):=by rw[aW,fQ,wy dK,aa3,ni,if_pos Ez]
   have pH:(aX (aX (b9 n (.row 2 2 0 none) l) n (dA l[n] (.row 2 2 0 (some (a.length+b.length))) l[n].ak l[n].up)) k (dA l[k] (.row 2 2 0 (some (a.length+b.length))) (IntKind.i64.wrap (l[k].ak-1)) l[k].up))=b9 n (.row 2 2 0 (some (a.length+b.length))) (l.set k {l[k]with ak:=(IntKind.i64.wrap (l[k].ak-1))}):=by
    rw[pi];have:=iV (p:=n) (c:= .row 2 2 0 (some (a.length+b.length))) (o:={l[k]with ak:=(IntKind.i64.wrap (l[k].ak-1))}) dK
    rw[<-this,ni,if_pos Ez]
   have vX:dh (aX (aX (b9 n (.row 2 2 0 none) l) n (dA l[n] (.row 2 2 0 (some (a.length+b.length))) l[n].ak l[n].up)) k (dA l[k] (.row 2 2 0 (some (a.length+b.length))) (IntKind.i64.wrap (l[k].ak-1)) l[k].up)) k=some (dA l[k] (.row 2 2 0 (some (a.length+b.length))) (IntKind.i64.wrap (l[k].ak-1)) l[k].up):=by
    rw[bh,aW,aaj (by rw[pi,iU];exact dK)]
   refine af (by rw[pi];exact eR _ l k rfl dK:dL (k:Nat) (lenOf (aX (b9 n (.row 2 2 0 none) l) n (dA l[n] (.row 2 2 0 (some (a.length+b.length))) l[n].ak l[n].up)).length 0 none)=some k) ?_
   refine af (by rw[pi];exact PB:dh (aX (b9 n (.row 2 2 0 none) l) n (dA l[n] (.row 2 2 0 (some (a.length+b.length))) l[n].ak l[n].up)) k=some (dA l[k] (.row 2 2 0 (some (a.length+b.length))) l[k].ak l[k].up)) ?_
   refine af (by rw[pi];exact eR _ l k rfl dK:dL (k:Nat) (lenOf (aX (b9 n (.row 2 2 0 none) l) n (dA l[n] (.row 2 2 0 (some (a.length+b.length))) l[n].ak l[n].up)).length 0 none)=some k) ?_
   refine af (by rw[pi];exact PB:dh (aX (b9 n (.row 2 2 0 none) l) n (dA l[n] (.row 2 2 0 (some (a.length+b.length))) l[n].ak l[n].up)) k=some (dA l[k] (.row 2 2 0 (some (a.length+b.length))) l[k].ak l[k].up)) ?_
   refine af (by rw[pH];exact eR _ _ k (abt ..) dK:dL (k:Nat) (lenOf (aX (aX (b9 n (.row 2 2 0 none) l) n (dA l[n] (.row 2 2 0 (some (a.length+b.length))) l[n].ak l[n].up)) k (dA l[k] (.row 2 2 0 (some (a.length+b.length))) (IntKind.i64.wrap (l[k].ak-1)) l[k].up)).length 0 none)=some k) ?_
   refine af vX ?_;refine ba (λqX=>?_) (λqX=>?_)
   .have qX:l[k].ah=2:=qX;have Px:(aX (aX (aX (b9 n (.row 2 2 0 none) l) n (dA l[n] (.row 2 2 0 (some (a.length+b.length))) l[n].ak l[n].up)) k (dA l[k] (.row 2 2 0 (some (a.length+b.length))) (IntKind.i64.wrap (l[k].ak-1)) l[k].up)) k (dA l[k] (.row 2 2 0 (some (a.length+b.length))) (IntKind.i64.wrap (l[k].ak-1)) (k:Nat)))=b9 n (.row 2 2 0 (some (a.length+b.length))) (l.set k {l[k]with ak:=(IntKind.i64.wrap (l[k].ak-1)),up:=(k:Int)}):=by
     rw[pH];have:=iV (p:=n) (c:= .row 2 2 0 (some (a.length+b.length))) (l:=l.set k {l[k]with ak:=(IntKind.i64.wrap (l[k].ak-1))}) (k:=k) (o:={l[k]with ak:=(IntKind.i64.wrap (l[k].ak-1)),up:=(k:Int)}) (by rw[abt];exact dK)
     rw[adl]at this;rw[<-this,ni,if_pos Ez]
    refine af (by rw[pH];exact eR _ _ k (abt ..) dK:dL (k:Nat) (lenOf (aX (aX (b9 n (.row 2 2 0 none) l) n (dA l[n] (.row 2 2 0 (some (a.length+b.length))) l[n].ak l[n].up)) k (dA l[k] (.row 2 2 0 (some (a.length+b.length))) (IntKind.i64.wrap (l[k].ak-1)) l[k].up)).length 0 none)=some k) ?_
    refine af vX ?_;obtain⟨o2,o0,eE⟩:=kM (name:=name) hn dK LN (q:={l[k]with ak:=(IntKind.i64.wrap (l[k].ak-1)),up:=(k:Int)}) (by rw[if_pos qX])
    refine⟨_,View.o 3 [] [1,2] ?_ (.nil _),j7 _ eE⟩
    iterate 9 refine .aH ?_
    refine .eq rfl ?_;refine .put (.rv (.one (.dG (p:=none) (Ey (Z:=λk=>bc [1,2] k=true) rfl (by show some (Bk.row 9 _)=some (Bk.row 9 _);congr 1;exact congrArg _ Px) (hq _ rfl) o0)))) ?_
    repeat(first|exact .nil|refine .aH ?_)
   .have qX:l[k].ah≠2:=qX;obtain⟨o2,o0,eE⟩:=kM (name:=name) hn dK LN (q:={l[k]with ak:=(IntKind.i64.wrap (l[k].ak-1))}) (by rw[if_neg qX])
    refine⟨_,View.o 3 [] [1,2] ?_ (.nil _),j7 _ eE⟩
    iterate 9 refine .aH ?_
    refine .eq rfl ?_;refine .put (.rv (.one (.dG (p:=none) (Ey (Z:=λk=>bc [1,2] k=true) rfl (by show some (Bk.row 9 _)=some (Bk.row 9 _);congr 1;exact congrArg _ pH) (hq _ rfl) o0)))) ?_
    repeat(first|exact .nil|refine .aH ?_)
  .have PB:dh (b9 n (.row 2 2 0 (some (a.length+b.length))) l) k=some (dA l[k] (.ai (.sl 2 l[k].ag)) l[k].ak l[k].up):=by rw[aW,fQ,wy dK,aa3,ni,if_neg Ez]
   have pH:(aX (aX (b9 n (.row 2 2 0 none) l) n (dA l[n] (.row 2 2 0 (some (a.length+b.length))) l[n].ak l[n].up)) k (dA l[k] (.ai (.sl 2 l[k].ag)) (IntKind.i64.wrap (l[k].ak-1)) l[k].up))=b9 n (.row 2 2 0 (some (a.length+b.length))) (l.set k {l[k]with ak:=(IntKind.i64.wrap (l[k].ak-1))}):=by
    rw[pi];have:=iV (p:=n) (c:= .row 2 2 0 (some (a.length+b.length))) (o:={l[k]with ak:=(IntKind.i64.wrap (l[k].ak-1))}) dK
    rw[<-this,ni,if_neg Ez]
   have vX:dh (aX (aX (b9 n (.row 2 2 0 none) l) n (dA l[n] (.row 2 2 0 (some (a.length+b.length))) l[n].ak l[n].up)) k (dA l[k] (.ai (.sl 2 l[k].ag)) (IntKind.i64.wrap (l[k].ak-1)) l[k].up)) k=some (dA l[k] (.ai (.sl 2 l[k].ag)) (IntKind.i64.wrap (l[k].ak-1)) l[k].up):=by
    rw[bh,aW,aaj (by rw[pi,iU];exact dK)]
   refine af (by rw[pi];exact eR _ l k rfl dK:dL (k:Nat) (lenOf (aX (b9 n (.row 2 2 0 none) l) n (dA l[n] (.row 2 2 0 (some (a.length+b.length))) l[n].ak l[n].up)).length 0 none)=some k) ?_
   refine af (by rw[pi];exact PB:dh (aX (b9 n (.row 2 2 0 none) l) n (dA l[n] (.row 2 2 0 (some (a.length+b.length))) l[n].ak l[n].up)) k=some (dA l[k] (.ai (.sl 2 l[k].ag)) l[k].ak l[k].up)) ?_
   refine af (by rw[pi];exact eR _ l k rfl dK:dL (k:Nat) (lenOf (aX (b9 n (.row 2 2 0 none) l) n (dA l[n] (.row 2 2 0 (some (a.length+b.length))) l[n].ak l[n].up)).length 0 none)=some k) ?_
   refine af (by rw[pi];exact PB:dh (aX (b9 n (.row 2 2 0 none) l) n (dA l[n] (.row 2 2 0 (some (a.length+b.length))) l[n].ak l[n].up)) k=some (dA l[k] (.ai (.sl 2 l[k].ag)) l[k].ak l[k].up)) ?_
   refine af (by rw[pH];exact eR _ _ k (abt ..) dK:dL (k:Nat) (lenOf (aX (aX (b9 n (.row 2 2 0 none) l) n (dA l[n] (.row 2 2 0 (some (a.length+b.length))) l[n].ak l[n].up)) k (dA l[k] (.ai (.sl 2 l[k].ag)) (IntKind.i64.wrap (l[k].ak-1)) l[k].up)).length 0 none)=some k) ?_
   refine af vX ?_;refine ba (λqX=>?_) (λqX=>?_)
   .have qX:l[k].ah=2:=qX;have Px:(aX (aX (aX (b9 n (.row 2 2 0 none) l) n (dA l[n] (.row 2 2 0 (some (a.length+b.length))) l[n].ak l[n].up)) k (dA l[k] (.ai (.sl 2 l[k].ag)) (IntKind.i64.wrap (l[k].ak-1)) l[k].up)) k (dA l[k] (.ai (.sl 2 l[k].ag)) (IntKind.i64.wrap (l[k].ak-1)) (k:Nat)))=b9 n (.row 2 2 0 (some (a.length+b.length))) (l.set k {l[k]with ak:=(IntKind.i64.wrap (l[k].ak-1)),up:=(k:Int)}):=by
     rw[pH];have:=iV (p:=n) (c:= .row 2 2 0 (some (a.length+b.length))) (l:=l.set k {l[k]with ak:=(IntKind.i64.wrap (l[k].ak-1))}) (k:=k) (o:={l[k]with ak:=(IntKind.i64.wrap (l[k].ak-1)),up:=(k:Int)}) (by rw[abt];exact dK)
     rw[adl]at this;rw[<-this,ni,if_neg Ez]
    refine af (by rw[pH];exact eR _ _ k (abt ..) dK:dL (k:Nat) (lenOf (aX (aX (b9 n (.row 2 2 0 none) l) n (dA l[n] (.row 2 2 0 (some (a.length+b.length))) l[n].ak l[n].up)) k (dA l[k] (.ai (.sl 2 l[k].ag)) (IntKind.i64.wrap (l[k].ak-1)) l[k].up)).length 0 none)=some k) ?_
    refine af vX ?_;obtain⟨o2,o0,eE⟩:=kM (name:=name) hn dK LN (q:={l[k]with ak:=(IntKind.i64.wrap (l[k].ak-1)),up:=(k:Int)}) (by rw[if_pos qX])
    refine⟨_,View.o 3 [] [1,2] ?_ (.nil _),j7 _ eE⟩
    iterate 9 refine .aH ?_
    refine .eq rfl ?_;refine .put (.rv (.one (.dG (p:=none) (Ey (Z:=λk=>bc [1,2] k=true) rfl (by show some (Bk.row 9 _)=some (Bk.row 9 _);congr 1;exact congrArg _ Px) (hq _ rfl) o0)))) ?_
    repeat(first|exact .nil|refine .aH ?_)
   .have qX:l[k].ah≠2:=qX;obtain⟨o2,o0,eE⟩:=kM (name:=name) hn dK LN (q:={l[k]with ak:=(IntKind.i64.wrap (l[k].ak-1))}) (by rw[if_neg qX])
    refine⟨_,View.o 3 [] [1,2] ?_ (.nil _),j7 _ eE⟩
    iterate 9 refine .aH ?_
    refine .eq rfl ?_;refine .put (.rv (.one (.dG (p:=none) (Ey (Z:=λk=>bc [1,2] k=true) rfl (by show some (Bk.row 9 _)=some (Bk.row 9 _);congr 1;exact congrArg _ pH) (hq _ rfl) o0)))) ?_
    repeat(first|exact .nil|refine .aH ?_)
theorem Hl(l:List Obj)(hs:yI l)(dir:Int)(name:ByteArray){m:Mem}{K:CV->Mem->Prop}(h:K (.bG [nK (db l dir name).1,cK (db l dir name).2.1,cK (db l dir name).2.2]) m):ap prog 77 [cJ l,al .i64 dir,dM name] m K:=by
 refine aR (K0:=λr m=>r= .bG [nK (db l dir name).1,cK (db l dir name).2.1,cK (db l dir name).2.2]/\m=[]) (bK (cE func77 l77 (Cz l hs dir name)) λr m1⟨r',m',hv,h1,h2⟩=>⟨r',m',hv,h1,h2⟩) (by simp[cJ,al,dM,CV.cW,CC.cW]) λr m1 hr=>?_
 obtain⟨rfl,rfl⟩:=hr;exact⟨_,cH.self rfl,h⟩
theorem Hm(o:Obj)(hf:o.data.length<=4194304)(di n:Int):body prog c66 [o.cv,al .i64 di,al .i64 n] [] (λr m=>cH m r (.bG [byR (kL o.ah o.data di n).1,cK (kL o.ah o.data di n).2])):=by
 obtain⟨ah,data,ag,target,aG,aj,aQ,ak,up⟩:=o;have hf:data.length<=4194304:=hf;show body prog c66 _ [] (λr m=>cH m r (.bG [byR (kL ah data di n).1,cK (kL ah data di n).2]))
 refine ba (λh1=>?_) (λh1=>?_)
 .rw[kL,if_pos h1];exact gC (.one (.bt 1))
 refine bF (λh2=>?_) (λh2=>?_)
 .rw[kL,if_neg h1,if_pos h2];exact gC (.one (.bt 1))
 have hk:ah=1:=by simpa using h2
 refine am (λh3=>?_) (λh3=>?_)
 .rw[kL,if_neg h1,if_neg (by simpa using hk),if_pos (.inl h3)]
  exact gC (.one (.bt 1))
 refine am (λh4=>?_) (λh4=>?_)
 .rw[kL,if_neg h1,if_neg (by simpa using hk),if_pos (.inr h4)]
  exact gC (.one (.bt 1))
 rw[kL,if_neg h1,if_neg (by simpa using hk),if_neg (λh=>h.elim h3 h4)]
 have h3:¬di<0:=h3;have h4:¬n<0:=h4;obtain⟨A,rfl⟩:∃A:Nat,di=A:=⟨di.toNat,om⟩;obtain⟨N,rfl⟩:∃N:Nat,n=N:=⟨n.toNat,om⟩;rw[show((A:Nat):Int).toNat=A from rfl,show((N:Nat):Int).toNat=N from rfl];have KA:=oP A data.length;have hm2:=oP N (data.length-fD A data.length);have hL:px (al .i64 (if(data.length:Int)<(A:Int)then(data.length:Int)else(A:Int)))=some (fD A data.length):=by rw[tz];rfl
 have hE:IntKind.i64.wrap ((if(data.length:Int)<(A:Int)then(data.length:Int)else(A:Int))+(if IntKind.i64.wrap ((data.length:Int)-(if(data.length:Int)<(A:Int)then(data.length:Int)else(A:Int)))<(N:Int)then IntKind.i64.wrap ((data.length:Int)-(if(data.length:Int)<(A:Int)then(data.length:Int)else(A:Int)))else(N:Int)))
   =((fD A data.length+fD N (data.length-fD A data.length):Nat):Int):=by
  rw[tz,show(data.length:Int)-((fD A data.length:Nat):Int)=((data.length-fD A data.length:Nat):Int) by omega,lW om,tz,
   show((fD A data.length:Nat):Int)+((fD N (data.length-fD A data.length):Nat):Int)=((fD A data.length+fD N (data.length-fD A data.length):Nat):Int) by omega,lW om]
 have hH:px (al .i64 (IntKind.i64.wrap ((if(data.length:Int)<(A:Int)then(data.length:Int)else(A:Int))+(if IntKind.i64.wrap ((data.length:Int)-(if(data.length:Int)<(A:Int)then(data.length:Int)else(A:Int)))<(N:Int)then IntKind.i64.wrap ((data.length:Int)-(if(data.length:Int)<(A:Int)then(data.length:Int)else(A:Int)))else(N:Int)))))=some (fD A data.length+fD N (data.length-fD A data.length)):=by rw[hE];rfl
 refine af hL ?_;refine af hH ?_;refine bV (by rw[aaL,abR,abR];show fD A data.length<=fD A data.length+fD N (data.length-fD A data.length)/\fD A data.length+fD N (data.length-fD A data.length)<=data.length;omega) ?_
 refine iS (Lz data A N) (by simp[Lz];omega) ?_
 exact gC (dE.self rfl)
theorem PC(o:Obj)(hf:o.data.length<=4194304)(di n:Int){m:Mem}{K:CV->Mem->Prop}(h:K (.bG [byR (kL o.ah o.data di n).1,cK (kL o.ah o.data di n).2]) m):ap prog 66 [o.cv,al .i64 di,al .i64 n] m K:=
 aR (aP func66 l66 (Hm o hf di n)) (by simp[Obj.cv,Obj.enc,al,CV.cW,CC.cW,RV.cW]) λr m1 hf=>⟨_,hf,h⟩
def c65:LF:=Cq prog f65 [[2]] [[(d9 14 0 (.zB (.cons 14 (some []) (d9 3 15 (.cons 18 (some [11,9,8,4]) (.cons 19 (some []) (.cons 20 none .nil))))) (.cons 18 (some [11,9,8,4]) (.cons 14 (some []) (d9 3 15 (.cons 19 (some []) (.cons 20 none .nil)))))))],[(d9 11 0 (.cons 11 (some [10,8,7,5]) (.cons 12 none (.cons 13 none .nil))))]]
def c72:LF:=Cq prog f72 [] [[(d9 12 0 (.cons 12 (some []) .nil))]]
def c78:LF:=Cq prog f78 [] []
namespace Kn
structure Cl where
 aQ:Int
 ah:Int
 fd:Int
 iy:Int
 n:Int
 bL:Int
 aZ:Int
 cG:bT.dP
 data:List Int
structure An where
 gz:Int
 n:Int
 m:Int
 data:List (List Dt)
def An.no(e:Int):An:=⟨e,0,0,[]⟩
def An.enc(a:An):List Dt:=[.val (.int .i64 a.gz),.val (.int .i64 a.n),.val (.int .i64 a.m),.sl 1 a.data]
def An.rv(a:An):RV:= .agg (a.enc.map .ai)
def An.cv(a:An):CV:= .rv a.rv
def Cl.enc(c:Cl):List Dt:=[.val (.int .i64 c.aQ),.val (.int .i64 c.ah),.val (.int .i64 c.fd),.val (.int .i64 c.iy),.val (.int .i64 c.n),.val (.int .i64 c.bL),.val (.int .i64 c.aZ),.val (.string (bT.cU c.cG)),.sl 1 (eX c.data)]
def Cl.cv(c:Cl):CV:= .rv (.agg (c.enc.map .ai))
def cB(c:Cl):Bk:= .var (c.enc.map .ai)
def xC(k:Kr)(p:Nat):List Dt:=[cT k.l,de k.ops,dZ k.ps,.val (.int .i64 (p:Nat))]
def xB(k:Kr)(p:Nat):Bk:= .var ((xC k p).map .ai)
def mH(a b:Int):Int:=IntKind.i64.wrap ((BitVec.ofInt 64 a&&&BitVec.ofInt 64 b).toNat:Int)
def WR(a b:Int):Int:=IntKind.i64.wrap ((BitVec.ofInt 64 a|||BitVec.ofInt 64 b).toNat:Int)
def im(l:List dJ)(fd need:Int):(Int×Int)×Int:=(((Tb.o6 (l.map pR) fd need).1.b8,(Tb.o6 (l.map pR) fd need).1.rts),(Tb.o6 (l.map pR) fd need).2)
def kT(l:List dJ)(fd:Int):(Int×Int)×Int:=(((Tb.fj (l.map pR) fd).1.b8,(Tb.fj (l.map pR) fd).1.rts),(Tb.fj (l.map pR) fd).2)
def yK(l:List dJ)(fd:Int):List dJ×Int:=((Tb.oN (l.map pR) fd).1.map Sv,(Tb.oN (l.map pR) fd).2)
def PD(l:List dJ)(fd:Int):List dJ×Int×Int:=((Tb.ww (l.map pR) fd).1.map Sv,(Tb.ww (l.map pR) fd).2.1,(Tb.ww (l.map pR) fd).2.2)
def PF(l:List dJ)(fd n:Int):List dJ×Int:=((Tb.Ck (l.map pR) fd n).1.map Sv,(Tb.Ck (l.map pR) fd n).2)
def WT(c:Int×Int):RV:= .agg [.ai (.val (.int .i64 c.1)),.ai (.val (.int .i64 c.2))]
theorem yL(l:List dJ):lY l=Tb.e8 (l.map pR):=by show _=CV.rv (.one (.ai (Tb.rQ (l.map pR))));rw[AZ];rfl
theorem EA(l:List dJ)(fd need:Int){m:Mem}{K:CV->Mem->Prop}(h:K (.bG [WT (im l fd need).1,cK (im l fd need).2]) m):ap prog 106 [lY l,al .i64 fd,al .i64 need] m K:=by rw[yL];exact Tb.lC _ fd need h
theorem SS(l:List dJ)(fd:Int){m:Mem}{K:CV->Mem->Prop}(h:K (.bG [WT (kT l fd).1,cK (kT l fd).2]) m):ap prog 82 [lY l,al .i64 fd] m K:=by rw[yL];exact Tb.yj _ fd h
theorem LV(l:List dJ)(hl:l.length<=2097152)(fd:Int){m:Mem}{K:CV->Mem->Prop}(h:K (.bG [B6 (yK l fd).1,cK (yK l fd).2]) m):ap prog 69 [lY l,al .i64 fd] m K:=by
 rw[yL];refine Tb.OW _ (by simpa using hl) fd ?_
 rw[qG];exact h
theorem SU(l:List dJ)(hl:l.length<=2097152)(fd:Int){m:Mem}{K:CV->Mem->Prop}(h:K (.bG [B6 (PD l fd).1,cK (PD l fd).2.1,cK (PD l fd).2.2]) m):ap prog 70 [lY l,al .i64 fd] m K:=by
 rw[yL];refine Tb.Wm _ (by simpa using hl) fd ?_
 rw[qG];exact h
theorem LW(l:List dJ)(hl:l.length<=2097152)(fd n:Int){m:Mem}{K:CV->Mem->Prop}(h:K (.bG [B6 (PF l fd n).1,cK (PF l fd n).2]) m):ap prog 71 [lY l,al .i64 fd,al .i64 n] m K:=by
 rw[yL];refine Tb.O1 _ (by simpa using hl) fd n ?_
 rw[qG];exact h
def li(ops:List aT)(z:Int):Int:=match ops[z.toNat]? with|some o=>o.obj|none=>0
def pW(ops:List aT)(z:Int):Int:=match ops[z.toNat]? with|some o=>o.di|none=>0
def bC(k:Kr)(p:Nat)(fd need:Int):(Int×Int)×Int×Int:=
 if(im (aO k.ps p) fd need).2≠0 then((0,0),0,(im (aO k.ps p) fd need).2)else((im (aO k.ps p) fd need).1,li k.ops (im (aO k.ps p) fd need).1.1,0)
def fR(k:Kr)(p:Nat)(l:List dJ)(e:Int):Kr:=if e=0 then⟨k.l,k.ops,dI k.ps p l⟩else k
def cu(k:Kr)(l:List Obj)(e:Int):Kr:=if e=0 then⟨l,k.ops,k.ps⟩else k
structure KW(k:Kr)(p:Nat):Prop where
 kr:dV k.l k.ops k.ps
 l40:k.l.length<=40
 EB:yI k.l
 lk:oO (k.l.map Obj.ob)
 nm:∀o,o∈k.l->∀e,e∈o.ag.map kO->e.1.size<=12
 hp:p<k.ps.length
 cap:∀s,s∈aO k.ps p->s.has=true->∃n j:Nat,s.b8=n/\n<k.ops.length/\li k.ops n=j/\j<k.l.length
theorem j8{ps:List aL}{p:Nat}(hp:p<ps.length):aO ps p=ps[p].an:=by rw[aO,wy hp]
theorem yM{l:List dJ}{fd need:Int}(h:(im l fd need).2=0):∃s,s∈l/\s.has=true/\(im l fd need).1=(s.b8,s.rts):=by
 unfold im Tb.o6 at h|-;split at h
 .simp at h
 .rename_i hn;rw[if_neg hn];unfold Tb.fj at h|-;cases hx:(if 0<=fd then(l.map pR)[fd.toNat]? else none)with
  |none=>rw[hx]at h;simp at h
  |some s=>
   rw[hx]at h;simp only at h|-;cases hh:s.has with
   |false=>rw[hh]at h;simp at h
   |true=>
    split at hx
    .rw[Qu]at hx;cases hy:l[fd.toNat]? with
     |none=>rw[hy]at hx;cases hx
     |some t=>
      rw[hy]at hx;simp only[aa3,abe]at hx;subst hx;exact⟨t,Vm hy,hh,rfl⟩
    .cases hx
theorem KW.at{k:Kr}{p:Nat}(h:KW k p){fd need:Int}(he:(im (aO k.ps p) fd need).2=0):∃n j:Nat,(im (aO k.ps p) fd need).1.1=n/\n<k.ops.length/\li k.ops n=j/\j<k.l.length:=by
 obtain⟨s,hs,hh,e⟩:=yM he;obtain⟨n,j,h1,h2⟩:=h.cap s hs hh;exact⟨n,j,by rw[e];exact h1,h2⟩
theorem KW.held{k:Kr}{p:Nat}(h:KW k p){fd need:Int}(he:(bC k p fd need).2.2=0):∃n j:Nat,(bC k p fd need).1.1=n/\n<k.ops.length/\(bC k p fd need).2.1=j/\j<k.l.length/\li k.ops n=j:=by
 unfold bC at he|-;split at he
 .rename_i hn;exact absurd he hn
 .rename_i hn;rw[if_neg hn];obtain⟨n,j,h1,h2,h3,h4⟩:=h.at (Decidable.of_not_not hn);exact⟨n,j,h1,h2,by show li k.ops _=_;rw[h1];exact h3,h4,h3⟩
theorem KW.oi{k:Kr}{p:Nat}(h:KW k p):mF k.l:=⟨h.kr.ll,λo ho=>(h.kr.sm o ho).oi⟩
theorem iW{m:Mem}{Z:Nat->Prop}{id esz:Nat}{p:Option Nat}{ds:List (List Dt)}(hz:Z id)(hm:m[id]? =some (.row esz (aa ds))):cS m Z p (.row id esz 0 none) (.sl esz ds):=by
 refine cS.row id esz 0 none (aa ds) ds hz hm (by simp[aa]) (λi cs es h1 h2=>?_) (λi cs es j c d h1 h2 h3 h4=>?_)
 .simp only[aa,Qu,h2,aa3,abe]at h1;subst h1;simp
 .simp only[aa,Qu,h2,aa3,abe]at h1;subst h1;rw[Qu,h4]at h3;cases h3;exact .ai _
theorem nY(k:Kr)(p:Nat):xB k p≠.aE:=by intro h;cases h
theorem pX(c:Cl):cB c≠.aE:=by intro h;cases h
theorem WU{Y:Nat->Nat}{m:Mem}{Z:Nat->Prop}{id p:Nat}{a b c:CC}{k:Kr}(ha:cS m Z (some id) a (cT k.l))(hb:cS m Z (some id) b (de k.ops))(hc:cS m Z (some id) c (dZ k.ps)):
  oC Y m Z id (.var [a,b,c,.ai (.val (.int .i64 (p:Nat)))]) (xB k p):=
 dy.var (.cons (.dG ha) (.cons (.dG hb) (.cons (.dG hc) (.cons (.aN (.ai _)) .nil))))
theorem JF{f:Nat}{args:List CV}(ha:∀Y,args.map (CV.aN Y)=args){k k':Kr}{p:Nat}{r0:CV}(hr:∀Y,r0.aN Y=r0)(hc:ap prog f (.rv (.one (.ptr 0 0))::args) [xB k p] (λr m=>r=r0/\m=[xB k' p])){m:Mem}(id:Nat)(hb:dh m id=some (xB k p)){K:CV->Mem->Prop}(hK:K r0 (aX m id (xB k' p))):ap prog f (.rv (.one (.ptr id 0))::args) m K:=by
 have hid:id<m.length:=by rw[aW]at hb;exact(Lw.1 hb).1
 refine be [id] m.length rfl rfl rfl (by simp[eh,hid]) (args0:= .rv (.one (.ptr 0 0))::args) (by rw[ab2,ha];rfl) (λi b' hi=>?_) hc (λr1 m1 C7=>?_)
 .cases i with
  |zero=>
   simp at hi;subst hi;refine .inr ⟨λh=>h,_,?_,.eq rfl (nY _ _)⟩
   rw[aW]at hb;exact hb
  |succ i=>simp at hi
 .obtain⟨rfl,rfl⟩:=C7;refine⟨aai _,?_⟩;rw[hr];show K _ (dt m [id] [xB k' p]);rw[xW];exact hK
theorem Va{f:Nat}{args:List CV}(ha:∀Y,args.map (CV.aN Y)=args){k k':Kr}{p:Nat}{c:Cl}{r0:CV}(hr:∀Y,r0.aN Y=r0)(hc:ap prog f (.rv (.one (.ptr 0 0)):: .rv (.one (.ptr 1 0))::args) [xB k p,cB c] (λr m=>r=r0/\m=[xB k' p,cB c])){m:Mem}(i j:Nat)(sM:gR [i,j]=true)(ax:eh m.length [i,j]=true)(hi:dh m i=some (xB k p))(hj:dh m j=some (cB c)){K:CV->Mem->Prop}(hK:K r0 (dt m [i,j] [xB k' p,cB c])):ap prog f (.rv (.one (.ptr i 0)):: .rv (.one (.ptr j 0))::args) m K:=by
 refine be [i,j] m.length rfl rfl sM ax (args0:= .rv (.one (.ptr 0 0)):: .rv (.one (.ptr 1 0))::args) (by rw[ab2,ab2,ha];rfl) (λn b' hn=>?_) hc (λr1 m1 C7=>?_)
 .match n,hn with
  |0,hn=>
   cases hn;refine .inr ⟨λh=>h,_,?_,.eq rfl (nY _ _)⟩
   rw[aW]at hi;exact hi
  |1,hn=>
   cases hn;refine .inr ⟨λh=>h,_,?_,.eq rfl (pX _)⟩
   rw[aW]at hj;exact hj
  |n+2,hn=>simp at hn
 .obtain⟨rfl,rfl⟩:=C7;refine⟨aai _,?_⟩;rw[hr];exact hK
theorem l65:bs prog f65=some c65.er:=by kernel_rfl
def SV(x:(Int×Int)×Int×Int):CV:= .bG [WT x.1,cK x.2.1,cK x.2.2]
def aeL:LC:=bi (bi c65.code)
def aeM:LC:=l5 aeL
theorem EC(k:Kr)(p:Nat)(hw:KW k p)(fd need:Int):
  aw prog 1 aeM (nu prog c65.lM (λr m=>r=SV (bC k p fd need)/\∃ex,m=xB k p::ex))
   ⟨i5 44 [(0,.rv (.one (.ptr 0 0))),(6,.rv (.one (.ptr 1 0))),(9,.rv (.one (.ptr 2 0))),(10,al .i64 (im (aO k.ps p) fd need).2)],
    [xB k p,.var [.ai (.val (.int .i64 0)),.ai (.val (.int .i64 0))],.var [.ai (.val (.int .i64 (im (aO k.ps p) fd need).1.1)),.ai (.val (.int .i64 (im (aO k.ps p) fd need).1.2))]]⟩:=by
 have vK:= @KW.at k p hw fd need;have IQ:bC k p fd need=if(im (aO k.ps p) fd need).2≠0 then((0,0),0,(im (aO k.ps p) fd need).2)else((im (aO k.ps p) fd need).1,li k.ops (im (aO k.ps p) fd need).1.1,0):=rfl
 rw[IQ];clear IQ;generalize im (aO k.ps p) fd need=w at vK|-;obtain⟨⟨o,r⟩,e⟩:=w;refine bF (λhe=>?_) (λhe=>?_)
 .rw[if_pos he];exact⟨rfl,_,rfl⟩
 .have he:e=0:=he;subst he;obtain⟨n,j,h1,h2,h3,h4⟩:=vK rfl;have h1:o=n:=h1;subst h1;rw[if_neg aD];refine af (mZ h2) ?_;have ho:li k.ops (n:Int)=k.ops[n].obj:=by rw[li,aal,wy h2]
  refine⟨⟨rfl,af (mZ h2) rfl,rfl,rfl,trivial⟩,?_⟩;show _=SV ((_,_),li k.ops (n:Int),0)/\_;rw[ho];exact⟨rfl,_,rfl⟩
theorem uL(k:Kr)(p:Nat)(hw:KW k p)(fd need:Int):
  body prog c65 [.rv (.one (.ptr 0 0)),al .i64 fd,al .i64 need] [xB k p] (λr m=>r=SV (bC k p fd need)/\∃ex,m=xB k p::ex):=by
 have hg:=eK hw.hp;rw[<-j8 hw.hp]at hg;refine af hg ?_;refine⟨?_,?_⟩
 .refine EA _ fd need ?_;refine⟨trivial,⟨rfl,af hg rfl,rfl,rfl,trivial⟩,trivial,_,View.o1 3 [0,1,2] [] ?_,EC k p hw fd need⟩
  .exact .au
 .refine⟨⟨rfl,af hg rfl,rfl,rfl,trivial⟩,?_⟩;refine EA _ fd need ?_;refine⟨trivial,trivial,_,View.o1 3 [0,1,2] [] ?_,EC k p hw fd need⟩
  .exact .au
theorem lC(k:Kr)(p:Nat)(hw:KW k p)(fd need:Int){m:Mem}(id:Nat)(hb:dh m id=some (xB k p)){K:CV->Mem->Prop}(hK:K (SV (bC k p fd need)) m):
  ap prog 65 [.rv (.one (.ptr id 0)),al .i64 fd,al .i64 need] m K:=
 gk (args0:=[.rv (.one (.ptr 0 0)),al .i64 fd,al .i64 need]) (cs:=xC k p) id hb rfl rfl
  (λ_ hK=>fB rfl (cE func65 l65 (uL k p hw fd need)) hK) hK
theorem l72:bs prog f72=some c72:=by kernel_rfl
theorem l78:bs prog f78=some c78:=by kernel_rfl
def TX(Q:CV->Mem->Prop)(r:CV)(m:Mem):Prop:=∃r' m',View 1 ⟨[r],m⟩ ⟨[r'],m'⟩/\Q r' m'
theorem Hn{ps:List aL}{n:Nat}(hn:n<ps.length)(y:List dJ):aX (aa (ps.map aL.enc)) n ((aL.enc ⟨ps[n].aF,ps[n].fenced,ps[n].code,y⟩).map .ai)=aa ((dI ps n y).map aL.enc):=by
 have:dI ps n y=ps.set n {ps[n]with an:=y}:=by rw[dI,wy hn]
 rw[this,bh,aa,aa,abW,abW]
theorem Ho(k:Kr)(p:Nat)(hk:dV k.l k.ops k.ps)(hp:p<k.ps.length)(l:List dJ)(e:Int):
  body prog c72 [.rv (.one (.ptr 0 0)),lY l,al .i64 e] [xB k p] (TX λr m=>r=al .i64 e/\m=[xB (fR k p l e) p]):=by
 refine ba (λhe=>?_) (λhe=>?_)
 .have he:e=0:=he;subst he;refine jh k.l k.ops k.ps ⟨hk.ll,λo ho=>(hk.sm o ho).oi⟩ hk.lo hk.lp hk.sl hk.ne ?_
  refine af (ng hp) ?_;refine af (bm aL.enc k.ps hp) ?_;refine⟨trivial,_,_,View.o 4 [0] [1,2,3] (.eq rfl .nil) (.pt rfl rfl (WU (k:=fR k p l 0) (iW rfl rfl) (iW rfl rfl) (iW rfl ?_)) (.nil _)),rfl,rfl⟩;refine congrArg (λx=>some (Bk.row 4 x)) ?_
  exact Hn hp l
 .have he:¬e=0:=he;refine⟨_,_,View.o 1 [0] [] (.eq rfl .nil) (.pt rfl rfl (.eq rfl (nY _ _)) (.nil _)),rfl,?_⟩;rw[fR,if_neg he]
theorem ED(k:Kr)(p:Nat)(hk:dV k.l k.ops k.ps)(hp:p<k.ps.length)(l:List dJ)(e:Int){m:Mem}(id:Nat)(hb:dh m id=some (xB k p)){K:CV->Mem->Prop}(hK:K (al .i64 e) (aX m id (xB (fR k p l e) p))):
  ap prog 72 [.rv (.one (.ptr id 0)),lY l,al .i64 e] m K:=
 JF (args:=[lY l,al .i64 e]) (λ_=>rfl) (λ_=>rfl)
  (bK (aP func72 l72 (Ho k p hk hp l e)) λr m1⟨r',m',hv,hq⟩=>⟨r',m',hv,hq⟩) id hb hK
theorem CA(k:Kr)(p:Nat)(hk:dV k.l k.ops k.ps)(l:List Obj)(e:Int):
  body prog c78 [.rv (.one (.ptr 0 0)),cJ l,al .i64 e] [xB k p] (TX λr m=>r=al .i64 e/\m=[xB (cu k l e) p]):=by
 refine ba (λhe=>?_) (λhe=>?_)
 .have he:e=0:=he;subst he;refine jh k.l k.ops k.ps ⟨hk.ll,λo ho=>(hk.sm o ho).oi⟩ hk.lo hk.lp hk.sl hk.ne ?_
  exact⟨_,_,View.o 4 [0] [1,2,3] (.eq rfl .nil) (.pt rfl rfl (WU (k:=cu k l 0) (.ai _) (iW rfl rfl) (iW rfl rfl)) (.nil _)),rfl,rfl⟩
 .have he:¬e=0:=he;refine⟨_,_,View.o 1 [0] [] (.eq rfl .nil) (.pt rfl rfl (.eq rfl (nY _ _)) (.nil _)),rfl,?_⟩;rw[cu,if_neg he]
theorem oQ(k:Kr)(p:Nat)(hk:dV k.l k.ops k.ps)(l:List Obj)(e:Int){m:Mem}(id:Nat)(hb:dh m id=some (xB k p)){K:CV->Mem->Prop}(hK:K (al .i64 e) (aX m id (xB (cu k l e) p))):
  ap prog 78 [.rv (.one (.ptr id 0)),cJ l,al .i64 e] m K:=
 JF (args:=[cJ l,al .i64 e]) (λ_=>rfl) (λ_=>rfl)
  (bK (aP func78 l78 (CA k p hk l e)) λr m1⟨r',m',hv,hq⟩=>⟨r',m',hv,hq⟩) id hb hK
end Kn
namespace Kn
def PG(k:Kr)(n:Nat)(obj rts:Int)(r:CV)(m:Mem):Prop:=∃r' m',View 0 ⟨[r],m⟩ ⟨[r'],m'⟩/\
 (((aI k n obj rts).2.2≠0/\r'= .bG [kK tu,cK 0,cK (aI k n obj rts).2.2]/\m'=[])\/
 ((aI k n obj rts).2.2=0/\r'= .bG [.agg [.row 0 9 0 none,.ai (de (aI k n obj rts).1.ops),.ai (dZ (aI k n obj rts).1.ps)],cK (aI k n obj rts).2.1,cK 0]/\m'=[.row 9 (aa ((aI k n obj rts).1.l.map Obj.enc))]))
theorem t3V{Y:Nat->Nat}{m:Mem}{Z:Nat->Prop}{a a' b b' c c':RV}(h1:zu Y m Z a a')(h2:zu Y m Z b b')(h0:zu Y m Z c c'):sq Y m Z (.bG [a,b,c]) (.bG [a',b',c']):=
 .bG rfl λi r r' e1 e2=>by
  match i,e1,e2 with
  |0,e1,e2=>cases e1;cases e2;exact h1
  |1,e1,e2=>cases e1;cases e2;exact h2
  |2,e1,e2=>cases e1;cases e2;exact h0
  |n+3,e1,e2=>simp at e1
theorem aeN{Y:Nat->Nat}{m:Mem}{Z:Nat->Prop}{x y:Int}:sq Y m Z (.bG [.agg [.bt,.bt,.bt],cK x,cK y]) (.bG [kK tu,cK x,cK y]):=
 t3V (.agg rfl λi c c' h1 h2=>by
  match i,h1,h2 with
  |0,h1,h2=>cases h1;cases h2;exact .dG (.bt 9)
  |1,h1,h2=>cases h1;cases h2;exact .dG (.bt 2)
  |2,h1,h2=>cases h1;cases h2;exact .dG (.bt 4)
  |n+3,h1,h2=>simp at h1) (.one (.aN (.ai _))) (.one (.aN (.ai _)))
def Q18(k:Kr)(n:Nat)(obj rts:Int):Ex->St->Prop:=nu prog c81.lM (PG k n obj rts)
theorem EE{k:Kr}{n:Nat}{obj rts e:Int}{m:Mem}(h:aI k n obj rts=(tu,0,e))(he:e≠0):PG k n obj rts (.bG [.agg [.bt,.bt,.bt],cK 0,cK e]) m:=by refine⟨_,[],View.of m.length [] [] rfl rfl rfl rfl rfl rfl (.put aeN .nil) (.nil _),.inl ?_⟩;rw[h];exact⟨he,rfl,rfl⟩
theorem PH(k:Kr)(l:List Obj)(O:List aT)(ps:List aL)(n i:Nat)(hn:n<ps.length)(hi:i<O.length)(obj fd rts:Int)(y:List dJ)(h:aI k n obj rts=(⟨l,O.set i ⟨obj,0⟩,dI ps n y⟩,fd,0)):
  aw prog 0 G60 (Q18 k n obj rts)
   ⟨i5 74 [(1,al .i64 (n:Nat)),(2,al .i64 obj),(8,.rv (.one (.ptr 0 0))),(11,al .i64 (i:Nat)),(12,lY y),(13,al .i64 fd),(15,.rv (.one (.ptr 4 0)))],M60 l O ps⟩:=by
 refine af (B9 hi) ?_;have ho:=bm aT.enc O hi;generalize O[i]=x at ho;obtain⟨xo,xa⟩:=x;refine af ho ?_;refine af (ng hn) ?_;have hp:=bm aL.enc ps hn;have i3:dI ps n y=ps.set n {ps[n]with an:=y}:=by rw[dI,wy hn]
 rw[i3]at h;generalize ps[n]=z at hp h;obtain⟨aF,fenced,cd,an⟩:=z;refine af hp ?_;refine⟨.bG [.agg [.row 0 9 0 none,.ai (de (O.set i ⟨obj,0⟩)),.ai (dZ (ps.set n ⟨aF,fenced,cd,y⟩))],cK fd,cK 0],[.row 9 (aa (l.map Obj.enc))],
  View.o 5 [1] [2,3] (.put (t3V (.agg rfl λj c c' h1 h2=>?_) (.one (.aN (.ai _))) (.one (.aN (.ai _)))) .nil) (.pn rfl rfl rfl),.inr ⟨by rw[h],by rw[h],by rw[h]⟩⟩
 match j,h1,h2 with
 |0,h1,h2=>cases h1;cases h2;exact .aN (Y:=sg [1] 5) (.row 0 9 0 none)
 |1,h1,h2=>
  cases h1;cases h2;refine .dG (iW rfl (congrArg (λx=>some (Bk.row 2 x)) ?_))
  show aX (aa (O.map aT.enc)) i ((aT.enc ⟨obj,0⟩).map .ai)=_;rw[bh,aa,aa,abW,abW]
 |2,h1,h2=>
  cases h1;cases h2;refine .dG (iW rfl (congrArg (λx=>some (Bk.row 4 x)) ?_))
  show aX (aa (ps.map aL.enc)) n ((aL.enc ⟨aF,fenced,cd,y⟩).map .ai)=_;rw[bh,aa,aa,abW,abW]
 |n+3,h1,h2=>simp at h1
theorem PI(k:Kr)(hk:dV k.l k.ops k.ps)(n:Nat)(hn:n<k.ps.length)(obj rts:Int)(i:Nat)(hi:i=dm k.ops)(MW:i<=k.ops.length)(kj:¬(Fy k.ops=none/\k.ops.length>=60)):
  aw prog 0 G30 (Q18 k n obj rts)
   ⟨i5 74 [(1,al .i64 (n:Nat)),(2,al .i64 obj),(3,al .i64 rts),(4,.rv (.one (.ptr 0 0))),(8,.rv (.one (.ptr 1 0))),(11,al .i64 (i:Nat))],[.var ((kC k.l k.ops k.ps).map .ai),.var [.bt,.bt,.bt]]⟩:=by
 have Fz:aO k.ps n=k.ps[n].an:=by rw[aO,wy hn]
 have nf:=hk.sl _ (aaR hn);have Wn:k.ops.length<=4194304:=hk.lo;have hS:aI k n obj rts=if(gx k.ps[n].an (i:Nat) rts).2.2≠0 then(tu,0,(gx k.ps[n].an (i:Nat) rts).2.2)
   else(⟨k.l,jL k.ops i ⟨obj,0⟩,dI k.ps n (gx k.ps[n].an (i:Nat) rts).1⟩,(gx k.ps[n].an (i:Nat) rts).2.1,0):=by
  rw[aI,if_neg kj,Fz,<-hi]
 refine af (eK hn) ?_;generalize k.ps[n].an=S at nf hS;refine Ch S om (i:Nat) rts ?_;generalize gx S (i:Nat) rts=A at hS;obtain⟨y,fd,e⟩:=A;refine bF (λhe=>?_) (λhe=>?_)
 .rw[if_pos he]at hS;exact EE hS he
 have he:e=0:=he;subst he;rw[if_neg aD]at hS;refine jh k.l k.ops k.ps ⟨hk.ll,λo ho=>(hk.sm o ho).oi⟩ hk.lo hk.lp hk.sl hk.ne ?_
 refine ba (λiw=>?_) (λiw=>?_)
 .have iw:i=k.ops.length:=by have iw:(i:Int)=((aa (k.ops.map aT.enc)).length:Int):=iw;rw[aJ,O9]at iw;omega
  have jE:jL k.ops i ⟨obj,0⟩=(k.ops++ [aT.mk 0 0]).set i ⟨obj,0⟩:=by rw[jL,if_pos iw,iw];simp
  rw[jE]at hS;refine⟨by simp only[bA,aJ,O9,aa2,abO];omega,?_⟩
  refine⟨_,View.o1 8 [1,2,7,4,5] [] ?_,PH k k.l (k.ops++ [aT.mk 0 0]) k.ps n i hn (by simp;omega) obj fd rts y hS⟩
  .exact .pe rfl rfl rfl (.pr rfl rfl rfl (.pt rfl rfl (.bn (by simp[bA,aa,aT.enc])) (.pr rfl rfl rfl (.pm rfl rfl rfl))))
 .have ax:i<k.ops.length:=by have iw:¬(i:Int)=((aa (k.ops.map aT.enc)).length:Int):=iw;rw[aJ,O9]at iw;omega
  have jE:jL k.ops i ⟨obj,0⟩=k.ops.set i ⟨obj,0⟩:=by rw[jL,if_neg om]
  rw[jE]at hS;refine⟨_,View.o1 6 [1,2,3,4,5] [] ?_,PH k k.l k.ops k.ps n i hn ax obj fd rts y hS⟩
  .exact .au
theorem CB(k:Kr)(hk:dV k.l k.ops k.ps)(n:Nat)(hn:n<k.ps.length)(obj rts:Int):body prog c81 [cA k.l k.ops k.ps,al .i64 (n:Nat),al .i64 obj,al .i64 rts] [] (PG k n obj rts):=by
 refine Jq k.ops hk.lo ?_;have Wn:k.ops.length<=4194304:=hk.lo;cases ho:Fy k.ops with
 |none=>
  have Wo:M7 k.ops= -1:=by rw[M7,ho]
  have OY:dm k.ops=k.ops.length:=by rw[dm,ho];rfl
  rw[Wo];refine am (λwx=>?_) (λwx=>?_)
  .have wx:k.ops.length>=60:=by have wx:((k.ops.map aT.enc).length:Int)>=60:=wx;rw[O9]at wx;omega
   exact EE (by rw[aI,if_pos ⟨ho,wx⟩]) (by decide)
  .have wx:¬k.ops.length>=60:=by have wx:¬((k.ops.map aT.enc).length:Int)>=60:=wx;rw[O9]at wx;omega
   refine⟨_,View.o 2 [0,1] [] ?_ ?_,PI k hk n hn obj rts k.ops.length OY.symm (aai _) (λh=>wx h.2)⟩
   .have hlen:al .i64 (((k.ops.map aT.enc).length:Nat):Int)=al .i64 ((k.ops.length:Nat):Int):=by rw[O9]
    repeat(first|exact .nil|refine .aH ?_|refine .eq rfl ?_)
    refine .eq hlen.symm ?_;repeat(first|exact .nil|refine .aH ?_|refine .eq rfl ?_)
   .exact .au
 |some i=>
  have Wo:M7 k.ops=(i:Nat):=by rw[M7,ho]
  have OY:dm k.ops=i:=by rw[dm,ho];rfl
  have MW:=Ci ho;rw[Wo];refine⟨_,View.o1 2 [0,1] [] ?_,PI k hk n hn obj rts i OY.symm om (λh=>by rw[ho]at h;cases h.1)⟩
  .exact .au
theorem yN(k:Kr)(hk:dV k.l k.ops k.ps)(n:Nat)(hn:n<k.ps.length)(obj rts:Int){m:Mem}{K:CV->Mem->Prop}(h1:(aI k n obj rts).2.2≠0->K (.bG [kK tu,cK 0,cK (aI k n obj rts).2.2]) m)(h2:(aI k n obj rts).2.2=0->K (.bG [.agg [.row m.length 9 0 none,.ai (de (aI k n obj rts).1.ops),.ai (dZ (aI k n obj rts).1.ps)],cK (aI k n obj rts).2.1,cK 0]) (m++ [.row 9 (aa ((aI k n obj rts).1.l.map Obj.enc))])):
  ap prog 81 [cA k.l k.ops k.ps,al .i64 (n:Nat),al .i64 obj,al .i64 rts] m K:=by
 refine be [] m.length rfl rfl rfl rfl rfl (λi b' hi=>by simp at hi)
  (bK (cE func81 l81 (CB k hk n hn obj rts)) λr m1⟨r',m',hv,hq⟩=>⟨r',m',hv,hq⟩) (λr m1 hp=>⟨WG _,?_⟩)
 rcases hp with⟨e1,rfl,rfl⟩|⟨e1,rfl,rfl⟩
 .have:=h1 e1;show K _ (fT m []);rw[cf,ab9];exact this
 .have:=h2 e1;show K _ (fT m [Bk.aN _ _]);rw[cf,Bk.ei];exact this
end Kn
def c79:LF:=Cq prog f79 [] [[(d9 6 0 (.cons 6 (some []) (d9 7 7 .nil)))]]
namespace Kn
def ic(o:Obj):Obj:={o with aG:= -1,aQ:= -1}
def Hp(f:R4):CV:= .rv (.agg ((Yl f).map .ai))
def nN(l:List Obj)(f:R4)(n:Int):List Obj×Int:=cr (bT.gn f.name) l f.dir (bT.cU f.name) n
def cQ(k:Kr)(f:R4)(o:Obj):Kr×Int×Int:=
 if(aM k.l (ic o)).2.2≠0 then(k,0,(aM k.l (ic o)).2.2)
 else(cu k (nN (aM k.l (ic o)).1 f (aM k.l (ic o)).2.1).1 (nN (aM k.l (ic o)).1 f (aM k.l (ic o)).2.1).2,(aM k.l (ic o)).2.1,(nN (aM k.l (ic o)).1 f (aM k.l (ic o)).2.1).2)
structure SX(o:Obj):Prop where
 sm:o.sm
 en:o.ag=[]
theorem SX.ic{o:Obj}(h:SX o):SX (ic o):=⟨⟨h.sm.t,h.sm.d,h.sm.e,h.sm.q,h.sm.qd⟩,h.en⟩
theorem yI.make{l:List Obj}(h:yI l){o:Obj}(ho:SX o):yI (aM l o).1:=by
 have key:∀l',(∀x,x∈l'->x∈l\/x=o)->l.length<=l'.length->l'.length<=4194304->yI l':=λl' hm hl Du=>by
  refine⟨⟨Du,λx hx=>?_⟩,λx hx=>?_⟩
  .rcases hm x hx with hx|rfl
   .exact h.oi.2 x hx
   .exact ho.sm.oi
  .rcases hm x hx with hx|rfl
   .obtain⟨es,h1,h2,h3,h4⟩:=h.en x hx;exact⟨es,h1,h2,h3,λe he=>⟨(h4 e he).1,by have:=(h4 e he).2;omega⟩⟩
   .exact⟨[],ho.en,List.Pairwise.nil,aD,aD⟩
 have hf:=h.oi.1;unfold aM;split
 .rename_i k _;refine key _ (λx hx=>abF hx) aD (by simpa using hf)
 .split
  .exact⟨⟨aD,aD⟩,aD⟩
  .refine key _ (λx hx=>by simpa using hx) aD (by simp only[abT,aa2,abO];omega)
theorem l79:bs prog f79=some c79:=by kernel_rfl
def aaz(a b:Int):CV:= .bG [cK a,cK b]
theorem EF(k:Kr)(p:Nat)(hw:KW k p)(f:R4)(o:Obj)(ho:SX o):
  body prog c79 [.rv (.one (.ptr 0 0)),Hp f,o.cv] [xB k p] (TX λr m=>r=aaz (cQ k f o).2.1 (cQ k f o).2.2/\m=[xB (cQ k f o).1 p]):=by
 have hs:=yI.make hw.EB ho.ic;refine B5 k.l hw.oi (ic o) ?_;have hS:cQ k f o=if(aM k.l (ic o)).2.2≠0 then(k,0,(aM k.l (ic o)).2.2)
  else(cu k (nN (aM k.l (ic o)).1 f (aM k.l (ic o)).2.1).1 (nN (aM k.l (ic o)).1 f (aM k.l (ic o)).2.1).2,(aM k.l (ic o)).2.1,(nN (aM k.l (ic o)).1 f (aM k.l (ic o)).2.1).2):=rfl
 rw[hS];clear hS;generalize aM k.l (ic o)=M at hs|-;obtain⟨l,n,e⟩:=M;refine⟨trivial,?_⟩;refine bF (λhe=>?_) (λhe=>?_)
 .rw[if_pos he];exact⟨_,_,View.o 3 [0] [] (.eq rfl .nil) (.pt rfl rfl (.eq rfl (nY _ _)) (.nil _)),rfl,rfl⟩
 .have he:e=0:=he;subst he;rw[if_neg aD];refine LP l hs f.dir n (bT.cU f.name) (bT.gn f.name) (λh=>bT.tf f.name h) ?_
  refine oQ k p hw.kr _ _ 0 rfl ?_;exact⟨_,_,View.o 3 [0] [] (.eq rfl .nil) (.pt rfl rfl (.eq rfl (nY _ _)) (.nil _)),rfl,rfl⟩
theorem uQ(k:Kr)(p:Nat)(hw:KW k p)(f:R4)(o:Obj)(ho:SX o){m:Mem}(id:Nat)(hb:dh m id=some (xB k p)){K:CV->Mem->Prop}(hK:K (aaz (cQ k f o).2.1 (cQ k f o).2.2) (aX m id (xB (cQ k f o).1 p))):ap prog 79 [.rv (.one (.ptr id 0)),Hp f,o.cv] m K:=
 JF (args:=[Hp f,o.cv]) (λ_=>rfl) (λ_=>rfl)
  (bK (aP func79 l79 (EF k p hw f o ho)) λr m1⟨r',m',hv,hq⟩=>⟨r',m',hv,hq⟩) id hb hK
end Kn
end Go.Proofs.YtllkfpggoigbaaaGreatDoor
