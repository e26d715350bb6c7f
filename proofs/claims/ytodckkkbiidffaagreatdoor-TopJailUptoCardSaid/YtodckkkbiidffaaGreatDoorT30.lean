/- Part 30 of 39: what the law stands on. -/
import Derived.Test.YtodckkkbiidffaaGreatDoorT16
import Derived.Test.YtodckkkbiidffaaGreatDoorT29
set_option linter.unusedVariables false
set_option linter.unusedSimpArgs false
set_option linter.unnecessarySimpa false
set_option maxRecDepth 100000
set_option maxHeartbeats 64000000
namespace Go.Proofs.YtodckkkbiidffaaGreatDoor
open Go.AM Go.ChangeShapes Go.WideShapes Go.ChangeAt Go.RowKit
def kO(p:Nat)(c:CC)(k:Nat)(o:Obj):List CC:=[.aa (.val (.int .i64 o.ah)),.aa (.sl 1 o.data),(if k=p then c else .aa (.sl 2 o.aj)),.aa (.val (.string o.target)),.aa (.val (.int .i64 o.aC)),.aa (.sl 4 (o.ak.map bo.enc)),.aa (.val (.int .i64 o.aM)),.aa (.val (.int .i64 o.am)),.aa (.val (.int .i64 o.up))]
def bN(p:Nat)(c:CC)(l:List Obj):List (List CC):=(l.zipIdx.map fun x=>kO p c x.2 x.1)
theorem eW(p:Nat)(c:CC)(l:List Obj)(i:Nat):(bN p c l)[i]? =(l[i]?).map (kO p c i):=by
 simp only[bN,NO,List.getElem?_zipIdx,aai];cases l[i]? <;>rfl
theorem gn(p:Nat)(c:CC)(l:List Obj):(bN p c l).length=l.length:=by simp[bN]
theorem EO(p Q:Nat)(l:List Obj):bL p Q 0 l=bN p (.row Q 2 0 none) l:=by apply aaL;intro i;rw[fl,eW,aai];rfl
theorem gp{p:Nat}{c:CC}{l:List Obj}{k:Nat}{o:Obj}(hk:k<l.length):aZ (bN p c l) k (kO p c k o)=bN p c (l.set k o):=by
 rw[bg];apply aaL;intro i;rw[eW];by_cases h:k=i
 .subst h;rw[Pr (by rw[gn];exact hk),Pr hk]
  rfl
 .rw[Wf h,Wf h,eW]
theorem CS{p:Nat}{c c':CC}{l:List Obj}{o:Obj}(hp:l[p]? =some o):aZ (bN p c l) p (kO p c' p o)=bN p c' l:=by
 have ix:=(Gf.1 hp).1;rw[bg];apply aaL;intro i;rw[eW];by_cases h:p=i
 .subst h;rw[Pr (by rw[gn];exact ix),hp]
  rfl
 .rw[Wf h,eW];cases l[i]? with
  |none=>rfl
  |some x=>
   have h2:¬i=p:=fun e=>h e.symm
   simp only[Wn,kO,if_neg h2]
theorem Aq{m:Mem}{Z:Nat->Prop}{pp:Option Nat}{id p:Nat}{c:CC}{l:List Obj}{o:Obj}{E:List (List Dt)}(hz:Z id)(hm:m[id]? =some (.row 9 (bN p c l)))(hq:dj m Z (some id) c (.sl 2 E))(hp:l[p]? =some o):
  dj m Z pp (.row id 9 0 none) (c7 (l.set p {o with aj:=E})):=by
 have ix:=(Gf.1 hp).1;have key:∀(i:Nat)cs es,(bN p c l)[i]? =some cs->((l.set p {o with aj:=E}).map Obj.enc)[i]? =some es->gV m Z (some id) cs es:=by
  intro i cs es h1 h2;rw[eW]at h1;rw[NO]at h2;by_cases h:p=i
  .subst h;rw[Pr ix]at h2;rw[hp]at h1;cases h1;cases h2;simp only[kO,if_pos,Obj.enc];exact .cons (.aa _) (.cons (.aa _) (.cons hq (.cons (.aa _) (.cons (.aa _) (.cons (.aa _) (.cons (.aa _) (.cons (.aa _) (.cons (.aa _) .nil))))))))
  .rw[Wf h]at h2;cases hx:l[i]? with
   |none=>rw[hx]at h1;cases h1
   |some x=>
    rw[hx]at h1 h2;cases h1;cases h2;have h3:¬i=p:=fun e=>h e.symm
    simp only[kO,if_neg h3,Obj.enc];exact .cons (.aa _) (.cons (.aa _) (.cons (.aa _) (.cons (.aa _) (.cons (.aa _) (.cons (.aa _) (.cons (.aa _) (.cons (.aa _) (.cons (.aa _) .nil))))))))
 exact dj.row id 9 0 none _ _ hz hm (by rw[gn,KB,Yy]) (fun i cs es h1 h2=>(key i cs es h1 h2).len) (fun i cs es j c d h1 h2 h3 h4=>(key i cs es h1 h2).get j c d h3 h4)
def jJ(l:List Obj)(n k:Nat)(name:ByteArray):List Obj:=match l[n]? with
 |none=>l
 |some o=>match (l.set n {o with aj:=((o.aj.map ma).filter fun e=>decide (e.1.toList≠name.toList)).map fw})[k]? with
  |none=>l
  |some q=>(l.set n {o with aj:=((o.aj.map ma).filter fun e=>decide (e.1.toList≠name.toList)).map fw}).set k {q with am:=IntKind.i64.wrap (q.am-1),up:=if q.ah=2 then(k:Int)else q.up}
def uz(o:Obj)(l:List Obj)(n:Nat)(name:ByteArray):List Obj×Int×Int:=
 if o.ah≠2 then([],0,11)else if dG (o.aj.map ma) name<0 then([],0,6)else match l[(dG (o.aj.map ma) name).toNat]? with
  |none=>([],0,6)
  |some q=>if q.ah=2/\q.aj.length>0 then([],0,18)else(jJ l n (dG (o.aj.map ma) name).toNat name,dG (o.aj.map ma) name,0)
def cL(l:List Obj)(cD:Int)(name:ByteArray):List Obj×Int×Int:=
 if nH l cD 0=true then(match l[cD.toNat]? with
  |none=>([],0,6)
  |some o=>uz o l cD.toNat name)else([],0,6)
theorem iE{l:List Obj}{n k:Nat}(hn:n<l.length)(hk:k<l.length){name:ByteArray}{E:List (List Dt)}(hE:E=((l[n].aj.map ma).filter fun e=>decide (e.1.toList≠name.toList)).map fw){q:Obj}(hq:q={l[k]with am:=IntKind.i64.wrap (l[k].am-1),up:=if l[k].ah=2 then(k:Int)else l[k].up}):
  ∃o2,(l.set k q)[n]? =some o2/\(l.set k q).set n {o2 with aj:=E}=jJ l n k name:=by
 subst hE;unfold jJ;rw[sA hn];simp only[];by_cases h:k=n
 .subst h;rw[Pr hn,Pr hn];refine⟨_,rfl,?_⟩;simp only[abn];subst hq;rfl
 .rw[Wf h,sA hn,Wf (fun e=>h e.symm),sA hk]
  refine⟨_,rfl,?_⟩;simp only[];rw[List.set_comm _ _ h,<-hq]
theorem Gx{es:List NE}(hs:B9 es){name:ByteArray}(h:¬dG es name<0)(dd:∀e,e∈es->0<=e.2):∃a x b,es=a++x::b/\x.1.toList=name.toList/\x.2=dG es name/\(∀e,e∈a->e.1.toList≠name.toList)/\(∀e,e∈b->e.1.toList≠name.toList)/\es.filter (fun e=>decide (e.1.toList≠name.toList))=a++b:=by
 rcases iA es name with⟨x,hx,h1,h2⟩|⟨h2,_⟩
 .obtain⟨a,b,rfl⟩:=List.append_of_mem hx;have hu:∀y,y∈a++x::b->y.1.toList=name.toList->y=x:=fun y hy he=>tS hs hy hx (he.trans h1.symm)
  have hp:=hs;unfold B9 at hp;rw[List.pairwise_append,abq]at hp;have Yl:∀e,e∈a->e.1.toList≠name.toList:=fun e he h3=>by have:=hp.2.2 e he x aI;rw[xJ,h3,<-h1,mT]at this;cases this
  have Ym:∀e,e∈b->e.1.toList≠name.toList:=fun e he h3=>by have:=hp.2.1.1 e he;rw[xJ,h3,<-h1,mT]at this;cases this
  refine⟨a,x,b,rfl,h1,h2.symm,Yl,Ym,?_⟩;rw[ab0,ab6,if_neg (by simpa using h1),abW.2 (fun e he=>by simpa using Yl e he),abW.2 (fun e he=>by simpa using Ym e he)]
 .rw[h2]at h;omega
def Py(R:List Obj×Int×Int)(r:CV)(m:Mem):Prop:=∃r' m',View 0 ⟨[r],m⟩ ⟨[r'],m'⟩/\r'= .bF [li R.1,cC R.2.1,cC R.2.2]/\m'=[]
theorem lw{R:List Obj×Int×Int}{m:Mem}(e:Int)(h:R=([],0,e)):Py R (.bF [.one .aB,cC 0,cC e]) m:=by subst h;exact⟨_,_,View.of m.length [] [] rfl rfl rfl rfl rfl rfl (.put (SO (.one (.eZ (.aB 9))) (.one (.aQ (.aa _))) (.one (.aQ (.aa _)))) .nil) (.nil _),rfl,rfl⟩
theorem yj(l:List Obj)(hs:uy l)(cD:Int)(name:ByteArray):body Tryz.prog c68 [cq l,an .i64 cD,dh name] [] (Py (cL l cD name)):=by
 refine aJ (fun h1=>?_) (fun h1=>?_)
 .exact lw 6 (by unfold cL;rw[ut h1];rfl)
 obtain⟨n,rfl⟩:∃n:Nat,cD=n:=⟨cD.toNat,by have h1:¬cD<0:=h1;omega⟩
 refine aJ (fun h2=>?_) (fun h2=>?_)
 .have h2:(n:Int)>=((l.map Obj.enc).length:Int):=h2;rw[KB]at h2;exact lw 6 (by unfold cL;rw[uu h2];rfl)
 have h2:¬(n:Int)>=((l.map Obj.enc).length:Int):=h2;rw[KB]at h2;have hn:n<l.length:=om;have KT:=gI hn;refine ag KT ?_;refine bA (fun h3=>?_) (fun h3=>?_)
 .exact lw 6 (by unfold cL;rw[uv hn h3];rfl)
 have h3:l[n].ah≠0:=h3;have hR:cL l n name=uz l[n] l n name:=by unfold cL;rw[if_pos (uw hn h3),Wk,sA hn]
 rw[hR];unfold uz;refine ag KT ?_;refine bt (fun h7=>?_) (fun h7=>?_)
 .exact lw 11 (if_pos h7)
 have h7:l[n].ah=2:=by simpa using h7
 rw[if_neg (by rw[h7];simp)]
 obtain⟨es,he,yg,Mj,dd⟩:=hs.en _ (Wl hn);have NU:l[n].aj.map ma=es:=by rw[he,lO]
 refine Ah l n hn h7 es he om name ?_;have Uq:ul l es n name=dG es name:=wC yg name;rw[Uq,NU];refine aJ (fun h9=>?_) (fun h9=>?_)
 .exact lw 6 (if_pos h9)
 have h9:¬dG es name<0:=h9;rw[if_neg h9];obtain⟨a,x,b,Be,hx,TT,ha,hb,Ww⟩:=Gx yg h9 fun e he=>(dd e he).1
 have hxr:=dd x (by rw[Be];simp)
 obtain⟨k,hk⟩:∃k:Nat,dG es name=k:=⟨(dG es name).toNat,om⟩;have fj:k<l.length:=om;have Pn:=gI fj;rw[hk,Wk,sA fj];simp only[];have SR:a.length+b.length<=4194303:=by rw[Be]at Mj;simp at Mj;omega
 have mv:∀c,cR (bN n c l) n=some [.aa (.val (.int .i64 l[n].ah)),.aa (.sl 1 l[n].data),c,.aa (.val (.string l[n].target)),.aa (.val (.int .i64 l[n].aC)),.aa (.sl 4 (l[n].ak.map bo.enc)),.aa (.val (.int .i64 l[n].aM)),.aa (.val (.int .i64 l[n].am)),.aa (.val (.int .i64 l[n].up))]:=fun c=>by rw[aU,eW,sA hn,Wn,kO,if_pos rfl]
 have Ur:yc l n l.length= .row 2 (af ((a++x::b).map cK)):=by
  unfold yc;rw[show Nat.blt n l.length=true by simpa using hn]
  show Bk.row 2 (af (match l[n]? with|some o=>o.aj|none=>[]))=_
  rw[sA hn];show Bk.row 2 (af l[n].aj)=_;rw[he,Be];rfl
 have d5:∀(c:CC)(l2:List Obj)(j:Nat),l2.length=l.length->j<l.length->dp (j:Nat) (lenOf (bN n c l2).length 0 none)=some j:=fun c l2 j h hj=>bZ (by rw[show lenOf (bN n c l2).length 0 none=l2.length from gn n c l2,h];exact hj)
 have Gs:((a++b).map cK)=((l[n].aj.map ma).filter fun e=>decide (e.1.toList≠name.toList)).map fw:=by rw[NU,Ww];rfl
 have im:∀L2:List Obj,L2=jJ l n k name->aw Tryz.prog 0 G88 (mJ Tryz.prog c68.jW (Py (jJ l n k name,(k:Int),0))) ⟨kR 90 [(9,an .i64 (k:Nat)),(10,cq L2)],[]⟩:=fun L2 h=>by subst h;exact⟨_,_,View.o 0 [] [] (.eq rfl .nil) (.nil _),rfl,rfl⟩
 have lI:(aZ (bN n (.row 2 2 0 none) l) n [.aa (.val (.int .i64 l[n].ah)),.aa (.sl 1 l[n].data),.row 2 2 0 (some (a.length+b.length)),.aa (.val (.string l[n].target)),.aa (.val (.int .i64 l[n].aC)),.aa (.sl 4 (l[n].ak.map bo.enc)),.aa (.val (.int .i64 l[n].aM)),.aa (.val (.int .i64 l[n].am)),.aa (.val (.int .i64 l[n].up))])=bN n (.row 2 2 0 (some (a.length+b.length))) l:=by have:=CS (p:=n) (c:= .row 2 2 0 none) (c':= .row 2 2 0 (some (a.length+b.length))) (sA hn);rw[<-this,kO,if_pos rfl]
 have qk:cu ((a++b++ [Ml]).map cK) 0 (some (a.length+b.length))=(a++b).map cK:=by show((a++b++ [Ml]).map cK).take (a.length+b.length)=_;rw[aav,List.take_left' aI]
 have hq:∀m:Mem,m[2]? =some (.row 2 (af ((a++b++ [Ml]).map cK)))->dj m (fun k=>bz [1,2] k=true) (some 1) (.row 2 2 0 (some (a.length+b.length))) (.sl 2 ((a++b).map cK)):=fun m hm=>by
  have:=dj.dX (Z:=fun k=>bz [1,2] k=true) (p:=some 1) rfl hm 0 (some (a.length+b.length))
  rw[qk]at this;exact this
 refine ag Pn ?_;refine bA (fun A9=>?_) (fun A9=>?_)
 .refine ag Pn ?_;refine aJ (fun rY=>?_) (fun rY=>?_)
  .exact lw 18 (if_pos ⟨A9,by have rY:(l[k].aj.length:Int)>0:=rY;omega⟩)
  .rw[if_neg (fun h=>rY (by show(l[k].aj.length:Int)>0;omega))]
   refine yf l hs.mz n ?_;rw[Ur,EO];refine ag (d5 (.row 2 2 0 none) l n rfl hn) ?_;refine ag (mv (.row 2 2 0 none)) ?_;refine EN a b x SR name hx ha hb 2 0 rfl rfl rfl rfl ?_;refine ag (d5 (.row 2 2 0 none) l n rfl hn) ?_;refine ag (mv (.row 2 2 0 none)) ?_;by_cases Gy:k=n
   .have JR:cR (bN n (.row 2 2 0 (some (a.length+b.length))) l) k=some [.aa (.val (.int .i64 l[k].ah)),.aa (.sl 1 l[k].data),.row 2 2 0 (some (a.length+b.length)),.aa (.val (.string l[k].target)),.aa (.val (.int .i64 l[k].aC)),.aa (.sl 4 (l[k].ak.map bo.enc)),.aa (.val (.int .i64 l[k].aM)),.aa (.val (.int .i64 l[k].am)),.aa (.val (.int .i64 l[k].up))]:=by rw[aU,eW,sA fj,Wn,kO,if_pos Gy]
    have mR:(aZ (aZ (bN n (.row 2 2 0 none) l) n [.aa (.val (.int .i64 l[n].ah)),.aa (.sl 1 l[n].data),.row 2 2 0 (some (a.length+b.length)),.aa (.val (.string l[n].target)),.aa (.val (.int .i64 l[n].aC)),.aa (.sl 4 (l[n].ak.map bo.enc)),.aa (.val (.int .i64 l[n].aM)),.aa (.val (.int .i64 l[n].am)),.aa (.val (.int .i64 l[n].up))]) k [.aa (.val (.int .i64 l[k].ah)),.aa (.sl 1 l[k].data),.row 2 2 0 (some (a.length+b.length)),.aa (.val (.string l[k].target)),.aa (.val (.int .i64 l[k].aC)),.aa (.sl 4 (l[k].ak.map bo.enc)),.aa (.val (.int .i64 l[k].aM)),.aa (.val (.int .i64 (IntKind.i64.wrap (l[k].am-1)))),.aa (.val (.int .i64 l[k].up))])=bN n (.row 2 2 0 (some (a.length+b.length))) (l.set k {l[k]with am:=(IntKind.i64.wrap (l[k].am-1))}):=by
     rw[lI];have:=gp (p:=n) (c:= .row 2 2 0 (some (a.length+b.length))) (o:={l[k]with am:=(IntKind.i64.wrap (l[k].am-1))}) fj
     rw[<-this,kO,if_pos Gy]
    have sR:cR (aZ (aZ (bN n (.row 2 2 0 none) l) n [.aa (.val (.int .i64 l[n].ah)),.aa (.sl 1 l[n].data),.row 2 2 0 (some (a.length+b.length)),.aa (.val (.string l[n].target)),.aa (.val (.int .i64 l[n].aC)),.aa (.sl 4 (l[n].ak.map bo.enc)),.aa (.val (.int .i64 l[n].aM)),.aa (.val (.int .i64 l[n].am)),.aa (.val (.int .i64 l[n].up))]) k [.aa (.val (.int .i64 l[k].ah)),.aa (.sl 1 l[k].data),.row 2 2 0 (some (a.length+b.length)),.aa (.val (.string l[k].target)),.aa (.val (.int .i64 l[k].aC)),.aa (.sl 4 (l[k].ak.map bo.enc)),.aa (.val (.int .i64 l[k].aM)),.aa (.val (.int .i64 (IntKind.i64.wrap (l[k].am-1)))),.aa (.val (.int .i64 l[k].up))]) k=some [.aa (.val (.int .i64 l[k].ah)),.aa (.sl 1 l[k].data),.row 2 2 0 (some (a.length+b.length)),.aa (.val (.string l[k].target)),.aa (.val (.int .i64 l[k].aC)),.aa (.sl 4 (l[k].ak.map bo.enc)),.aa (.val (.int .i64 l[k].aM)),.aa (.val (.int .i64 (IntKind.i64.wrap (l[k].am-1)))),.aa (.val (.int .i64 l[k].up))]:=by
     rw[bg,aU,Pr (by rw[lI,gn];exact fj)]
    refine ag (by rw[lI];exact d5 _ l k rfl fj:dp (k:Nat) (lenOf (aZ (bN n (.row 2 2 0 none) l) n [.aa (.val (.int .i64 l[n].ah)),.aa (.sl 1 l[n].data),.row 2 2 0 (some (a.length+b.length)),.aa (.val (.string l[n].target)),.aa (.val (.int .i64 l[n].aC)),.aa (.sl 4 (l[n].ak.map bo.enc)),.aa (.val (.int .i64 l[n].aM)),.aa (.val (.int .i64 l[n].am)),.aa (.val (.int .i64 l[n].up))]).length 0 none)=some k) ?_
    refine ag (by rw[lI];exact JR:cR (aZ (bN n (.row 2 2 0 none) l) n [.aa (.val (.int .i64 l[n].ah)),.aa (.sl 1 l[n].data),.row 2 2 0 (some (a.length+b.length)),.aa (.val (.string l[n].target)),.aa (.val (.int .i64 l[n].aC)),.aa (.sl 4 (l[n].ak.map bo.enc)),.aa (.val (.int .i64 l[n].aM)),.aa (.val (.int .i64 l[n].am)),.aa (.val (.int .i64 l[n].up))]) k=some [.aa (.val (.int .i64 l[k].ah)),.aa (.sl 1 l[k].data),.row 2 2 0 (some (a.length+b.length)),.aa (.val (.string l[k].target)),.aa (.val (.int .i64 l[k].aC)),.aa (.sl 4 (l[k].ak.map bo.enc)),.aa (.val (.int .i64 l[k].aM)),.aa (.val (.int .i64 l[k].am)),.aa (.val (.int .i64 l[k].up))]) ?_
    refine ag (by rw[lI];exact d5 _ l k rfl fj:dp (k:Nat) (lenOf (aZ (bN n (.row 2 2 0 none) l) n [.aa (.val (.int .i64 l[n].ah)),.aa (.sl 1 l[n].data),.row 2 2 0 (some (a.length+b.length)),.aa (.val (.string l[n].target)),.aa (.val (.int .i64 l[n].aC)),.aa (.sl 4 (l[n].ak.map bo.enc)),.aa (.val (.int .i64 l[n].aM)),.aa (.val (.int .i64 l[n].am)),.aa (.val (.int .i64 l[n].up))]).length 0 none)=some k) ?_
    refine ag (by rw[lI];exact JR:cR (aZ (bN n (.row 2 2 0 none) l) n [.aa (.val (.int .i64 l[n].ah)),.aa (.sl 1 l[n].data),.row 2 2 0 (some (a.length+b.length)),.aa (.val (.string l[n].target)),.aa (.val (.int .i64 l[n].aC)),.aa (.sl 4 (l[n].ak.map bo.enc)),.aa (.val (.int .i64 l[n].aM)),.aa (.val (.int .i64 l[n].am)),.aa (.val (.int .i64 l[n].up))]) k=some [.aa (.val (.int .i64 l[k].ah)),.aa (.sl 1 l[k].data),.row 2 2 0 (some (a.length+b.length)),.aa (.val (.string l[k].target)),.aa (.val (.int .i64 l[k].aC)),.aa (.sl 4 (l[k].ak.map bo.enc)),.aa (.val (.int .i64 l[k].aM)),.aa (.val (.int .i64 l[k].am)),.aa (.val (.int .i64 l[k].up))]) ?_
    refine ag (by rw[mR];exact d5 _ _ k (Yy ..) fj:dp (k:Nat) (lenOf (aZ (aZ (bN n (.row 2 2 0 none) l) n [.aa (.val (.int .i64 l[n].ah)),.aa (.sl 1 l[n].data),.row 2 2 0 (some (a.length+b.length)),.aa (.val (.string l[n].target)),.aa (.val (.int .i64 l[n].aC)),.aa (.sl 4 (l[n].ak.map bo.enc)),.aa (.val (.int .i64 l[n].aM)),.aa (.val (.int .i64 l[n].am)),.aa (.val (.int .i64 l[n].up))]) k [.aa (.val (.int .i64 l[k].ah)),.aa (.sl 1 l[k].data),.row 2 2 0 (some (a.length+b.length)),.aa (.val (.string l[k].target)),.aa (.val (.int .i64 l[k].aC)),.aa (.sl 4 (l[k].ak.map bo.enc)),.aa (.val (.int .i64 l[k].aM)),.aa (.val (.int .i64 (IntKind.i64.wrap (l[k].am-1)))),.aa (.val (.int .i64 l[k].up))]).length 0 none)=some k) ?_
    refine ag sR ?_;refine bA (fun oD=>?_) (fun oD=>?_)
    .have oD:l[k].ah=2:=oD;have JM:(aZ (aZ (aZ (bN n (.row 2 2 0 none) l) n [.aa (.val (.int .i64 l[n].ah)),.aa (.sl 1 l[n].data),.row 2 2 0 (some (a.length+b.length)),.aa (.val (.string l[n].target)),.aa (.val (.int .i64 l[n].aC)),.aa (.sl 4 (l[n].ak.map bo.enc)),.aa (.val (.int .i64 l[n].aM)),.aa (.val (.int .i64 l[n].am)),.aa (.val (.int .i64 l[n].up))]) k [.aa (.val (.int .i64 l[k].ah)),.aa (.sl 1 l[k].data),.row 2 2 0 (some (a.length+b.length)),.aa (.val (.string l[k].target)),.aa (.val (.int .i64 l[k].aC)),.aa (.sl 4 (l[k].ak.map bo.enc)),.aa (.val (.int .i64 l[k].aM)),.aa (.val (.int .i64 (IntKind.i64.wrap (l[k].am-1)))),.aa (.val (.int .i64 l[k].up))]) k [.aa (.val (.int .i64 l[k].ah)),.aa (.sl 1 l[k].data),.row 2 2 0 (some (a.length+b.length)),.aa (.val (.string l[k].target)),.aa (.val (.int .i64 l[k].aC)),.aa (.sl 4 (l[k].ak.map bo.enc)),.aa (.val (.int .i64 l[k].aM)),.aa (.val (.int .i64 (IntKind.i64.wrap (l[k].am-1)))),.aa (.val (.int .i64 (k:Nat)))])=bN n (.row 2 2 0 (some (a.length+b.length))) (l.set k {l[k]with am:=(IntKind.i64.wrap (l[k].am-1)),up:=(k:Int)}):=by
      rw[mR];have:=gp (p:=n) (c:= .row 2 2 0 (some (a.length+b.length))) (l:=l.set k {l[k]with am:=(IntKind.i64.wrap (l[k].am-1))}) (k:=k) (o:={l[k]with am:=(IntKind.i64.wrap (l[k].am-1)),up:=(k:Int)}) (by rw[Yy];exact fj)
      rw[abn]at this;rw[<-this,kO,if_pos Gy]
     refine ag (by rw[mR];exact d5 _ _ k (Yy ..) fj:dp (k:Nat) (lenOf (aZ (aZ (bN n (.row 2 2 0 none) l) n [.aa (.val (.int .i64 l[n].ah)),.aa (.sl 1 l[n].data),.row 2 2 0 (some (a.length+b.length)),.aa (.val (.string l[n].target)),.aa (.val (.int .i64 l[n].aC)),.aa (.sl 4 (l[n].ak.map bo.enc)),.aa (.val (.int .i64 l[n].aM)),.aa (.val (.int .i64 l[n].am)),.aa (.val (.int .i64 l[n].up))]) k [.aa (.val (.int .i64 l[k].ah)),.aa (.sl 1 l[k].data),.row 2 2 0 (some (a.length+b.length)),.aa (.val (.string l[k].target)),.aa (.val (.int .i64 l[k].aC)),.aa (.sl 4 (l[k].ak.map bo.enc)),.aa (.val (.int .i64 l[k].aM)),.aa (.val (.int .i64 (IntKind.i64.wrap (l[k].am-1)))),.aa (.val (.int .i64 l[k].up))]).length 0 none)=some k) ?_
     refine ag sR ?_;obtain⟨o2,nr,eA⟩:=iE (name:=name) hn fj Gs (q:={l[k]with am:=(IntKind.i64.wrap (l[k].am-1)),up:=(k:Int)}) (by rw[if_pos oD])
     refine⟨_,View.o 3 [] [1,2] ?_ (.nil _),im _ eA⟩
     iterate 9 refine .ar ?_
     refine .eq rfl ?_;refine .put (.rv (.one (.eZ (p:=none) (Aq (Z:=fun k=>bz [1,2] k=true) rfl (by show some (Bk.row 9 _)=some (Bk.row 9 _);congr 1;exact congrArg _ JM) (hq _ rfl) nr)))) ?_
     repeat(first|exact .nil|refine .ar ?_)
    .have oD:l[k].ah≠2:=oD;obtain⟨o2,nr,eA⟩:=iE (name:=name) hn fj Gs (q:={l[k]with am:=(IntKind.i64.wrap (l[k].am-1))}) (by rw[if_neg oD])
     refine⟨_,View.o 3 [] [1,2] ?_ (.nil _),im _ eA⟩
     iterate 9 refine .ar ?_
     refine .eq rfl ?_;refine .put (.rv (.one (.eZ (p:=none) (Aq (Z:=fun k=>bz [1,2] k=true) rfl (by show some (Bk.row 9 _)=some (Bk.row 9 _);congr 1;exact congrArg _ mR) (hq _ rfl) nr)))) ?_
     repeat(first|exact .nil|refine .ar ?_)
   .have JR:cR (bN n (.row 2 2 0 (some (a.length+b.length))) l) k=some [.aa (.val (.int .i64 l[k].ah)),.aa (.sl 1 l[k].data),.aa (.sl 2 l[k].aj),.aa (.val (.string l[k].target)),.aa (.val (.int .i64 l[k].aC)),.aa (.sl 4 (l[k].ak.map bo.enc)),.aa (.val (.int .i64 l[k].aM)),.aa (.val (.int .i64 l[k].am)),.aa (.val (.int .i64 l[k].up))]:=by rw[aU,eW,sA fj,Wn,kO,if_neg Gy]
    have mR:(aZ (aZ (bN n (.row 2 2 0 none) l) n [.aa (.val (.int .i64 l[n].ah)),.aa (.sl 1 l[n].data),.row 2 2 0 (some (a.length+b.length)),.aa (.val (.string l[n].target)),.aa (.val (.int .i64 l[n].aC)),.aa (.sl 4 (l[n].ak.map bo.enc)),.aa (.val (.int .i64 l[n].aM)),.aa (.val (.int .i64 l[n].am)),.aa (.val (.int .i64 l[n].up))]) k [.aa (.val (.int .i64 l[k].ah)),.aa (.sl 1 l[k].data),.aa (.sl 2 l[k].aj),.aa (.val (.string l[k].target)),.aa (.val (.int .i64 l[k].aC)),.aa (.sl 4 (l[k].ak.map bo.enc)),.aa (.val (.int .i64 l[k].aM)),.aa (.val (.int .i64 (IntKind.i64.wrap (l[k].am-1)))),.aa (.val (.int .i64 l[k].up))])=bN n (.row 2 2 0 (some (a.length+b.length))) (l.set k {l[k]with am:=(IntKind.i64.wrap (l[k].am-1))}):=by
     rw[lI];have:=gp (p:=n) (c:= .row 2 2 0 (some (a.length+b.length))) (o:={l[k]with am:=(IntKind.i64.wrap (l[k].am-1))}) fj
     rw[<-this,kO,if_neg Gy]
    have sR:cR (aZ (aZ (bN n (.row 2 2 0 none) l) n [.aa (.val (.int .i64 l[n].ah)),.aa (.sl 1 l[n].data),.row 2 2 0 (some (a.length+b.length)),.aa (.val (.string l[n].target)),.aa (.val (.int .i64 l[n].aC)),.aa (.sl 4 (l[n].ak.map bo.enc)),.aa (.val (.int .i64 l[n].aM)),.aa (.val (.int .i64 l[n].am)),.aa (.val (.int .i64 l[n].up))]) k [.aa (.val (.int .i64 l[k].ah)),.aa (.sl 1 l[k].data),.aa (.sl 2 l[k].aj),.aa (.val (.string l[k].target)),.aa (.val (.int .i64 l[k].aC)),.aa (.sl 4 (l[k].ak.map bo.enc)),.aa (.val (.int .i64 l[k].aM)),.aa (.val (.int .i64 (IntKind.i64.wrap (l[k].am-1)))),.aa (.val (.int .i64 l[k].up))]) k=some [.aa (.val (.int .i64 l[k].ah)),.aa (.sl 1 l[k].data),.aa (.sl 2 l[k].aj),.aa (.val (.string l[k].target)),.aa (.val (.int .i64 l[k].aC)),.aa (.sl 4 (l[k].ak.map bo.enc)),.aa (.val (.int .i64 l[k].aM)),.aa (.val (.int .i64 (IntKind.i64.wrap (l[k].am-1)))),.aa (.val (.int .i64 l[k].up))]:=by
     rw[bg,aU,Pr (by rw[lI,gn];exact fj)]
    refine ag (by rw[lI];exact d5 _ l k rfl fj:dp (k:Nat) (lenOf (aZ (bN n (.row 2 2 0 none) l) n [.aa (.val (.int .i64 l[n].ah)),.aa (.sl 1 l[n].data),.row 2 2 0 (some (a.length+b.length)),.aa (.val (.string l[n].target)),.aa (.val (.int .i64 l[n].aC)),.aa (.sl 4 (l[n].ak.map bo.enc)),.aa (.val (.int .i64 l[n].aM)),.aa (.val (.int .i64 l[n].am)),.aa (.val (.int .i64 l[n].up))]).length 0 none)=some k) ?_
    refine ag (by rw[lI];exact JR:cR (aZ (bN n (.row 2 2 0 none) l) n [.aa (.val (.int .i64 l[n].ah)),.aa (.sl 1 l[n].data),.row 2 2 0 (some (a.length+b.length)),.aa (.val (.string l[n].target)),.aa (.val (.int .i64 l[n].aC)),.aa (.sl 4 (l[n].ak.map bo.enc)),.aa (.val (.int .i64 l[n].aM)),.aa (.val (.int .i64 l[n].am)),.aa (.val (.int .i64 l[n].up))]) k=some [.aa (.val (.int .i64 l[k].ah)),.aa (.sl 1 l[k].data),.aa (.sl 2 l[k].aj),.aa (.val (.string l[k].target)),.aa (.val (.int .i64 l[k].aC)),.aa (.sl 4 (l[k].ak.map bo.enc)),.aa (.val (.int .i64 l[k].aM)),.aa (.val (.int .i64 l[k].am)),.aa (.val (.int .i64 l[k].up))]) ?_
    refine ag (by rw[lI];exact d5 _ l k rfl fj:dp (k:Nat) (lenOf (aZ (bN n (.row 2 2 0 none) l) n [.aa (.val (.int .i64 l[n].ah)),.aa (.sl 1 l[n].data),.row 2 2 0 (some (a.length+b.length)),.aa (.val (.string l[n].target)),.aa (.val (.int .i64 l[n].aC)),.aa (.sl 4 (l[n].ak.map bo.enc)),.aa (.val (.int .i64 l[n].aM)),.aa (.val (.int .i64 l[n].am)),.aa (.val (.int .i64 l[n].up))]).length 0 none)=some k) ?_
    refine ag (by rw[lI];exact JR:cR (aZ (bN n (.row 2 2 0 none) l) n [.aa (.val (.int .i64 l[n].ah)),.aa (.sl 1 l[n].data),.row 2 2 0 (some (a.length+b.length)),.aa (.val (.string l[n].target)),.aa (.val (.int .i64 l[n].aC)),.aa (.sl 4 (l[n].ak.map bo.enc)),.aa (.val (.int .i64 l[n].aM)),.aa (.val (.int .i64 l[n].am)),.aa (.val (.int .i64 l[n].up))]) k=some [.aa (.val (.int .i64 l[k].ah)),.aa (.sl 1 l[k].data),.aa (.sl 2 l[k].aj),.aa (.val (.string l[k].target)),.aa (.val (.int .i64 l[k].aC)),.aa (.sl 4 (l[k].ak.map bo.enc)),.aa (.val (.int .i64 l[k].aM)),.aa (.val (.int .i64 l[k].am)),.aa (.val (.int .i64 l[k].up))]) ?_
    refine ag (by rw[mR];exact d5 _ _ k (Yy ..) fj:dp (k:Nat) (lenOf (aZ (aZ (bN n (.row 2 2 0 none) l) n [.aa (.val (.int .i64 l[n].ah)),.aa (.sl 1 l[n].data),.row 2 2 0 (some (a.length+b.length)),.aa (.val (.string l[n].target)),.aa (.val (.int .i64 l[n].aC)),.aa (.sl 4 (l[n].ak.map bo.enc)),.aa (.val (.int .i64 l[n].aM)),.aa (.val (.int .i64 l[n].am)),.aa (.val (.int .i64 l[n].up))]) k [.aa (.val (.int .i64 l[k].ah)),.aa (.sl 1 l[k].data),.aa (.sl 2 l[k].aj),.aa (.val (.string l[k].target)),.aa (.val (.int .i64 l[k].aC)),.aa (.sl 4 (l[k].ak.map bo.enc)),.aa (.val (.int .i64 l[k].aM)),.aa (.val (.int .i64 (IntKind.i64.wrap (l[k].am-1)))),.aa (.val (.int .i64 l[k].up))]).length 0 none)=some k) ?_
    refine ag sR ?_;refine bA (fun oD=>?_) (fun oD=>?_)
    .have oD:l[k].ah=2:=oD;have JM:(aZ (aZ (aZ (bN n (.row 2 2 0 none) l) n [.aa (.val (.int .i64 l[n].ah)),.aa (.sl 1 l[n].data),.row 2 2 0 (some (a.length+b.length)),.aa (.val (.string l[n].target)),.aa (.val (.int .i64 l[n].aC)),.aa (.sl 4 (l[n].ak.map bo.enc)),.aa (.val (.int .i64 l[n].aM)),.aa (.val (.int .i64 l[n].am)),.aa (.val (.int .i64 l[n].up))]) k [.aa (.val (.int .i64 l[k].ah)),.aa (.sl 1 l[k].data),.aa (.sl 2 l[k].aj),.aa (.val (.string l[k].target)),.aa (.val (.int .i64 l[k].aC)),.aa (.sl 4 (l[k].ak.map bo.enc)),.aa (.val (.int .i64 l[k].aM)),.aa (.val (.int .i64 (IntKind.i64.wrap (l[k].am-1)))),.aa (.val (.int .i64 l[k].up))]) k [.aa (.val (.int .i64 l[k].ah)),.aa (.sl 1 l[k].data),.aa (.sl 2 l[k].aj),.aa (.val (.string l[k].target)),.aa (.val (.int .i64 l[k].aC)),.aa (.sl 4 (l[k].ak.map bo.enc)),.aa (.val (.int .i64 l[k].aM)),.aa (.val (.int .i64 (IntKind.i64.wrap (l[k].am-1)))),.aa (.val (.int .i64 (k:Nat)))])=bN n (.row 2 2 0 (some (a.length+b.length))) (l.set k {l[k]with am:=(IntKind.i64.wrap (l[k].am-1)),up:=(k:Int)}):=by
      rw[mR];have:=gp (p:=n) (c:= .row 2 2 0 (some (a.length+b.length))) (l:=l.set k {l[k]with am:=(IntKind.i64.wrap (l[k].am-1))}) (k:=k) (o:={l[k]with am:=(IntKind.i64.wrap (l[k].am-1)),up:=(k:Int)}) (by rw[Yy];exact fj)
      rw[abn]at this;rw[<-this,kO,if_neg Gy]
     refine ag (by rw[mR];exact d5 _ _ k (Yy ..) fj:dp (k:Nat) (lenOf (aZ (aZ (bN n (.row 2 2 0 none) l) n [.aa (.val (.int .i64 l[n].ah)),.aa (.sl 1 l[n].data),.row 2 2 0 (some (a.length+b.length)),.aa (.val (.string l[n].target)),.aa (.val (.int .i64 l[n].aC)),.aa (.sl 4 (l[n].ak.map bo.enc)),.aa (.val (.int .i64 l[n].aM)),.aa (.val (.int .i64 l[n].am)),.aa (.val (.int .i64 l[n].up))]) k [.aa (.val (.int .i64 l[k].ah)),.aa (.sl 1 l[k].data),.aa (.sl 2 l[k].aj),.aa (.val (.string l[k].target)),.aa (.val (.int .i64 l[k].aC)),.aa (.sl 4 (l[k].ak.map bo.enc)),.aa (.val (.int .i64 l[k].aM)),.aa (.val (.int .i64 (IntKind.i64.wrap (l[k].am-1)))),.aa (.val (.int .i64 l[k].up))]).length 0 none)=some k) ?_
     refine ag sR ?_;obtain⟨o2,nr,eA⟩:=iE (name:=name) hn fj Gs (q:={l[k]with am:=(IntKind.i64.wrap (l[k].am-1)),up:=(k:Int)}) (by rw[if_pos oD])
     refine⟨_,View.o 3 [] [1,2] ?_ (.nil _),im _ eA⟩
     iterate 9 refine .ar ?_
     refine .eq rfl ?_;refine .put (.rv (.one (.eZ (p:=none) (Aq (Z:=fun k=>bz [1,2] k=true) rfl (by show some (Bk.row 9 _)=some (Bk.row 9 _);congr 1;exact congrArg _ JM) (hq _ rfl) nr)))) ?_
     repeat(first|exact .nil|refine .ar ?_)
    .have oD:l[k].ah≠2:=oD;obtain⟨o2,nr,eA⟩:=iE (name:=name) hn fj Gs (q:={l[k]with am:=(IntKind.i64.wrap (l[k].am-1))}) (by rw[if_neg oD])
     refine⟨_,View.o 3 [] [1,2] ?_ (.nil _),im _ eA⟩
     iterate 9 refine .ar ?_
     refine .eq rfl ?_;refine .put (.rv (.one (.eZ (p:=none) (Aq (Z:=fun k=>bz [1,2] k=true) rfl (by show some (Bk.row 9 _)=some (Bk.row 9 _);congr 1;exact congrArg _ mR) (hq _ rfl) nr)))) ?_
     repeat(first|exact .nil|refine .ar ?_)
 .rw[if_neg (fun h=>A9 h.1)]
  refine yf l hs.mz n ?_;rw[Ur,EO];refine ag (d5 (.row 2 2 0 none) l n rfl hn) ?_;refine ag (mv (.row 2 2 0 none)) ?_;refine EN a b x SR name hx ha hb 2 0 rfl rfl rfl rfl ?_;refine ag (d5 (.row 2 2 0 none) l n rfl hn) ?_;refine ag (mv (.row 2 2 0 none)) ?_;by_cases Gy:k=n
  .have JR:cR (bN n (.row 2 2 0 (some (a.length+b.length))) l) k=some [.aa (.val (.int .i64 l[k].ah)),.aa (.sl 1 l[k].data),.row 2 2 0 (some (a.length+b.length)),.aa (.val (.string l[k].target)),.aa (.val (.int .i64 l[k].aC)),.aa (.sl 4 (l[k].ak.map bo.enc)),.aa (.val (.int .i64 l[k].aM)),.aa (.val (.int .i64 l[k].am)),.aa (.val (.int .i64 l[k].up))]:=by rw[aU,eW,sA fj,Wn,kO,if_pos Gy]
   have mR:(aZ (aZ (bN n (.row 2 2 0 none) l) n [.aa (.val (.int .i64 l[n].ah)),.aa (.sl 1 l[n].data),.row 2 2 0 (some (a.length+b.length)),.aa (.val (.string l[n].target)),.aa (.val (.int .i64 l[n].aC)),.aa (.sl 4 (l[n].ak.map bo.enc)),.aa (.val (.int .i64 l[n].aM)),.aa (.val (.int .i64 l[n].am)),.aa (.val (.int .i64 l[n].up))]) k [.aa (.val (.int .i64 l[k].ah)),.aa (.sl 1 l[k].data),.row 2 2 0 (some (a.length+b.length)),.aa (.val (.string l[k].target)),.aa (.val (.int .i64 l[k].aC)),.aa (.sl 4 (l[k].ak.map bo.enc)),.aa (.val (.int .i64 l[k].aM)),.aa (.val (.int .i64 (IntKind.i64.wrap (l[k].am-1)))),.aa (.val (.int .i64 l[k].up))])=bN n (.row 2 2 0 (some (a.length+b.length))) (l.set k {l[k]with am:=(IntKind.i64.wrap (l[k].am-1))}):=by
    rw[lI];have:=gp (p:=n) (c:= .row 2 2 0 (some (a.length+b.length))) (o:={l[k]with am:=(IntKind.i64.wrap (l[k].am-1))}) fj
    rw[<-this,kO,if_pos Gy]
   have sR:cR (aZ (aZ (bN n (.row 2 2 0 none) l) n [.aa (.val (.int .i64 l[n].ah)),.aa (.sl 1 l[n].data),.row 2 2 0 (some (a.length+b.length)),.aa (.val (.string l[n].target)),.aa (.val (.int .i64 l[n].aC)),.aa (.sl 4 (l[n].ak.map bo.enc)),.aa (.val (.int .i64 l[n].aM)),.aa (.val (.int .i64 l[n].am)),.aa (.val (.int .i64 l[n].up))]) k [.aa (.val (.int .i64 l[k].ah)),.aa (.sl 1 l[k].data),.row 2 2 0 (some (a.length+b.length)),.aa (.val (.string l[k].target)),.aa (.val (.int .i64 l[k].aC)),.aa (.sl 4 (l[k].ak.map bo.enc)),.aa (.val (.int .i64 l[k].aM)),.aa (.val (.int .i64 (IntKind.i64.wrap (l[k].am-1)))),.aa (.val (.int .i64 l[k].up))]) k=some [.aa (.val (.int .i64 l[k].ah)),.aa (.sl 1 l[k].data),.row 2 2 0 (some (a.length+b.length)),.aa (.val (.string l[k].target)),.aa (.val (.int .i64 l[k].aC)),.aa (.sl 4 (l[k].ak.map bo.enc)),.aa (.val (.int .i64 l[k].aM)),.aa (.val (.int .i64 (IntKind.i64.wrap (l[k].am-1)))),.aa (.val (.int .i64 l[k].up))]:=by
    rw[bg,aU,Pr (by rw[lI,gn];exact fj)]
   refine ag (by rw[lI];exact d5 _ l k rfl fj:dp (k:Nat) (lenOf (aZ (bN n (.row 2 2 0 none) l) n [.aa (.val (.int .i64 l[n].ah)),.aa (.sl 1 l[n].data),.row 2 2 0 (some (a.length+b.length)),.aa (.val (.string l[n].target)),.aa (.val (.int .i64 l[n].aC)),.aa (.sl 4 (l[n].ak.map bo.enc)),.aa (.val (.int .i64 l[n].aM)),.aa (.val (.int .i64 l[n].am)),.aa (.val (.int .i64 l[n].up))]).length 0 none)=some k) ?_
   refine ag (by rw[lI];exact JR:cR (aZ (bN n (.row 2 2 0 none) l) n [.aa (.val (.int .i64 l[n].ah)),.aa (.sl 1 l[n].data),.row 2 2 0 (some (a.length+b.length)),.aa (.val (.string l[n].target)),.aa (.val (.int .i64 l[n].aC)),.aa (.sl 4 (l[n].ak.map bo.enc)),.aa (.val (.int .i64 l[n].aM)),.aa (.val (.int .i64 l[n].am)),.aa (.val (.int .i64 l[n].up))]) k=some [.aa (.val (.int .i64 l[k].ah)),.aa (.sl 1 l[k].data),.row 2 2 0 (some (a.length+b.length)),.aa (.val (.string l[k].target)),.aa (.val (.int .i64 l[k].aC)),.aa (.sl 4 (l[k].ak.map bo.enc)),.aa (.val (.int .i64 l[k].aM)),.aa (.val (.int .i64 l[k].am)),.aa (.val (.int .i64 l[k].up))]) ?_
   refine ag (by rw[lI];exact d5 _ l k rfl fj:dp (k:Nat) (lenOf (aZ (bN n (.row 2 2 0 none) l) n [.aa (.val (.int .i64 l[n].ah)),.aa (.sl 1 l[n].data),.row 2 2 0 (some (a.length+b.length)),.aa (.val (.string l[n].target)),.aa (.val (.int .i64 l[n].aC)),.aa (.sl 4 (l[n].ak.map bo.enc)),.aa (.val (.int .i64 l[n].aM)),.aa (.val (.int .i64 l[n].am)),.aa (.val (.int .i64 l[n].up))]).length 0 none)=some k) ?_
   refine ag (by rw[lI];exact JR:cR (aZ (bN n (.row 2 2 0 none) l) n [.aa (.val (.int .i64 l[n].ah)),.aa (.sl 1 l[n].data),.row 2 2 0 (some (a.length+b.length)),.aa (.val (.string l[n].target)),.aa (.val (.int .i64 l[n].aC)),.aa (.sl 4 (l[n].ak.map bo.enc)),.aa (.val (.int .i64 l[n].aM)),.aa (.val (.int .i64 l[n].am)),.aa (.val (.int .i64 l[n].up))]) k=some [.aa (.val (.int .i64 l[k].ah)),.aa (.sl 1 l[k].data),.row 2 2 0 (some (a.length+b.length)),.aa (.val (.string l[k].target)),.aa (.val (.int .i64 l[k].aC)),.aa (.sl 4 (l[k].ak.map bo.enc)),.aa (.val (.int .i64 l[k].aM)),.aa (.val (.int .i64 l[k].am)),.aa (.val (.int .i64 l[k].up))]) ?_
   refine ag (by rw[mR];exact d5 _ _ k (Yy ..) fj:dp (k:Nat) (lenOf (aZ (aZ (bN n (.row 2 2 0 none) l) n [.aa (.val (.int .i64 l[n].ah)),.aa (.sl 1 l[n].data),.row 2 2 0 (some (a.length+b.length)),.aa (.val (.string l[n].target)),.aa (.val (.int .i64 l[n].aC)),.aa (.sl 4 (l[n].ak.map bo.enc)),.aa (.val (.int .i64 l[n].aM)),.aa (.val (.int .i64 l[n].am)),.aa (.val (.int .i64 l[n].up))]) k [.aa (.val (.int .i64 l[k].ah)),.aa (.sl 1 l[k].data),.row 2 2 0 (some (a.length+b.length)),.aa (.val (.string l[k].target)),.aa (.val (.int .i64 l[k].aC)),.aa (.sl 4 (l[k].ak.map bo.enc)),.aa (.val (.int .i64 l[k].aM)),.aa (.val (.int .i64 (IntKind.i64.wrap (l[k].am-1)))),.aa (.val (.int .i64 l[k].up))]).length 0 none)=some k) ?_
   refine ag sR ?_;refine bA (fun oD=>?_) (fun oD=>?_)
   .have oD:l[k].ah=2:=oD;have JM:(aZ (aZ (aZ (bN n (.row 2 2 0 none) l) n [.aa (.val (.int .i64 l[n].ah)),.aa (.sl 1 l[n].data),.row 2 2 0 (some (a.length+b.length)),.aa (.val (.string l[n].target)),.aa (.val (.int .i64 l[n].aC)),.aa (.sl 4 (l[n].ak.map bo.enc)),.aa (.val (.int .i64 l[n].aM)),.aa (.val (.int .i64 l[n].am)),.aa (.val (.int .i64 l[n].up))]) k [.aa (.val (.int .i64 l[k].ah)),.aa (.sl 1 l[k].data),.row 2 2 0 (some (a.length+b.length)),.aa (.val (.string l[k].target)),.aa (.val (.int .i64 l[k].aC)),.aa (.sl 4 (l[k].ak.map bo.enc)),.aa (.val (.int .i64 l[k].aM)),.aa (.val (.int .i64 (IntKind.i64.wrap (l[k].am-1)))),.aa (.val (.int .i64 l[k].up))]) k [.aa (.val (.int .i64 l[k].ah)),.aa (.sl 1 l[k].data),.row 2 2 0 (some (a.length+b.length)),.aa (.val (.string l[k].target)),.aa (.val (.int .i64 l[k].aC)),.aa (.sl 4 (l[k].ak.map bo.enc)),.aa (.val (.int .i64 l[k].aM)),.aa (.val (.int .i64 (IntKind.i64.wrap (l[k].am-1)))),.aa (.val (.int .i64 (k:Nat)))])=bN n (.row 2 2 0 (some (a.length+b.length))) (l.set k {l[k]with am:=(IntKind.i64.wrap (l[k].am-1)),up:=(k:Int)}):=by
     rw[mR];have:=gp (p:=n) (c:= .row 2 2 0 (some (a.length+b.length))) (l:=l.set k {l[k]with am:=(IntKind.i64.wrap (l[k].am-1))}) (k:=k) (o:={l[k]with am:=(IntKind.i64.wrap (l[k].am-1)),up:=(k:Int)}) (by rw[Yy];exact fj)
     rw[abn]at this;rw[<-this,kO,if_pos Gy]
    refine ag (by rw[mR];exact d5 _ _ k (Yy ..) fj:dp (k:Nat) (lenOf (aZ (aZ (bN n (.row 2 2 0 none) l) n [.aa (.val (.int .i64 l[n].ah)),.aa (.sl 1 l[n].data),.row 2 2 0 (some (a.length+b.length)),.aa (.val (.string l[n].target)),.aa (.val (.int .i64 l[n].aC)),.aa (.sl 4 (l[n].ak.map bo.enc)),.aa (.val (.int .i64 l[n].aM)),.aa (.val (.int .i64 l[n].am)),.aa (.val (.int .i64 l[n].up))]) k [.aa (.val (.int .i64 l[k].ah)),.aa (.sl 1 l[k].data),.row 2 2 0 (some (a.length+b.length)),.aa (.val (.string l[k].target)),.aa (.val (.int .i64 l[k].aC)),.aa (.sl 4 (l[k].ak.map bo.enc)),.aa (.val (.int .i64 l[k].aM)),.aa (.val (.int .i64 (IntKind.i64.wrap (l[k].am-1)))),.aa (.val (.int .i64 l[k].up))]).length 0 none)=some k) ?_
    refine ag sR ?_;obtain⟨o2,nr,eA⟩:=iE (name:=name) hn fj Gs (q:={l[k]with am:=(IntKind.i64.wrap (l[k].am-1)),up:=(k:Int)}) (by rw[if_pos oD])
    refine⟨_,View.o 3 [] [1,2] ?_ (.nil _),im _ eA⟩
    iterate 9 refine .ar ?_
    refine .eq rfl ?_;refine .put (.rv (.one (.eZ (p:=none) (Aq (Z:=fun k=>bz [1,2] k=true) rfl (by show some (Bk.row 9 _)=some (Bk.row 9 _);congr 1;exact congrArg _ JM) (hq _ rfl) nr)))) ?_
    repeat(first|exact .nil|refine .ar ?_)
   .have oD:l[k].ah≠2:=oD;obtain⟨o2,nr,eA⟩:=iE (name:=name) hn fj Gs (q:={l[k]with am:=(IntKind.i64.wrap (l[k].am-1))}) (by rw[if_neg oD])
    refine⟨_,View.o 3 [] [1,2] ?_ (.nil _),im _ eA⟩
    iterate 9 refine .ar ?_
    refine .eq rfl ?_;refine .put (.rv (.one (.eZ (p:=none) (Aq (Z:=fun k=>bz [1,2] k=true) rfl (by show some (Bk.row 9 _)=some (Bk.row 9 _);congr 1;exact congrArg _ mR) (hq _ rfl) nr)))) ?_
    repeat(first|exact .nil|refine .ar ?_)
  .have JR:cR (bN n (.row 2 2 0 (some (a.length+b.length))) l) k=some [.aa (.val (.int .i64 l[k].ah)),.aa (.sl 1 l[k].data),.aa (.sl 2 l[k].aj),.aa (.val (.string l[k].target)),.aa (.val (.int .i64 l[k].aC)),.aa (.sl 4 (l[k].ak.map bo.enc)),.aa (.val (.int .i64 l[k].aM)),.aa (.val (.int .i64 l[k].am)),.aa (.val (.int .i64 l[k].up))]:=by rw[aU,eW,sA fj,Wn,kO,if_neg Gy]
   have mR:(aZ (aZ (bN n (.row 2 2 0 none) l) n [.aa (.val (.int .i64 l[n].ah)),.aa (.sl 1 l[n].data),.row 2 2 0 (some (a.length+b.length)),.aa (.val (.string l[n].target)),.aa (.val (.int .i64 l[n].aC)),.aa (.sl 4 (l[n].ak.map bo.enc)),.aa (.val (.int .i64 l[n].aM)),.aa (.val (.int .i64 l[n].am)),.aa (.val (.int .i64 l[n].up))]) k [.aa (.val (.int .i64 l[k].ah)),.aa (.sl 1 l[k].data),.aa (.sl 2 l[k].aj),.aa (.val (.string l[k].target)),.aa (.val (.int .i64 l[k].aC)),.aa (.sl 4 (l[k].ak.map bo.enc)),.aa (.val (.int .i64 l[k].aM)),.aa (.val (.int .i64 (IntKind.i64.wrap (l[k].am-1)))),.aa (.val (.int .i64 l[k].up))])=bN n (.row 2 2 0 (some (a.length+b.length))) (l.set k {l[k]with am:=(IntKind.i64.wrap (l[k].am-1))}):=by
    rw[lI];have:=gp (p:=n) (c:= .row 2 2 0 (some (a.length+b.length))) (o:={l[k]with am:=(IntKind.i64.wrap (l[k].am-1))}) fj
    rw[<-this,kO,if_neg Gy]
   have sR:cR (aZ (aZ (bN n (.row 2 2 0 none) l) n [.aa (.val (.int .i64 l[n].ah)),.aa (.sl 1 l[n].data),.row 2 2 0 (some (a.length+b.length)),.aa (.val (.string l[n].target)),.aa (.val (.int .i64 l[n].aC)),.aa (.sl 4 (l[n].ak.map bo.enc)),.aa (.val (.int .i64 l[n].aM)),.aa (.val (.int .i64 l[n].am)),.aa (.val (.int .i64 l[n].up))]) k [.aa (.val (.int .i64 l[k].ah)),.aa (.sl 1 l[k].data),.aa (.sl 2 l[k].aj),.aa (.val (.string l[k].target)),.aa (.val (.int .i64 l[k].aC)),.aa (.sl 4 (l[k].ak.map bo.enc)),.aa (.val (.int .i64 l[k].aM)),.aa (.val (.int .i64 (IntKind.i64.wrap (l[k].am-1)))),.aa (.val (.int .i64 l[k].up))]) k=some [.aa (.val (.int .i64 l[k].ah)),.aa (.sl 1 l[k].data),.aa (.sl 2 l[k].aj),.aa (.val (.string l[k].target)),.aa (.val (.int .i64 l[k].aC)),.aa (.sl 4 (l[k].ak.map bo.enc)),.aa (.val (.int .i64 l[k].aM)),.aa (.val (.int .i64 (IntKind.i64.wrap (l[k].am-1)))),.aa (.val (.int .i64 l[k].up))]:=by
    rw[bg,aU,Pr (by rw[lI,gn];exact fj)]
   refine ag (by rw[lI];exact d5 _ l k rfl fj:dp (k:Nat) (lenOf (aZ (bN n (.row 2 2 0 none) l) n [.aa (.val (.int .i64 l[n].ah)),.aa (.sl 1 l[n].data),.row 2 2 0 (some (a.length+b.length)),.aa (.val (.string l[n].target)),.aa (.val (.int .i64 l[n].aC)),.aa (.sl 4 (l[n].ak.map bo.enc)),.aa (.val (.int .i64 l[n].aM)),.aa (.val (.int .i64 l[n].am)),.aa (.val (.int .i64 l[n].up))]).length 0 none)=some k) ?_
   refine ag (by rw[lI];exact JR:cR (aZ (bN n (.row 2 2 0 none) l) n [.aa (.val (.int .i64 l[n].ah)),.aa (.sl 1 l[n].data),.row 2 2 0 (some (a.length+b.length)),.aa (.val (.string l[n].target)),.aa (.val (.int .i64 l[n].aC)),.aa (.sl 4 (l[n].ak.map bo.enc)),.aa (.val (.int .i64 l[n].aM)),.aa (.val (.int .i64 l[n].am)),.aa (.val (.int .i64 l[n].up))]) k=some [.aa (.val (.int .i64 l[k].ah)),.aa (.sl 1 l[k].data),.aa (.sl 2 l[k].aj),.aa (.val (.string l[k].target)),.aa (.val (.int .i64 l[k].aC)),.aa (.sl 4 (l[k].ak.map bo.enc)),.aa (.val (.int .i64 l[k].aM)),.aa (.val (.int .i64 l[k].am)),.aa (.val (.int .i64 l[k].up))]) ?_
   refine ag (by rw[lI];exact d5 _ l k rfl fj:dp (k:Nat) (lenOf (aZ (bN n (.row 2 2 0 none) l) n [.aa (.val (.int .i64 l[n].ah)),.aa (.sl 1 l[n].data),.row 2 2 0 (some (a.length+b.length)),.aa (.val (.string l[n].target)),.aa (.val (.int .i64 l[n].aC)),.aa (.sl 4 (l[n].ak.map bo.enc)),.aa (.val (.int .i64 l[n].aM)),.aa (.val (.int .i64 l[n].am)),.aa (.val (.int .i64 l[n].up))]).length 0 none)=some k) ?_
   refine ag (by rw[lI];exact JR:cR (aZ (bN n (.row 2 2 0 none) l) n [.aa (.val (.int .i64 l[n].ah)),.aa (.sl 1 l[n].data),.row 2 2 0 (some (a.length+b.length)),.aa (.val (.string l[n].target)),.aa (.val (.int .i64 l[n].aC)),.aa (.sl 4 (l[n].ak.map bo.enc)),.aa (.val (.int .i64 l[n].aM)),.aa (.val (.int .i64 l[n].am)),.aa (.val (.int .i64 l[n].up))]) k=some [.aa (.val (.int .i64 l[k].ah)),.aa (.sl 1 l[k].data),.aa (.sl 2 l[k].aj),.aa (.val (.string l[k].target)),.aa (.val (.int .i64 l[k].aC)),.aa (.sl 4 (l[k].ak.map bo.enc)),.aa (.val (.int .i64 l[k].aM)),.aa (.val (.int .i64 l[k].am)),.aa (.val (.int .i64 l[k].up))]) ?_
   refine ag (by rw[mR];exact d5 _ _ k (Yy ..) fj:dp (k:Nat) (lenOf (aZ (aZ (bN n (.row 2 2 0 none) l) n [.aa (.val (.int .i64 l[n].ah)),.aa (.sl 1 l[n].data),.row 2 2 0 (some (a.length+b.length)),.aa (.val (.string l[n].target)),.aa (.val (.int .i64 l[n].aC)),.aa (.sl 4 (l[n].ak.map bo.enc)),.aa (.val (.int .i64 l[n].aM)),.aa (.val (.int .i64 l[n].am)),.aa (.val (.int .i64 l[n].up))]) k [.aa (.val (.int .i64 l[k].ah)),.aa (.sl 1 l[k].data),.aa (.sl 2 l[k].aj),.aa (.val (.string l[k].target)),.aa (.val (.int .i64 l[k].aC)),.aa (.sl 4 (l[k].ak.map bo.enc)),.aa (.val (.int .i64 l[k].aM)),.aa (.val (.int .i64 (IntKind.i64.wrap (l[k].am-1)))),.aa (.val (.int .i64 l[k].up))]).length 0 none)=some k) ?_
   refine ag sR ?_;refine bA (fun oD=>?_) (fun oD=>?_)
   .have oD:l[k].ah=2:=oD;have JM:(aZ (aZ (aZ (bN n (.row 2 2 0 none) l) n [.aa (.val (.int .i64 l[n].ah)),.aa (.sl 1 l[n].data),.row 2 2 0 (some (a.length+b.length)),.aa (.val (.string l[n].target)),.aa (.val (.int .i64 l[n].aC)),.aa (.sl 4 (l[n].ak.map bo.enc)),.aa (.val (.int .i64 l[n].aM)),.aa (.val (.int .i64 l[n].am)),.aa (.val (.int .i64 l[n].up))]) k [.aa (.val (.int .i64 l[k].ah)),.aa (.sl 1 l[k].data),.aa (.sl 2 l[k].aj),.aa (.val (.string l[k].target)),.aa (.val (.int .i64 l[k].aC)),.aa (.sl 4 (l[k].ak.map bo.enc)),.aa (.val (.int .i64 l[k].aM)),.aa (.val (.int .i64 (IntKind.i64.wrap (l[k].am-1)))),.aa (.val (.int .i64 l[k].up))]) k [.aa (.val (.int .i64 l[k].ah)),.aa (.sl 1 l[k].data),.aa (.sl 2 l[k].aj),.aa (.val (.string l[k].target)),.aa (.val (.int .i64 l[k].aC)),.aa (.sl 4 (l[k].ak.map bo.enc)),.aa (.val (.int .i64 l[k].aM)),.aa (.val (.int .i64 (IntKind.i64.wrap (l[k].am-1)))),.aa (.val (.int .i64 (k:Nat)))])=bN n (.row 2 2 0 (some (a.length+b.length))) (l.set k {l[k]with am:=(IntKind.i64.wrap (l[k].am-1)),up:=(k:Int)}):=by
     rw[mR];have:=gp (p:=n) (c:= .row 2 2 0 (some (a.length+b.length))) (l:=l.set k {l[k]with am:=(IntKind.i64.wrap (l[k].am-1))}) (k:=k) (o:={l[k]with am:=(IntKind.i64.wrap (l[k].am-1)),up:=(k:Int)}) (by rw[Yy];exact fj)
     rw[abn]at this;rw[<-this,kO,if_neg Gy]
    refine ag (by rw[mR];exact d5 _ _ k (Yy ..) fj:dp (k:Nat) (lenOf (aZ (aZ (bN n (.row 2 2 0 none) l) n [.aa (.val (.int .i64 l[n].ah)),.aa (.sl 1 l[n].data),.row 2 2 0 (some (a.length+b.length)),.aa (.val (.string l[n].target)),.aa (.val (.int .i64 l[n].aC)),.aa (.sl 4 (l[n].ak.map bo.enc)),.aa (.val (.int .i64 l[n].aM)),.aa (.val (.int .i64 l[n].am)),.aa (.val (.int .i64 l[n].up))]) k [.aa (.val (.int .i64 l[k].ah)),.aa (.sl 1 l[k].data),.aa (.sl 2 l[k].aj),.aa (.val (.string l[k].target)),.aa (.val (.int .i64 l[k].aC)),.aa (.sl 4 (l[k].ak.map bo.enc)),.aa (.val (.int .i64 l[k].aM)),.aa (.val (.int .i64 (IntKind.i64.wrap (l[k].am-1)))),.aa (.val (.int .i64 l[k].up))]).length 0 none)=some k) ?_
    refine ag sR ?_;obtain⟨o2,nr,eA⟩:=iE (name:=name) hn fj Gs (q:={l[k]with am:=(IntKind.i64.wrap (l[k].am-1)),up:=(k:Int)}) (by rw[if_pos oD])
    refine⟨_,View.o 3 [] [1,2] ?_ (.nil _),im _ eA⟩
    iterate 9 refine .ar ?_
    refine .eq rfl ?_;refine .put (.rv (.one (.eZ (p:=none) (Aq (Z:=fun k=>bz [1,2] k=true) rfl (by show some (Bk.row 9 _)=some (Bk.row 9 _);congr 1;exact congrArg _ JM) (hq _ rfl) nr)))) ?_
    repeat(first|exact .nil|refine .ar ?_)
   .have oD:l[k].ah≠2:=oD;obtain⟨o2,nr,eA⟩:=iE (name:=name) hn fj Gs (q:={l[k]with am:=(IntKind.i64.wrap (l[k].am-1))}) (by rw[if_neg oD])
    refine⟨_,View.o 3 [] [1,2] ?_ (.nil _),im _ eA⟩
    iterate 9 refine .ar ?_
    refine .eq rfl ?_;refine .put (.rv (.one (.eZ (p:=none) (Aq (Z:=fun k=>bz [1,2] k=true) rfl (by show some (Bk.row 9 _)=some (Bk.row 9 _);congr 1;exact congrArg _ mR) (hq _ rfl) nr)))) ?_
    repeat(first|exact .nil|refine .ar ?_)
theorem CT(l:List Obj)(hs:uy l)(cD:Int)(name:ByteArray){m:Mem}{K:CV->Mem->Prop}(h:K (.bF [li (cL l cD name).1,cC (cL l cD name).2.1,cC (cL l cD name).2.2]) m):aq Tryz.prog 68 [cq l,an .i64 cD,dh name] m K:=by
 refine aY (K0:=fun r m=>r= .bF [li (cL l cD name).1,cC (cL l cD name).2.1,cC (cL l cD name).2.2]/\m=[]) (bK (ce Tryz.func68 l68 (yj l hs cD name)) fun r m1⟨r',m',hv,h1,h2⟩=>⟨r',m',hv,h1,h2⟩) (by simp[cq,an,dh,CV.c6,CC.c6]) fun r m1 hr=>?_
 obtain⟨rfl,rfl⟩:=hr;exact⟨_,cw.self rfl,h⟩
end Go.Proofs.YtodckkkbiidffaaGreatDoor
