/- Part 30 of 43: what the law stands on. -/
import Derived.Test.YtojhmadmlnfpcaaGreatDoorK16
import Derived.Test.YtojhmadmlnfpcaaGreatDoorK29
set_option linter.unusedVariables false
set_option linter.unusedSimpArgs false
set_option linter.unnecessarySimpa false
set_option maxRecDepth 100000
set_option maxHeartbeats 64000000
namespace Go.Proofs.YtojhmadmlnfpcaaGreatDoor
open Go.AM Go.ChangeShapes Go.WideShapes Go.ChangeAt Go.RowKit
def l5(p:Nat)(c:CC)(k:Nat)(o:Obj):List CC:=[.aa (.val (.int .i64 o.ah)),.aa (.sl 1 o.data),(if k=p then c else .aa (.sl 2 o.ak)),.aa (.val (.string o.target)),.aa (.val (.int .i64 o.aJ)),.aa (.sl 4 (o.aj.map bw.enc)),.aa (.val (.int .i64 o.aL)),.aa (.val (.int .i64 o.am)),.aa (.val (.int .i64 o.up))]
def bS(p:Nat)(c:CC)(l:List Obj):List (List CC):=(l.zipIdx.map fun x=>l5 p c x.2 x.1)
theorem ft(p:Nat)(c:CC)(l:List Obj)(i:Nat):(bS p c l)[i]? =(l[i]?).map (l5 p c i):=by
 simp only[bS,aaf,List.getElem?_zipIdx,aaS];cases l[i]? <;>rfl
theorem hU(p:Nat)(c:CC)(l:List Obj):(bS p c l).length=l.length:=by simp[bS]
theorem Hx(p Q:Nat)(l:List Obj):bP p Q 0 l=bS p (.row Q 2 0 none) l:=by apply aa7;intro i;rw[fO,ft,aaS];rfl
theorem ia{p:Nat}{c:CC}{l:List Obj}{k:Nat}{o:Obj}(hk:k<l.length):ba (bS p c l) k (l5 p c k o)=bS p c (l.set k o):=by
 rw[bn];apply aa7;intro i;rw[ft];by_cases h:k=i
 .subst h;rw[aal (by rw[hU];exact hk),aal hk]
  rfl
 .rw[aas h,aas h,ft]
theorem Fz{p:Nat}{c c':CC}{l:List Obj}{o:Obj}(hp:l[p]? =some o):ba (bS p c l) p (l5 p c' p o)=bS p c' l:=by
 have gE:=(aac.1 hp).1;rw[bn];apply aa7;intro i;rw[ft];by_cases h:p=i
 .subst h;rw[aal (by rw[hU];exact gE),hp]
  rfl
 .rw[aas h,ft];cases l[i]? with
  |none=>rfl
  |some x=>
   have h2:¬i=p:=fun e=>h e.symm
   simp only[aaC,l5,if_neg h2]
theorem CR{m:Mem}{Z:Nat->Prop}{pp:Option Nat}{id p:Nat}{c:CC}{l:List Obj}{o:Obj}{E:List (List Dt)}(hz:Z id)(hm:m[id]? =some (.row 9 (bS p c l)))(hq:dP m Z (some id) c (.sl 2 E))(hp:l[p]? =some o):
  dP m Z pp (.row id 9 0 none) (cX (l.set p {o with ak:=E})):=by
 have gE:=(aac.1 hp).1;have key:∀(i:Nat)cs es,(bS p c l)[i]? =some cs->((l.set p {o with ak:=E}).map Obj.enc)[i]? =some es->jO m Z (some id) cs es:=by
  intro i cs es h1 h2;rw[ft]at h1;rw[aaf]at h2;by_cases h:p=i
  .subst h;rw[aal gE]at h2;rw[hp]at h1;cases h1;cases h2;simp only[l5,if_pos,Obj.enc];exact .cons (.aa _) (.cons (.aa _) (.cons hq (.cons (.aa _) (.cons (.aa _) (.cons (.aa _) (.cons (.aa _) (.cons (.aa _) (.cons (.aa _) .nil))))))))
  .rw[aas h]at h2;cases hx:l[i]? with
   |none=>rw[hx]at h1;cases h1
   |some x=>
    rw[hx]at h1 h2;cases h1;cases h2;have h3:¬i=p:=fun e=>h e.symm
    simp only[l5,if_neg h3,Obj.enc];exact .cons (.aa _) (.cons (.aa _) (.cons (.aa _) (.cons (.aa _) (.cons (.aa _) (.cons (.aa _) (.cons (.aa _) (.cons (.aa _) (.cons (.aa _) .nil))))))))
 exact dP.row id 9 0 none _ _ hz hm (by rw[hU,aad,aaE]) (fun i cs es h1 h2=>(key i cs es h1 h2).len) (fun i cs es j c d h1 h2 h3 h4=>(key i cs es h1 h2).get j c d h3 h4)
def kY(l:List Obj)(n k:Nat)(name:ByteArray):List Obj:=match l[n]? with
 |none=>l
 |some o=>match (l.set n {o with ak:=((o.ak.map nu).filter fun e=>decide (e.1.toList≠name.toList)).map fq})[k]? with
  |none=>l
  |some q=>(l.set n {o with ak:=((o.ak.map nu).filter fun e=>decide (e.1.toList≠name.toList)).map fq}).set k {q with am:=IntKind.i64.wrap (q.am-1),up:=if q.ah=2 then(k:Int)else q.up}
def wC(o:Obj)(l:List Obj)(n:Nat)(name:ByteArray):List Obj×Int×Int:=
 if o.ah≠2 then([],0,11)else if fx (o.ak.map nu) name<0 then([],0,6)else match l[(fx (o.ak.map nu) name).toNat]? with
  |none=>([],0,6)
  |some q=>if q.ah=2/\q.ak.length>0 then([],0,18)else(kY l n (fx (o.ak.map nu) name).toNat name,fx (o.ak.map nu) name,0)
def da(l:List Obj)(cL:Int)(name:ByteArray):List Obj×Int×Int:=
 if o5 l cL 0=true then(match l[cL.toNat]? with
  |none=>([],0,6)
  |some o=>wC o l cL.toNat name)else([],0,6)
theorem jx{l:List Obj}{n k:Nat}(hn:n<l.length)(hk:k<l.length){name:ByteArray}{E:List (List Dt)}(hE:E=((l[n].ak.map nu).filter fun e=>decide (e.1.toList≠name.toList)).map fq){q:Obj}(hq:q={l[k]with am:=IntKind.i64.wrap (l[k].am-1),up:=if l[k].ah=2 then(k:Int)else l[k].up}):
  ∃o2,(l.set k q)[n]? =some o2/\(l.set k q).set n {o2 with ak:=E}=kY l n k name:=by
 subst hE;unfold kY;rw[aab hn];simp only[];by_cases h:k=n
 .subst h;rw[aal hn,aal hn];refine⟨_,rfl,?_⟩;simp only[abO];subst hq;rfl
 .rw[aas h,aab hn,aas (fun e=>h e.symm),aab hk]
  refine⟨_,rfl,?_⟩;simp only[];rw[List.set_comm _ _ h,<-hq]
theorem Js{es:List NE}(hs:EM es){name:ByteArray}(h:¬fx es name<0)(dD:∀e,e∈es->0<=e.2):∃a x b,es=a++x::b/\x.1.toList=name.toList/\x.2=fx es name/\(∀e,e∈a->e.1.toList≠name.toList)/\(∀e,e∈b->e.1.toList≠name.toList)/\es.filter (fun e=>decide (e.1.toList≠name.toList))=a++b:=by
 rcases ju es name with⟨x,hx,h1,h2⟩|⟨h2,_⟩
 .obtain⟨a,b,rfl⟩:=List.append_of_mem hx;have hu:∀y,y∈a++x::b->y.1.toList=name.toList->y=x:=fun y hy he=>vR hs hy hx (he.trans h1.symm)
  have hp:=hs;unfold EM at hp;rw[List.pairwise_append,abG]at hp;have hna:∀e,e∈a->e.1.toList≠name.toList:=fun e he h3=>by have:=hp.2.2 e he x aG;rw[z8,h3,<-h1,od]at this;cases this
  have Xt:∀e,e∈b->e.1.toList≠name.toList:=fun e he h3=>by have:=hp.2.1.1 e he;rw[z8,h3,<-h1,od]at this;cases this
  refine⟨a,x,b,rfl,h1,h2.symm,hna,Xt,?_⟩;rw[acE,acP,if_neg (by simpa using h1),acz.2 (fun e he=>by simpa using hna e he),acz.2 (fun e he=>by simpa using Xt e he)]
 .rw[h2]at h;omega
def SL(R:List Obj×Int×Int)(r:CV)(m:Mem):Prop:=∃r' m',View 0 ⟨[r],m⟩ ⟨[r'],m'⟩/\r'= .bF [mD R.1,cH R.2.1,cH R.2.2]/\m'=[]
theorem mJ{R:List Obj×Int×Int}{m:Mem}(e:Int)(h:R=([],0,e)):SL R (.bF [.one .aI,cH 0,cH e]) m:=by subst h;exact⟨_,_,View.of m.length [] [] rfl rfl rfl rfl rfl rfl (.put (VL (.one (.fv (.aI 9))) (.one (.aQ (.aa _))) (.one (.aQ (.aa _)))) .nil) (.nil _),rfl,rfl⟩
theorem AG(l:List Obj)(hs:wB l)(cL:Int)(name:ByteArray):body Tryz.prog c75 [cg l,an .i64 cL,eM name] [] (SL (da l cL name)):=by
 refine aB (fun h1=>?_) (fun h1=>?_)
 .exact mJ 6 (by unfold da;rw[wx h1];rfl)
 obtain⟨n,rfl⟩:∃n:Nat,cL=n:=⟨cL.toNat,by have h1:¬cL<0:=h1;omega⟩
 refine aB (fun h2=>?_) (fun h2=>?_)
 .have h2:(n:Int)>=((l.map Obj.enc).length:Int):=h2;rw[aad]at h2;exact mJ 6 (by unfold da;rw[wy h2];rfl)
 have h2:¬(n:Int)>=((l.map Obj.enc).length:Int):=h2;rw[aad]at h2;have hn:n<l.length:=om;have Oc:=iC hn;refine ag Oc ?_;refine bH (fun h3=>?_) (fun h3=>?_)
 .exact mJ 6 (by unfold da;rw[wz hn h3];rfl)
 have h3:l[n].ah≠0:=h3;have hR:da l n name=wC l[n] l n name:=by unfold da;rw[if_pos (wA hn h3),aaw,aab hn]
 rw[hR];unfold wC;refine ag Oc ?_;refine br (fun h7=>?_) (fun h7=>?_)
 .exact mJ 11 (if_pos h7)
 have h7:l[n].ah=2:=by simpa using h7
 rw[if_neg (by rw[h7];simp)]
 obtain⟨es,he,AD,Pw,dD⟩:=hs.en _ (aau hn);have Q9:l[n].ak.map nu=es:=by rw[he,m6]
 refine CJ l n hn h7 es he om name ?_;have Xp:wt l es n name=fx es name:=y5 AD name;rw[Xp,Q9];refine aB (fun h9=>?_) (fun h9=>?_)
 .exact mJ 6 (if_pos h9)
 have h9:¬fx es name<0:=h9;rw[if_neg h9];obtain⟨a,x,b,DH,hx,WQ,ha,hb,Zr⟩:=Js AD h9 fun e he=>(dD e he).1
 have hxr:=dD x (by rw[DH];simp)
 obtain⟨k,hk⟩:∃k:Nat,fx es name=k:=⟨(fx es name).toNat,om⟩;have fP:k<l.length:=om;have SB:=iC fP;rw[hk,aaw,aab fP];simp only[];have VO:a.length+b.length<=4194303:=by rw[DH]at Pw;simp at Pw;omega
 have nH:∀c,df (bS n c l) n=some [.aa (.val (.int .i64 l[n].ah)),.aa (.sl 1 l[n].data),c,.aa (.val (.string l[n].target)),.aa (.val (.int .i64 l[n].aJ)),.aa (.sl 4 (l[n].aj.map bw.enc)),.aa (.val (.int .i64 l[n].aL)),.aa (.val (.int .i64 l[n].am)),.aa (.val (.int .i64 l[n].up))]:=fun c=>by rw[aX,ft,aab hn,aaC,l5,if_pos rfl]
 have Xq:AA l n l.length= .row 2 (af ((a++x::b).map cZ)):=by
  unfold AA;rw[show Nat.blt n l.length=true by simpa using hn]
  show Bk.row 2 (af (match l[n]? with|some o=>o.ak|none=>[]))=_
  rw[aab hn];show Bk.row 2 (af l[n].ak)=_;rw[he,DH];rfl
 have eL:∀(c:CC)(l2:List Obj)(j:Nat),l2.length=l.length->j<l.length->dU (j:Nat) (lenOf (bS n c l2).length 0 none)=some j:=fun c l2 j h hj=>bT (by rw[show lenOf (bS n c l2).length 0 none=l2.length from hU n c l2,h];exact hj)
 have Jn:((a++b).map cZ)=((l[n].ak.map nu).filter fun e=>decide (e.1.toList≠name.toList)).map fq:=by rw[Q9,Zr];rfl
 have jc:∀L2:List Obj,L2=kY l n k name->aw Tryz.prog 0 G88 (nG Tryz.prog c75.lj (SL (kY l n k name,(k:Int),0))) ⟨mg 90 [(9,an .i64 (k:Nat)),(10,cg L2)],[]⟩:=fun L2 h=>by subst h;exact⟨_,_,View.o 0 [] [] (.eq rfl .nil) (.nil _),rfl,rfl⟩
 have mW:(ba (bS n (.row 2 2 0 none) l) n [.aa (.val (.int .i64 l[n].ah)),.aa (.sl 1 l[n].data),.row 2 2 0 (some (a.length+b.length)),.aa (.val (.string l[n].target)),.aa (.val (.int .i64 l[n].aJ)),.aa (.sl 4 (l[n].aj.map bw.enc)),.aa (.val (.int .i64 l[n].aL)),.aa (.val (.int .i64 l[n].am)),.aa (.val (.int .i64 l[n].up))])=bS n (.row 2 2 0 (some (a.length+b.length))) l:=by have:=Fz (p:=n) (c:= .row 2 2 0 none) (c':= .row 2 2 0 (some (a.length+b.length))) (aab hn);rw[<-this,l5,if_pos rfl]
 have sa:cw ((a++b++ [Px]).map cZ) 0 (some (a.length+b.length))=(a++b).map cZ:=by show((a++b++ [Px]).map cZ).take (a.length+b.length)=_;rw[aaU,List.take_left' aG]
 have hq:∀m:Mem,m[2]? =some (.row 2 (af ((a++b++ [Px]).map cZ)))->dP m (fun k=>bq [1,2] k=true) (some 1) (.row 2 2 0 (some (a.length+b.length))) (.sl 2 ((a++b).map cZ)):=fun m hm=>by
  have:=dP.eE (Z:=fun k=>bq [1,2] k=true) (p:=some 1) rfl hm 0 (some (a.length+b.length))
  rw[sa]at this;exact this
 refine ag SB ?_;refine bH (fun yE=>?_) (fun yE=>?_)
 .refine ag SB ?_;refine aB (fun pk=>?_) (fun pk=>?_)
  .exact mJ 18 (if_pos ⟨yE,by have pk:(l[k].ak.length:Int)>0:=pk;omega⟩)
  .rw[if_neg (fun h=>pk (by show(l[k].ak.length:Int)>0;omega))]
   refine AB l hs.mP n ?_;rw[Xq,Hx];refine ag (eL (.row 2 2 0 none) l n rfl hn) ?_;refine ag (nH (.row 2 2 0 none)) ?_;refine Hw a b x VO name hx ha hb 2 0 rfl rfl rfl rfl ?_;refine ag (eL (.row 2 2 0 none) l n rfl hn) ?_;refine ag (nH (.row 2 2 0 none)) ?_;by_cases Jt:k=n
   .have MZ:df (bS n (.row 2 2 0 (some (a.length+b.length))) l) k=some [.aa (.val (.int .i64 l[k].ah)),.aa (.sl 1 l[k].data),.row 2 2 0 (some (a.length+b.length)),.aa (.val (.string l[k].target)),.aa (.val (.int .i64 l[k].aJ)),.aa (.sl 4 (l[k].aj.map bw.enc)),.aa (.val (.int .i64 l[k].aL)),.aa (.val (.int .i64 l[k].am)),.aa (.val (.int .i64 l[k].up))]:=by rw[aX,ft,aab fP,aaC,l5,if_pos Jt]
    have n9:(ba (ba (bS n (.row 2 2 0 none) l) n [.aa (.val (.int .i64 l[n].ah)),.aa (.sl 1 l[n].data),.row 2 2 0 (some (a.length+b.length)),.aa (.val (.string l[n].target)),.aa (.val (.int .i64 l[n].aJ)),.aa (.sl 4 (l[n].aj.map bw.enc)),.aa (.val (.int .i64 l[n].aL)),.aa (.val (.int .i64 l[n].am)),.aa (.val (.int .i64 l[n].up))]) k [.aa (.val (.int .i64 l[k].ah)),.aa (.sl 1 l[k].data),.row 2 2 0 (some (a.length+b.length)),.aa (.val (.string l[k].target)),.aa (.val (.int .i64 l[k].aJ)),.aa (.sl 4 (l[k].aj.map bw.enc)),.aa (.val (.int .i64 l[k].aL)),.aa (.val (.int .i64 (IntKind.i64.wrap (l[k].am-1)))),.aa (.val (.int .i64 l[k].up))])=bS n (.row 2 2 0 (some (a.length+b.length))) (l.set k {l[k]with am:=(IntKind.i64.wrap (l[k].am-1))}):=by
     rw[mW];have:=ia (p:=n) (c:= .row 2 2 0 (some (a.length+b.length))) (o:={l[k]with am:=(IntKind.i64.wrap (l[k].am-1))}) fP
     rw[<-this,l5,if_pos Jt]
    have uz:df (ba (ba (bS n (.row 2 2 0 none) l) n [.aa (.val (.int .i64 l[n].ah)),.aa (.sl 1 l[n].data),.row 2 2 0 (some (a.length+b.length)),.aa (.val (.string l[n].target)),.aa (.val (.int .i64 l[n].aJ)),.aa (.sl 4 (l[n].aj.map bw.enc)),.aa (.val (.int .i64 l[n].aL)),.aa (.val (.int .i64 l[n].am)),.aa (.val (.int .i64 l[n].up))]) k [.aa (.val (.int .i64 l[k].ah)),.aa (.sl 1 l[k].data),.row 2 2 0 (some (a.length+b.length)),.aa (.val (.string l[k].target)),.aa (.val (.int .i64 l[k].aJ)),.aa (.sl 4 (l[k].aj.map bw.enc)),.aa (.val (.int .i64 l[k].aL)),.aa (.val (.int .i64 (IntKind.i64.wrap (l[k].am-1)))),.aa (.val (.int .i64 l[k].up))]) k=some [.aa (.val (.int .i64 l[k].ah)),.aa (.sl 1 l[k].data),.row 2 2 0 (some (a.length+b.length)),.aa (.val (.string l[k].target)),.aa (.val (.int .i64 l[k].aJ)),.aa (.sl 4 (l[k].aj.map bw.enc)),.aa (.val (.int .i64 l[k].aL)),.aa (.val (.int .i64 (IntKind.i64.wrap (l[k].am-1)))),.aa (.val (.int .i64 l[k].up))]:=by
     rw[bn,aX,aal (by rw[mW,hU];exact fP)]
    refine ag (by rw[mW];exact eL _ l k rfl fP:dU (k:Nat) (lenOf (ba (bS n (.row 2 2 0 none) l) n [.aa (.val (.int .i64 l[n].ah)),.aa (.sl 1 l[n].data),.row 2 2 0 (some (a.length+b.length)),.aa (.val (.string l[n].target)),.aa (.val (.int .i64 l[n].aJ)),.aa (.sl 4 (l[n].aj.map bw.enc)),.aa (.val (.int .i64 l[n].aL)),.aa (.val (.int .i64 l[n].am)),.aa (.val (.int .i64 l[n].up))]).length 0 none)=some k) ?_
    refine ag (by rw[mW];exact MZ:df (ba (bS n (.row 2 2 0 none) l) n [.aa (.val (.int .i64 l[n].ah)),.aa (.sl 1 l[n].data),.row 2 2 0 (some (a.length+b.length)),.aa (.val (.string l[n].target)),.aa (.val (.int .i64 l[n].aJ)),.aa (.sl 4 (l[n].aj.map bw.enc)),.aa (.val (.int .i64 l[n].aL)),.aa (.val (.int .i64 l[n].am)),.aa (.val (.int .i64 l[n].up))]) k=some [.aa (.val (.int .i64 l[k].ah)),.aa (.sl 1 l[k].data),.row 2 2 0 (some (a.length+b.length)),.aa (.val (.string l[k].target)),.aa (.val (.int .i64 l[k].aJ)),.aa (.sl 4 (l[k].aj.map bw.enc)),.aa (.val (.int .i64 l[k].aL)),.aa (.val (.int .i64 l[k].am)),.aa (.val (.int .i64 l[k].up))]) ?_
    refine ag (by rw[mW];exact eL _ l k rfl fP:dU (k:Nat) (lenOf (ba (bS n (.row 2 2 0 none) l) n [.aa (.val (.int .i64 l[n].ah)),.aa (.sl 1 l[n].data),.row 2 2 0 (some (a.length+b.length)),.aa (.val (.string l[n].target)),.aa (.val (.int .i64 l[n].aJ)),.aa (.sl 4 (l[n].aj.map bw.enc)),.aa (.val (.int .i64 l[n].aL)),.aa (.val (.int .i64 l[n].am)),.aa (.val (.int .i64 l[n].up))]).length 0 none)=some k) ?_
    refine ag (by rw[mW];exact MZ:df (ba (bS n (.row 2 2 0 none) l) n [.aa (.val (.int .i64 l[n].ah)),.aa (.sl 1 l[n].data),.row 2 2 0 (some (a.length+b.length)),.aa (.val (.string l[n].target)),.aa (.val (.int .i64 l[n].aJ)),.aa (.sl 4 (l[n].aj.map bw.enc)),.aa (.val (.int .i64 l[n].aL)),.aa (.val (.int .i64 l[n].am)),.aa (.val (.int .i64 l[n].up))]) k=some [.aa (.val (.int .i64 l[k].ah)),.aa (.sl 1 l[k].data),.row 2 2 0 (some (a.length+b.length)),.aa (.val (.string l[k].target)),.aa (.val (.int .i64 l[k].aJ)),.aa (.sl 4 (l[k].aj.map bw.enc)),.aa (.val (.int .i64 l[k].aL)),.aa (.val (.int .i64 l[k].am)),.aa (.val (.int .i64 l[k].up))]) ?_
    refine ag (by rw[n9];exact eL _ _ k (aaE ..) fP:dU (k:Nat) (lenOf (ba (ba (bS n (.row 2 2 0 none) l) n [.aa (.val (.int .i64 l[n].ah)),.aa (.sl 1 l[n].data),.row 2 2 0 (some (a.length+b.length)),.aa (.val (.string l[n].target)),.aa (.val (.int .i64 l[n].aJ)),.aa (.sl 4 (l[n].aj.map bw.enc)),.aa (.val (.int .i64 l[n].aL)),.aa (.val (.int .i64 l[n].am)),.aa (.val (.int .i64 l[n].up))]) k [.aa (.val (.int .i64 l[k].ah)),.aa (.sl 1 l[k].data),.row 2 2 0 (some (a.length+b.length)),.aa (.val (.string l[k].target)),.aa (.val (.int .i64 l[k].aJ)),.aa (.sl 4 (l[k].aj.map bw.enc)),.aa (.val (.int .i64 l[k].aL)),.aa (.val (.int .i64 (IntKind.i64.wrap (l[k].am-1)))),.aa (.val (.int .i64 l[k].up))]).length 0 none)=some k) ?_
    refine ag uz ?_;refine bH (fun pW=>?_) (fun pW=>?_)
    .have pW:l[k].ah=2:=pW;have MV:(ba (ba (ba (bS n (.row 2 2 0 none) l) n [.aa (.val (.int .i64 l[n].ah)),.aa (.sl 1 l[n].data),.row 2 2 0 (some (a.length+b.length)),.aa (.val (.string l[n].target)),.aa (.val (.int .i64 l[n].aJ)),.aa (.sl 4 (l[n].aj.map bw.enc)),.aa (.val (.int .i64 l[n].aL)),.aa (.val (.int .i64 l[n].am)),.aa (.val (.int .i64 l[n].up))]) k [.aa (.val (.int .i64 l[k].ah)),.aa (.sl 1 l[k].data),.row 2 2 0 (some (a.length+b.length)),.aa (.val (.string l[k].target)),.aa (.val (.int .i64 l[k].aJ)),.aa (.sl 4 (l[k].aj.map bw.enc)),.aa (.val (.int .i64 l[k].aL)),.aa (.val (.int .i64 (IntKind.i64.wrap (l[k].am-1)))),.aa (.val (.int .i64 l[k].up))]) k [.aa (.val (.int .i64 l[k].ah)),.aa (.sl 1 l[k].data),.row 2 2 0 (some (a.length+b.length)),.aa (.val (.string l[k].target)),.aa (.val (.int .i64 l[k].aJ)),.aa (.sl 4 (l[k].aj.map bw.enc)),.aa (.val (.int .i64 l[k].aL)),.aa (.val (.int .i64 (IntKind.i64.wrap (l[k].am-1)))),.aa (.val (.int .i64 (k:Nat)))])=bS n (.row 2 2 0 (some (a.length+b.length))) (l.set k {l[k]with am:=(IntKind.i64.wrap (l[k].am-1)),up:=(k:Int)}):=by
      rw[n9];have:=ia (p:=n) (c:= .row 2 2 0 (some (a.length+b.length))) (l:=l.set k {l[k]with am:=(IntKind.i64.wrap (l[k].am-1))}) (k:=k) (o:={l[k]with am:=(IntKind.i64.wrap (l[k].am-1)),up:=(k:Int)}) (by rw[aaE];exact fP)
      rw[abO]at this;rw[<-this,l5,if_pos Jt]
     refine ag (by rw[n9];exact eL _ _ k (aaE ..) fP:dU (k:Nat) (lenOf (ba (ba (bS n (.row 2 2 0 none) l) n [.aa (.val (.int .i64 l[n].ah)),.aa (.sl 1 l[n].data),.row 2 2 0 (some (a.length+b.length)),.aa (.val (.string l[n].target)),.aa (.val (.int .i64 l[n].aJ)),.aa (.sl 4 (l[n].aj.map bw.enc)),.aa (.val (.int .i64 l[n].aL)),.aa (.val (.int .i64 l[n].am)),.aa (.val (.int .i64 l[n].up))]) k [.aa (.val (.int .i64 l[k].ah)),.aa (.sl 1 l[k].data),.row 2 2 0 (some (a.length+b.length)),.aa (.val (.string l[k].target)),.aa (.val (.int .i64 l[k].aJ)),.aa (.sl 4 (l[k].aj.map bw.enc)),.aa (.val (.int .i64 l[k].aL)),.aa (.val (.int .i64 (IntKind.i64.wrap (l[k].am-1)))),.aa (.val (.int .i64 l[k].up))]).length 0 none)=some k) ?_
     refine ag uz ?_;obtain⟨o2,oM,eO⟩:=jx (name:=name) hn fP Jn (q:={l[k]with am:=(IntKind.i64.wrap (l[k].am-1)),up:=(k:Int)}) (by rw[if_pos pW])
     refine⟨_,View.o 3 [] [1,2] ?_ (.nil _),jc _ eO⟩
     iterate 9 refine .ap ?_
     refine .eq rfl ?_;refine .put (.rv (.one (.fv (p:=none) (CR (Z:=fun k=>bq [1,2] k=true) rfl (by show some (Bk.row 9 _)=some (Bk.row 9 _);congr 1;exact congrArg _ MV) (hq _ rfl) oM)))) ?_
     repeat(first|exact .nil|refine .ap ?_)
    .have pW:l[k].ah≠2:=pW;obtain⟨o2,oM,eO⟩:=jx (name:=name) hn fP Jn (q:={l[k]with am:=(IntKind.i64.wrap (l[k].am-1))}) (by rw[if_neg pW])
     refine⟨_,View.o 3 [] [1,2] ?_ (.nil _),jc _ eO⟩
     iterate 9 refine .ap ?_
     refine .eq rfl ?_;refine .put (.rv (.one (.fv (p:=none) (CR (Z:=fun k=>bq [1,2] k=true) rfl (by show some (Bk.row 9 _)=some (Bk.row 9 _);congr 1;exact congrArg _ n9) (hq _ rfl) oM)))) ?_
     repeat(first|exact .nil|refine .ap ?_)
   .have MZ:df (bS n (.row 2 2 0 (some (a.length+b.length))) l) k=some [.aa (.val (.int .i64 l[k].ah)),.aa (.sl 1 l[k].data),.aa (.sl 2 l[k].ak),.aa (.val (.string l[k].target)),.aa (.val (.int .i64 l[k].aJ)),.aa (.sl 4 (l[k].aj.map bw.enc)),.aa (.val (.int .i64 l[k].aL)),.aa (.val (.int .i64 l[k].am)),.aa (.val (.int .i64 l[k].up))]:=by rw[aX,ft,aab fP,aaC,l5,if_neg Jt]
    have n9:(ba (ba (bS n (.row 2 2 0 none) l) n [.aa (.val (.int .i64 l[n].ah)),.aa (.sl 1 l[n].data),.row 2 2 0 (some (a.length+b.length)),.aa (.val (.string l[n].target)),.aa (.val (.int .i64 l[n].aJ)),.aa (.sl 4 (l[n].aj.map bw.enc)),.aa (.val (.int .i64 l[n].aL)),.aa (.val (.int .i64 l[n].am)),.aa (.val (.int .i64 l[n].up))]) k [.aa (.val (.int .i64 l[k].ah)),.aa (.sl 1 l[k].data),.aa (.sl 2 l[k].ak),.aa (.val (.string l[k].target)),.aa (.val (.int .i64 l[k].aJ)),.aa (.sl 4 (l[k].aj.map bw.enc)),.aa (.val (.int .i64 l[k].aL)),.aa (.val (.int .i64 (IntKind.i64.wrap (l[k].am-1)))),.aa (.val (.int .i64 l[k].up))])=bS n (.row 2 2 0 (some (a.length+b.length))) (l.set k {l[k]with am:=(IntKind.i64.wrap (l[k].am-1))}):=by
     rw[mW];have:=ia (p:=n) (c:= .row 2 2 0 (some (a.length+b.length))) (o:={l[k]with am:=(IntKind.i64.wrap (l[k].am-1))}) fP
     rw[<-this,l5,if_neg Jt]
    have uz:df (ba (ba (bS n (.row 2 2 0 none) l) n [.aa (.val (.int .i64 l[n].ah)),.aa (.sl 1 l[n].data),.row 2 2 0 (some (a.length+b.length)),.aa (.val (.string l[n].target)),.aa (.val (.int .i64 l[n].aJ)),.aa (.sl 4 (l[n].aj.map bw.enc)),.aa (.val (.int .i64 l[n].aL)),.aa (.val (.int .i64 l[n].am)),.aa (.val (.int .i64 l[n].up))]) k [.aa (.val (.int .i64 l[k].ah)),.aa (.sl 1 l[k].data),.aa (.sl 2 l[k].ak),.aa (.val (.string l[k].target)),.aa (.val (.int .i64 l[k].aJ)),.aa (.sl 4 (l[k].aj.map bw.enc)),.aa (.val (.int .i64 l[k].aL)),.aa (.val (.int .i64 (IntKind.i64.wrap (l[k].am-1)))),.aa (.val (.int .i64 l[k].up))]) k=some [.aa (.val (.int .i64 l[k].ah)),.aa (.sl 1 l[k].data),.aa (.sl 2 l[k].ak),.aa (.val (.string l[k].target)),.aa (.val (.int .i64 l[k].aJ)),.aa (.sl 4 (l[k].aj.map bw.enc)),.aa (.val (.int .i64 l[k].aL)),.aa (.val (.int .i64 (IntKind.i64.wrap (l[k].am-1)))),.aa (.val (.int .i64 l[k].up))]:=by
     rw[bn,aX,aal (by rw[mW,hU];exact fP)]
    refine ag (by rw[mW];exact eL _ l k rfl fP:dU (k:Nat) (lenOf (ba (bS n (.row 2 2 0 none) l) n [.aa (.val (.int .i64 l[n].ah)),.aa (.sl 1 l[n].data),.row 2 2 0 (some (a.length+b.length)),.aa (.val (.string l[n].target)),.aa (.val (.int .i64 l[n].aJ)),.aa (.sl 4 (l[n].aj.map bw.enc)),.aa (.val (.int .i64 l[n].aL)),.aa (.val (.int .i64 l[n].am)),.aa (.val (.int .i64 l[n].up))]).length 0 none)=some k) ?_
    refine ag (by rw[mW];exact MZ:df (ba (bS n (.row 2 2 0 none) l) n [.aa (.val (.int .i64 l[n].ah)),.aa (.sl 1 l[n].data),.row 2 2 0 (some (a.length+b.length)),.aa (.val (.string l[n].target)),.aa (.val (.int .i64 l[n].aJ)),.aa (.sl 4 (l[n].aj.map bw.enc)),.aa (.val (.int .i64 l[n].aL)),.aa (.val (.int .i64 l[n].am)),.aa (.val (.int .i64 l[n].up))]) k=some [.aa (.val (.int .i64 l[k].ah)),.aa (.sl 1 l[k].data),.aa (.sl 2 l[k].ak),.aa (.val (.string l[k].target)),.aa (.val (.int .i64 l[k].aJ)),.aa (.sl 4 (l[k].aj.map bw.enc)),.aa (.val (.int .i64 l[k].aL)),.aa (.val (.int .i64 l[k].am)),.aa (.val (.int .i64 l[k].up))]) ?_
    refine ag (by rw[mW];exact eL _ l k rfl fP:dU (k:Nat) (lenOf (ba (bS n (.row 2 2 0 none) l) n [.aa (.val (.int .i64 l[n].ah)),.aa (.sl 1 l[n].data),.row 2 2 0 (some (a.length+b.length)),.aa (.val (.string l[n].target)),.aa (.val (.int .i64 l[n].aJ)),.aa (.sl 4 (l[n].aj.map bw.enc)),.aa (.val (.int .i64 l[n].aL)),.aa (.val (.int .i64 l[n].am)),.aa (.val (.int .i64 l[n].up))]).length 0 none)=some k) ?_
    refine ag (by rw[mW];exact MZ:df (ba (bS n (.row 2 2 0 none) l) n [.aa (.val (.int .i64 l[n].ah)),.aa (.sl 1 l[n].data),.row 2 2 0 (some (a.length+b.length)),.aa (.val (.string l[n].target)),.aa (.val (.int .i64 l[n].aJ)),.aa (.sl 4 (l[n].aj.map bw.enc)),.aa (.val (.int .i64 l[n].aL)),.aa (.val (.int .i64 l[n].am)),.aa (.val (.int .i64 l[n].up))]) k=some [.aa (.val (.int .i64 l[k].ah)),.aa (.sl 1 l[k].data),.aa (.sl 2 l[k].ak),.aa (.val (.string l[k].target)),.aa (.val (.int .i64 l[k].aJ)),.aa (.sl 4 (l[k].aj.map bw.enc)),.aa (.val (.int .i64 l[k].aL)),.aa (.val (.int .i64 l[k].am)),.aa (.val (.int .i64 l[k].up))]) ?_
    refine ag (by rw[n9];exact eL _ _ k (aaE ..) fP:dU (k:Nat) (lenOf (ba (ba (bS n (.row 2 2 0 none) l) n [.aa (.val (.int .i64 l[n].ah)),.aa (.sl 1 l[n].data),.row 2 2 0 (some (a.length+b.length)),.aa (.val (.string l[n].target)),.aa (.val (.int .i64 l[n].aJ)),.aa (.sl 4 (l[n].aj.map bw.enc)),.aa (.val (.int .i64 l[n].aL)),.aa (.val (.int .i64 l[n].am)),.aa (.val (.int .i64 l[n].up))]) k [.aa (.val (.int .i64 l[k].ah)),.aa (.sl 1 l[k].data),.aa (.sl 2 l[k].ak),.aa (.val (.string l[k].target)),.aa (.val (.int .i64 l[k].aJ)),.aa (.sl 4 (l[k].aj.map bw.enc)),.aa (.val (.int .i64 l[k].aL)),.aa (.val (.int .i64 (IntKind.i64.wrap (l[k].am-1)))),.aa (.val (.int .i64 l[k].up))]).length 0 none)=some k) ?_
    refine ag uz ?_;refine bH (fun pW=>?_) (fun pW=>?_)
    .have pW:l[k].ah=2:=pW;have MV:(ba (ba (ba (bS n (.row 2 2 0 none) l) n [.aa (.val (.int .i64 l[n].ah)),.aa (.sl 1 l[n].data),.row 2 2 0 (some (a.length+b.length)),.aa (.val (.string l[n].target)),.aa (.val (.int .i64 l[n].aJ)),.aa (.sl 4 (l[n].aj.map bw.enc)),.aa (.val (.int .i64 l[n].aL)),.aa (.val (.int .i64 l[n].am)),.aa (.val (.int .i64 l[n].up))]) k [.aa (.val (.int .i64 l[k].ah)),.aa (.sl 1 l[k].data),.aa (.sl 2 l[k].ak),.aa (.val (.string l[k].target)),.aa (.val (.int .i64 l[k].aJ)),.aa (.sl 4 (l[k].aj.map bw.enc)),.aa (.val (.int .i64 l[k].aL)),.aa (.val (.int .i64 (IntKind.i64.wrap (l[k].am-1)))),.aa (.val (.int .i64 l[k].up))]) k [.aa (.val (.int .i64 l[k].ah)),.aa (.sl 1 l[k].data),.aa (.sl 2 l[k].ak),.aa (.val (.string l[k].target)),.aa (.val (.int .i64 l[k].aJ)),.aa (.sl 4 (l[k].aj.map bw.enc)),.aa (.val (.int .i64 l[k].aL)),.aa (.val (.int .i64 (IntKind.i64.wrap (l[k].am-1)))),.aa (.val (.int .i64 (k:Nat)))])=bS n (.row 2 2 0 (some (a.length+b.length))) (l.set k {l[k]with am:=(IntKind.i64.wrap (l[k].am-1)),up:=(k:Int)}):=by
      rw[n9];have:=ia (p:=n) (c:= .row 2 2 0 (some (a.length+b.length))) (l:=l.set k {l[k]with am:=(IntKind.i64.wrap (l[k].am-1))}) (k:=k) (o:={l[k]with am:=(IntKind.i64.wrap (l[k].am-1)),up:=(k:Int)}) (by rw[aaE];exact fP)
      rw[abO]at this;rw[<-this,l5,if_neg Jt]
     refine ag (by rw[n9];exact eL _ _ k (aaE ..) fP:dU (k:Nat) (lenOf (ba (ba (bS n (.row 2 2 0 none) l) n [.aa (.val (.int .i64 l[n].ah)),.aa (.sl 1 l[n].data),.row 2 2 0 (some (a.length+b.length)),.aa (.val (.string l[n].target)),.aa (.val (.int .i64 l[n].aJ)),.aa (.sl 4 (l[n].aj.map bw.enc)),.aa (.val (.int .i64 l[n].aL)),.aa (.val (.int .i64 l[n].am)),.aa (.val (.int .i64 l[n].up))]) k [.aa (.val (.int .i64 l[k].ah)),.aa (.sl 1 l[k].data),.aa (.sl 2 l[k].ak),.aa (.val (.string l[k].target)),.aa (.val (.int .i64 l[k].aJ)),.aa (.sl 4 (l[k].aj.map bw.enc)),.aa (.val (.int .i64 l[k].aL)),.aa (.val (.int .i64 (IntKind.i64.wrap (l[k].am-1)))),.aa (.val (.int .i64 l[k].up))]).length 0 none)=some k) ?_
     refine ag uz ?_;obtain⟨o2,oM,eO⟩:=jx (name:=name) hn fP Jn (q:={l[k]with am:=(IntKind.i64.wrap (l[k].am-1)),up:=(k:Int)}) (by rw[if_pos pW])
     refine⟨_,View.o 3 [] [1,2] ?_ (.nil _),jc _ eO⟩
     iterate 9 refine .ap ?_
     refine .eq rfl ?_;refine .put (.rv (.one (.fv (p:=none) (CR (Z:=fun k=>bq [1,2] k=true) rfl (by show some (Bk.row 9 _)=some (Bk.row 9 _);congr 1;exact congrArg _ MV) (hq _ rfl) oM)))) ?_
     repeat(first|exact .nil|refine .ap ?_)
    .have pW:l[k].ah≠2:=pW;obtain⟨o2,oM,eO⟩:=jx (name:=name) hn fP Jn (q:={l[k]with am:=(IntKind.i64.wrap (l[k].am-1))}) (by rw[if_neg pW])
     refine⟨_,View.o 3 [] [1,2] ?_ (.nil _),jc _ eO⟩
     iterate 9 refine .ap ?_
     refine .eq rfl ?_;refine .put (.rv (.one (.fv (p:=none) (CR (Z:=fun k=>bq [1,2] k=true) rfl (by show some (Bk.row 9 _)=some (Bk.row 9 _);congr 1;exact congrArg _ n9) (hq _ rfl) oM)))) ?_
     repeat(first|exact .nil|refine .ap ?_)
 .rw[if_neg (fun h=>yE h.1)]
  refine AB l hs.mP n ?_;rw[Xq,Hx];refine ag (eL (.row 2 2 0 none) l n rfl hn) ?_;refine ag (nH (.row 2 2 0 none)) ?_;refine Hw a b x VO name hx ha hb 2 0 rfl rfl rfl rfl ?_;refine ag (eL (.row 2 2 0 none) l n rfl hn) ?_;refine ag (nH (.row 2 2 0 none)) ?_;by_cases Jt:k=n
  .have MZ:df (bS n (.row 2 2 0 (some (a.length+b.length))) l) k=some [.aa (.val (.int .i64 l[k].ah)),.aa (.sl 1 l[k].data),.row 2 2 0 (some (a.length+b.length)),.aa (.val (.string l[k].target)),.aa (.val (.int .i64 l[k].aJ)),.aa (.sl 4 (l[k].aj.map bw.enc)),.aa (.val (.int .i64 l[k].aL)),.aa (.val (.int .i64 l[k].am)),.aa (.val (.int .i64 l[k].up))]:=by rw[aX,ft,aab fP,aaC,l5,if_pos Jt]
   have n9:(ba (ba (bS n (.row 2 2 0 none) l) n [.aa (.val (.int .i64 l[n].ah)),.aa (.sl 1 l[n].data),.row 2 2 0 (some (a.length+b.length)),.aa (.val (.string l[n].target)),.aa (.val (.int .i64 l[n].aJ)),.aa (.sl 4 (l[n].aj.map bw.enc)),.aa (.val (.int .i64 l[n].aL)),.aa (.val (.int .i64 l[n].am)),.aa (.val (.int .i64 l[n].up))]) k [.aa (.val (.int .i64 l[k].ah)),.aa (.sl 1 l[k].data),.row 2 2 0 (some (a.length+b.length)),.aa (.val (.string l[k].target)),.aa (.val (.int .i64 l[k].aJ)),.aa (.sl 4 (l[k].aj.map bw.enc)),.aa (.val (.int .i64 l[k].aL)),.aa (.val (.int .i64 (IntKind.i64.wrap (l[k].am-1)))),.aa (.val (.int .i64 l[k].up))])=bS n (.row 2 2 0 (some (a.length+b.length))) (l.set k {l[k]with am:=(IntKind.i64.wrap (l[k].am-1))}):=by
    rw[mW];have:=ia (p:=n) (c:= .row 2 2 0 (some (a.length+b.length))) (o:={l[k]with am:=(IntKind.i64.wrap (l[k].am-1))}) fP
    rw[<-this,l5,if_pos Jt]
   have uz:df (ba (ba (bS n (.row 2 2 0 none) l) n [.aa (.val (.int .i64 l[n].ah)),.aa (.sl 1 l[n].data),.row 2 2 0 (some (a.length+b.length)),.aa (.val (.string l[n].target)),.aa (.val (.int .i64 l[n].aJ)),.aa (.sl 4 (l[n].aj.map bw.enc)),.aa (.val (.int .i64 l[n].aL)),.aa (.val (.int .i64 l[n].am)),.aa (.val (.int .i64 l[n].up))]) k [.aa (.val (.int .i64 l[k].ah)),.aa (.sl 1 l[k].data),.row 2 2 0 (some (a.length+b.length)),.aa (.val (.string l[k].target)),.aa (.val (.int .i64 l[k].aJ)),.aa (.sl 4 (l[k].aj.map bw.enc)),.aa (.val (.int .i64 l[k].aL)),.aa (.val (.int .i64 (IntKind.i64.wrap (l[k].am-1)))),.aa (.val (.int .i64 l[k].up))]) k=some [.aa (.val (.int .i64 l[k].ah)),.aa (.sl 1 l[k].data),.row 2 2 0 (some (a.length+b.length)),.aa (.val (.string l[k].target)),.aa (.val (.int .i64 l[k].aJ)),.aa (.sl 4 (l[k].aj.map bw.enc)),.aa (.val (.int .i64 l[k].aL)),.aa (.val (.int .i64 (IntKind.i64.wrap (l[k].am-1)))),.aa (.val (.int .i64 l[k].up))]:=by
    rw[bn,aX,aal (by rw[mW,hU];exact fP)]
   refine ag (by rw[mW];exact eL _ l k rfl fP:dU (k:Nat) (lenOf (ba (bS n (.row 2 2 0 none) l) n [.aa (.val (.int .i64 l[n].ah)),.aa (.sl 1 l[n].data),.row 2 2 0 (some (a.length+b.length)),.aa (.val (.string l[n].target)),.aa (.val (.int .i64 l[n].aJ)),.aa (.sl 4 (l[n].aj.map bw.enc)),.aa (.val (.int .i64 l[n].aL)),.aa (.val (.int .i64 l[n].am)),.aa (.val (.int .i64 l[n].up))]).length 0 none)=some k) ?_
   refine ag (by rw[mW];exact MZ:df (ba (bS n (.row 2 2 0 none) l) n [.aa (.val (.int .i64 l[n].ah)),.aa (.sl 1 l[n].data),.row 2 2 0 (some (a.length+b.length)),.aa (.val (.string l[n].target)),.aa (.val (.int .i64 l[n].aJ)),.aa (.sl 4 (l[n].aj.map bw.enc)),.aa (.val (.int .i64 l[n].aL)),.aa (.val (.int .i64 l[n].am)),.aa (.val (.int .i64 l[n].up))]) k=some [.aa (.val (.int .i64 l[k].ah)),.aa (.sl 1 l[k].data),.row 2 2 0 (some (a.length+b.length)),.aa (.val (.string l[k].target)),.aa (.val (.int .i64 l[k].aJ)),.aa (.sl 4 (l[k].aj.map bw.enc)),.aa (.val (.int .i64 l[k].aL)),.aa (.val (.int .i64 l[k].am)),.aa (.val (.int .i64 l[k].up))]) ?_
   refine ag (by rw[mW];exact eL _ l k rfl fP:dU (k:Nat) (lenOf (ba (bS n (.row 2 2 0 none) l) n [.aa (.val (.int .i64 l[n].ah)),.aa (.sl 1 l[n].data),.row 2 2 0 (some (a.length+b.length)),.aa (.val (.string l[n].target)),.aa (.val (.int .i64 l[n].aJ)),.aa (.sl 4 (l[n].aj.map bw.enc)),.aa (.val (.int .i64 l[n].aL)),.aa (.val (.int .i64 l[n].am)),.aa (.val (.int .i64 l[n].up))]).length 0 none)=some k) ?_
   refine ag (by rw[mW];exact MZ:df (ba (bS n (.row 2 2 0 none) l) n [.aa (.val (.int .i64 l[n].ah)),.aa (.sl 1 l[n].data),.row 2 2 0 (some (a.length+b.length)),.aa (.val (.string l[n].target)),.aa (.val (.int .i64 l[n].aJ)),.aa (.sl 4 (l[n].aj.map bw.enc)),.aa (.val (.int .i64 l[n].aL)),.aa (.val (.int .i64 l[n].am)),.aa (.val (.int .i64 l[n].up))]) k=some [.aa (.val (.int .i64 l[k].ah)),.aa (.sl 1 l[k].data),.row 2 2 0 (some (a.length+b.length)),.aa (.val (.string l[k].target)),.aa (.val (.int .i64 l[k].aJ)),.aa (.sl 4 (l[k].aj.map bw.enc)),.aa (.val (.int .i64 l[k].aL)),.aa (.val (.int .i64 l[k].am)),.aa (.val (.int .i64 l[k].up))]) ?_
   refine ag (by rw[n9];exact eL _ _ k (aaE ..) fP:dU (k:Nat) (lenOf (ba (ba (bS n (.row 2 2 0 none) l) n [.aa (.val (.int .i64 l[n].ah)),.aa (.sl 1 l[n].data),.row 2 2 0 (some (a.length+b.length)),.aa (.val (.string l[n].target)),.aa (.val (.int .i64 l[n].aJ)),.aa (.sl 4 (l[n].aj.map bw.enc)),.aa (.val (.int .i64 l[n].aL)),.aa (.val (.int .i64 l[n].am)),.aa (.val (.int .i64 l[n].up))]) k [.aa (.val (.int .i64 l[k].ah)),.aa (.sl 1 l[k].data),.row 2 2 0 (some (a.length+b.length)),.aa (.val (.string l[k].target)),.aa (.val (.int .i64 l[k].aJ)),.aa (.sl 4 (l[k].aj.map bw.enc)),.aa (.val (.int .i64 l[k].aL)),.aa (.val (.int .i64 (IntKind.i64.wrap (l[k].am-1)))),.aa (.val (.int .i64 l[k].up))]).length 0 none)=some k) ?_
   refine ag uz ?_;refine bH (fun pW=>?_) (fun pW=>?_)
   .have pW:l[k].ah=2:=pW;have MV:(ba (ba (ba (bS n (.row 2 2 0 none) l) n [.aa (.val (.int .i64 l[n].ah)),.aa (.sl 1 l[n].data),.row 2 2 0 (some (a.length+b.length)),.aa (.val (.string l[n].target)),.aa (.val (.int .i64 l[n].aJ)),.aa (.sl 4 (l[n].aj.map bw.enc)),.aa (.val (.int .i64 l[n].aL)),.aa (.val (.int .i64 l[n].am)),.aa (.val (.int .i64 l[n].up))]) k [.aa (.val (.int .i64 l[k].ah)),.aa (.sl 1 l[k].data),.row 2 2 0 (some (a.length+b.length)),.aa (.val (.string l[k].target)),.aa (.val (.int .i64 l[k].aJ)),.aa (.sl 4 (l[k].aj.map bw.enc)),.aa (.val (.int .i64 l[k].aL)),.aa (.val (.int .i64 (IntKind.i64.wrap (l[k].am-1)))),.aa (.val (.int .i64 l[k].up))]) k [.aa (.val (.int .i64 l[k].ah)),.aa (.sl 1 l[k].data),.row 2 2 0 (some (a.length+b.length)),.aa (.val (.string l[k].target)),.aa (.val (.int .i64 l[k].aJ)),.aa (.sl 4 (l[k].aj.map bw.enc)),.aa (.val (.int .i64 l[k].aL)),.aa (.val (.int .i64 (IntKind.i64.wrap (l[k].am-1)))),.aa (.val (.int .i64 (k:Nat)))])=bS n (.row 2 2 0 (some (a.length+b.length))) (l.set k {l[k]with am:=(IntKind.i64.wrap (l[k].am-1)),up:=(k:Int)}):=by
     rw[n9];have:=ia (p:=n) (c:= .row 2 2 0 (some (a.length+b.length))) (l:=l.set k {l[k]with am:=(IntKind.i64.wrap (l[k].am-1))}) (k:=k) (o:={l[k]with am:=(IntKind.i64.wrap (l[k].am-1)),up:=(k:Int)}) (by rw[aaE];exact fP)
     rw[abO]at this;rw[<-this,l5,if_pos Jt]
    refine ag (by rw[n9];exact eL _ _ k (aaE ..) fP:dU (k:Nat) (lenOf (ba (ba (bS n (.row 2 2 0 none) l) n [.aa (.val (.int .i64 l[n].ah)),.aa (.sl 1 l[n].data),.row 2 2 0 (some (a.length+b.length)),.aa (.val (.string l[n].target)),.aa (.val (.int .i64 l[n].aJ)),.aa (.sl 4 (l[n].aj.map bw.enc)),.aa (.val (.int .i64 l[n].aL)),.aa (.val (.int .i64 l[n].am)),.aa (.val (.int .i64 l[n].up))]) k [.aa (.val (.int .i64 l[k].ah)),.aa (.sl 1 l[k].data),.row 2 2 0 (some (a.length+b.length)),.aa (.val (.string l[k].target)),.aa (.val (.int .i64 l[k].aJ)),.aa (.sl 4 (l[k].aj.map bw.enc)),.aa (.val (.int .i64 l[k].aL)),.aa (.val (.int .i64 (IntKind.i64.wrap (l[k].am-1)))),.aa (.val (.int .i64 l[k].up))]).length 0 none)=some k) ?_
    refine ag uz ?_;obtain⟨o2,oM,eO⟩:=jx (name:=name) hn fP Jn (q:={l[k]with am:=(IntKind.i64.wrap (l[k].am-1)),up:=(k:Int)}) (by rw[if_pos pW])
    refine⟨_,View.o 3 [] [1,2] ?_ (.nil _),jc _ eO⟩
    iterate 9 refine .ap ?_
    refine .eq rfl ?_;refine .put (.rv (.one (.fv (p:=none) (CR (Z:=fun k=>bq [1,2] k=true) rfl (by show some (Bk.row 9 _)=some (Bk.row 9 _);congr 1;exact congrArg _ MV) (hq _ rfl) oM)))) ?_
    repeat(first|exact .nil|refine .ap ?_)
   .have pW:l[k].ah≠2:=pW;obtain⟨o2,oM,eO⟩:=jx (name:=name) hn fP Jn (q:={l[k]with am:=(IntKind.i64.wrap (l[k].am-1))}) (by rw[if_neg pW])
    refine⟨_,View.o 3 [] [1,2] ?_ (.nil _),jc _ eO⟩
    iterate 9 refine .ap ?_
    refine .eq rfl ?_;refine .put (.rv (.one (.fv (p:=none) (CR (Z:=fun k=>bq [1,2] k=true) rfl (by show some (Bk.row 9 _)=some (Bk.row 9 _);congr 1;exact congrArg _ n9) (hq _ rfl) oM)))) ?_
    repeat(first|exact .nil|refine .ap ?_)
  .have MZ:df (bS n (.row 2 2 0 (some (a.length+b.length))) l) k=some [.aa (.val (.int .i64 l[k].ah)),.aa (.sl 1 l[k].data),.aa (.sl 2 l[k].ak),.aa (.val (.string l[k].target)),.aa (.val (.int .i64 l[k].aJ)),.aa (.sl 4 (l[k].aj.map bw.enc)),.aa (.val (.int .i64 l[k].aL)),.aa (.val (.int .i64 l[k].am)),.aa (.val (.int .i64 l[k].up))]:=by rw[aX,ft,aab fP,aaC,l5,if_neg Jt]
   have n9:(ba (ba (bS n (.row 2 2 0 none) l) n [.aa (.val (.int .i64 l[n].ah)),.aa (.sl 1 l[n].data),.row 2 2 0 (some (a.length+b.length)),.aa (.val (.string l[n].target)),.aa (.val (.int .i64 l[n].aJ)),.aa (.sl 4 (l[n].aj.map bw.enc)),.aa (.val (.int .i64 l[n].aL)),.aa (.val (.int .i64 l[n].am)),.aa (.val (.int .i64 l[n].up))]) k [.aa (.val (.int .i64 l[k].ah)),.aa (.sl 1 l[k].data),.aa (.sl 2 l[k].ak),.aa (.val (.string l[k].target)),.aa (.val (.int .i64 l[k].aJ)),.aa (.sl 4 (l[k].aj.map bw.enc)),.aa (.val (.int .i64 l[k].aL)),.aa (.val (.int .i64 (IntKind.i64.wrap (l[k].am-1)))),.aa (.val (.int .i64 l[k].up))])=bS n (.row 2 2 0 (some (a.length+b.length))) (l.set k {l[k]with am:=(IntKind.i64.wrap (l[k].am-1))}):=by
    rw[mW];have:=ia (p:=n) (c:= .row 2 2 0 (some (a.length+b.length))) (o:={l[k]with am:=(IntKind.i64.wrap (l[k].am-1))}) fP
    rw[<-this,l5,if_neg Jt]
   have uz:df (ba (ba (bS n (.row 2 2 0 none) l) n [.aa (.val (.int .i64 l[n].ah)),.aa (.sl 1 l[n].data),.row 2 2 0 (some (a.length+b.length)),.aa (.val (.string l[n].target)),.aa (.val (.int .i64 l[n].aJ)),.aa (.sl 4 (l[n].aj.map bw.enc)),.aa (.val (.int .i64 l[n].aL)),.aa (.val (.int .i64 l[n].am)),.aa (.val (.int .i64 l[n].up))]) k [.aa (.val (.int .i64 l[k].ah)),.aa (.sl 1 l[k].data),.aa (.sl 2 l[k].ak),.aa (.val (.string l[k].target)),.aa (.val (.int .i64 l[k].aJ)),.aa (.sl 4 (l[k].aj.map bw.enc)),.aa (.val (.int .i64 l[k].aL)),.aa (.val (.int .i64 (IntKind.i64.wrap (l[k].am-1)))),.aa (.val (.int .i64 l[k].up))]) k=some [.aa (.val (.int .i64 l[k].ah)),.aa (.sl 1 l[k].data),.aa (.sl 2 l[k].ak),.aa (.val (.string l[k].target)),.aa (.val (.int .i64 l[k].aJ)),.aa (.sl 4 (l[k].aj.map bw.enc)),.aa (.val (.int .i64 l[k].aL)),.aa (.val (.int .i64 (IntKind.i64.wrap (l[k].am-1)))),.aa (.val (.int .i64 l[k].up))]:=by
    rw[bn,aX,aal (by rw[mW,hU];exact fP)]
   refine ag (by rw[mW];exact eL _ l k rfl fP:dU (k:Nat) (lenOf (ba (bS n (.row 2 2 0 none) l) n [.aa (.val (.int .i64 l[n].ah)),.aa (.sl 1 l[n].data),.row 2 2 0 (some (a.length+b.length)),.aa (.val (.string l[n].target)),.aa (.val (.int .i64 l[n].aJ)),.aa (.sl 4 (l[n].aj.map bw.enc)),.aa (.val (.int .i64 l[n].aL)),.aa (.val (.int .i64 l[n].am)),.aa (.val (.int .i64 l[n].up))]).length 0 none)=some k) ?_
   refine ag (by rw[mW];exact MZ:df (ba (bS n (.row 2 2 0 none) l) n [.aa (.val (.int .i64 l[n].ah)),.aa (.sl 1 l[n].data),.row 2 2 0 (some (a.length+b.length)),.aa (.val (.string l[n].target)),.aa (.val (.int .i64 l[n].aJ)),.aa (.sl 4 (l[n].aj.map bw.enc)),.aa (.val (.int .i64 l[n].aL)),.aa (.val (.int .i64 l[n].am)),.aa (.val (.int .i64 l[n].up))]) k=some [.aa (.val (.int .i64 l[k].ah)),.aa (.sl 1 l[k].data),.aa (.sl 2 l[k].ak),.aa (.val (.string l[k].target)),.aa (.val (.int .i64 l[k].aJ)),.aa (.sl 4 (l[k].aj.map bw.enc)),.aa (.val (.int .i64 l[k].aL)),.aa (.val (.int .i64 l[k].am)),.aa (.val (.int .i64 l[k].up))]) ?_
   refine ag (by rw[mW];exact eL _ l k rfl fP:dU (k:Nat) (lenOf (ba (bS n (.row 2 2 0 none) l) n [.aa (.val (.int .i64 l[n].ah)),.aa (.sl 1 l[n].data),.row 2 2 0 (some (a.length+b.length)),.aa (.val (.string l[n].target)),.aa (.val (.int .i64 l[n].aJ)),.aa (.sl 4 (l[n].aj.map bw.enc)),.aa (.val (.int .i64 l[n].aL)),.aa (.val (.int .i64 l[n].am)),.aa (.val (.int .i64 l[n].up))]).length 0 none)=some k) ?_
   refine ag (by rw[mW];exact MZ:df (ba (bS n (.row 2 2 0 none) l) n [.aa (.val (.int .i64 l[n].ah)),.aa (.sl 1 l[n].data),.row 2 2 0 (some (a.length+b.length)),.aa (.val (.string l[n].target)),.aa (.val (.int .i64 l[n].aJ)),.aa (.sl 4 (l[n].aj.map bw.enc)),.aa (.val (.int .i64 l[n].aL)),.aa (.val (.int .i64 l[n].am)),.aa (.val (.int .i64 l[n].up))]) k=some [.aa (.val (.int .i64 l[k].ah)),.aa (.sl 1 l[k].data),.aa (.sl 2 l[k].ak),.aa (.val (.string l[k].target)),.aa (.val (.int .i64 l[k].aJ)),.aa (.sl 4 (l[k].aj.map bw.enc)),.aa (.val (.int .i64 l[k].aL)),.aa (.val (.int .i64 l[k].am)),.aa (.val (.int .i64 l[k].up))]) ?_
   refine ag (by rw[n9];exact eL _ _ k (aaE ..) fP:dU (k:Nat) (lenOf (ba (ba (bS n (.row 2 2 0 none) l) n [.aa (.val (.int .i64 l[n].ah)),.aa (.sl 1 l[n].data),.row 2 2 0 (some (a.length+b.length)),.aa (.val (.string l[n].target)),.aa (.val (.int .i64 l[n].aJ)),.aa (.sl 4 (l[n].aj.map bw.enc)),.aa (.val (.int .i64 l[n].aL)),.aa (.val (.int .i64 l[n].am)),.aa (.val (.int .i64 l[n].up))]) k [.aa (.val (.int .i64 l[k].ah)),.aa (.sl 1 l[k].data),.aa (.sl 2 l[k].ak),.aa (.val (.string l[k].target)),.aa (.val (.int .i64 l[k].aJ)),.aa (.sl 4 (l[k].aj.map bw.enc)),.aa (.val (.int .i64 l[k].aL)),.aa (.val (.int .i64 (IntKind.i64.wrap (l[k].am-1)))),.aa (.val (.int .i64 l[k].up))]).length 0 none)=some k) ?_
   refine ag uz ?_;refine bH (fun pW=>?_) (fun pW=>?_)
   .have pW:l[k].ah=2:=pW;have MV:(ba (ba (ba (bS n (.row 2 2 0 none) l) n [.aa (.val (.int .i64 l[n].ah)),.aa (.sl 1 l[n].data),.row 2 2 0 (some (a.length+b.length)),.aa (.val (.string l[n].target)),.aa (.val (.int .i64 l[n].aJ)),.aa (.sl 4 (l[n].aj.map bw.enc)),.aa (.val (.int .i64 l[n].aL)),.aa (.val (.int .i64 l[n].am)),.aa (.val (.int .i64 l[n].up))]) k [.aa (.val (.int .i64 l[k].ah)),.aa (.sl 1 l[k].data),.aa (.sl 2 l[k].ak),.aa (.val (.string l[k].target)),.aa (.val (.int .i64 l[k].aJ)),.aa (.sl 4 (l[k].aj.map bw.enc)),.aa (.val (.int .i64 l[k].aL)),.aa (.val (.int .i64 (IntKind.i64.wrap (l[k].am-1)))),.aa (.val (.int .i64 l[k].up))]) k [.aa (.val (.int .i64 l[k].ah)),.aa (.sl 1 l[k].data),.aa (.sl 2 l[k].ak),.aa (.val (.string l[k].target)),.aa (.val (.int .i64 l[k].aJ)),.aa (.sl 4 (l[k].aj.map bw.enc)),.aa (.val (.int .i64 l[k].aL)),.aa (.val (.int .i64 (IntKind.i64.wrap (l[k].am-1)))),.aa (.val (.int .i64 (k:Nat)))])=bS n (.row 2 2 0 (some (a.length+b.length))) (l.set k {l[k]with am:=(IntKind.i64.wrap (l[k].am-1)),up:=(k:Int)}):=by
     rw[n9];have:=ia (p:=n) (c:= .row 2 2 0 (some (a.length+b.length))) (l:=l.set k {l[k]with am:=(IntKind.i64.wrap (l[k].am-1))}) (k:=k) (o:={l[k]with am:=(IntKind.i64.wrap (l[k].am-1)),up:=(k:Int)}) (by rw[aaE];exact fP)
     rw[abO]at this;rw[<-this,l5,if_neg Jt]
    refine ag (by rw[n9];exact eL _ _ k (aaE ..) fP:dU (k:Nat) (lenOf (ba (ba (bS n (.row 2 2 0 none) l) n [.aa (.val (.int .i64 l[n].ah)),.aa (.sl 1 l[n].data),.row 2 2 0 (some (a.length+b.length)),.aa (.val (.string l[n].target)),.aa (.val (.int .i64 l[n].aJ)),.aa (.sl 4 (l[n].aj.map bw.enc)),.aa (.val (.int .i64 l[n].aL)),.aa (.val (.int .i64 l[n].am)),.aa (.val (.int .i64 l[n].up))]) k [.aa (.val (.int .i64 l[k].ah)),.aa (.sl 1 l[k].data),.aa (.sl 2 l[k].ak),.aa (.val (.string l[k].target)),.aa (.val (.int .i64 l[k].aJ)),.aa (.sl 4 (l[k].aj.map bw.enc)),.aa (.val (.int .i64 l[k].aL)),.aa (.val (.int .i64 (IntKind.i64.wrap (l[k].am-1)))),.aa (.val (.int .i64 l[k].up))]).length 0 none)=some k) ?_
    refine ag uz ?_;obtain⟨o2,oM,eO⟩:=jx (name:=name) hn fP Jn (q:={l[k]with am:=(IntKind.i64.wrap (l[k].am-1)),up:=(k:Int)}) (by rw[if_pos pW])
    refine⟨_,View.o 3 [] [1,2] ?_ (.nil _),jc _ eO⟩
    iterate 9 refine .ap ?_
    refine .eq rfl ?_;refine .put (.rv (.one (.fv (p:=none) (CR (Z:=fun k=>bq [1,2] k=true) rfl (by show some (Bk.row 9 _)=some (Bk.row 9 _);congr 1;exact congrArg _ MV) (hq _ rfl) oM)))) ?_
    repeat(first|exact .nil|refine .ap ?_)
   .have pW:l[k].ah≠2:=pW;obtain⟨o2,oM,eO⟩:=jx (name:=name) hn fP Jn (q:={l[k]with am:=(IntKind.i64.wrap (l[k].am-1))}) (by rw[if_neg pW])
    refine⟨_,View.o 3 [] [1,2] ?_ (.nil _),jc _ eO⟩
    iterate 9 refine .ap ?_
    refine .eq rfl ?_;refine .put (.rv (.one (.fv (p:=none) (CR (Z:=fun k=>bq [1,2] k=true) rfl (by show some (Bk.row 9 _)=some (Bk.row 9 _);congr 1;exact congrArg _ n9) (hq _ rfl) oM)))) ?_
    repeat(first|exact .nil|refine .ap ?_)
theorem FA(l:List Obj)(hs:wB l)(cL:Int)(name:ByteArray){m:Mem}{K:CV->Mem->Prop}(h:K (.bF [mD (da l cL name).1,cH (da l cL name).2.1,cH (da l cL name).2.2]) m):ar Tryz.prog 75 [cg l,an .i64 cL,eM name] m K:=by
 refine bb (K0:=fun r m=>r= .bF [mD (da l cL name).1,cH (da l cL name).2.1,cH (da l cL name).2.2]/\m=[]) (bN (cm Tryz.func75 l75 (AG l hs cL name)) fun r m1⟨r',m',hv,h1,h2⟩=>⟨r',m',hv,h1,h2⟩) (by simp[cg,an,eM,CV.dx,CC.dx]) fun r m1 hr=>?_
 obtain⟨rfl,rfl⟩:=hr;exact⟨_,cJ.self rfl,h⟩
end Go.Proofs.YtojhmadmlnfpcaaGreatDoor
