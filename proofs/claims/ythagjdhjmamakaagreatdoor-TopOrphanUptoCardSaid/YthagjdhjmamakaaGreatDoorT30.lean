/- Part 30 of 41: what the law stands on. -/
import Derived.Test.YthagjdhjmamakaaGreatDoorT16
import Derived.Test.YthagjdhjmamakaaGreatDoorT29
set_option linter.unusedVariables false
set_option linter.unusedSimpArgs false
set_option linter.unnecessarySimpa false
set_option maxRecDepth 100000
set_option maxHeartbeats 64000000
namespace Go.Proofs.YthagjdhjmamakaaGreatDoor
open Go.AM Go.ChangeShapes Go.WideShapes Go.ChangeAt Go.RowKit
def li(p:Nat)(c:CC)(k:Nat)(o:Obj):List CC:=[.aa (.val (.int .i64 o.ah)),.aa (.sl 1 o.data),(if k=p then c else .aa (.sl 2 o.aj)),.aa (.val (.string o.target)),.aa (.val (.int .i64 o.aG)),.aa (.sl 4 (o.ak.map bp.enc)),.aa (.val (.int .i64 o.aM)),.aa (.val (.int .i64 o.am)),.aa (.val (.int .i64 o.up))]
def bN(p:Nat)(c:CC)(l:List Obj):List (List CC):=(l.zipIdx.map fun x=>li p c x.2 x.1)
theorem e9(p:Nat)(c:CC)(l:List Obj)(i:Nat):(bN p c l)[i]? =(l[i]?).map (li p c i):=by
 simp only[bN,O6,List.getElem?_zipIdx,aak];cases l[i]? <;>rfl
theorem gy(p:Nat)(c:CC)(l:List Obj):(bN p c l).length=l.length:=by simp[bN]
theorem F9(p Q:Nat)(l:List Obj):bL p Q 0 l=bN p (.row Q 2 0 none) l:=by apply aaI;intro i;rw[fw,e9,aak];rfl
theorem gz{p:Nat}{c:CC}{l:List Obj}{k:Nat}{o:Obj}(hk:k<l.length):a7 (bN p c l) k (li p c k o)=bN p c (l.set k o):=by
 rw[bg];apply aaI;intro i;rw[e9];by_cases h:k=i
 .subst h;rw[QO (by rw[gy];exact hk),QO hk]
  rfl
 .rw[XK h,XK h,e9]
theorem D1{p:Nat}{c c':CC}{l:List Obj}{o:Obj}(hp:l[p]? =some o):a7 (bN p c l) p (li p c' p o)=bN p c' l:=by
 have iI:=(Hy.1 hp).1;rw[bg];apply aaI;intro i;rw[e9];by_cases h:p=i
 .subst h;rw[QO (by rw[gy];exact iI),hp]
  rfl
 .rw[XK h,e9];cases l[i]? with
  |none=>rfl
  |some x=>
   have h2:¬i=p:=fun e=>h e.symm
   simp only[XS,li,if_neg h2]
theorem Bo{m:Mem}{Z:Nat->Prop}{pp:Option Nat}{id p:Nat}{c:CC}{l:List Obj}{o:Obj}{E:List (List Dt)}(hz:Z id)(hm:m[id]? =some (.row 9 (bN p c l)))(hq:dm m Z (some id) c (.sl 2 E))(hp:l[p]? =some o):
  dm m Z pp (.row id 9 0 none) (da (l.set p {o with aj:=E})):=by
 have iI:=(Hy.1 hp).1;have key:∀(i:Nat)cs es,(bN p c l)[i]? =some cs->((l.set p {o with aj:=E}).map Obj.enc)[i]? =some es->gx m Z (some id) cs es:=by
  intro i cs es h1 h2;rw[e9]at h1;rw[O6]at h2;by_cases h:p=i
  .subst h;rw[QO iI]at h2;rw[hp]at h1;cases h1;cases h2;simp only[li,if_pos,Obj.enc];exact .cons (.aa _) (.cons (.aa _) (.cons hq (.cons (.aa _) (.cons (.aa _) (.cons (.aa _) (.cons (.aa _) (.cons (.aa _) (.cons (.aa _) .nil))))))))
  .rw[XK h]at h2;cases hx:l[i]? with
   |none=>rw[hx]at h1;cases h1
   |some x=>
    rw[hx]at h1 h2;cases h1;cases h2;have h3:¬i=p:=fun e=>h e.symm
    simp only[li,if_neg h3,Obj.enc];exact .cons (.aa _) (.cons (.aa _) (.cons (.aa _) (.cons (.aa _) (.cons (.aa _) (.cons (.aa _) (.cons (.aa _) (.cons (.aa _) (.cons (.aa _) .nil))))))))
 exact dm.row id 9 0 none _ _ hz hm (by rw[gy,LW,aab]) (fun i cs es h1 h2=>(key i cs es h1 h2).len) (fun i cs es j c d h1 h2 h3 h4=>(key i cs es h1 h2).get j c d h3 h4)
def jS(l:List Obj)(n k:Nat)(name:ByteArray):List Obj:=match l[n]? with
 |none=>l
 |some o=>match (l.set n {o with aj:=((o.aj.map mH).filter fun e=>decide (e.1.toList≠name.toList)).map fD})[k]? with
  |none=>l
  |some q=>(l.set n {o with aj:=((o.aj.map mH).filter fun e=>decide (e.1.toList≠name.toList)).map fD}).set k {q with am:=IntKind.i64.wrap (q.am-1),up:=if q.ah=2 then(k:Int)else q.up}
def vj(o:Obj)(l:List Obj)(n:Nat)(name:ByteArray):List Obj×Int×Int:=
 if o.ah≠2 then([],0,11)else if fg (o.aj.map mH) name<0 then([],0,6)else match l[(fg (o.aj.map mH) name).toNat]? with
  |none=>([],0,6)
  |some q=>if q.ah=2/\q.aj.length>0 then([],0,18)else(jS l n (fg (o.aj.map mH) name).toNat name,fg (o.aj.map mH) name,0)
def cN(l:List Obj)(cE:Int)(name:ByteArray):List Obj×Int×Int:=
 if oq l cE 0=true then(match l[cE.toNat]? with
  |none=>([],0,6)
  |some o=>vj o l cE.toNat name)else([],0,6)
theorem iP{l:List Obj}{n k:Nat}(hn:n<l.length)(hk:k<l.length){name:ByteArray}{E:List (List Dt)}(hE:E=((l[n].aj.map mH).filter fun e=>decide (e.1.toList≠name.toList)).map fD){q:Obj}(hq:q={l[k]with am:=IntKind.i64.wrap (l[k].am-1),up:=if l[k].ah=2 then(k:Int)else l[k].up}):
  ∃o2,(l.set k q)[n]? =some o2/\(l.set k q).set n {o2 with aj:=E}=jS l n k name:=by
 subst hE;unfold jS;rw[tq hn];simp only[];by_cases h:k=n
 .subst h;rw[QO hn,QO hn];refine⟨_,rfl,?_⟩;simp only[abp];subst hq;rfl
 .rw[XK h,tq hn,XK (fun e=>h e.symm),tq hk]
  refine⟨_,rfl,?_⟩;simp only[];rw[List.set_comm _ _ h,<-hq]
theorem HR{es:List NE}(hs:Dg es){name:ByteArray}(h:¬fg es name<0)(de:∀e,e∈es->0<=e.2):∃a x b,es=a++x::b/\x.1.toList=name.toList/\x.2=fg es name/\(∀e,e∈a->e.1.toList≠name.toList)/\(∀e,e∈b->e.1.toList≠name.toList)/\es.filter (fun e=>decide (e.1.toList≠name.toList))=a++b:=by
 rcases iK es name with⟨x,hx,h1,h2⟩|⟨h2,_⟩
 .obtain⟨a,b,rfl⟩:=List.append_of_mem hx;have hu:∀y,y∈a++x::b->y.1.toList=name.toList->y=x:=fun y hy he=>uG hs hy hx (he.trans h1.symm)
  have hp:=hs;unfold Dg at hp;rw[List.pairwise_append,abu]at hp;have ZQ:∀e,e∈a->e.1.toList≠name.toList:=fun e he h3=>by have:=hp.2.2 e he x aK;rw[yB,h3,<-h1,nr]at this;cases this
  have ZR:∀e,e∈b->e.1.toList≠name.toList:=fun e he h3=>by have:=hp.2.1.1 e he;rw[yB,h3,<-h1,nr]at this;cases this
  refine⟨a,x,b,rfl,h1,h2.symm,ZQ,ZR,?_⟩;rw[ach,acn,if_neg (by simpa using h1),ab7.2 (fun e he=>by simpa using ZQ e he),ab7.2 (fun e he=>by simpa using ZR e he)]
 .rw[h2]at h;omega
def QU(R:List Obj×Int×Int)(r:CV)(m:Mem):Prop:=∃r' m',View 0 ⟨[r],m⟩ ⟨[r'],m'⟩/\r'= .bG [lM R.1,cD R.2.1,cD R.2.2]/\m'=[]
theorem lS{R:List Obj×Int×Int}{m:Mem}(e:Int)(h:R=([],0,e)):QU R (.bG [.one .aB,cD 0,cD e]) m:=by subst h;exact⟨_,_,View.of m.length [] [] rfl rfl rfl rfl rfl rfl (.put (Uf (.one (.eu (.aB 9))) (.one (.aP (.aa _))) (.one (.aP (.aa _)))) .nil) (.nil _),rfl,rfl⟩
theorem y4(l:List Obj)(hs:vh l)(cE:Int)(name:ByteArray):body Tryz.prog c61 [cq l,an .i64 cE,dk name] [] (QU (cN l cE name)):=by
 refine aJ (fun h1=>?_) (fun h1=>?_)
 .exact lS 6 (by unfold cN;rw[vd h1];rfl)
 obtain⟨n,rfl⟩:∃n:Nat,cE=n:=⟨cE.toNat,by have h1:¬cE<0:=h1;omega⟩
 refine aJ (fun h2=>?_) (fun h2=>?_)
 .have h2:(n:Int)>=((l.map Obj.enc).length:Int):=h2;rw[LW]at h2;exact lS 6 (by unfold cN;rw[ve h2];rfl)
 have h2:¬(n:Int)>=((l.map Obj.enc).length:Int):=h2;rw[LW]at h2;have hn:n<l.length:=om;have Mm:=gU hn;refine ag Mm ?_;refine bz (fun h3=>?_) (fun h3=>?_)
 .exact lS 6 (by unfold cN;rw[vf hn h3];rfl)
 have h3:l[n].ah≠0:=h3;have hR:cN l n name=vj l[n] l n name:=by unfold cN;rw[if_pos (vg hn h3),XO,tq hn]
 rw[hR];unfold vj;refine ag Mm ?_;refine bu (fun h7=>?_) (fun h7=>?_)
 .exact lS 11 (if_pos h7)
 have h7:l[n].ah=2:=by simpa using h7
 rw[if_neg (by rw[h7];simp)]
 obtain⟨es,he,y0,Ny,de⟩:=hs.en _ (XP hn);have Pd:l[n].aj.map mH=es:=by rw[he,me]
 refine Bf l n hn h7 es he om name ?_;have VR:u5 l es n name=fg es name:=xE y0 name;rw[VR,Pd];refine aJ (fun h9=>?_) (fun h9=>?_)
 .exact lS 6 (if_pos h9)
 have h9:¬fg es name<0:=h9;rw[if_neg h9];obtain⟨a,x,b,Cj,hx,Vm,ha,hb,X0⟩:=HR y0 h9 fun e he=>(de e he).1
 have hxr:=de x (by rw[Cj];simp)
 obtain⟨k,hk⟩:∃k:Nat,fg es name=k:=⟨(fg es name).toNat,om⟩;have fy:k<l.length:=om;have QK:=gU fy;rw[hk,XO,tq fy];simp only[];have Ui:a.length+b.length<=4194303:=by rw[Cj]at Ny;simp at Ny;omega
 have mR:∀c,cR (bN n c l) n=some [.aa (.val (.int .i64 l[n].ah)),.aa (.sl 1 l[n].data),c,.aa (.val (.string l[n].target)),.aa (.val (.int .i64 l[n].aG)),.aa (.sl 4 (l[n].ak.map bp.enc)),.aa (.val (.int .i64 l[n].aM)),.aa (.val (.int .i64 l[n].am)),.aa (.val (.int .i64 l[n].up))]:=fun c=>by rw[aT,e9,tq hn,XS,li,if_pos rfl]
 have VS:yY l n l.length= .row 2 (af ((a++x::b).map cM)):=by
  unfold yY;rw[show Nat.blt n l.length=true by simpa using hn]
  show Bk.row 2 (af (match l[n]? with|some o=>o.aj|none=>[]))=_
  rw[tq hn];show Bk.row 2 (af l[n].aj)=_;rw[he,Cj];rfl
 have d8:∀(c:CC)(l2:List Obj)(j:Nat),l2.length=l.length->j<l.length->dt (j:Nat) (lenOf (bN n c l2).length 0 none)=some j:=fun c l2 j h hj=>bP (by rw[show lenOf (bN n c l2).length 0 none=l2.length from gy n c l2,h];exact hj)
 have HM:((a++b).map cM)=((l[n].aj.map mH).filter fun e=>decide (e.1.toList≠name.toList)).map fD:=by rw[Pd,X0];rfl
 have iy:∀L2:List Obj,L2=jS l n k name->aw Tryz.prog 0 G88 (nb Tryz.prog c61.ki (QU (jS l n k name,(k:Int),0))) ⟨lB 90 [(9,an .i64 (k:Nat)),(10,cq L2)],[]⟩:=fun L2 h=>by subst h;exact⟨_,_,View.o 0 [] [] (.eq rfl .nil) (.nil _),rfl,rfl⟩
 have l6:(a7 (bN n (.row 2 2 0 none) l) n [.aa (.val (.int .i64 l[n].ah)),.aa (.sl 1 l[n].data),.row 2 2 0 (some (a.length+b.length)),.aa (.val (.string l[n].target)),.aa (.val (.int .i64 l[n].aG)),.aa (.sl 4 (l[n].ak.map bp.enc)),.aa (.val (.int .i64 l[n].aM)),.aa (.val (.int .i64 l[n].am)),.aa (.val (.int .i64 l[n].up))])=bN n (.row 2 2 0 (some (a.length+b.length))) l:=by have:=D1 (p:=n) (c:= .row 2 2 0 none) (c':= .row 2 2 0 (some (a.length+b.length))) (tq hn);rw[<-this,li,if_pos rfl]
 have qX:ct ((a++b++ [Nz]).map cM) 0 (some (a.length+b.length))=(a++b).map cM:=by show((a++b++ [Nz]).map cM).take (a.length+b.length)=_;rw[aax,List.take_left' aK]
 have hq:∀m:Mem,m[2]? =some (.row 2 (af ((a++b++ [Nz]).map cM)))->dm m (fun k=>bs [1,2] k=true) (some 1) (.row 2 2 0 (some (a.length+b.length))) (.sl 2 ((a++b).map cM)):=fun m hm=>by
  have:=dm.d6 (Z:=fun k=>bs [1,2] k=true) (p:=some 1) rfl hm 0 (some (a.length+b.length))
  rw[qX]at this;exact this
 refine ag QK ?_;refine bz (fun Cf=>?_) (fun Cf=>?_)
 .refine ag QK ?_;refine aJ (fun sX=>?_) (fun sX=>?_)
  .exact lS 18 (if_pos ⟨Cf,by have sX:(l[k].aj.length:Int)>0:=sX;omega⟩)
  .rw[if_neg (fun h=>sX (by show(l[k].aj.length:Int)>0;omega))]
   refine yZ l hs.mU n ?_;rw[VS,F9];refine ag (d8 (.row 2 2 0 none) l n rfl hn) ?_;refine ag (mR (.row 2 2 0 none)) ?_;refine F8 a b x Ui name hx ha hb 2 0 rfl rfl rfl rfl ?_;refine ag (d8 (.row 2 2 0 none) l n rfl hn) ?_;refine ag (mR (.row 2 2 0 none)) ?_;by_cases HS:k=n
   .have La:cR (bN n (.row 2 2 0 (some (a.length+b.length))) l) k=some [.aa (.val (.int .i64 l[k].ah)),.aa (.sl 1 l[k].data),.row 2 2 0 (some (a.length+b.length)),.aa (.val (.string l[k].target)),.aa (.val (.int .i64 l[k].aG)),.aa (.sl 4 (l[k].ak.map bp.enc)),.aa (.val (.int .i64 l[k].aM)),.aa (.val (.int .i64 l[k].am)),.aa (.val (.int .i64 l[k].up))]:=by rw[aT,e9,tq fy,XS,li,if_pos HS]
    have nn:(a7 (a7 (bN n (.row 2 2 0 none) l) n [.aa (.val (.int .i64 l[n].ah)),.aa (.sl 1 l[n].data),.row 2 2 0 (some (a.length+b.length)),.aa (.val (.string l[n].target)),.aa (.val (.int .i64 l[n].aG)),.aa (.sl 4 (l[n].ak.map bp.enc)),.aa (.val (.int .i64 l[n].aM)),.aa (.val (.int .i64 l[n].am)),.aa (.val (.int .i64 l[n].up))]) k [.aa (.val (.int .i64 l[k].ah)),.aa (.sl 1 l[k].data),.row 2 2 0 (some (a.length+b.length)),.aa (.val (.string l[k].target)),.aa (.val (.int .i64 l[k].aG)),.aa (.sl 4 (l[k].ak.map bp.enc)),.aa (.val (.int .i64 l[k].aM)),.aa (.val (.int .i64 (IntKind.i64.wrap (l[k].am-1)))),.aa (.val (.int .i64 l[k].up))])=bN n (.row 2 2 0 (some (a.length+b.length))) (l.set k {l[k]with am:=(IntKind.i64.wrap (l[k].am-1))}):=by
     rw[l6];have:=gz (p:=n) (c:= .row 2 2 0 (some (a.length+b.length))) (o:={l[k]with am:=(IntKind.i64.wrap (l[k].am-1))}) fy
     rw[<-this,li,if_pos HS]
    have tL:cR (a7 (a7 (bN n (.row 2 2 0 none) l) n [.aa (.val (.int .i64 l[n].ah)),.aa (.sl 1 l[n].data),.row 2 2 0 (some (a.length+b.length)),.aa (.val (.string l[n].target)),.aa (.val (.int .i64 l[n].aG)),.aa (.sl 4 (l[n].ak.map bp.enc)),.aa (.val (.int .i64 l[n].aM)),.aa (.val (.int .i64 l[n].am)),.aa (.val (.int .i64 l[n].up))]) k [.aa (.val (.int .i64 l[k].ah)),.aa (.sl 1 l[k].data),.row 2 2 0 (some (a.length+b.length)),.aa (.val (.string l[k].target)),.aa (.val (.int .i64 l[k].aG)),.aa (.sl 4 (l[k].ak.map bp.enc)),.aa (.val (.int .i64 l[k].aM)),.aa (.val (.int .i64 (IntKind.i64.wrap (l[k].am-1)))),.aa (.val (.int .i64 l[k].up))]) k=some [.aa (.val (.int .i64 l[k].ah)),.aa (.sl 1 l[k].data),.row 2 2 0 (some (a.length+b.length)),.aa (.val (.string l[k].target)),.aa (.val (.int .i64 l[k].aG)),.aa (.sl 4 (l[k].ak.map bp.enc)),.aa (.val (.int .i64 l[k].aM)),.aa (.val (.int .i64 (IntKind.i64.wrap (l[k].am-1)))),.aa (.val (.int .i64 l[k].up))]:=by
     rw[bg,aT,QO (by rw[l6,gy];exact fy)]
    refine ag (by rw[l6];exact d8 _ l k rfl fy:dt (k:Nat) (lenOf (a7 (bN n (.row 2 2 0 none) l) n [.aa (.val (.int .i64 l[n].ah)),.aa (.sl 1 l[n].data),.row 2 2 0 (some (a.length+b.length)),.aa (.val (.string l[n].target)),.aa (.val (.int .i64 l[n].aG)),.aa (.sl 4 (l[n].ak.map bp.enc)),.aa (.val (.int .i64 l[n].aM)),.aa (.val (.int .i64 l[n].am)),.aa (.val (.int .i64 l[n].up))]).length 0 none)=some k) ?_
    refine ag (by rw[l6];exact La:cR (a7 (bN n (.row 2 2 0 none) l) n [.aa (.val (.int .i64 l[n].ah)),.aa (.sl 1 l[n].data),.row 2 2 0 (some (a.length+b.length)),.aa (.val (.string l[n].target)),.aa (.val (.int .i64 l[n].aG)),.aa (.sl 4 (l[n].ak.map bp.enc)),.aa (.val (.int .i64 l[n].aM)),.aa (.val (.int .i64 l[n].am)),.aa (.val (.int .i64 l[n].up))]) k=some [.aa (.val (.int .i64 l[k].ah)),.aa (.sl 1 l[k].data),.row 2 2 0 (some (a.length+b.length)),.aa (.val (.string l[k].target)),.aa (.val (.int .i64 l[k].aG)),.aa (.sl 4 (l[k].ak.map bp.enc)),.aa (.val (.int .i64 l[k].aM)),.aa (.val (.int .i64 l[k].am)),.aa (.val (.int .i64 l[k].up))]) ?_
    refine ag (by rw[l6];exact d8 _ l k rfl fy:dt (k:Nat) (lenOf (a7 (bN n (.row 2 2 0 none) l) n [.aa (.val (.int .i64 l[n].ah)),.aa (.sl 1 l[n].data),.row 2 2 0 (some (a.length+b.length)),.aa (.val (.string l[n].target)),.aa (.val (.int .i64 l[n].aG)),.aa (.sl 4 (l[n].ak.map bp.enc)),.aa (.val (.int .i64 l[n].aM)),.aa (.val (.int .i64 l[n].am)),.aa (.val (.int .i64 l[n].up))]).length 0 none)=some k) ?_
    refine ag (by rw[l6];exact La:cR (a7 (bN n (.row 2 2 0 none) l) n [.aa (.val (.int .i64 l[n].ah)),.aa (.sl 1 l[n].data),.row 2 2 0 (some (a.length+b.length)),.aa (.val (.string l[n].target)),.aa (.val (.int .i64 l[n].aG)),.aa (.sl 4 (l[n].ak.map bp.enc)),.aa (.val (.int .i64 l[n].aM)),.aa (.val (.int .i64 l[n].am)),.aa (.val (.int .i64 l[n].up))]) k=some [.aa (.val (.int .i64 l[k].ah)),.aa (.sl 1 l[k].data),.row 2 2 0 (some (a.length+b.length)),.aa (.val (.string l[k].target)),.aa (.val (.int .i64 l[k].aG)),.aa (.sl 4 (l[k].ak.map bp.enc)),.aa (.val (.int .i64 l[k].aM)),.aa (.val (.int .i64 l[k].am)),.aa (.val (.int .i64 l[k].up))]) ?_
    refine ag (by rw[nn];exact d8 _ _ k (aab ..) fy:dt (k:Nat) (lenOf (a7 (a7 (bN n (.row 2 2 0 none) l) n [.aa (.val (.int .i64 l[n].ah)),.aa (.sl 1 l[n].data),.row 2 2 0 (some (a.length+b.length)),.aa (.val (.string l[n].target)),.aa (.val (.int .i64 l[n].aG)),.aa (.sl 4 (l[n].ak.map bp.enc)),.aa (.val (.int .i64 l[n].aM)),.aa (.val (.int .i64 l[n].am)),.aa (.val (.int .i64 l[n].up))]) k [.aa (.val (.int .i64 l[k].ah)),.aa (.sl 1 l[k].data),.row 2 2 0 (some (a.length+b.length)),.aa (.val (.string l[k].target)),.aa (.val (.int .i64 l[k].aG)),.aa (.sl 4 (l[k].ak.map bp.enc)),.aa (.val (.int .i64 l[k].aM)),.aa (.val (.int .i64 (IntKind.i64.wrap (l[k].am-1)))),.aa (.val (.int .i64 l[k].up))]).length 0 none)=some k) ?_
    refine ag tL ?_;refine bz (fun o5=>?_) (fun o5=>?_)
    .have o5:l[k].ah=2:=o5;have K6:(a7 (a7 (a7 (bN n (.row 2 2 0 none) l) n [.aa (.val (.int .i64 l[n].ah)),.aa (.sl 1 l[n].data),.row 2 2 0 (some (a.length+b.length)),.aa (.val (.string l[n].target)),.aa (.val (.int .i64 l[n].aG)),.aa (.sl 4 (l[n].ak.map bp.enc)),.aa (.val (.int .i64 l[n].aM)),.aa (.val (.int .i64 l[n].am)),.aa (.val (.int .i64 l[n].up))]) k [.aa (.val (.int .i64 l[k].ah)),.aa (.sl 1 l[k].data),.row 2 2 0 (some (a.length+b.length)),.aa (.val (.string l[k].target)),.aa (.val (.int .i64 l[k].aG)),.aa (.sl 4 (l[k].ak.map bp.enc)),.aa (.val (.int .i64 l[k].aM)),.aa (.val (.int .i64 (IntKind.i64.wrap (l[k].am-1)))),.aa (.val (.int .i64 l[k].up))]) k [.aa (.val (.int .i64 l[k].ah)),.aa (.sl 1 l[k].data),.row 2 2 0 (some (a.length+b.length)),.aa (.val (.string l[k].target)),.aa (.val (.int .i64 l[k].aG)),.aa (.sl 4 (l[k].ak.map bp.enc)),.aa (.val (.int .i64 l[k].aM)),.aa (.val (.int .i64 (IntKind.i64.wrap (l[k].am-1)))),.aa (.val (.int .i64 (k:Nat)))])=bN n (.row 2 2 0 (some (a.length+b.length))) (l.set k {l[k]with am:=(IntKind.i64.wrap (l[k].am-1)),up:=(k:Int)}):=by
      rw[nn];have:=gz (p:=n) (c:= .row 2 2 0 (some (a.length+b.length))) (l:=l.set k {l[k]with am:=(IntKind.i64.wrap (l[k].am-1))}) (k:=k) (o:={l[k]with am:=(IntKind.i64.wrap (l[k].am-1)),up:=(k:Int)}) (by rw[aab];exact fy)
      rw[abp]at this;rw[<-this,li,if_pos HS]
     refine ag (by rw[nn];exact d8 _ _ k (aab ..) fy:dt (k:Nat) (lenOf (a7 (a7 (bN n (.row 2 2 0 none) l) n [.aa (.val (.int .i64 l[n].ah)),.aa (.sl 1 l[n].data),.row 2 2 0 (some (a.length+b.length)),.aa (.val (.string l[n].target)),.aa (.val (.int .i64 l[n].aG)),.aa (.sl 4 (l[n].ak.map bp.enc)),.aa (.val (.int .i64 l[n].aM)),.aa (.val (.int .i64 l[n].am)),.aa (.val (.int .i64 l[n].up))]) k [.aa (.val (.int .i64 l[k].ah)),.aa (.sl 1 l[k].data),.row 2 2 0 (some (a.length+b.length)),.aa (.val (.string l[k].target)),.aa (.val (.int .i64 l[k].aG)),.aa (.sl 4 (l[k].ak.map bp.enc)),.aa (.val (.int .i64 l[k].aM)),.aa (.val (.int .i64 (IntKind.i64.wrap (l[k].am-1)))),.aa (.val (.int .i64 l[k].up))]).length 0 none)=some k) ?_
     refine ag tL ?_;obtain⟨o2,nV,eE⟩:=iP (name:=name) hn fy HM (q:={l[k]with am:=(IntKind.i64.wrap (l[k].am-1)),up:=(k:Int)}) (by rw[if_pos o5])
     refine⟨_,View.o 3 [] [1,2] ?_ (.nil _),iy _ eE⟩
     iterate 9 refine .aq ?_
     refine .eq rfl ?_;refine .put (.rv (.one (.eu (p:=none) (Bo (Z:=fun k=>bs [1,2] k=true) rfl (by show some (Bk.row 9 _)=some (Bk.row 9 _);congr 1;exact congrArg _ K6) (hq _ rfl) nV)))) ?_
     repeat(first|exact .nil|refine .aq ?_)
    .have o5:l[k].ah≠2:=o5;obtain⟨o2,nV,eE⟩:=iP (name:=name) hn fy HM (q:={l[k]with am:=(IntKind.i64.wrap (l[k].am-1))}) (by rw[if_neg o5])
     refine⟨_,View.o 3 [] [1,2] ?_ (.nil _),iy _ eE⟩
     iterate 9 refine .aq ?_
     refine .eq rfl ?_;refine .put (.rv (.one (.eu (p:=none) (Bo (Z:=fun k=>bs [1,2] k=true) rfl (by show some (Bk.row 9 _)=some (Bk.row 9 _);congr 1;exact congrArg _ nn) (hq _ rfl) nV)))) ?_
     repeat(first|exact .nil|refine .aq ?_)
   .have La:cR (bN n (.row 2 2 0 (some (a.length+b.length))) l) k=some [.aa (.val (.int .i64 l[k].ah)),.aa (.sl 1 l[k].data),.aa (.sl 2 l[k].aj),.aa (.val (.string l[k].target)),.aa (.val (.int .i64 l[k].aG)),.aa (.sl 4 (l[k].ak.map bp.enc)),.aa (.val (.int .i64 l[k].aM)),.aa (.val (.int .i64 l[k].am)),.aa (.val (.int .i64 l[k].up))]:=by rw[aT,e9,tq fy,XS,li,if_neg HS]
    have nn:(a7 (a7 (bN n (.row 2 2 0 none) l) n [.aa (.val (.int .i64 l[n].ah)),.aa (.sl 1 l[n].data),.row 2 2 0 (some (a.length+b.length)),.aa (.val (.string l[n].target)),.aa (.val (.int .i64 l[n].aG)),.aa (.sl 4 (l[n].ak.map bp.enc)),.aa (.val (.int .i64 l[n].aM)),.aa (.val (.int .i64 l[n].am)),.aa (.val (.int .i64 l[n].up))]) k [.aa (.val (.int .i64 l[k].ah)),.aa (.sl 1 l[k].data),.aa (.sl 2 l[k].aj),.aa (.val (.string l[k].target)),.aa (.val (.int .i64 l[k].aG)),.aa (.sl 4 (l[k].ak.map bp.enc)),.aa (.val (.int .i64 l[k].aM)),.aa (.val (.int .i64 (IntKind.i64.wrap (l[k].am-1)))),.aa (.val (.int .i64 l[k].up))])=bN n (.row 2 2 0 (some (a.length+b.length))) (l.set k {l[k]with am:=(IntKind.i64.wrap (l[k].am-1))}):=by
     rw[l6];have:=gz (p:=n) (c:= .row 2 2 0 (some (a.length+b.length))) (o:={l[k]with am:=(IntKind.i64.wrap (l[k].am-1))}) fy
     rw[<-this,li,if_neg HS]
    have tL:cR (a7 (a7 (bN n (.row 2 2 0 none) l) n [.aa (.val (.int .i64 l[n].ah)),.aa (.sl 1 l[n].data),.row 2 2 0 (some (a.length+b.length)),.aa (.val (.string l[n].target)),.aa (.val (.int .i64 l[n].aG)),.aa (.sl 4 (l[n].ak.map bp.enc)),.aa (.val (.int .i64 l[n].aM)),.aa (.val (.int .i64 l[n].am)),.aa (.val (.int .i64 l[n].up))]) k [.aa (.val (.int .i64 l[k].ah)),.aa (.sl 1 l[k].data),.aa (.sl 2 l[k].aj),.aa (.val (.string l[k].target)),.aa (.val (.int .i64 l[k].aG)),.aa (.sl 4 (l[k].ak.map bp.enc)),.aa (.val (.int .i64 l[k].aM)),.aa (.val (.int .i64 (IntKind.i64.wrap (l[k].am-1)))),.aa (.val (.int .i64 l[k].up))]) k=some [.aa (.val (.int .i64 l[k].ah)),.aa (.sl 1 l[k].data),.aa (.sl 2 l[k].aj),.aa (.val (.string l[k].target)),.aa (.val (.int .i64 l[k].aG)),.aa (.sl 4 (l[k].ak.map bp.enc)),.aa (.val (.int .i64 l[k].aM)),.aa (.val (.int .i64 (IntKind.i64.wrap (l[k].am-1)))),.aa (.val (.int .i64 l[k].up))]:=by
     rw[bg,aT,QO (by rw[l6,gy];exact fy)]
    refine ag (by rw[l6];exact d8 _ l k rfl fy:dt (k:Nat) (lenOf (a7 (bN n (.row 2 2 0 none) l) n [.aa (.val (.int .i64 l[n].ah)),.aa (.sl 1 l[n].data),.row 2 2 0 (some (a.length+b.length)),.aa (.val (.string l[n].target)),.aa (.val (.int .i64 l[n].aG)),.aa (.sl 4 (l[n].ak.map bp.enc)),.aa (.val (.int .i64 l[n].aM)),.aa (.val (.int .i64 l[n].am)),.aa (.val (.int .i64 l[n].up))]).length 0 none)=some k) ?_
    refine ag (by rw[l6];exact La:cR (a7 (bN n (.row 2 2 0 none) l) n [.aa (.val (.int .i64 l[n].ah)),.aa (.sl 1 l[n].data),.row 2 2 0 (some (a.length+b.length)),.aa (.val (.string l[n].target)),.aa (.val (.int .i64 l[n].aG)),.aa (.sl 4 (l[n].ak.map bp.enc)),.aa (.val (.int .i64 l[n].aM)),.aa (.val (.int .i64 l[n].am)),.aa (.val (.int .i64 l[n].up))]) k=some [.aa (.val (.int .i64 l[k].ah)),.aa (.sl 1 l[k].data),.aa (.sl 2 l[k].aj),.aa (.val (.string l[k].target)),.aa (.val (.int .i64 l[k].aG)),.aa (.sl 4 (l[k].ak.map bp.enc)),.aa (.val (.int .i64 l[k].aM)),.aa (.val (.int .i64 l[k].am)),.aa (.val (.int .i64 l[k].up))]) ?_
    refine ag (by rw[l6];exact d8 _ l k rfl fy:dt (k:Nat) (lenOf (a7 (bN n (.row 2 2 0 none) l) n [.aa (.val (.int .i64 l[n].ah)),.aa (.sl 1 l[n].data),.row 2 2 0 (some (a.length+b.length)),.aa (.val (.string l[n].target)),.aa (.val (.int .i64 l[n].aG)),.aa (.sl 4 (l[n].ak.map bp.enc)),.aa (.val (.int .i64 l[n].aM)),.aa (.val (.int .i64 l[n].am)),.aa (.val (.int .i64 l[n].up))]).length 0 none)=some k) ?_
    refine ag (by rw[l6];exact La:cR (a7 (bN n (.row 2 2 0 none) l) n [.aa (.val (.int .i64 l[n].ah)),.aa (.sl 1 l[n].data),.row 2 2 0 (some (a.length+b.length)),.aa (.val (.string l[n].target)),.aa (.val (.int .i64 l[n].aG)),.aa (.sl 4 (l[n].ak.map bp.enc)),.aa (.val (.int .i64 l[n].aM)),.aa (.val (.int .i64 l[n].am)),.aa (.val (.int .i64 l[n].up))]) k=some [.aa (.val (.int .i64 l[k].ah)),.aa (.sl 1 l[k].data),.aa (.sl 2 l[k].aj),.aa (.val (.string l[k].target)),.aa (.val (.int .i64 l[k].aG)),.aa (.sl 4 (l[k].ak.map bp.enc)),.aa (.val (.int .i64 l[k].aM)),.aa (.val (.int .i64 l[k].am)),.aa (.val (.int .i64 l[k].up))]) ?_
    refine ag (by rw[nn];exact d8 _ _ k (aab ..) fy:dt (k:Nat) (lenOf (a7 (a7 (bN n (.row 2 2 0 none) l) n [.aa (.val (.int .i64 l[n].ah)),.aa (.sl 1 l[n].data),.row 2 2 0 (some (a.length+b.length)),.aa (.val (.string l[n].target)),.aa (.val (.int .i64 l[n].aG)),.aa (.sl 4 (l[n].ak.map bp.enc)),.aa (.val (.int .i64 l[n].aM)),.aa (.val (.int .i64 l[n].am)),.aa (.val (.int .i64 l[n].up))]) k [.aa (.val (.int .i64 l[k].ah)),.aa (.sl 1 l[k].data),.aa (.sl 2 l[k].aj),.aa (.val (.string l[k].target)),.aa (.val (.int .i64 l[k].aG)),.aa (.sl 4 (l[k].ak.map bp.enc)),.aa (.val (.int .i64 l[k].aM)),.aa (.val (.int .i64 (IntKind.i64.wrap (l[k].am-1)))),.aa (.val (.int .i64 l[k].up))]).length 0 none)=some k) ?_
    refine ag tL ?_;refine bz (fun o5=>?_) (fun o5=>?_)
    .have o5:l[k].ah=2:=o5;have K6:(a7 (a7 (a7 (bN n (.row 2 2 0 none) l) n [.aa (.val (.int .i64 l[n].ah)),.aa (.sl 1 l[n].data),.row 2 2 0 (some (a.length+b.length)),.aa (.val (.string l[n].target)),.aa (.val (.int .i64 l[n].aG)),.aa (.sl 4 (l[n].ak.map bp.enc)),.aa (.val (.int .i64 l[n].aM)),.aa (.val (.int .i64 l[n].am)),.aa (.val (.int .i64 l[n].up))]) k [.aa (.val (.int .i64 l[k].ah)),.aa (.sl 1 l[k].data),.aa (.sl 2 l[k].aj),.aa (.val (.string l[k].target)),.aa (.val (.int .i64 l[k].aG)),.aa (.sl 4 (l[k].ak.map bp.enc)),.aa (.val (.int .i64 l[k].aM)),.aa (.val (.int .i64 (IntKind.i64.wrap (l[k].am-1)))),.aa (.val (.int .i64 l[k].up))]) k [.aa (.val (.int .i64 l[k].ah)),.aa (.sl 1 l[k].data),.aa (.sl 2 l[k].aj),.aa (.val (.string l[k].target)),.aa (.val (.int .i64 l[k].aG)),.aa (.sl 4 (l[k].ak.map bp.enc)),.aa (.val (.int .i64 l[k].aM)),.aa (.val (.int .i64 (IntKind.i64.wrap (l[k].am-1)))),.aa (.val (.int .i64 (k:Nat)))])=bN n (.row 2 2 0 (some (a.length+b.length))) (l.set k {l[k]with am:=(IntKind.i64.wrap (l[k].am-1)),up:=(k:Int)}):=by
      rw[nn];have:=gz (p:=n) (c:= .row 2 2 0 (some (a.length+b.length))) (l:=l.set k {l[k]with am:=(IntKind.i64.wrap (l[k].am-1))}) (k:=k) (o:={l[k]with am:=(IntKind.i64.wrap (l[k].am-1)),up:=(k:Int)}) (by rw[aab];exact fy)
      rw[abp]at this;rw[<-this,li,if_neg HS]
     refine ag (by rw[nn];exact d8 _ _ k (aab ..) fy:dt (k:Nat) (lenOf (a7 (a7 (bN n (.row 2 2 0 none) l) n [.aa (.val (.int .i64 l[n].ah)),.aa (.sl 1 l[n].data),.row 2 2 0 (some (a.length+b.length)),.aa (.val (.string l[n].target)),.aa (.val (.int .i64 l[n].aG)),.aa (.sl 4 (l[n].ak.map bp.enc)),.aa (.val (.int .i64 l[n].aM)),.aa (.val (.int .i64 l[n].am)),.aa (.val (.int .i64 l[n].up))]) k [.aa (.val (.int .i64 l[k].ah)),.aa (.sl 1 l[k].data),.aa (.sl 2 l[k].aj),.aa (.val (.string l[k].target)),.aa (.val (.int .i64 l[k].aG)),.aa (.sl 4 (l[k].ak.map bp.enc)),.aa (.val (.int .i64 l[k].aM)),.aa (.val (.int .i64 (IntKind.i64.wrap (l[k].am-1)))),.aa (.val (.int .i64 l[k].up))]).length 0 none)=some k) ?_
     refine ag tL ?_;obtain⟨o2,nV,eE⟩:=iP (name:=name) hn fy HM (q:={l[k]with am:=(IntKind.i64.wrap (l[k].am-1)),up:=(k:Int)}) (by rw[if_pos o5])
     refine⟨_,View.o 3 [] [1,2] ?_ (.nil _),iy _ eE⟩
     iterate 9 refine .aq ?_
     refine .eq rfl ?_;refine .put (.rv (.one (.eu (p:=none) (Bo (Z:=fun k=>bs [1,2] k=true) rfl (by show some (Bk.row 9 _)=some (Bk.row 9 _);congr 1;exact congrArg _ K6) (hq _ rfl) nV)))) ?_
     repeat(first|exact .nil|refine .aq ?_)
    .have o5:l[k].ah≠2:=o5;obtain⟨o2,nV,eE⟩:=iP (name:=name) hn fy HM (q:={l[k]with am:=(IntKind.i64.wrap (l[k].am-1))}) (by rw[if_neg o5])
     refine⟨_,View.o 3 [] [1,2] ?_ (.nil _),iy _ eE⟩
     iterate 9 refine .aq ?_
     refine .eq rfl ?_;refine .put (.rv (.one (.eu (p:=none) (Bo (Z:=fun k=>bs [1,2] k=true) rfl (by show some (Bk.row 9 _)=some (Bk.row 9 _);congr 1;exact congrArg _ nn) (hq _ rfl) nV)))) ?_
     repeat(first|exact .nil|refine .aq ?_)
 .rw[if_neg (fun h=>Cf h.1)]
  refine yZ l hs.mU n ?_;rw[VS,F9];refine ag (d8 (.row 2 2 0 none) l n rfl hn) ?_;refine ag (mR (.row 2 2 0 none)) ?_;refine F8 a b x Ui name hx ha hb 2 0 rfl rfl rfl rfl ?_;refine ag (d8 (.row 2 2 0 none) l n rfl hn) ?_;refine ag (mR (.row 2 2 0 none)) ?_;by_cases HS:k=n
  .have La:cR (bN n (.row 2 2 0 (some (a.length+b.length))) l) k=some [.aa (.val (.int .i64 l[k].ah)),.aa (.sl 1 l[k].data),.row 2 2 0 (some (a.length+b.length)),.aa (.val (.string l[k].target)),.aa (.val (.int .i64 l[k].aG)),.aa (.sl 4 (l[k].ak.map bp.enc)),.aa (.val (.int .i64 l[k].aM)),.aa (.val (.int .i64 l[k].am)),.aa (.val (.int .i64 l[k].up))]:=by rw[aT,e9,tq fy,XS,li,if_pos HS]
   have nn:(a7 (a7 (bN n (.row 2 2 0 none) l) n [.aa (.val (.int .i64 l[n].ah)),.aa (.sl 1 l[n].data),.row 2 2 0 (some (a.length+b.length)),.aa (.val (.string l[n].target)),.aa (.val (.int .i64 l[n].aG)),.aa (.sl 4 (l[n].ak.map bp.enc)),.aa (.val (.int .i64 l[n].aM)),.aa (.val (.int .i64 l[n].am)),.aa (.val (.int .i64 l[n].up))]) k [.aa (.val (.int .i64 l[k].ah)),.aa (.sl 1 l[k].data),.row 2 2 0 (some (a.length+b.length)),.aa (.val (.string l[k].target)),.aa (.val (.int .i64 l[k].aG)),.aa (.sl 4 (l[k].ak.map bp.enc)),.aa (.val (.int .i64 l[k].aM)),.aa (.val (.int .i64 (IntKind.i64.wrap (l[k].am-1)))),.aa (.val (.int .i64 l[k].up))])=bN n (.row 2 2 0 (some (a.length+b.length))) (l.set k {l[k]with am:=(IntKind.i64.wrap (l[k].am-1))}):=by
    rw[l6];have:=gz (p:=n) (c:= .row 2 2 0 (some (a.length+b.length))) (o:={l[k]with am:=(IntKind.i64.wrap (l[k].am-1))}) fy
    rw[<-this,li,if_pos HS]
   have tL:cR (a7 (a7 (bN n (.row 2 2 0 none) l) n [.aa (.val (.int .i64 l[n].ah)),.aa (.sl 1 l[n].data),.row 2 2 0 (some (a.length+b.length)),.aa (.val (.string l[n].target)),.aa (.val (.int .i64 l[n].aG)),.aa (.sl 4 (l[n].ak.map bp.enc)),.aa (.val (.int .i64 l[n].aM)),.aa (.val (.int .i64 l[n].am)),.aa (.val (.int .i64 l[n].up))]) k [.aa (.val (.int .i64 l[k].ah)),.aa (.sl 1 l[k].data),.row 2 2 0 (some (a.length+b.length)),.aa (.val (.string l[k].target)),.aa (.val (.int .i64 l[k].aG)),.aa (.sl 4 (l[k].ak.map bp.enc)),.aa (.val (.int .i64 l[k].aM)),.aa (.val (.int .i64 (IntKind.i64.wrap (l[k].am-1)))),.aa (.val (.int .i64 l[k].up))]) k=some [.aa (.val (.int .i64 l[k].ah)),.aa (.sl 1 l[k].data),.row 2 2 0 (some (a.length+b.length)),.aa (.val (.string l[k].target)),.aa (.val (.int .i64 l[k].aG)),.aa (.sl 4 (l[k].ak.map bp.enc)),.aa (.val (.int .i64 l[k].aM)),.aa (.val (.int .i64 (IntKind.i64.wrap (l[k].am-1)))),.aa (.val (.int .i64 l[k].up))]:=by
    rw[bg,aT,QO (by rw[l6,gy];exact fy)]
   refine ag (by rw[l6];exact d8 _ l k rfl fy:dt (k:Nat) (lenOf (a7 (bN n (.row 2 2 0 none) l) n [.aa (.val (.int .i64 l[n].ah)),.aa (.sl 1 l[n].data),.row 2 2 0 (some (a.length+b.length)),.aa (.val (.string l[n].target)),.aa (.val (.int .i64 l[n].aG)),.aa (.sl 4 (l[n].ak.map bp.enc)),.aa (.val (.int .i64 l[n].aM)),.aa (.val (.int .i64 l[n].am)),.aa (.val (.int .i64 l[n].up))]).length 0 none)=some k) ?_
   refine ag (by rw[l6];exact La:cR (a7 (bN n (.row 2 2 0 none) l) n [.aa (.val (.int .i64 l[n].ah)),.aa (.sl 1 l[n].data),.row 2 2 0 (some (a.length+b.length)),.aa (.val (.string l[n].target)),.aa (.val (.int .i64 l[n].aG)),.aa (.sl 4 (l[n].ak.map bp.enc)),.aa (.val (.int .i64 l[n].aM)),.aa (.val (.int .i64 l[n].am)),.aa (.val (.int .i64 l[n].up))]) k=some [.aa (.val (.int .i64 l[k].ah)),.aa (.sl 1 l[k].data),.row 2 2 0 (some (a.length+b.length)),.aa (.val (.string l[k].target)),.aa (.val (.int .i64 l[k].aG)),.aa (.sl 4 (l[k].ak.map bp.enc)),.aa (.val (.int .i64 l[k].aM)),.aa (.val (.int .i64 l[k].am)),.aa (.val (.int .i64 l[k].up))]) ?_
   refine ag (by rw[l6];exact d8 _ l k rfl fy:dt (k:Nat) (lenOf (a7 (bN n (.row 2 2 0 none) l) n [.aa (.val (.int .i64 l[n].ah)),.aa (.sl 1 l[n].data),.row 2 2 0 (some (a.length+b.length)),.aa (.val (.string l[n].target)),.aa (.val (.int .i64 l[n].aG)),.aa (.sl 4 (l[n].ak.map bp.enc)),.aa (.val (.int .i64 l[n].aM)),.aa (.val (.int .i64 l[n].am)),.aa (.val (.int .i64 l[n].up))]).length 0 none)=some k) ?_
   refine ag (by rw[l6];exact La:cR (a7 (bN n (.row 2 2 0 none) l) n [.aa (.val (.int .i64 l[n].ah)),.aa (.sl 1 l[n].data),.row 2 2 0 (some (a.length+b.length)),.aa (.val (.string l[n].target)),.aa (.val (.int .i64 l[n].aG)),.aa (.sl 4 (l[n].ak.map bp.enc)),.aa (.val (.int .i64 l[n].aM)),.aa (.val (.int .i64 l[n].am)),.aa (.val (.int .i64 l[n].up))]) k=some [.aa (.val (.int .i64 l[k].ah)),.aa (.sl 1 l[k].data),.row 2 2 0 (some (a.length+b.length)),.aa (.val (.string l[k].target)),.aa (.val (.int .i64 l[k].aG)),.aa (.sl 4 (l[k].ak.map bp.enc)),.aa (.val (.int .i64 l[k].aM)),.aa (.val (.int .i64 l[k].am)),.aa (.val (.int .i64 l[k].up))]) ?_
   refine ag (by rw[nn];exact d8 _ _ k (aab ..) fy:dt (k:Nat) (lenOf (a7 (a7 (bN n (.row 2 2 0 none) l) n [.aa (.val (.int .i64 l[n].ah)),.aa (.sl 1 l[n].data),.row 2 2 0 (some (a.length+b.length)),.aa (.val (.string l[n].target)),.aa (.val (.int .i64 l[n].aG)),.aa (.sl 4 (l[n].ak.map bp.enc)),.aa (.val (.int .i64 l[n].aM)),.aa (.val (.int .i64 l[n].am)),.aa (.val (.int .i64 l[n].up))]) k [.aa (.val (.int .i64 l[k].ah)),.aa (.sl 1 l[k].data),.row 2 2 0 (some (a.length+b.length)),.aa (.val (.string l[k].target)),.aa (.val (.int .i64 l[k].aG)),.aa (.sl 4 (l[k].ak.map bp.enc)),.aa (.val (.int .i64 l[k].aM)),.aa (.val (.int .i64 (IntKind.i64.wrap (l[k].am-1)))),.aa (.val (.int .i64 l[k].up))]).length 0 none)=some k) ?_
   refine ag tL ?_;refine bz (fun o5=>?_) (fun o5=>?_)
   .have o5:l[k].ah=2:=o5;have K6:(a7 (a7 (a7 (bN n (.row 2 2 0 none) l) n [.aa (.val (.int .i64 l[n].ah)),.aa (.sl 1 l[n].data),.row 2 2 0 (some (a.length+b.length)),.aa (.val (.string l[n].target)),.aa (.val (.int .i64 l[n].aG)),.aa (.sl 4 (l[n].ak.map bp.enc)),.aa (.val (.int .i64 l[n].aM)),.aa (.val (.int .i64 l[n].am)),.aa (.val (.int .i64 l[n].up))]) k [.aa (.val (.int .i64 l[k].ah)),.aa (.sl 1 l[k].data),.row 2 2 0 (some (a.length+b.length)),.aa (.val (.string l[k].target)),.aa (.val (.int .i64 l[k].aG)),.aa (.sl 4 (l[k].ak.map bp.enc)),.aa (.val (.int .i64 l[k].aM)),.aa (.val (.int .i64 (IntKind.i64.wrap (l[k].am-1)))),.aa (.val (.int .i64 l[k].up))]) k [.aa (.val (.int .i64 l[k].ah)),.aa (.sl 1 l[k].data),.row 2 2 0 (some (a.length+b.length)),.aa (.val (.string l[k].target)),.aa (.val (.int .i64 l[k].aG)),.aa (.sl 4 (l[k].ak.map bp.enc)),.aa (.val (.int .i64 l[k].aM)),.aa (.val (.int .i64 (IntKind.i64.wrap (l[k].am-1)))),.aa (.val (.int .i64 (k:Nat)))])=bN n (.row 2 2 0 (some (a.length+b.length))) (l.set k {l[k]with am:=(IntKind.i64.wrap (l[k].am-1)),up:=(k:Int)}):=by
     rw[nn];have:=gz (p:=n) (c:= .row 2 2 0 (some (a.length+b.length))) (l:=l.set k {l[k]with am:=(IntKind.i64.wrap (l[k].am-1))}) (k:=k) (o:={l[k]with am:=(IntKind.i64.wrap (l[k].am-1)),up:=(k:Int)}) (by rw[aab];exact fy)
     rw[abp]at this;rw[<-this,li,if_pos HS]
    refine ag (by rw[nn];exact d8 _ _ k (aab ..) fy:dt (k:Nat) (lenOf (a7 (a7 (bN n (.row 2 2 0 none) l) n [.aa (.val (.int .i64 l[n].ah)),.aa (.sl 1 l[n].data),.row 2 2 0 (some (a.length+b.length)),.aa (.val (.string l[n].target)),.aa (.val (.int .i64 l[n].aG)),.aa (.sl 4 (l[n].ak.map bp.enc)),.aa (.val (.int .i64 l[n].aM)),.aa (.val (.int .i64 l[n].am)),.aa (.val (.int .i64 l[n].up))]) k [.aa (.val (.int .i64 l[k].ah)),.aa (.sl 1 l[k].data),.row 2 2 0 (some (a.length+b.length)),.aa (.val (.string l[k].target)),.aa (.val (.int .i64 l[k].aG)),.aa (.sl 4 (l[k].ak.map bp.enc)),.aa (.val (.int .i64 l[k].aM)),.aa (.val (.int .i64 (IntKind.i64.wrap (l[k].am-1)))),.aa (.val (.int .i64 l[k].up))]).length 0 none)=some k) ?_
    refine ag tL ?_;obtain⟨o2,nV,eE⟩:=iP (name:=name) hn fy HM (q:={l[k]with am:=(IntKind.i64.wrap (l[k].am-1)),up:=(k:Int)}) (by rw[if_pos o5])
    refine⟨_,View.o 3 [] [1,2] ?_ (.nil _),iy _ eE⟩
    iterate 9 refine .aq ?_
    refine .eq rfl ?_;refine .put (.rv (.one (.eu (p:=none) (Bo (Z:=fun k=>bs [1,2] k=true) rfl (by show some (Bk.row 9 _)=some (Bk.row 9 _);congr 1;exact congrArg _ K6) (hq _ rfl) nV)))) ?_
    repeat(first|exact .nil|refine .aq ?_)
   .have o5:l[k].ah≠2:=o5;obtain⟨o2,nV,eE⟩:=iP (name:=name) hn fy HM (q:={l[k]with am:=(IntKind.i64.wrap (l[k].am-1))}) (by rw[if_neg o5])
    refine⟨_,View.o 3 [] [1,2] ?_ (.nil _),iy _ eE⟩
    iterate 9 refine .aq ?_
    refine .eq rfl ?_;refine .put (.rv (.one (.eu (p:=none) (Bo (Z:=fun k=>bs [1,2] k=true) rfl (by show some (Bk.row 9 _)=some (Bk.row 9 _);congr 1;exact congrArg _ nn) (hq _ rfl) nV)))) ?_
    repeat(first|exact .nil|refine .aq ?_)
  .have La:cR (bN n (.row 2 2 0 (some (a.length+b.length))) l) k=some [.aa (.val (.int .i64 l[k].ah)),.aa (.sl 1 l[k].data),.aa (.sl 2 l[k].aj),.aa (.val (.string l[k].target)),.aa (.val (.int .i64 l[k].aG)),.aa (.sl 4 (l[k].ak.map bp.enc)),.aa (.val (.int .i64 l[k].aM)),.aa (.val (.int .i64 l[k].am)),.aa (.val (.int .i64 l[k].up))]:=by rw[aT,e9,tq fy,XS,li,if_neg HS]
   have nn:(a7 (a7 (bN n (.row 2 2 0 none) l) n [.aa (.val (.int .i64 l[n].ah)),.aa (.sl 1 l[n].data),.row 2 2 0 (some (a.length+b.length)),.aa (.val (.string l[n].target)),.aa (.val (.int .i64 l[n].aG)),.aa (.sl 4 (l[n].ak.map bp.enc)),.aa (.val (.int .i64 l[n].aM)),.aa (.val (.int .i64 l[n].am)),.aa (.val (.int .i64 l[n].up))]) k [.aa (.val (.int .i64 l[k].ah)),.aa (.sl 1 l[k].data),.aa (.sl 2 l[k].aj),.aa (.val (.string l[k].target)),.aa (.val (.int .i64 l[k].aG)),.aa (.sl 4 (l[k].ak.map bp.enc)),.aa (.val (.int .i64 l[k].aM)),.aa (.val (.int .i64 (IntKind.i64.wrap (l[k].am-1)))),.aa (.val (.int .i64 l[k].up))])=bN n (.row 2 2 0 (some (a.length+b.length))) (l.set k {l[k]with am:=(IntKind.i64.wrap (l[k].am-1))}):=by
    rw[l6];have:=gz (p:=n) (c:= .row 2 2 0 (some (a.length+b.length))) (o:={l[k]with am:=(IntKind.i64.wrap (l[k].am-1))}) fy
    rw[<-this,li,if_neg HS]
   have tL:cR (a7 (a7 (bN n (.row 2 2 0 none) l) n [.aa (.val (.int .i64 l[n].ah)),.aa (.sl 1 l[n].data),.row 2 2 0 (some (a.length+b.length)),.aa (.val (.string l[n].target)),.aa (.val (.int .i64 l[n].aG)),.aa (.sl 4 (l[n].ak.map bp.enc)),.aa (.val (.int .i64 l[n].aM)),.aa (.val (.int .i64 l[n].am)),.aa (.val (.int .i64 l[n].up))]) k [.aa (.val (.int .i64 l[k].ah)),.aa (.sl 1 l[k].data),.aa (.sl 2 l[k].aj),.aa (.val (.string l[k].target)),.aa (.val (.int .i64 l[k].aG)),.aa (.sl 4 (l[k].ak.map bp.enc)),.aa (.val (.int .i64 l[k].aM)),.aa (.val (.int .i64 (IntKind.i64.wrap (l[k].am-1)))),.aa (.val (.int .i64 l[k].up))]) k=some [.aa (.val (.int .i64 l[k].ah)),.aa (.sl 1 l[k].data),.aa (.sl 2 l[k].aj),.aa (.val (.string l[k].target)),.aa (.val (.int .i64 l[k].aG)),.aa (.sl 4 (l[k].ak.map bp.enc)),.aa (.val (.int .i64 l[k].aM)),.aa (.val (.int .i64 (IntKind.i64.wrap (l[k].am-1)))),.aa (.val (.int .i64 l[k].up))]:=by
    rw[bg,aT,QO (by rw[l6,gy];exact fy)]
   refine ag (by rw[l6];exact d8 _ l k rfl fy:dt (k:Nat) (lenOf (a7 (bN n (.row 2 2 0 none) l) n [.aa (.val (.int .i64 l[n].ah)),.aa (.sl 1 l[n].data),.row 2 2 0 (some (a.length+b.length)),.aa (.val (.string l[n].target)),.aa (.val (.int .i64 l[n].aG)),.aa (.sl 4 (l[n].ak.map bp.enc)),.aa (.val (.int .i64 l[n].aM)),.aa (.val (.int .i64 l[n].am)),.aa (.val (.int .i64 l[n].up))]).length 0 none)=some k) ?_
   refine ag (by rw[l6];exact La:cR (a7 (bN n (.row 2 2 0 none) l) n [.aa (.val (.int .i64 l[n].ah)),.aa (.sl 1 l[n].data),.row 2 2 0 (some (a.length+b.length)),.aa (.val (.string l[n].target)),.aa (.val (.int .i64 l[n].aG)),.aa (.sl 4 (l[n].ak.map bp.enc)),.aa (.val (.int .i64 l[n].aM)),.aa (.val (.int .i64 l[n].am)),.aa (.val (.int .i64 l[n].up))]) k=some [.aa (.val (.int .i64 l[k].ah)),.aa (.sl 1 l[k].data),.aa (.sl 2 l[k].aj),.aa (.val (.string l[k].target)),.aa (.val (.int .i64 l[k].aG)),.aa (.sl 4 (l[k].ak.map bp.enc)),.aa (.val (.int .i64 l[k].aM)),.aa (.val (.int .i64 l[k].am)),.aa (.val (.int .i64 l[k].up))]) ?_
   refine ag (by rw[l6];exact d8 _ l k rfl fy:dt (k:Nat) (lenOf (a7 (bN n (.row 2 2 0 none) l) n [.aa (.val (.int .i64 l[n].ah)),.aa (.sl 1 l[n].data),.row 2 2 0 (some (a.length+b.length)),.aa (.val (.string l[n].target)),.aa (.val (.int .i64 l[n].aG)),.aa (.sl 4 (l[n].ak.map bp.enc)),.aa (.val (.int .i64 l[n].aM)),.aa (.val (.int .i64 l[n].am)),.aa (.val (.int .i64 l[n].up))]).length 0 none)=some k) ?_
   refine ag (by rw[l6];exact La:cR (a7 (bN n (.row 2 2 0 none) l) n [.aa (.val (.int .i64 l[n].ah)),.aa (.sl 1 l[n].data),.row 2 2 0 (some (a.length+b.length)),.aa (.val (.string l[n].target)),.aa (.val (.int .i64 l[n].aG)),.aa (.sl 4 (l[n].ak.map bp.enc)),.aa (.val (.int .i64 l[n].aM)),.aa (.val (.int .i64 l[n].am)),.aa (.val (.int .i64 l[n].up))]) k=some [.aa (.val (.int .i64 l[k].ah)),.aa (.sl 1 l[k].data),.aa (.sl 2 l[k].aj),.aa (.val (.string l[k].target)),.aa (.val (.int .i64 l[k].aG)),.aa (.sl 4 (l[k].ak.map bp.enc)),.aa (.val (.int .i64 l[k].aM)),.aa (.val (.int .i64 l[k].am)),.aa (.val (.int .i64 l[k].up))]) ?_
   refine ag (by rw[nn];exact d8 _ _ k (aab ..) fy:dt (k:Nat) (lenOf (a7 (a7 (bN n (.row 2 2 0 none) l) n [.aa (.val (.int .i64 l[n].ah)),.aa (.sl 1 l[n].data),.row 2 2 0 (some (a.length+b.length)),.aa (.val (.string l[n].target)),.aa (.val (.int .i64 l[n].aG)),.aa (.sl 4 (l[n].ak.map bp.enc)),.aa (.val (.int .i64 l[n].aM)),.aa (.val (.int .i64 l[n].am)),.aa (.val (.int .i64 l[n].up))]) k [.aa (.val (.int .i64 l[k].ah)),.aa (.sl 1 l[k].data),.aa (.sl 2 l[k].aj),.aa (.val (.string l[k].target)),.aa (.val (.int .i64 l[k].aG)),.aa (.sl 4 (l[k].ak.map bp.enc)),.aa (.val (.int .i64 l[k].aM)),.aa (.val (.int .i64 (IntKind.i64.wrap (l[k].am-1)))),.aa (.val (.int .i64 l[k].up))]).length 0 none)=some k) ?_
   refine ag tL ?_;refine bz (fun o5=>?_) (fun o5=>?_)
   .have o5:l[k].ah=2:=o5;have K6:(a7 (a7 (a7 (bN n (.row 2 2 0 none) l) n [.aa (.val (.int .i64 l[n].ah)),.aa (.sl 1 l[n].data),.row 2 2 0 (some (a.length+b.length)),.aa (.val (.string l[n].target)),.aa (.val (.int .i64 l[n].aG)),.aa (.sl 4 (l[n].ak.map bp.enc)),.aa (.val (.int .i64 l[n].aM)),.aa (.val (.int .i64 l[n].am)),.aa (.val (.int .i64 l[n].up))]) k [.aa (.val (.int .i64 l[k].ah)),.aa (.sl 1 l[k].data),.aa (.sl 2 l[k].aj),.aa (.val (.string l[k].target)),.aa (.val (.int .i64 l[k].aG)),.aa (.sl 4 (l[k].ak.map bp.enc)),.aa (.val (.int .i64 l[k].aM)),.aa (.val (.int .i64 (IntKind.i64.wrap (l[k].am-1)))),.aa (.val (.int .i64 l[k].up))]) k [.aa (.val (.int .i64 l[k].ah)),.aa (.sl 1 l[k].data),.aa (.sl 2 l[k].aj),.aa (.val (.string l[k].target)),.aa (.val (.int .i64 l[k].aG)),.aa (.sl 4 (l[k].ak.map bp.enc)),.aa (.val (.int .i64 l[k].aM)),.aa (.val (.int .i64 (IntKind.i64.wrap (l[k].am-1)))),.aa (.val (.int .i64 (k:Nat)))])=bN n (.row 2 2 0 (some (a.length+b.length))) (l.set k {l[k]with am:=(IntKind.i64.wrap (l[k].am-1)),up:=(k:Int)}):=by
     rw[nn];have:=gz (p:=n) (c:= .row 2 2 0 (some (a.length+b.length))) (l:=l.set k {l[k]with am:=(IntKind.i64.wrap (l[k].am-1))}) (k:=k) (o:={l[k]with am:=(IntKind.i64.wrap (l[k].am-1)),up:=(k:Int)}) (by rw[aab];exact fy)
     rw[abp]at this;rw[<-this,li,if_neg HS]
    refine ag (by rw[nn];exact d8 _ _ k (aab ..) fy:dt (k:Nat) (lenOf (a7 (a7 (bN n (.row 2 2 0 none) l) n [.aa (.val (.int .i64 l[n].ah)),.aa (.sl 1 l[n].data),.row 2 2 0 (some (a.length+b.length)),.aa (.val (.string l[n].target)),.aa (.val (.int .i64 l[n].aG)),.aa (.sl 4 (l[n].ak.map bp.enc)),.aa (.val (.int .i64 l[n].aM)),.aa (.val (.int .i64 l[n].am)),.aa (.val (.int .i64 l[n].up))]) k [.aa (.val (.int .i64 l[k].ah)),.aa (.sl 1 l[k].data),.aa (.sl 2 l[k].aj),.aa (.val (.string l[k].target)),.aa (.val (.int .i64 l[k].aG)),.aa (.sl 4 (l[k].ak.map bp.enc)),.aa (.val (.int .i64 l[k].aM)),.aa (.val (.int .i64 (IntKind.i64.wrap (l[k].am-1)))),.aa (.val (.int .i64 l[k].up))]).length 0 none)=some k) ?_
    refine ag tL ?_;obtain⟨o2,nV,eE⟩:=iP (name:=name) hn fy HM (q:={l[k]with am:=(IntKind.i64.wrap (l[k].am-1)),up:=(k:Int)}) (by rw[if_pos o5])
    refine⟨_,View.o 3 [] [1,2] ?_ (.nil _),iy _ eE⟩
    iterate 9 refine .aq ?_
    refine .eq rfl ?_;refine .put (.rv (.one (.eu (p:=none) (Bo (Z:=fun k=>bs [1,2] k=true) rfl (by show some (Bk.row 9 _)=some (Bk.row 9 _);congr 1;exact congrArg _ K6) (hq _ rfl) nV)))) ?_
    repeat(first|exact .nil|refine .aq ?_)
   .have o5:l[k].ah≠2:=o5;obtain⟨o2,nV,eE⟩:=iP (name:=name) hn fy HM (q:={l[k]with am:=(IntKind.i64.wrap (l[k].am-1))}) (by rw[if_neg o5])
    refine⟨_,View.o 3 [] [1,2] ?_ (.nil _),iy _ eE⟩
    iterate 9 refine .aq ?_
    refine .eq rfl ?_;refine .put (.rv (.one (.eu (p:=none) (Bo (Z:=fun k=>bs [1,2] k=true) rfl (by show some (Bk.row 9 _)=some (Bk.row 9 _);congr 1;exact congrArg _ nn) (hq _ rfl) nV)))) ?_
    repeat(first|exact .nil|refine .aq ?_)
theorem D2(l:List Obj)(hs:vh l)(cE:Int)(name:ByteArray){m:Mem}{K:CV->Mem->Prop}(h:K (.bG [lM (cN l cE name).1,cD (cN l cE name).2.1,cD (cN l cE name).2.2]) m):ar Tryz.prog 61 [cq l,an .i64 cE,dk name] m K:=by
 refine aY (K0:=fun r m=>r= .bG [lM (cN l cE name).1,cD (cN l cE name).2.1,cD (cN l cE name).2.2]/\m=[]) (bK (cf Tryz.func61 l61 (y4 l hs cE name)) fun r m1⟨r',m',hv,h1,h2⟩=>⟨r',m',hv,h1,h2⟩) (by simp[cq,an,dk,CV.c7,CC.c7]) fun r m1 hr=>?_
 obtain⟨rfl,rfl⟩:=hr;exact⟨_,cw.self rfl,h⟩
end Go.Proofs.YthagjdhjmamakaaGreatDoor
