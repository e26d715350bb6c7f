/- Part 22 of 39: what the law stands on. -/
import Derived.Test.YtodckkkbiidffaaGreatDoorT16
import Derived.Test.YtodckkkbiidffaaGreatDoorT21
set_option linter.unusedVariables false
set_option linter.unusedSimpArgs false
set_option linter.unnecessarySimpa false
set_option maxRecDepth 100000
set_option maxHeartbeats 64000000
namespace Go.Proofs.YtodckkkbiidffaaGreatDoor
open Go.AM Go.ChangeShapes Go.WideShapes Go.ChangeAt Go.RowKit
theorem NH(k a c:Kr)(ha:iB k a)(hc:da a.l a.ops a.ps c.l c.ops c.ps false)(hk:dz c.l c.ops c.ps)(n1:Nat)(h1:qK qO 1 c.l n1):
  aw Tryz.prog 0 T4 (VN k) ⟨VO,[.aO,.var z3,.var [.aa (c7 (c.l.take n1)),.aa (eB c.ops),.row 3 4 0 none],.row 4 (af (c.ps.map bj.enc))]⟩:=by
 have gx:=hk.lo;refine ba (fun n=>F3 qP 0 c.ops n) [2,3] (fun _=>[]) (fun n=>[.aO,.var z3,.var [.aa (c7 (c.l.take n1)),.aa (eB (c.ops.take n)),.row 3 4 0 none],.row 4 (af (c.ps.map bj.enc))]) (fun n=>n) c.ops.length (.start _ _ _) ?_ (fun n hn=>?_)
 .refine View.o1 4 [0,1,2,3] [] ?_
  .exact(.aO (.pe rfl rfl rfl (.pt rfl rfl (eC.var (.cons (.aQ (.aa _)) (.cons (IY (by rw[aal])) (.cons (.aQ (.row 3 4 0 none)) .nil)))) (.pn rfl rfl rfl))))
 have hn:F3 qP 0 c.ops n:=hn;have jQ:=hn.le;refine aJ (fun h=>?_) (fun h=>?_)
 .have og:0<n:=by have h:(((c.ops.take n).map bD.enc).length:Int)>0:=h;rw[KB,gF jQ]at h;omega
  have hz:IntKind.i64.wrap ((((c.ops.take n).map bD.enc).length:Int)-1)=((n-1:Nat):Int):=by rw[KB,gF jQ,gk om om];omega
  have aE:n-1<c.ops.length:=om;have hg:=t6 bD.enc c.ops om jQ;rw[<-hz]at hg;have mc:=sA aE;have nO:=hn.step om aE;generalize c.ops[n-1]=x at hg mc nO;have hg:dg ((c.ops.take n).map bD.enc) (IntKind.i64.wrap ((((c.ops.take n).map bD.enc).length:Int)-1))=some [.val (.int .i64 x.br),.val (.int .i64 x.cT)]:=hg;refine ag hg ?_;refine aJ (fun hx=>?_) (fun hx=>?_)
  .have hq:qP (n-1) x=true:=decide_eq_true hx;refine ag (x:=n-1) (by show nC (an .i64 (IntKind.i64.wrap ((((c.ops.take n).map bD.enc).length:Int)-1)))=_;rw[hz];rfl) ?_
   refine cj (by simp[aak];omega) ?_
   refine⟨n-1,nO hq,(show n-1<n by omega),View.o1 4 [0,1,2,3] [] ?_⟩
   .exact(.aO (.pe rfl rfl rfl (.pt rfl rfl (eC.var (.cons (.aQ (.aa _)) (.cons (IY (congrArg (Dt.sl 2) (tZ bD.enc c.ops jQ))) (.cons (.aQ (.row 3 4 0 none)) .nil)))) (.pn rfl rfl rfl))))
  .have hq:qP (n-1) x=false:=decide_eq_false hx;refine fv [2,3] [] ([.aO,.var z3,.var [.aa (c7 (c.l.take n1)),.aa (eB (c.ops.take n)),.row 3 4 0 none],.row 4 (af (c.ps.map bj.enc))]) (View.o1 4 [0,1,2,3] [] ?_) ?_
   .exact(.aO (.pe rfl rfl rfl (.pt rfl rfl (eC.var (.cons (.aQ (.aa _)) (.cons (.aQ (.aa _)) (.cons (.aQ (.row 3 4 0 none)) .nil)))) (.pn rfl rfl rfl))))
   exact NG k a c ha hc hk n1 n h1 ⟨hn,(.inr ⟨x,mc,hq⟩)⟩
 .have og:n<=0:=by have h:¬(((c.ops.take n).map bD.enc).length:Int)>0:=h;rw[KB,gF jQ]at h;omega
  refine fv [2,3] [] ([.aO,.var z3,.var [.aa (c7 (c.l.take n1)),.aa (eB (c.ops.take n)),.row 3 4 0 none],.row 4 (af (c.ps.map bj.enc))]) (View.o1 4 [0,1,2,3] [] ?_) ?_
  .exact(.aO (.pe rfl rfl rfl (.pt rfl rfl (eC.var (.cons (.aQ (.aa _)) (.cons (.aQ (.aa _)) (.cons (.aQ (.row 3 4 0 none)) .nil)))) (.pn rfl rfl rfl))))
  exact NG k a c ha hc hk n1 n h1 ⟨hn,(.inl og)⟩
theorem Ck(k:Kr)(hk:dz k.l k.ops k.ps):body Tryz.prog c41 [dR k.l k.ops k.ps] [] (KS k):=by
 refine gD k.l k.ops k.ps ⟨hk.ll,fun o ho=>(hk.sm o ho).mz⟩ hk.lo hk.lp hk.sl hk.ne ?_
 refine ba (fun(a:Kr)=>iB k a/\dz a.l a.ops a.ps) [2] (fun _=>[(3,.rv (.one (.ptr 2 0)))]) (fun a=>[.aO,.var z3,.var [.row 3 9 0 none,.row 4 2 0 none,.row 5 4 0 none],.row 9 (af (a.l.map Obj.enc)),.row 2 (af (a.ops.map bD.enc)),.row 4 (af (a.ps.map bj.enc))]) (fun a=>jD a.ps) k ⟨.refl,hk⟩ ?_ (fun a ha=>?_)
 .refine View.o1 6 [0,1,5,2,3,4] [] ?_
  .exact(.aO (.pe rfl rfl rfl (.pe rfl rfl rfl (.pr rfl rfl rfl (.pr rfl rfl rfl (.pn rfl rfl rfl))))))
 obtain⟨ha,KX⟩:=ha;refine Ci a KX .aO fun c en ho=>?_
 refine aD (fun he=>?_) (fun he=>?_)
 .subst he;refine⟨c,⟨.step ha ho,ho.kr KX⟩,ho.jD,View.o1 6 [0,1,2,3,4,5] [] ?_⟩
  .exact(.aO (.pe rfl rfl rfl (.pe rfl rfl rfl (.pr rfl rfl rfl (.pr rfl rfl rfl (.pn rfl rfl rfl))))))
 .subst he;have hc:=ho;have Ld:=ho.kr KX;have Ra:=Ld.ll;refine ba (fun n=>F3 qO 1 c.l n) [2,3] (fun _=>[]) (fun n=>[.aO,.var z3,.var [.aa (c7 (c.l.take n)),.aa (eB c.ops),.row 3 4 0 none],.row 4 (af (c.ps.map bj.enc))]) (fun n=>n) c.l.length (.start _ _ _) ?_ (fun n hn=>?_)
  .refine View.o1 6 [0,1,2,5] [3,4] ?_
   .exact(.aO (.pe rfl rfl rfl (.pt rfl rfl (eC.var (.cons (by rw[aal];exact .eZ (dj.dX (Z:=fun k=>bz [3,4] k=true) rfl rfl 0 none)) (.cons (.eZ (dj.dX (Z:=fun k=>bz [3,4] k=true) rfl rfl 0 none)) (.cons (.aQ (.row 3 4 0 none)) .nil)))) (.pn rfl rfl rfl))))
  have hn:F3 qO 1 c.l n:=hn;have jQ:=hn.le;refine aJ (fun h=>?_) (fun h=>?_)
  .have og:1<n:=by have h:(((c.l.take n).map Obj.enc).length:Int)>1:=h;rw[KB,gF jQ]at h;omega
   have hz:IntKind.i64.wrap ((((c.l.take n).map Obj.enc).length:Int)-1)=((n-1:Nat):Int):=by rw[KB,gF jQ,gk om om];omega
   have aE:n-1<c.l.length:=om;have hg:=t6 Obj.enc c.l om jQ;rw[<-hz]at hg;have mc:=sA aE;have nO:=hn.step om aE;generalize c.l[n-1]=x at hg mc nO;have hg:dg ((c.l.take n).map Obj.enc) (IntKind.i64.wrap ((((c.l.take n).map Obj.enc).length:Int)-1))=some [.val (.int .i64 x.ah),.sl 1 x.data,.sl 2 x.aj,.val (.string x.target),.val (.int .i64 x.aC),.sl 4 (x.ak.map bo.enc),.val (.int .i64 x.aM),.val (.int .i64 x.am),.val (.int .i64 x.up)]:=hg;refine ag hg ?_;refine bA (fun hx=>?_) (fun hx=>?_)
   .have hq:qO (n-1) x=true:=(by unfold qO;simpa using hx)
    refine ag (x:=n-1) (by show nC (an .i64 (IntKind.i64.wrap ((((c.l.take n).map Obj.enc).length:Int)-1)))=_;rw[hz];rfl) ?_
    refine cj (by simp[aak];omega) ?_
    refine⟨n-1,nO hq,(show n-1<n by omega),View.o1 4 [0,1,2,3] [] ?_⟩
    .exact(.aO (.pe rfl rfl rfl (.pt rfl rfl (eC.var (.cons (IY (congrArg (Dt.sl 9) (tZ Obj.enc c.l jQ))) (.cons (.aQ (.aa _)) (.cons (.aQ (.row 3 4 0 none)) .nil)))) (.pn rfl rfl rfl))))
   .have hq:qO (n-1) x=false:=(by unfold qO;simpa using hx)
    refine fv [2,3] [] ([.aO,.var z3,.var [.aa (c7 (c.l.take n)),.aa (eB c.ops),.row 3 4 0 none],.row 4 (af (c.ps.map bj.enc))]) (View.o1 4 [0,1,2,3] [] ?_) ?_
    .exact(.aO (.pe rfl rfl rfl (.pt rfl rfl (eC.var (.cons (.aQ (.aa _)) (.cons (.aQ (.aa _)) (.cons (.aQ (.row 3 4 0 none)) .nil)))) (.pn rfl rfl rfl))))
    exact NH k a c ha hc Ld n ⟨hn,(.inr ⟨x,mc,hq⟩)⟩
  .have og:n<=1:=by have h:¬(((c.l.take n).map Obj.enc).length:Int)>1:=h;rw[KB,gF jQ]at h;omega
   refine fv [2,3] [] ([.aO,.var z3,.var [.aa (c7 (c.l.take n)),.aa (eB c.ops),.row 3 4 0 none],.row 4 (af (c.ps.map bj.enc))]) (View.o1 4 [0,1,2,3] [] ?_) ?_
   .exact(.aO (.pe rfl rfl rfl (.pt rfl rfl (eC.var (.cons (.aQ (.aa _)) (.cons (.aQ (.aa _)) (.cons (.aQ (.row 3 4 0 none)) .nil)))) (.pn rfl rfl rfl))))
   exact NH k a c ha hc Ld n ⟨hn,(.inl og)⟩
theorem IZ(k:Kr)(hk:dz k.l k.ops k.ps){m:Mem}{K:CV->Mem->Prop}(h:∀a c d,iB k a->da a.l a.ops a.ps c.l c.ops c.ps false->kp c d->K (dR d.l d.ops d.ps) m):aq Tryz.prog 41 [dR k.l k.ops k.ps] m K:=by
 refine aY (K0:=KS k) (ce Tryz.func41 l41 (Ck k hk)) (by simp[dR,c7,eB,fE,CV.c6,CC.c6,RV.c6]) fun r m1 hr=>?_
 obtain⟨a,c,d,h1,h2,h3,hf⟩:=hr;exact⟨_,hf,h a c d h1 h2 h3⟩
def ja(l L:List Obj):Prop:=L.length<=l.length/\∀(i:Nat)o,L[i]? =some o->o.ah≠0->∃o':Obj,l[i]? =some o'/\o={o' with aC:=o.aC}
def jc(p P:List bj):Prop:=P.length<=p.length/\∀(i:Nat)x,P[i]? =some x->x.a7=true->p[i]? =some x
theorem ja.refl(l:List Obj):ja l l:=⟨Pq _,fun i o h _=>⟨o,h,rfl⟩⟩
theorem ja.trans{a b c:List Obj}(h1:ja a b)(h2:ja b c):ja a c:=by
 refine⟨aaP h2.1 h1.1,fun i o ho hk=>?_⟩
 obtain⟨o',iG,e⟩:=h2.2 i o ho hk;have gv:o'.ah≠0:=by rw[e]at hk;exact hk
 obtain⟨o2,nr,e2⟩:=h1.2 i o' iG gv;refine⟨o2,nr,?_⟩;rw[e,e2]
theorem jc.refl(l:List bj):jc l l:=⟨Pq _,fun i o h _=>h⟩
theorem jc.trans{a b c:List bj}(h1:jc a b)(h2:jc b c):jc a c:=
 ⟨aaP h2.1 h1.1,fun i x hx hl=>h1.2 i x (h2.2 i x hx hl) hl⟩
theorem Pt.get{α:Type}{l L:List α}{f:Nat->α->α}(h:Pt l L f){i:Nat}{x:α}(hx:L[i]? =some x):∃o,l[i]? =some o/\x=f i o:=by
 have aE:i<l.length:=by have:=(Gf.1 hx).1;rw[h.1]at this;exact this
 have:=h.2 i l[i] (sA aE);rw[hx]at this;cases this;exact⟨_,sA aE,rfl⟩
theorem da.eQ{l:List Obj}{ops:List bD}{ps:List bj}{L:List Obj}{L2:List bD}{L3:List bj}{en:Bool}(h:da l ops ps L L2 L3 en):ja l L/\jc ps L3:=by
 obtain⟨b,hb,hP,Ep⟩:=h.ex;refine⟨⟨by rw[hP.1];exact Pq _,fun i o ho hk=>?_⟩,by rw[h.pr.1];exact Pq _,fun i x hx hl=>?_⟩
 .obtain⟨o',iG,e⟩:=hP.get ho;refine⟨o',iG,?_⟩;unfold cA at e;split at e
  .rw[e]at hk;exact absurd rfl hk
  .split at e
   .rw[e]
   .rw[e]
 .obtain⟨y,hy,e⟩:=h.pr.get hx;unfold wu at e;split at e
  .rw[e]at hl;simp[fF]at hl
  .rw[e];exact hy
theorem iB.eQ{k a:Kr}(h:iB k a):ja k.l a.l/\jc k.ps a.ps:=by
 induction h with
 |refl=>exact⟨.refl _,.refl _⟩
 |step h ho ih=>exact⟨ih.1.trans ho.eQ.1,ih.2.trans ho.eQ.2⟩
theorem kp.eQ{c d:Kr}(h:kp c d):ja c.l d.l/\jc c.ps d.ps:=by
 obtain⟨n1,n2,n3,P,h1,h2,hP,h3,rfl⟩:=h.ex;refine⟨⟨by simp[Z3];omega,fun i o ho _=>?_⟩,by simp[Z3];have:=hP.1;omega,fun i x hx hl=>?_⟩
 .have ho:(c.l.take n1)[i]? =some o:=ho;rw[aaj]at ho;split at ho
  .exact⟨o,ho,rfl⟩
  .cases ho
 .have hx:(P.take n3)[i]? =some x:=hx;rw[aaj]at hx;split at hx
  .obtain⟨y,hy,e⟩:=hP.get hx;unfold xP at e;split at e
   .rw[e]at hl;simp[fF]at hl
   .rw[e];exact hy
  .cases hx
theorem kp.one{c d:Kr}(h:kp c d)(hc:c.ps≠[]):1<=d.ps.length:=by obtain⟨n1,n2,n3,P,h1,h2,hP,h3,rfl⟩:=h.ex;have hl:0<c.ps.length:=abX.2 hc;have:=h3.t.mn;rw[hP.1]at this;have h4:=h3.t.le;show 1<=(P.take n3).length;rw[Z3];omega
theorem kL.ah{l:List Obj}{ops:List bD}{ps:List bj}{b:Mk}(h:kL l ops ps b){i:Nat}(hi:dt b.O i):∃o,l[i]? =some o/\o.ah≠0:=by refine(h.pD (fun i=>∃o,l[i]? =some o/\o.ah≠0) (fun c=>c<ops.length) ⟨fun i o _ _ z n _ hv=>hv.2,fun i o _ _ z c _ hv=>hv.2,fun c o _ _ n hv=>hv.2⟩ ⟨fun n hv=>hv.2,fun p pr _ _ s _ _ c hv=>hv.2⟩).1 i hi
theorem kp.kr{c d:Kr}(h:kp c d)(k:dz c.l c.ops c.ps):dz d.l d.ops d.ps:=by
 have h1:=h.one k.ne;obtain⟨n1,n2,n3,P,t1,t2,hP,t3,rfl⟩:=h.ex;refine⟨fun o ho=>k.sm o (aaw ho),?_,?_,?_,fun p hp=>?_,fun e=>?_⟩
 .show(c.l.take n1).length<=_;rw[Z3];have:=k.ll;omega
 .show(c.ops.take n2).length<=_;rw[Z3];have:=k.lo;omega
 .show(P.take n3).length<=_;rw[Z3,hP.1];have:=k.lp;omega
 .refine hP.all (Q:=fun p=>p.bd.length<=10) (fun t o ho=>?_) p (aaw hp)
  unfold xP;split
  .simp[fF]
  .exact k.sl o (NQ ho)
 .have h1:1<=(P.take n3).length:=h1;have e:P.take n3=[]:=e;rw[e]at h1;simp at h1
theorem zY{L:List Obj}{ps:List bj}(h:false=ko L ps ps.length){t:Nat}{x:bj}(hx:ps[t]? =some x):lP L t x=false:=by
 cases he:lP L t x with
 |false=>rfl
 |true=>
  have:ko L ps ps.length=true:=by
   unfold ko;rw[aaB];exact⟨t,by simpa using(Gf.1 hx).1,by rw[hx];exact he⟩
  rw[this]at h;cases h
theorem Pt.id{α:Type}{l L:List α}{f:Nat->α->α}(h:Pt l L f)(hf:∀(t:Nat)o,l[t]? =some o->f t o=o):L=l:=by
 apply aaL;intro t;cases ht:l[t]? with
 |some o=>rw[h.2 t o ht,hf t o ht]
 |none=>
  have:l.length<=t:=by simpa using ht
  simp[h.1,this]
structure Left(c:Kr)(b:Mk):Prop where
 ok:kL c.l c.ops c.ps b
 all:∀(i:Nat)o,c.l[i]? =some o->o.ah≠0->dt b.O i
 ops:∀(i:Nat)o,c.ops[i]? =some o->¬dt b.P i->o=⟨-1,0⟩
 prs:∀(t:Nat)x,c.ps[t]? =some x->lP c.l t x=false
theorem da.left{a c:Kr}(h:da a.l a.ops a.ps c.l c.ops c.ps false):∃b,Left c b:=by
 obtain⟨b,hb,hP,Ep⟩:=h.ex;have oP:c.ps=a.ps:=h.pr.id fun t o ho=>by have:=zY h.en ho;simp[wu,this]
 have hlen:=hP.1;have rH:=Ep.1;have Er:∀(i:Nat)o',a.l[i]? =some o'->dt b.O i->∃o,c.l[i]? =some o/\o.ah=o'.ah/\o.aj=o'.aj/\o.ak=o'.ak:=fun i o' iG hi=>by
  refine⟨_,hP.2 i o' iG,?_⟩;have hd:eT b a.l i=false:=by unfold eT;rw[iG];have:b.O[i]? =some true:=hi;simp[this]
  unfold cA;rw[hd];simp only[Bool.false_and,aaV,if_false];split<;>exact⟨rfl,rfl,rfl⟩
 have NI:∀(i:Nat)o,c.l[i]? =some o->o.ah≠0->dt b.O i/\∃o',a.l[i]? =some o'/\o.ah=o'.ah/\o.aj=o'.aj/\o.ak=o'.ak:=fun i o ho hk=>by
  obtain⟨o',iG,e⟩:=hP.get ho;have Nb:i<a.l.length:=(Gf.1 iG).1;unfold cA at e;split at e
  .rw[e]at hk;exact absurd rfl hk
  .rename_i pZ;have X4:o.ah=o'.ah:=by split at e<;>rw[e]
   refine⟨?_,o',iG,X4,by split at e<;>rw[e],by split at e<;>rw[e]⟩
   have hd:eT b a.l i=false:=by
    cases Lj:eT b a.l i with
    |false=>rfl
    |true=>exact absurd (by rw[Lj];simpa using Nb) pZ
   unfold eT at hd;rw[iG]at hd;have gv:(o'.ah !=0)=true:=by rw[<-X4];simpa using hk
   simp only[gv,Bool.and_true]at hd;simpa[dt]using hd
 have Q9:∀z n,vO c.l z n->dt b.O n/\vO a.l z n:=fun z n hv=>by
  obtain⟨hz,o,ho,hk⟩:=hv;obtain⟨h1,o',iG,gv,_⟩:=NI n o ho hk;exact⟨h1,hz,o',iG,by rw[<-gv];exact hk⟩
 have VS:∀z n,vO a.l z n->dt b.O n->vO c.l z n:=fun z n hv hn=>by
  obtain⟨hz,o',iG,hk⟩:=hv;obtain⟨o,ho,gv,_⟩:=Er n o' iG hn;exact⟨hz,o,ho,by rw[gv];exact hk⟩
 have Uh:∀z n,vP c.ops z n↔vP a.ops z n:=fun z n=>by unfold vP;rw[rH]
 have ZS:∀(i:Nat)o,c.ops[i]? =some o->dt b.P i->a.ops[i]? =some o:=fun i o ho hi=>by obtain⟨o',iG,e⟩:=Ep.get ho;have:b.P[i]? =some true:=hi;rw[e];simpa[Bc,this]using iG
 refine⟨b,⟨⟨by rw[hlen];exact hb.len.1,by rw[rH];exact hb.len.2⟩,⟨fun n hv=>(Q9 0 n hv).1,fun p pr hp hl s hs hh cc hv=>?_⟩,⟨fun i o hi ho z n hz hv=>(Q9 z n hv).1,fun i o hi ho z cc hz hv=>?_,fun cc o hc ho n hv=>(Q9 _ n hv).1⟩,fun RO RP gT hr=>?_⟩,fun i o ho hk=>(NI i o ho hk).1,fun i o ho hn=>?_,fun t x hx=>?_⟩
 .rw[oP]at hp;exact hb.tU.2 p pr hp hl s hs hh cc ((Uh _ _).1 hv)
 .obtain⟨o',iG,e⟩:=hP.get ho;obtain⟨o2,nr,_,_,hq⟩:=Er i o' iG hi;rw[ho]at nr;cases nr;obtain⟨q,Eo,K2,VT⟩:=hz;exact hb.cl.q i o' hi iG z cc ⟨q,by rw[<-hq];exact Eo,K2,VT⟩ ((Uh _ _).1 hv)
 ·
  have jx:=hb.pD (fun i=>RO i/\dt b.O i) (fun cc=>RP cc/\dt b.P cc) ⟨fun i o' hi iG z n hz hv=>?_,fun i o' hi iG z cc hz hv=>?_,fun cc o' hc iG n hv=>?_⟩ ⟨fun n hv=>?_,fun p pr hp hl s hs hh cc hv=>?_⟩
  .exact⟨fun i hi=>(jx.1 i hi).1,fun i hi=>(jx.2 i hi).1⟩
  .have hn:=hb.cl.e i o' hi.2 iG z n hz hv;obtain⟨o,ho,_,he,_⟩:=Er i o' iG hi.2;obtain⟨nm,hm⟩:=hz;exact⟨gT.e i o hi.1 ho z n ⟨nm,by rw[he];exact hm⟩ (VS z n hv hn),hn⟩
  .have hn:=hb.cl.q i o' hi.2 iG z cc hz hv;obtain⟨o,ho,_,_,hq⟩:=Er i o' iG hi.2;obtain⟨q,Eo,K2,VT⟩:=hz;exact⟨gT.q i o hi.1 ho z cc ⟨q,by rw[hq];exact Eo,K2,VT⟩ ((Uh _ _).2 hv),hn⟩
  .have hn:=hb.cl.p cc o' hc.2 iG n hv;have ZT:c.ops[cc]? =some o':=by have:=Ep.2 cc o' iG;have VU:b.P[cc]? =some true:=hc.2;simpa[Bc,VU]using this
   exact⟨gT.p cc o' hc.1 ZT n (VS _ n hv hn),hn⟩
  .have hn:=hb.tU.1 n hv;exact⟨hr.1 n (VS 0 n hv hn),hn⟩
  .exact⟨hr.2 p pr (by rw[oP];exact hp) hl s hs hh cc ((Uh _ _).2 hv),hb.tU.2 p pr hp hl s hs hh cc hv⟩
 .obtain⟨o',iG,e⟩:=Ep.get ho;have aE:i<a.ops.length:=(Gf.1 iG).1;have hn:(b.P[i]? ==some true)=false:=by simpa[dt]using hn
  rw[e];simp[Bc,hn,aE]
 .rw[oP]at hx;exact zY h.en hx
namespace Kn
structure I0(k d:Kr):Prop where
 ex:∃a c,iB k a/\da a.l a.ops a.ps c.l c.ops c.ps false/\kp c d
theorem mV{α:Type}{l L:List α}{f:Nat->α->α}(h:Pt l L f):L=l.mapIdx f:=by
 refine aaL fun i=>?_
 rw[aa7];cases hx:l[i]? with
 |none=>exact abz.2 (by rw[h.1];exact abz.1 hx)
 |some x=>rw[h.2 i x hx];rfl
theorem xQ{α:Type}(l:List α)(f:Nat->α->α):Pt l (l.mapIdx f) f:=
 ⟨aa4,fun t o ho=>by rw[aa7,ho];rfl⟩
theorem I1{A B:List Bool}(hl:A.length=B.length)(h:∀i,dt A i↔dt B i):A=B:=by
 refine List.ext_getElem hl fun i h1 h2=>?_
 have LB:=h i;unfold dt at LB;rw[sA h1,sA h2]at LB;simp only[Wm]at LB;cases ha:A[i]<;>cases hb:B[i]<;>simp[ha,hb]at LB⊢
theorem F4{l:List Obj}{ops:List bD}{ps:List bj}{b b':Mk}(h:kL l ops ps b)(h':kL l ops ps b'):b=b':=by
 have h1:=h.pD _ _ h'.cl h'.tU;have h2:=h'.pD _ _ h.cl h.tU;obtain⟨O,P⟩:=b;obtain⟨O',P'⟩:=b';have e1:O=O':=I1 (h.len.1.trans h'.len.1.symm) fun i=>⟨h1.1 i,h2.1 i⟩
 have e2:P=P':=I1 (h.len.2.trans h'.len.2.symm) fun i=>⟨h1.2 i,h2.2 i⟩
 rw[e1,e2]
theorem qM{k c c':Kr}{e e':Bool}(h:da k.l k.ops k.ps c.l c.ops c.ps e)(h':da k.l k.ops k.ps c'.l c'.ops c'.ps e'):c=c'/\e=e':=by
 obtain⟨b,hb,h1,h2⟩:=h.ex;obtain⟨b',qn,LB,Ns⟩:=h'.ex;have:=F4 hb qn;subst this;have e1:c.l=c'.l:=(mV h1).trans (mV LB).symm;have e2:c.ops=c'.ops:=(mV h2).trans (mV Ns).symm;have p:=h.pr;rw[e1]at p;have e3:c.ps=c'.ps:=(mV p).trans (mV h'.pr).symm;refine⟨?_,?_⟩
 .obtain⟨x,y,z⟩:=c;obtain⟨x',y',z'⟩:=c';simp only at e1 e2 e3;rw[e1,e2,e3]
 .rw[h.en,h'.en,e1]
theorem Es{k a:Kr}(h:iB k a):a=k\/∃x,da k.l k.ops k.ps x.l x.ops x.ps true/\iB x a:=by
 induction h with
 |refl=>exact .inl rfl
 | @step a b h s ih=>
  rcases ih with rfl|⟨x,hx,VV⟩
  .exact .inr ⟨b,s,.refl⟩
  .exact .inr ⟨x,hx,.step VV s⟩
theorem LS{k a b:Kr}(h1:iB k a)(h2:iB k b):iB a b\/iB b a:=by
 induction h2 with
 |refl=>exact .inr h1
 | @step b c h s ih=>
  rcases ih with h|h
  .exact .inl (.step h s)
  .rcases Es h with rfl|⟨x,hx,VV⟩
   .exact .inl (.step .refl s)
   .have:=(qM hx s).1;subst this;exact .inr VV
theorem LU{k a b c d:Kr}(h1:iB k a)(h2:iB k b)(o1:da a.l a.ops a.ps c.l c.ops c.ps false)(o2:da b.l b.ops b.ps d.l d.ops d.ps false):a=b:=by
 have key:∀{a b c:Kr},iB a b->da a.l a.ops a.ps c.l c.ops c.ps false->b=a:=fun h o=>by
  rcases Es h with h|⟨x,hx,_⟩
  .exact h
  .have:=(qM hx o).2;cases this
 rcases LS h1 h2 with h|h
 .exact(key h o1).symm
 .exact key h o2
theorem t7{α:Type}{q:Nat->α->Bool}{mn:Nat}{L:List α}{a b:Nat}(ha:qK q mn L a)(hb:qK q mn L b):a=b:=by
 have key:∀{a b:Nat},qK q mn L a->qK q mn L b->¬a<b:=fun{a b}ha hb aE=>by
  have h1:=ha.t.mn;have h2:=hb.t.le;rcases hb.e with h3|⟨o,ho,hq⟩
  .omega
  .have:=ha.t.dr (b-1) o om ho;rw[hq]at this;cases this
 have h1:=key ha hb;have h2:=key hb ha;omega
theorem I2{c d d':Kr}(h:kp c d)(h':kp c d'):d=d':=by obtain⟨n1,n2,n3,P,a1,a2,a3,a4,rfl⟩:=h.ex;obtain⟨m1,m2,m3,P',b1,b2,b3,b4,rfl⟩:=h'.ex;have:=t7 a1 b1;subst this;have:=t7 a2 b2;subst this;have:=(mV a3).trans (mV b3).symm;subst this;have:=t7 a4 b4;subst this;rfl
theorem I0.zl{k d d':Kr}(h:I0 k d)(h':I0 k d'):d=d':=by obtain⟨a,c,h1,h2,h3⟩:=h.ex;obtain⟨a',c',LB,Ns,ZU⟩:=h'.ex;have:=LU h1 LB h2 Ns;subst this;have:=(qM h2 Ns).1;subst this;exact I2 h3 ZU
def VW(l:List Obj)(i:Nat):Bool:=match l[i]? with|some o=>o.ah !=0|none=>false
def VX(l:List Obj)(O:List Bool)(i:Nat):Bool:=(l.zip O).any fun y=>y.2&&y.1.aj.any fun e=>(ma e).2==(i:Int)
def VY(ops:List bD)(P:List Bool)(i:Nat):Bool:=(ops.zip P).any fun y=>y.2&&y.1.br==(i:Int)
def VZ(l:List Obj)(O:List Bool)(c:Nat):Bool:=(l.zip O).any fun y=>y.2&&y.1.ak.any fun q=>q.has&&q.eE==(c:Int)
def Bd(l:List Obj)(ops:List bD)(b:Mk):Mk:=
 ⟨b.O.mapIdx fun i x=>x||(VW l i&&(VX l b.O i||VY ops b.P i)),b.P.mapIdx fun c x=>x||VZ l b.O c⟩
def F5(l:List Obj)(ops:List bD)(ps:List bj):Mk:=
 ⟨l.mapIdx fun i o=>decide (i=0)&&o.ah !=0,ops.mapIdx fun c _=>ps.any fun p=>p.a7&&p.bd.any fun s=>s.has&&s.eE==(c:Int)⟩
def O5{α:Type}(f:α->α):Nat->α->α
 |0,a=>a
 |n+1,a=>O5 f n (f a)
def mW(l:List Obj)(ops:List bD)(ps:List bj):Mk:=O5 (Bd l ops) (l.length+ops.length) (F5 l ops ps)
theorem qN:∀(a b:List Bool),b.length=a.length->(∀i,dt a i->dt b i)->a≠b->dE b<dE a
 | [],[],_,_,h=>absurd rfl h
 | [],_::_,h,_,_=>by simp at h
 |_::_,[],h,_,_=>by simp at h
 |x::a,y::b,h,hm,eG=>by
  have hl:b.length=a.length:=by simpa using h
  have Q7:∀i,dt a i->dt b i:=fun i hi=>by have:=hm (i+1);unfold dt at this hi⊢;simp only[aaU]at this;exact this hi
  have h0:x=true->y=true:=fun hx=>by have:=hm 0;unfold dt at this;simp only[abp,Wm]at this;exact this hx
  have hle:=jq a b hl Q7;by_cases Be:a=b
  .subst Be;cases x<;>cases y
   .exact absurd rfl eG
   .simp[dE]
   .exact absurd (h0 rfl) aI
   .exact absurd rfl eG
  .have ih:=qN a b hl Q7 Be;cases x<;>cases y
   .simp only[dE]at ih⊢;simpa using ih
   .simp only[dE]at ih⊢;simp;omega
   .exact absurd (h0 rfl) aI
   .simp only[dE]at ih⊢;simpa using ih
theorem t8:∀a:List Bool,dE a<=a.length:=fun a=>by unfold dE;exact abj _ _
theorem qQ{A:List Bool}{f:Nat->Bool->Bool}{i:Nat}:dt (A.mapIdx f) i↔∃x,A[i]? =some x/\f i x=true:=by
 unfold dt;rw[aa7];cases A[i]? <;>simp
theorem qS{l:List Obj}{ops:List bD}(b:Mk):(∀i,dt b.O i->dt (Bd l ops b).O i)/\∀c,dt b.P c->dt (Bd l ops b).P c:=
 ⟨fun i h=>qQ.2 ⟨true,h,aI⟩,fun c h=>qQ.2 ⟨true,h,aI⟩⟩
theorem lQ{l:List Obj}{ops:List bD}(b:Mk):(Bd l ops b).O.length=b.O.length/\(Bd l ops b).P.length=b.P.length:=
 ⟨aa4,aa4⟩
theorem I3{l:List Obj}{ops:List bD}(b:Mk):Bd l ops b=b\/(Bd l ops b).mu<b.mu:=by
 have h1:=jq b.O _ (lQ b).1 (qS (l:=l) (ops:=ops) b).1;have h2:=jq b.P _ (lQ b).2 (qS (l:=l) (ops:=ops) b).2;by_cases e1:b.O=(Bd l ops b).O
 .by_cases e2:b.P=(Bd l ops b).P
  .refine .inl ?_;cases hb:b with
   |mk O P=>
    rw[hb]at e1 e2;generalize hm:Bd l ops ⟨O,P⟩=m at e1 e2;cases m;simp only at e1 e2;rw[e1,e2]
  .have:=qN b.P _ (lQ b).2 (qS (l:=l) (ops:=ops) b).2 e2;unfold Mk.mu;omega
 .have:=qN b.O _ (lQ b).1 (qS (l:=l) (ops:=ops) b).1 e1;unfold Mk.mu;omega
theorem Et{l:List Obj}{ops:List bD}:∀(n:Nat)(b:Mk),b.mu<=n->Bd l ops (O5 (Bd l ops) n b)=O5 (Bd l ops) n b
 |0,b,h=>by
  rcases I3 (l:=l) (ops:=ops) b with h1|h1
  .exact h1
  .omega
 |n+1,b,h=>by
  rcases I3 (l:=l) (ops:=ops) b with h1|h1
  .have:∀n,O5 (Bd l ops) n b=b:=fun n=>by
    induction n with
    |zero=>rfl
    |succ n ih=>show O5 _ n (Bd l ops b)=b;rw[h1,ih]
   rw[this,h1]
  .exact Et n _ om
theorem sN{α:Type}{f:α->α}{Q:α->Prop}(hf:∀a,Q a->Q (f a)):∀(n:Nat)(a:α),Q a->Q (O5 f n a)
 |0,_,h=>h
 |n+1,a,h=>sN hf n (f a) (hf a h)
theorem xR{α:Type}{l:List α}{O:List Bool}{g:α->Bool}:(l.zip O).any (fun y=>y.2&&g y.1)=true↔∃(i:Nat)(o:α),l[i]? =some o/\dt O i/\g o=true:=by
 rw[aaB];constructor
 .rintro⟨⟨o,x⟩,hm,h⟩;obtain⟨i,hi⟩:=Un hm;rw[List.getElem?_zip_eq_some]at hi;simp only[SD]at h;exact⟨i,o,hi.1,by unfold dt;rw[hi.2,h.1],h.2⟩
 .rintro⟨i,o,h1,h2,h3⟩;refine⟨(o,true),NQ (i:=i) (List.getElem?_zip_eq_some.2 ⟨h1,h2⟩),by simp[h3]⟩
theorem Eu{l:List Obj}{O:List Bool}{n:Nat}:VX l O n=true↔∃(i:Nat)(o:Obj),l[i]? =some o/\dt O i/\(o.aj.any fun e=>(ma e).2==(n:Int))=true:=xR (g:=fun o:Obj=>o.aj.any fun e=>(ma e).2==(n:Int))
theorem Ev{ops:List bD}{P:List Bool}{n:Nat}:VY ops P n=true↔∃(i:Nat)(o:bD),ops[i]? =some o/\dt P i/\(o.br==(n:Int))=true:=xR (g:=fun o:bD=>o.br==(n:Int))
theorem Ew{l:List Obj}{O:List Bool}{n:Nat}:VZ l O n=true↔∃(i:Nat)(o:Obj),l[i]? =some o/\dt O i/\(o.ak.any fun q=>q.has&&q.eE==(n:Int))=true:=xR (g:=fun o:Obj=>o.ak.any fun q=>q.has&&q.eE==(n:Int))
theorem Ey{l:List Obj}{i:Nat}:VW l i=true↔∃o,l[i]? =some o/\o.ah≠0:=by
 unfold VW;cases l[i]? <;>simp
theorem Cm{l:List Obj}{ops:List bD}{ps:List bj}(ht:∀o,o∈l->o.Ny){RO RP:Nat->Prop}(hc:Cl l ops RO RP)(hr:Em l ops ps RO RP):KY RO RP (mW l ops ps):=by
 refine(sN (Q:=fun b=>KY RO RP b/\b.P.length=ops.length) (fun b⟨h,OL⟩=>⟨⟨fun i hi=>?_,fun c hi=>?_⟩,(lQ b).2.trans OL⟩) _ _ ⟨⟨fun i hi=>?_,fun c hi=>?_⟩,aa4⟩).1
 .obtain⟨x,h1,h2⟩:=qQ.1 hi;cases x with
  |true=>exact h.1 i h1
  |false=>
   rw[abM,SD,aaX]at h2;have hn:=Ey.1 h2.1;rcases h2.2 with h2|h2
   .obtain⟨j,o,hj,ho,hg⟩:=Eu.1 h2;obtain⟨e,he,ZV⟩:=aaB.1 hg;obtain⟨es,nD⟩:=(ht o (NQ hj)).2.1;rw[nD]at he;obtain⟨⟨nm,z⟩,hx,rfl⟩:=Z5.1 he;have hz:z=(i:Int):=by simpa[fw,ma]using ZV
    refine hc.e j o (h.1 j ho) hj z i ⟨nm,?_⟩ ⟨hz,hn⟩;rw[nD];exact Z5.2 ⟨_,hx,rfl⟩
   .obtain⟨c,o,hj,ho,hg⟩:=Ev.1 h2;exact hc.p c o (h.2 c ho) hj i ⟨by simpa using hg,hn⟩
 .obtain⟨x,h1,h2⟩:=qQ.1 hi;cases x with
  |true=>exact h.2 c h1
  |false=>
   rw[abM]at h2;obtain⟨j,o,hj,ho,hg⟩:=Ew.1 h2;obtain⟨q,hq,vl⟩:=aaB.1 hg;rw[SD]at vl;exact hc.q j o (h.1 j ho) hj q.eE c ⟨q,hq,vl.1,rfl⟩ ⟨by simpa using vl.2,OL▸(Gf.1 h1).1⟩
 .unfold dt F5 at hi;simp only[aa7]at hi;cases ho:l[i]? with
  |none=>rw[ho]at hi;cases hi
  |some o=>
   rw[ho]at hi;simp only[Wn,Wm,SD,decide_eq_true_eq]at hi;obtain⟨rfl,hk⟩:=hi;exact hr.1 0 ⟨rfl,o,ho,by simpa using hk⟩
 .unfold dt F5 at hi;simp only[aa7]at hi;cases ho:ops[c]? with
  |none=>rw[ho]at hi;cases hi
  |some o=>
   rw[ho]at hi;simp only[Wn,Wm]at hi;obtain⟨pr,hp,hi⟩:=aaB.1 hi;rw[SD]at hi;obtain⟨s,hs,d5⟩:=aaB.1 hi.2;rw[SD]at d5;obtain⟨p,hp⟩:=Un hp;exact hr.2 p pr hp hi.1 s hs d5.1 c ⟨by simpa using d5.2,(Gf.1 ho).1⟩
theorem LV(l:List Obj)(ops:List bD)(ps:List bj)(ht:∀o,o∈l->o.Ny):kL l ops ps (mW l ops ps):=by
 have hl:vq l ops (mW l ops ps):=sN (Q:=vq l ops) (fun b h=>⟨(lQ b).1.trans h.1,(lQ b).2.trans h.2⟩) _ _ ⟨aa4,aa4⟩
 have O6:Bd l ops (mW l ops ps)=mW l ops ps:=by refine Et _ _ ?_;unfold Mk.mu;have h1:=t8 (F5 l ops ps).O;have h2:=t8 (F5 l ops ps).P;have h3:(F5 l ops ps).O.length=l.length:=aa4;have h4:(F5 l ops ps).P.length=ops.length:=aa4;omega
 have hle:= @Cm l ops ps ht;have nG:(∀i,dt (F5 l ops ps).O i->dt (mW l ops ps).O i)/\∀c,dt (F5 l ops ps).P c->dt (mW l ops ps).P c:=
  sN (Q:=fun b=>(∀i,dt (F5 l ops ps).O i->dt b.O i)/\∀c,dt (F5 l ops ps).P c->dt b.P c) (fun b h=>⟨fun i hi=>(qS b).1 i (h.1 i hi),fun c hc=>(qS b).2 c (h.2 c hc)⟩) _ _ ⟨fun _ h=>h,fun _ h=>h⟩
 generalize mW l ops ps=b at hl O6 hle nG⊢;have hO:∀n:Nat,(∃o,l[n]? =some o/\o.ah≠0)->(VX l b.O n=true\/VY ops b.P n=true)->dt b.O n:=fun n hn hx=>by
  rw[<-O6];have:n<b.O.length:=by obtain⟨o,ho,_⟩:=hn;rw[hl.1];exact(Gf.1 ho).1
  refine qQ.2 ⟨b.O[n],sA this,?_⟩;rw[Ey.2 hn];rcases hx with hx|hx<;>rw[hx]<;>simp
 have gT:Cl l ops (dt b.O) (dt b.P):=by
  refine⟨fun i o hi ho z n hs hv=>?_,fun i o hi ho z c hs hv=>?_,fun c o hc ho n hv=>?_⟩
  .obtain⟨rfl,hn⟩:=hv;obtain⟨nm,hs⟩:=hs;refine hO n hn (.inl (Eu.2 ⟨i,o,ho,hi,aaB.2 ⟨_,hs,?_⟩⟩));show((ma (fw (nm,(n:Int)))).2==(n:Int))=true;simp[fw,ma]
  .obtain⟨rfl,hn⟩:=hv;obtain⟨q,hq,h1,h2⟩:=hs;rw[<-O6];refine qQ.2 ⟨b.P[c]'(by rw[hl.2];exact hn),sA _,?_⟩
   have:VZ l b.O c=true:=Ew.2 ⟨i,o,ho,hi,aaB.2 ⟨q,hq,by simp[h1,h2]⟩⟩
   rw[this];simp
  .obtain⟨h1,hn⟩:=hv;exact hO n hn (.inr (Ev.2 ⟨c,o,ho,hc,by simp[h1]⟩))
 refine⟨hl,⟨fun n hv=>nG.1 n ?_,fun p pr hp dD s hs hh c hv=>nG.2 c ?_⟩,gT,fun RO RP hc hr=>?_⟩
 .obtain⟨h0,o,ho,hk⟩:=hv;have h0:n=0:=om;subst h0;unfold F5 dt;simp only[aa7,ho,Wn,Wm];simp[hk]
 .obtain⟨h0,hn⟩:=hv;unfold F5 dt;simp only[aa7,sA hn,Wn,Wm];exact aaB.2 ⟨pr,NQ hp,by rw[dD,Bool.true_and];exact aaB.2 ⟨s,hs,by simp[hh,h0]⟩⟩
 .exact hle hc hr
def me(k:Kr):Kr:=
 ⟨k.l.mapIdx (cA (mW k.l k.ops k.ps) k.l k.l.length),k.ops.mapIdx (Bc (mW k.l k.ops k.ps) k.ops.length),k.ps.mapIdx (wu (k.l.mapIdx (cA (mW k.l k.ops k.ps) k.l k.l.length)) k.ps.length)⟩
theorem I4(k:Kr)(ht:∀o,o∈k.l->o.Ny):da k.l k.ops k.ps (me k).l (me k).ops (me k).ps (ko (me k).l k.ps k.ps.length):=
 ⟨⟨_,LV k.l k.ops k.ps ht,xQ _ _,xQ _ _⟩,xQ _ _,rfl⟩
def zZ:Nat->Kr->Kr
 |0,k=>me k
 |n+1,k=>bif ko (me k).l k.ps k.ps.length then zZ n (me k)else me k
theorem I5:∀(n:Nat)(k:Kr),dz k.l k.ops k.ps->jD k.ps<=n->∃a,iB k a/\da a.l a.ops a.ps (zZ n k).l (zZ n k).ops (zZ n k).ps false
 |n,k,hk,hn=>by
  have h:=I4 k fun o ho=>(hk.sm o ho).t
  cases he:ko (me k).l k.ps k.ps.length with
  |false=>
   rw[he]at h;refine⟨k,.refl,?_⟩;have:zZ n k=me k:=by
    cases n with
    |zero=>rfl
    |succ n=>show(bif _ then _ else _)=_;rw[he];rfl
   rw[this];exact h
  |true=>
   rw[he]at h;have aE:=h.jD;cases n with
   |zero=>omega
   |succ n=>
    obtain⟨a,h1,h2⟩:=I5 n (me k) (h.kr hk) om;have e:zZ (n+1) k=zZ n (me k):=by show(bif _ then _ else _)=_;rw[he];rfl
    rw[e];refine⟨a,?_,h2⟩;have:∀{x y:Kr},iB x y->da k.l k.ops k.ps x.l x.ops x.ps true->iB k y:=fun h3 h4=>by
     induction h3 with
     |refl=>exact .step .refl h4
     |step _ s ih=>exact .step ih s
    exact this h1 h
def kN{α:Type}(q:Nat->α->Bool):List α->Nat->Nat->Nat
 | [],_,b=>b
 |x::r,i,b=>kN q r (i+1) (bif q i x then b else i+1)
def z6{α:Type}(q:Nat->α->Bool)(mn:Nat)(L:List α):Nat:=min L.length (max mn (kN q L 0 0))
theorem xS{α:Type}(q:Nat->α->Bool):∀(L:List α)(i b:Nat),b<=i->(kN q L i b=b/\(∀(t:Nat)o,L[t]? =some o->q (i+t) o=true))\/
  (i<kN q L i b/\kN q L i b<=i+L.length/\(∃o,L[kN q L i b-1-i]? =some o/\q (kN q L i b-1) o=false)/\∀(t:Nat)o,kN q L i b<=i+t->L[t]? =some o->q (i+t) o=true)
 | [],i,b,h=>.inl ⟨rfl,fun t o h=>by simp at h⟩
 |x::r,i,b,h=>by
  cases hq:q i x with
  |true=>
   have e:kN q (x::r) i b=kN q r (i+1) b:=by show kN q r (i+1) (bif q i x then b else i+1)=_;rw[hq];rfl
   rw[e];rcases xS q r (i+1) b om with⟨h1,h2⟩|⟨h1,h2,⟨o,h3,h4⟩,h5⟩
   .refine .inl ⟨h1,fun t o ho=>?_⟩
    cases t with
    |zero=>simp at ho;subst ho;exact hq
    |succ t=>have:=h2 t o (by simpa using ho);rwa [show i+(t+1)=i+1+t by omega]
   .refine .inr ⟨om,by simp;omega,⟨o,?_,h4⟩,fun t o ht ho=>?_⟩
    .rw[show kN q r (i+1) b-1-i=(kN q r (i+1) b-1-(i+1))+1 by omega];simpa using h3
    .cases t with
     |zero=>simp at ho;subst ho;exact hq
     |succ t=>have:=h5 t o om (by simpa using ho);rwa [show i+(t+1)=i+1+t by omega]
  |false=>
   have e:kN q (x::r) i b=kN q r (i+1) (i+1):=by show kN q r (i+1) (bif q i x then b else i+1)=_;rw[hq];rfl
   rw[e];rcases xS q r (i+1) (i+1) (Pq _)with⟨h1,h2⟩|⟨h1,h2,⟨o,h3,h4⟩,h5⟩
   .refine .inr ⟨om,by simp;omega,⟨x,by rw[h1];simp,by rw[h1];simpa using hq⟩,fun t o ht ho=>?_⟩
    cases t with
    |zero=>omega
    |succ t=>have:=h2 t o (by simpa using ho);rwa [show i+(t+1)=i+1+t by omega]
   .refine .inr ⟨om,by simp;omega,⟨o,?_,h4⟩,fun t o ht ho=>?_⟩
    .rw[show kN q r (i+1) (i+1)-1-i=(kN q r (i+1) (i+1)-1-(i+1))+1 by omega];simpa using h3
    .cases t with
     |zero=>omega
     |succ t=>have:=h5 t o om (by simpa using ho);rwa [show i+(t+1)=i+1+t by omega]
theorem Cn{α:Type}(q:Nat->α->Bool)(mn:Nat)(L:List α):qK q mn L (z6 q mn L):=by
 unfold z6;rcases xS q L 0 0 (Pq _)with⟨h1,h2⟩|⟨h1,h2,⟨o,h3,h4⟩,h5⟩
 .refine⟨⟨Nat.min_le_left _ _,om,fun t o _ ho=>by have:=h2 t o ho;rwa [aai]at this⟩,.inl om⟩
 .refine⟨⟨Nat.min_le_left _ _,om,fun t o ht ho=>?_⟩,?_⟩
  .have aE:=(Gf.1 ho).1;have:=h5 t o om ho;rwa [aai]at this
  .rcases Wj mn (kN q L 0 0)with hm|hm
   .refine .inr ⟨o,?_⟩;have e:min L.length (max mn (kN q L 0 0))=kN q L 0 0:=om;rw[e];exact⟨by simpa using h3,h4⟩
   .exact .inl om
def Sj(c:Kr):Kr:=
 ⟨c.l.take (z6 qO 1 c.l),c.ops.take (z6 qP 0 c.ops),(c.ps.mapIdx (xP (c.l.take (z6 qO 1 c.l)) c.ps.length)).take (z6 (qR (c.l.take (z6 qO 1 c.l))) 1 (c.ps.mapIdx (xP (c.l.take (z6 qO 1 c.l)) c.ps.length)))⟩
theorem O7(c:Kr):kp c (Sj c):=⟨⟨_,_,_,_,Cn _ _ _,Cn _ _ _,xQ _ _,Cn _ _ _,rfl⟩⟩
def ox(k:Kr):Kr:=Sj (zZ k.ps.length k)
theorem wv{k:Kr}(hk:dz k.l k.ops k.ps):I0 k (ox k):=by
 obtain⟨a,h1,h2⟩:=I5 k.ps.length k hk (by unfold jD;exact abj _ _)
 exact⟨a,_,h1,h2,O7 _⟩
theorem F6{k a c d:Kr}(hk:dz k.l k.ops k.ps)(h1:iB k a)(h2:da a.l a.ops a.ps c.l c.ops c.ps false)(h3:kp c d):d=ox k:=
 I0.zl ⟨a,c,h1,h2,h3⟩ (wv hk)
theorem F7(k:Kr)(hk:dz k.l k.ops k.ps){m:Mem}{K:CV->Mem->Prop}(h:K (dR (ox k).l (ox k).ops (ox k).ps) m):aq Tryz.prog 41 [dR k.l k.ops k.ps] m K:=
 IZ k hk fun a c d h1 h2 h3=>by rw[F6 hk h1 h2 h3];exact h
end Kn
theorem sO{l:List bD}{k:Nat}(h:k<l.length):dg (l.map bD.enc) (k:Nat)=some [.val (.int .i64 l[k].br),.val (.int .i64 l[k].cT)]:=by rw[bI,NO,sA h];rfl
inductive gV(m:Mem)(Z:Nat->Prop)(p:Option Nat):List CC->List Dt->Prop
 |nil:gV m Z p [] []
 |cons {c:CC} {d:Dt} {r:List CC} {r':List Dt} (h:dj m Z p c d) (hr:gV m Z p r r'):gV m Z p (c::r) (d::r')
theorem gV.len{m:Mem}{Z:Nat->Prop}{p:Option Nat}{a:List CC}{b:List Dt}(h:gV m Z p a b):a.length=b.length:=by induction h<;>simp[*]
theorem gV.get{m:Mem}{Z:Nat->Prop}{p:Option Nat}{a:List CC}{b:List Dt}(h:gV m Z p a b):∀(i:Nat)c d,a[i]? =some c->b[i]? =some d->dj m Z p c d:=by
 induction h with
 |nil=>intro i c d h;simp at h
 |cons h hr ih=>
  intro i c d h1 h2;cases i with
  |zero=>simp at h1 h2;subst h1 h2;exact h
  |succ i=>exact ih i c d (by simpa using h1) (by simpa using h2)
inductive dY(m:Mem)(Z:Nat->Prop)(p:Option Nat):List (List CC)->List (List Dt)->Prop
 |nil:dY m Z p [] []
 |cons {c:List CC} {d:List Dt} {r:List (List CC)} {r':List (List Dt)} (h:gV m Z p c d) (hr:dY m Z p r r'):dY m Z p (c::r) (d::r')
theorem dY.len{m:Mem}{Z:Nat->Prop}{p:Option Nat}{a:List (List CC)}{b:List (List Dt)}(h:dY m Z p a b):a.length=b.length:=by induction h<;>simp[*]
theorem dY.get{m:Mem}{Z:Nat->Prop}{p:Option Nat}{a:List (List CC)}{b:List (List Dt)}(h:dY m Z p a b):∀(i:Nat)c d,a[i]? =some c->b[i]? =some d->gV m Z p c d:=by
 induction h with
 |nil=>intro i c d h;simp at h
 |cons h hr ih=>
  intro i c d h1 h2;cases i with
  |zero=>simp at h1 h2;subst h1 h2;exact h
  |succ i=>exact ih i c d (by simpa using h1) (by simpa using h2)
theorem dY.eZ{m:Mem}{Z:Nat->Prop}{p:Option Nat}{id esz:Nat}{elems:List (List CC)}{ds:List (List Dt)}(h:dY m Z (some id) elems ds)(hz:Z id)(hm:m[id]? =some (.row esz elems)):dj m Z p (.row id esz 0 none) (.sl esz ds):=
 dj.row id esz 0 none elems ds hz hm h.len (fun i cs es h1 h2=>(h.get i cs es h1 h2).len) (fun i cs es j c d h1 h2 h3 h4=>(h.get i cs es h1 h2).get j c d h3 h4)
end Go.Proofs.YtodckkkbiidffaaGreatDoor
