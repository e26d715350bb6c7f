/- Part 22 of 41: what the law stands on. -/
import Derived.Test.YthagjdhjmamakaaGreatDoorT16
import Derived.Test.YthagjdhjmamakaaGreatDoorT21
set_option linter.unusedVariables false
set_option linter.unusedSimpArgs false
set_option linter.unnecessarySimpa false
set_option maxRecDepth 100000
set_option maxHeartbeats 64000000
namespace Go.Proofs.YthagjdhjmamakaaGreatDoor
open Go.AM Go.ChangeShapes Go.WideShapes Go.ChangeAt Go.RowKit
theorem OZ(k a c:Kr)(ha:iL k a)(hc:db a.l a.ops a.ps c.l c.ops c.ps false)(hk:dC c.l c.ops c.ps)(n1:Nat)(h1:rx qO 1 c.l n1):
  aw Tryz.prog 0 T4 (Xh k) ⟨Xi,[.aZ,.var z3,.var [.aa (da (c.l.take n1)),.aa (eF c.ops),.row 3 4 0 none],.row 4 (af (c.ps.map bi.enc))]⟩:=by
 have gG:=hk.lo;refine aX (fun n=>Hm qP 0 c.ops n) [2,3] (fun _=>[]) (fun n=>[.aZ,.var z3,.var [.aa (da (c.l.take n1)),.aa (eF (c.ops.take n)),.row 3 4 0 none],.row 4 (af (c.ps.map bi.enc))]) (fun n=>n) c.ops.length (.start _ _ _) ?_ (fun n hn=>?_)
 .refine View.o1 4 [0,1,2,3] [] ?_
  .exact(.aZ (.pe rfl rfl rfl (.pt rfl rfl (eG.var (.cons (.aP (.aa _)) (.cons (Kf (by rw[aan])) (.cons (.aP (.row 3 4 0 none)) .nil)))) (.pn rfl rfl rfl))))
 have hn:Hm qP 0 c.ops n:=hn;have j8:=hn.le;refine aJ (fun h=>?_) (fun h=>?_)
 .have oO:0<n:=by have h:(((c.ops.take n).map bC.enc).length:Int)>0:=h;rw[LW,gR j8]at h;omega
  have hz:IntKind.i64.wrap ((((c.ops.take n).map bC.enc).length:Int)-1)=((n-1:Nat):Int):=by rw[LW,gR j8,gh om om];omega
  have aF:n-1<c.ops.length:=om;have hg:=uO bC.enc c.ops om j8;rw[<-hz]at hg;have mI:=tq aF;have oy:=hn.step om aF;generalize c.ops[n-1]=x at hg mI oy;have hg:dg ((c.ops.take n).map bC.enc) (IntKind.i64.wrap ((((c.ops.take n).map bC.enc).length:Int)-1))=some [.val (.int .i64 x.bt),.val (.int .i64 x.cU)]:=hg;refine ag hg ?_;refine aJ (fun hx=>?_) (fun hx=>?_)
  .have hq:qP (n-1) x=true:=decide_eq_true hx;refine ag (x:=n-1) (by show oi (an .i64 (IntKind.i64.wrap ((((c.ops.take n).map bC.enc).length:Int)-1)))=_;rw[hz];rfl) ?_
   refine b8 (by simp[aap];omega) ?_
   refine⟨n-1,oy hq,(show n-1<n by omega),View.o1 4 [0,1,2,3] [] ?_⟩
   .exact(.aZ (.pe rfl rfl rfl (.pt rfl rfl (eG.var (.cons (.aP (.aa _)) (.cons (Kf (congrArg (Dt.sl 2) (uN bC.enc c.ops j8))) (.cons (.aP (.row 3 4 0 none)) .nil)))) (.pn rfl rfl rfl))))
  .have hq:qP (n-1) x=false:=decide_eq_false hx;refine fC [2,3] [] ([.aZ,.var z3,.var [.aa (da (c.l.take n1)),.aa (eF (c.ops.take n)),.row 3 4 0 none],.row 4 (af (c.ps.map bi.enc))]) (View.o1 4 [0,1,2,3] [] ?_) ?_
   .exact(.aZ (.pe rfl rfl rfl (.pt rfl rfl (eG.var (.cons (.aP (.aa _)) (.cons (.aP (.aa _)) (.cons (.aP (.row 3 4 0 none)) .nil)))) (.pn rfl rfl rfl))))
   exact OY k a c ha hc hk n1 n h1 ⟨hn,(.inr ⟨x,mI,hq⟩)⟩
 .have oO:n<=0:=by have h:¬(((c.ops.take n).map bC.enc).length:Int)>0:=h;rw[LW,gR j8]at h;omega
  refine fC [2,3] [] ([.aZ,.var z3,.var [.aa (da (c.l.take n1)),.aa (eF (c.ops.take n)),.row 3 4 0 none],.row 4 (af (c.ps.map bi.enc))]) (View.o1 4 [0,1,2,3] [] ?_) ?_
  .exact(.aZ (.pe rfl rfl rfl (.pt rfl rfl (eG.var (.cons (.aP (.aa _)) (.cons (.aP (.aa _)) (.cons (.aP (.row 3 4 0 none)) .nil)))) (.pn rfl rfl rfl))))
  exact OY k a c ha hc hk n1 n h1 ⟨hn,(.inl oO)⟩
theorem Du(k:Kr)(hk:dC k.l k.ops k.ps):body Tryz.prog c37 [dX k.l k.ops k.ps] [] (KS k):=by
 refine gP k.l k.ops k.ps ⟨hk.ll,fun o ho=>(hk.sm o ho).mU⟩ hk.lo hk.lp hk.sl hk.ne ?_
 refine aX (fun(a:Kr)=>iL k a/\dC a.l a.ops a.ps) [2] (fun _=>[(3,.rv (.one (.ptr 2 0)))]) (fun a=>[.aZ,.var z3,.var [.row 3 9 0 none,.row 4 2 0 none,.row 5 4 0 none],.row 9 (af (a.l.map Obj.enc)),.row 2 (af (a.ops.map bC.enc)),.row 4 (af (a.ps.map bi.enc))]) (fun a=>jO a.ps) k ⟨.refl,hk⟩ ?_ (fun a ha=>?_)
 .refine View.o1 6 [0,1,5,2,3,4] [] ?_
  .exact(.aZ (.pe rfl rfl rfl (.pe rfl rfl rfl (.pr rfl rfl rfl (.pr rfl rfl rfl (.pn rfl rfl rfl))))))
 obtain⟨ha,Mp⟩:=ha;refine Dq a Mp .aZ fun c en ho=>?_
 refine ay (fun he=>?_) (fun he=>?_)
 .subst he;refine⟨c,⟨.step ha ho,ho.kr Mp⟩,ho.jO,View.o1 6 [0,1,2,3,4,5] [] ?_⟩
  .exact(.aZ (.pe rfl rfl rfl (.pe rfl rfl rfl (.pr rfl rfl rfl (.pr rfl rfl rfl (.pn rfl rfl rfl))))))
 .subst he;have hc:=ho;have MB:=ho.kr Mp;have SE:=MB.ll;refine aX (fun n=>Hm qO 1 c.l n) [2,3] (fun _=>[]) (fun n=>[.aZ,.var z3,.var [.aa (da (c.l.take n)),.aa (eF c.ops),.row 3 4 0 none],.row 4 (af (c.ps.map bi.enc))]) (fun n=>n) c.l.length (.start _ _ _) ?_ (fun n hn=>?_)
  .refine View.o1 6 [0,1,2,5] [3,4] ?_
   .exact(.aZ (.pe rfl rfl rfl (.pt rfl rfl (eG.var (.cons (by rw[aan];exact .eu (dm.d6 (Z:=fun k=>bs [3,4] k=true) rfl rfl 0 none)) (.cons (.eu (dm.d6 (Z:=fun k=>bs [3,4] k=true) rfl rfl 0 none)) (.cons (.aP (.row 3 4 0 none)) .nil)))) (.pn rfl rfl rfl))))
  have hn:Hm qO 1 c.l n:=hn;have j8:=hn.le;refine aJ (fun h=>?_) (fun h=>?_)
  .have oO:1<n:=by have h:(((c.l.take n).map Obj.enc).length:Int)>1:=h;rw[LW,gR j8]at h;omega
   have hz:IntKind.i64.wrap ((((c.l.take n).map Obj.enc).length:Int)-1)=((n-1:Nat):Int):=by rw[LW,gR j8,gh om om];omega
   have aF:n-1<c.l.length:=om;have hg:=uO Obj.enc c.l om j8;rw[<-hz]at hg;have mI:=tq aF;have oy:=hn.step om aF;generalize c.l[n-1]=x at hg mI oy;have hg:dg ((c.l.take n).map Obj.enc) (IntKind.i64.wrap ((((c.l.take n).map Obj.enc).length:Int)-1))=some [.val (.int .i64 x.ah),.sl 1 x.data,.sl 2 x.aj,.val (.string x.target),.val (.int .i64 x.aG),.sl 4 (x.ak.map bp.enc),.val (.int .i64 x.aM),.val (.int .i64 x.am),.val (.int .i64 x.up)]:=hg;refine ag hg ?_;refine bz (fun hx=>?_) (fun hx=>?_)
   .have hq:qO (n-1) x=true:=(by unfold qO;simpa using hx)
    refine ag (x:=n-1) (by show oi (an .i64 (IntKind.i64.wrap ((((c.l.take n).map Obj.enc).length:Int)-1)))=_;rw[hz];rfl) ?_
    refine b8 (by simp[aap];omega) ?_
    refine⟨n-1,oy hq,(show n-1<n by omega),View.o1 4 [0,1,2,3] [] ?_⟩
    .exact(.aZ (.pe rfl rfl rfl (.pt rfl rfl (eG.var (.cons (Kf (congrArg (Dt.sl 9) (uN Obj.enc c.l j8))) (.cons (.aP (.aa _)) (.cons (.aP (.row 3 4 0 none)) .nil)))) (.pn rfl rfl rfl))))
   .have hq:qO (n-1) x=false:=(by unfold qO;simpa using hx)
    refine fC [2,3] [] ([.aZ,.var z3,.var [.aa (da (c.l.take n)),.aa (eF c.ops),.row 3 4 0 none],.row 4 (af (c.ps.map bi.enc))]) (View.o1 4 [0,1,2,3] [] ?_) ?_
    .exact(.aZ (.pe rfl rfl rfl (.pt rfl rfl (eG.var (.cons (.aP (.aa _)) (.cons (.aP (.aa _)) (.cons (.aP (.row 3 4 0 none)) .nil)))) (.pn rfl rfl rfl))))
    exact OZ k a c ha hc MB n ⟨hn,(.inr ⟨x,mI,hq⟩)⟩
  .have oO:n<=1:=by have h:¬(((c.l.take n).map Obj.enc).length:Int)>1:=h;rw[LW,gR j8]at h;omega
   refine fC [2,3] [] ([.aZ,.var z3,.var [.aa (da (c.l.take n)),.aa (eF c.ops),.row 3 4 0 none],.row 4 (af (c.ps.map bi.enc))]) (View.o1 4 [0,1,2,3] [] ?_) ?_
   .exact(.aZ (.pe rfl rfl rfl (.pt rfl rfl (eG.var (.cons (.aP (.aa _)) (.cons (.aP (.aa _)) (.cons (.aP (.row 3 4 0 none)) .nil)))) (.pn rfl rfl rfl))))
   exact OZ k a c ha hc MB n ⟨hn,(.inl oO)⟩
theorem Kg(k:Kr)(hk:dC k.l k.ops k.ps){m:Mem}{K:CV->Mem->Prop}(h:∀a c d,iL k a->db a.l a.ops a.ps c.l c.ops c.ps false->kL c d->K (dX d.l d.ops d.ps) m):ar Tryz.prog 37 [dX k.l k.ops k.ps] m K:=by
 refine aY (K0:=KS k) (cf Tryz.func37 l37 (Du k hk)) (by simp[dX,da,eF,fM,CV.c7,CC.c7,RV.c7]) fun r m1 hr=>?_
 obtain⟨a,c,d,h1,h2,h3,hf⟩:=hr;exact⟨_,hf,h a c d h1 h2 h3⟩
def jn(l L:List Obj):Prop:=L.length<=l.length/\∀(i:Nat)o,L[i]? =some o->o.ah≠0->∃o':Obj,l[i]? =some o'/\o={o' with aG:=o.aG}
def jo(p P:List bi):Prop:=P.length<=p.length/\∀(i:Nat)x,P[i]? =some x->x.a8=true->p[i]? =some x
theorem jn.refl(l:List Obj):jn l l:=⟨QN _,fun i o h _=>⟨o,h,rfl⟩⟩
theorem jn.trans{a b c:List Obj}(h1:jn a b)(h2:jn b c):jn a c:=by
 refine⟨aaC h2.1 h1.1,fun i o ho hk=>?_⟩
 obtain⟨o',iU,e⟩:=h2.2 i o ho hk;have gC:o'.ah≠0:=by rw[e]at hk;exact hk
 obtain⟨o2,nV,e2⟩:=h1.2 i o' iU gC;refine⟨o2,nV,?_⟩;rw[e,e2]
theorem jo.refl(l:List bi):jo l l:=⟨QN _,fun i o h _=>h⟩
theorem jo.trans{a b c:List bi}(h1:jo a b)(h2:jo b c):jo a c:=
 ⟨aaC h2.1 h1.1,fun i x hx hl=>h1.2 i x (h2.2 i x hx hl) hl⟩
theorem Pt.get{α:Type}{l L:List α}{f:Nat->α->α}(h:Pt l L f){i:Nat}{x:α}(hx:L[i]? =some x):∃o,l[i]? =some o/\x=f i o:=by
 have aF:i<l.length:=by have:=(Hy.1 hx).1;rw[h.1]at this;exact this
 have:=h.2 i l[i] (tq aF);rw[hx]at this;cases this;exact⟨_,tq aF,rfl⟩
theorem db.eV{l:List Obj}{ops:List bC}{ps:List bi}{L:List Obj}{L2:List bC}{L3:List bi}{en:Bool}(h:db l ops ps L L2 L3 en):jn l L/\jo ps L3:=by
 obtain⟨b,hb,hP,FI⟩:=h.ex;refine⟨⟨by rw[hP.1];exact QN _,fun i o ho hk=>?_⟩,by rw[h.pr.1];exact QN _,fun i x hx hl=>?_⟩
 .obtain⟨o',iU,e⟩:=hP.get ho;refine⟨o',iU,?_⟩;unfold cz at e;split at e
  .rw[e]at hk;exact absurd rfl hk
  .split at e
   .rw[e]
   .rw[e]
 .obtain⟨y,hy,e⟩:=h.pr.get hx;unfold xu at e;split at e
  .rw[e]at hl;simp[fN]at hl
  .rw[e];exact hy
theorem iL.eV{k a:Kr}(h:iL k a):jn k.l a.l/\jo k.ps a.ps:=by
 induction h with
 |refl=>exact⟨.refl _,.refl _⟩
 |step h ho ih=>exact⟨ih.1.trans ho.eV.1,ih.2.trans ho.eV.2⟩
theorem kL.eV{c d:Kr}(h:kL c d):jn c.l d.l/\jo c.ps d.ps:=by
 obtain⟨n1,n2,n3,P,h1,h2,hP,h3,rfl⟩:=h.ex;refine⟨⟨by simp[Z3];omega,fun i o ho _=>?_⟩,by simp[Z3];have:=hP.1;omega,fun i x hx hl=>?_⟩
 .have ho:(c.l.take n1)[i]? =some o:=ho;rw[aao]at ho;split at ho
  .exact⟨o,ho,rfl⟩
  .cases ho
 .have hx:(P.take n3)[i]? =some x:=hx;rw[aao]at hx;split at hx
  .obtain⟨y,hy,e⟩:=hP.get hx;unfold yH at e;split at e
   .rw[e]at hl;simp[fN]at hl
   .rw[e];exact hy
  .cases hx
theorem kL.one{c d:Kr}(h:kL c d)(hc:c.ps≠[]):1<=d.ps.length:=by obtain⟨n1,n2,n3,P,h1,h2,hP,h3,rfl⟩:=h.ex;have hl:0<c.ps.length:=ab8.2 hc;have:=h3.t.mn;rw[hP.1]at this;have h4:=h3.t.le;show 1<=(P.take n3).length;rw[Z3];omega
theorem k8.ah{l:List Obj}{ops:List bC}{ps:List bi}{b:Mk}(h:k8 l ops ps b){i:Nat}(hi:dx b.O i):∃o,l[i]? =some o/\o.ah≠0:=by refine(h.p5 (fun i=>∃o,l[i]? =some o/\o.ah≠0) (fun c=>c<ops.length) ⟨fun i o _ _ z n _ hv=>hv.2,fun i o _ _ z c _ hv=>hv.2,fun c o _ _ n hv=>hv.2⟩ ⟨fun n hv=>hv.2,fun p pr _ _ s _ _ c hv=>hv.2⟩).1 i hi
theorem kL.kr{c d:Kr}(h:kL c d)(k:dC c.l c.ops c.ps):dC d.l d.ops d.ps:=by
 have h1:=h.one k.ne;obtain⟨n1,n2,n3,P,t1,t2,hP,t3,rfl⟩:=h.ex;refine⟨fun o ho=>k.sm o (aaB ho),?_,?_,?_,fun p hp=>?_,fun e=>?_⟩
 .show(c.l.take n1).length<=_;rw[Z3];have:=k.ll;omega
 .show(c.ops.take n2).length<=_;rw[Z3];have:=k.lo;omega
 .show(P.take n3).length<=_;rw[Z3,hP.1];have:=k.lp;omega
 .refine hP.all (Q:=fun p=>p.bd.length<=10) (fun t o ho=>?_) p (aaB hp)
  unfold yH;split
  .simp[fN]
  .exact k.sl o (O9 ho)
 .have h1:1<=(P.take n3).length:=h1;have e:P.take n3=[]:=e;rw[e]at h1;simp at h1
theorem A4{L:List Obj}{ps:List bi}(h:false=kK L ps ps.length){t:Nat}{x:bi}(hx:ps[t]? =some x):mf L t x=false:=by
 cases he:mf L t x with
 |false=>rfl
 |true=>
  have:kK L ps ps.length=true:=by
   unfold kK;rw[aaH];exact⟨t,by simpa using(Hy.1 hx).1,by rw[hx];exact he⟩
  rw[this]at h;cases h
theorem Pt.id{α:Type}{l L:List α}{f:Nat->α->α}(h:Pt l L f)(hf:∀(t:Nat)o,l[t]? =some o->f t o=o):L=l:=by
 apply aaI;intro t;cases ht:l[t]? with
 |some o=>rw[h.2 t o ht,hf t o ht]
 |none=>
  have:l.length<=t:=by simpa using ht
  simp[h.1,this]
structure Left(c:Kr)(b:Mk):Prop where
 ok:k8 c.l c.ops c.ps b
 all:∀(i:Nat)o,c.l[i]? =some o->o.ah≠0->dx b.O i
 ops:∀(i:Nat)o,c.ops[i]? =some o->¬dx b.P i->o=⟨-1,0⟩
 prs:∀(t:Nat)x,c.ps[t]? =some x->mf c.l t x=false
theorem db.left{a c:Kr}(h:db a.l a.ops a.ps c.l c.ops c.ps false):∃b,Left c b:=by
 obtain⟨b,hb,hP,FI⟩:=h.ex;have pi:c.ps=a.ps:=h.pr.id fun t o ho=>by have:=A4 h.en ho;simp[xu,this]
 have hlen:=hP.1;have sw:=FI.1;have FJ:∀(i:Nat)o',a.l[i]? =some o'->dx b.O i->∃o,c.l[i]? =some o/\o.ah=o'.ah/\o.aj=o'.aj/\o.ak=o'.ak:=fun i o' iU hi=>by
  refine⟨_,hP.2 i o' iU,?_⟩;have hd:eY b a.l i=false:=by unfold eY;rw[iU];have:b.O[i]? =some true:=hi;simp[this]
  unfold cz;rw[hd];simp only[Bool.false_and,aaR,if_false];split<;>exact⟨rfl,rfl,rfl⟩
 have O0:∀(i:Nat)o,c.l[i]? =some o->o.ah≠0->dx b.O i/\∃o',a.l[i]? =some o'/\o.ah=o'.ah/\o.aj=o'.aj/\o.ak=o'.ak:=fun i o ho hk=>by
  obtain⟨o',iU,e⟩:=hP.get ho;have Ou:i<a.l.length:=(Hy.1 iU).1;unfold cz at e;split at e
  .rw[e]at hk;exact absurd rfl hk
  .rename_i qJ;have Zz:o.ah=o'.ah:=by split at e<;>rw[e]
   refine⟨?_,o',iU,Zz,by split at e<;>rw[e],by split at e<;>rw[e]⟩
   have hd:eY b a.l i=false:=by
    cases MH:eY b a.l i with
    |false=>rfl
    |true=>exact absurd (by rw[MH];simpa using Ou) qJ
   unfold eY at hd;rw[iU]at hd;have gC:(o'.ah !=0)=true:=by rw[<-Zz];simpa using hk
   simp only[gC,Bool.and_true]at hd;simpa[dx]using hd
 have SD:∀z n,vO c.l z n->dx b.O n/\vO a.l z n:=fun z n hv=>by
  obtain⟨hz,o,ho,hk⟩:=hv;obtain⟨h1,o',iU,gC,_⟩:=O0 n o ho hk;exact⟨h1,hz,o',iU,by rw[<-gC];exact hk⟩
 have Xm:∀z n,vO a.l z n->dx b.O n->vO c.l z n:=fun z n hv hn=>by
  obtain⟨hz,o',iU,hk⟩:=hv;obtain⟨o,ho,gC,_⟩:=FJ n o' iU hn;exact⟨hz,o,ho,by rw[gC];exact hk⟩
 have VI:∀z n,vP c.ops z n↔vP a.ops z n:=fun z n=>by unfold vP;rw[sw]
 have abo:∀(i:Nat)o,c.ops[i]? =some o->dx b.P i->a.ops[i]? =some o:=fun i o ho hi=>by obtain⟨o',iU,e⟩:=FI.get ho;have:b.P[i]? =some true:=hi;rw[e];simpa[Ch,this]using iU
 refine⟨b,⟨⟨by rw[hlen];exact hb.len.1,by rw[sw];exact hb.len.2⟩,⟨fun n hv=>(SD 0 n hv).1,fun p pr hp hl s hs hh cc hv=>?_⟩,⟨fun i o hi ho z n hz hv=>(SD z n hv).1,fun i o hi ho z cc hz hv=>?_,fun cc o hc ho n hv=>(SD _ n hv).1⟩,fun RO RP gK hr=>?_⟩,fun i o ho hk=>(O0 i o ho hk).1,fun i o ho hn=>?_,fun t x hx=>?_⟩
 .rw[pi]at hp;exact hb.uI.2 p pr hp hl s hs hh cc ((VI _ _).1 hv)
 .obtain⟨o',iU,e⟩:=hP.get ho;obtain⟨o2,nV,_,_,hq⟩:=FJ i o' iU hi;rw[ho]at nV;cases nV;obtain⟨q,FH,Ms,Xn⟩:=hz;exact hb.cl.q i o' hi iU z cc ⟨q,by rw[<-hq];exact FH,Ms,Xn⟩ ((VI _ _).1 hv)
 ·
  have jI:=hb.p5 (fun i=>RO i/\dx b.O i) (fun cc=>RP cc/\dx b.P cc) ⟨fun i o' hi iU z n hz hv=>?_,fun i o' hi iU z cc hz hv=>?_,fun cc o' hc iU n hv=>?_⟩ ⟨fun n hv=>?_,fun p pr hp hl s hs hh cc hv=>?_⟩
  .exact⟨fun i hi=>(jI.1 i hi).1,fun i hi=>(jI.2 i hi).1⟩
  .have hn:=hb.cl.e i o' hi.2 iU z n hz hv;obtain⟨o,ho,_,he,_⟩:=FJ i o' iU hi.2;obtain⟨nm,hm⟩:=hz;exact⟨gK.e i o hi.1 ho z n ⟨nm,by rw[he];exact hm⟩ (Xm z n hv hn),hn⟩
  .have hn:=hb.cl.q i o' hi.2 iU z cc hz hv;obtain⟨o,ho,_,_,hq⟩:=FJ i o' iU hi.2;obtain⟨q,FH,Ms,Xn⟩:=hz;exact⟨gK.q i o hi.1 ho z cc ⟨q,by rw[hq];exact FH,Ms,Xn⟩ ((VI _ _).2 hv),hn⟩
  .have hn:=hb.cl.p cc o' hc.2 iU n hv;have hco:c.ops[cc]? =some o':=by have:=FI.2 cc o' iU;have Xo:b.P[cc]? =some true:=hc.2;simpa[Ch,Xo]using this
   exact⟨gK.p cc o' hc.1 hco n (Xm _ n hv hn),hn⟩
  .have hn:=hb.uI.1 n hv;exact⟨hr.1 n (Xm 0 n hv hn),hn⟩
  .exact⟨hr.2 p pr (by rw[pi];exact hp) hl s hs hh cc ((VI _ _).2 hv),hb.uI.2 p pr hp hl s hs hh cc hv⟩
 .obtain⟨o',iU,e⟩:=FI.get ho;have aF:i<a.ops.length:=(Hy.1 iU).1;have hn:(b.P[i]? ==some true)=false:=by simpa[dx]using hn
  rw[e];simp[Ch,hn,aF]
 .rw[pi]at hx;exact A4 h.en hx
namespace Kn
structure Kh(k d:Kr):Prop where
 ex:∃a c,iL k a/\db a.l a.ops a.ps c.l c.ops c.ps false/\kL c d
theorem nu{α:Type}{l L:List α}{f:Nat->α->α}(h:Pt l L f):L=l.mapIdx f:=by
 refine aaI fun i=>?_
 rw[aa2];cases hx:l[i]? with
 |none=>exact abI.2 (by rw[h.1];exact abI.1 hx)
 |some x=>rw[h.2 i x hx];rfl
theorem yI{α:Type}(l:List α)(f:Nat->α->α):Pt l (l.mapIdx f) f:=
 ⟨aa0,fun t o ho=>by rw[aa2,ho];rfl⟩
theorem Ki{A B:List Bool}(hl:A.length=B.length)(h:∀i,dx A i↔dx B i):A=B:=by
 refine List.ext_getElem hl fun i h1 h2=>?_
 have MX:=h i;unfold dx at MX;rw[tq h1,tq h2]at MX;simp only[XQ]at MX;cases ha:A[i]<;>cases hb:B[i]<;>simp[ha,hb]at MX⊢
theorem Hn{l:List Obj}{ops:List bC}{ps:List bi}{b b':Mk}(h:k8 l ops ps b)(h':k8 l ops ps b'):b=b':=by
 have h1:=h.p5 _ _ h'.cl h'.uI;have h2:=h'.p5 _ _ h.cl h.uI;obtain⟨O,P⟩:=b;obtain⟨O',P'⟩:=b';have e1:O=O':=Ki (h.len.1.trans h'.len.1.symm) fun i=>⟨h1.1 i,h2.1 i⟩
 have e2:P=P':=Ki (h.len.2.trans h'.len.2.symm) fun i=>⟨h1.2 i,h2.2 i⟩
 rw[e1,e2]
theorem ry{k c c':Kr}{e e':Bool}(h:db k.l k.ops k.ps c.l c.ops c.ps e)(h':db k.l k.ops k.ps c'.l c'.ops c'.ps e'):c=c'/\e=e':=by
 obtain⟨b,hb,h1,h2⟩:=h.ex;obtain⟨b',qY,MX,OL⟩:=h'.ex;have:=Hn hb qY;subst this;have e1:c.l=c'.l:=(nu h1).trans (nu MX).symm;have e2:c.ops=c'.ops:=(nu h2).trans (nu OL).symm;have p:=h.pr;rw[e1]at p;have e3:c.ps=c'.ps:=(nu p).trans (nu h'.pr).symm;refine⟨?_,?_⟩
 .obtain⟨x,y,z⟩:=c;obtain⟨x',y',z'⟩:=c';simp only at e1 e2 e3;rw[e1,e2,e3]
 .rw[h.en,h'.en,e1]
theorem FK{k a:Kr}(h:iL k a):a=k\/∃x,db k.l k.ops k.ps x.l x.ops x.ps true/\iL x a:=by
 induction h with
 |refl=>exact .inl rfl
 | @step a b h s ih=>
  rcases ih with rfl|⟨x,hx,Xp⟩
  .exact .inr ⟨b,s,.refl⟩
  .exact .inr ⟨x,hx,.step Xp s⟩
theorem Na{k a b:Kr}(h1:iL k a)(h2:iL k b):iL a b\/iL b a:=by
 induction h2 with
 |refl=>exact .inr h1
 | @step b c h s ih=>
  rcases ih with h|h
  .exact .inl (.step h s)
  .rcases FK h with rfl|⟨x,hx,Xp⟩
   .exact .inl (.step .refl s)
   .have:=(ry hx s).1;subst this;exact .inr Xp
theorem Nb{k a b c d:Kr}(h1:iL k a)(h2:iL k b)(o1:db a.l a.ops a.ps c.l c.ops c.ps false)(o2:db b.l b.ops b.ps d.l d.ops d.ps false):a=b:=by
 have key:∀{a b c:Kr},iL a b->db a.l a.ops a.ps c.l c.ops c.ps false->b=a:=fun h o=>by
  rcases FK h with h|⟨x,hx,_⟩
  .exact h
  .have:=(ry hx o).2;cases this
 rcases Na h1 h2 with h|h
 .exact(key h o1).symm
 .exact key h o2
theorem uP{α:Type}{q:Nat->α->Bool}{mn:Nat}{L:List α}{a b:Nat}(ha:rx q mn L a)(hb:rx q mn L b):a=b:=by
 have key:∀{a b:Nat},rx q mn L a->rx q mn L b->¬a<b:=fun{a b}ha hb aF=>by
  have h1:=ha.t.mn;have h2:=hb.t.le;rcases hb.e with h3|⟨o,ho,hq⟩
  .omega
  .have:=ha.t.dr (b-1) o om ho;rw[hq]at this;cases this
 have h1:=key ha hb;have h2:=key hb ha;omega
theorem Kj{c d d':Kr}(h:kL c d)(h':kL c d'):d=d':=by obtain⟨n1,n2,n3,P,a1,a2,a3,a4,rfl⟩:=h.ex;obtain⟨m1,m2,m3,P',b1,b2,b3,b4,rfl⟩:=h'.ex;have:=uP a1 b1;subst this;have:=uP a2 b2;subst this;have:=(nu a3).trans (nu b3).symm;subst this;have:=uP a4 b4;subst this;rfl
theorem Kh.Ao{k d d':Kr}(h:Kh k d)(h':Kh k d'):d=d':=by obtain⟨a,c,h1,h2,h3⟩:=h.ex;obtain⟨a',c',MX,OL,h3'⟩:=h'.ex;have:=Nb h1 MX h2 OL;subst this;have:=(ry h2 OL).1;subst this;exact Kj h3 h3'
def Xq(l:List Obj)(i:Nat):Bool:=match l[i]? with|some o=>o.ah !=0|none=>false
def Xr(l:List Obj)(O:List Bool)(i:Nat):Bool:=(l.zip O).any fun y=>y.2&&y.1.aj.any fun e=>(mH e).2==(i:Int)
def Xs(ops:List bC)(P:List Bool)(i:Nat):Bool:=(ops.zip P).any fun y=>y.2&&y.1.bt==(i:Int)
def Xt(l:List Obj)(O:List Bool)(c:Nat):Bool:=(l.zip O).any fun y=>y.2&&y.1.ak.any fun q=>q.has&&q.eJ==(c:Int)
def Ci(l:List Obj)(ops:List bC)(b:Mk):Mk:=
 ⟨b.O.mapIdx fun i x=>x||(Xq l i&&(Xr l b.O i||Xs ops b.P i)),b.P.mapIdx fun c x=>x||Xt l b.O c⟩
def Ho(l:List Obj)(ops:List bC)(ps:List bi):Mk:=
 ⟨l.mapIdx fun i o=>decide (i=0)&&o.ah !=0,ops.mapIdx fun c _=>ps.any fun p=>p.a8&&p.bd.any fun s=>s.has&&s.eJ==(c:Int)⟩
def Qq{α:Type}(f:α->α):Nat->α->α
 |0,a=>a
 |n+1,a=>Qq f n (f a)
def nv(l:List Obj)(ops:List bC)(ps:List bi):Mk:=Qq (Ci l ops) (l.length+ops.length) (Ho l ops ps)
theorem rz:∀(a b:List Bool),b.length=a.length->(∀i,dx a i->dx b i)->a≠b->dH b<dH a
 | [],[],_,_,h=>absurd rfl h
 | [],_::_,h,_,_=>by simp at h
 |_::_,[],h,_,_=>by simp at h
 |x::a,y::b,h,hm,eL=>by
  have hl:b.length=a.length:=by simpa using h
  have SB:∀i,dx a i->dx b i:=fun i hi=>by have:=hm (i+1);unfold dx at this hi⊢;simp only[aaQ]at this;exact this hi
  have h0:x=true->y=true:=fun hx=>by have:=hm 0;unfold dx at this;simp only[abt,XQ]at this;exact this hx
  have hle:=jC a b hl SB;by_cases Cj:a=b
  .subst Cj;cases x<;>cases y
   .exact absurd rfl eL
   .simp[dH]
   .exact absurd (h0 rfl) aK
   .exact absurd rfl eL
  .have ih:=rz a b hl SB Cj;cases x<;>cases y
   .simp only[dH]at ih⊢;simpa using ih
   .simp only[dH]at ih⊢;simp;omega
   .exact absurd (h0 rfl) aK
   .simp only[dH]at ih⊢;simpa using ih
theorem uQ:∀a:List Bool,dH a<=a.length:=fun a=>by unfold dH;exact abi _ _
theorem rA{A:List Bool}{f:Nat->Bool->Bool}{i:Nat}:dx (A.mapIdx f) i↔∃x,A[i]? =some x/\f i x=true:=by
 unfold dx;rw[aa2];cases A[i]? <;>simp
theorem rB{l:List Obj}{ops:List bC}(b:Mk):(∀i,dx b.O i->dx (Ci l ops b).O i)/\∀c,dx b.P c->dx (Ci l ops b).P c:=
 ⟨fun i h=>rA.2 ⟨true,h,aK⟩,fun c h=>rA.2 ⟨true,h,aK⟩⟩
theorem mg{l:List Obj}{ops:List bC}(b:Mk):(Ci l ops b).O.length=b.O.length/\(Ci l ops b).P.length=b.P.length:=
 ⟨aa0,aa0⟩
theorem Kk{l:List Obj}{ops:List bC}(b:Mk):Ci l ops b=b\/(Ci l ops b).mu<b.mu:=by
 have h1:=jC b.O _ (mg b).1 (rB (l:=l) (ops:=ops) b).1;have h2:=jC b.P _ (mg b).2 (rB (l:=l) (ops:=ops) b).2;by_cases e1:b.O=(Ci l ops b).O
 .by_cases e2:b.P=(Ci l ops b).P
  .refine .inl ?_;cases hb:b with
   |mk O P=>
    rw[hb]at e1 e2;generalize hm:Ci l ops ⟨O,P⟩=m at e1 e2;cases m;simp only at e1 e2;rw[e1,e2]
  .have:=rz b.P _ (mg b).2 (rB (l:=l) (ops:=ops) b).2 e2;unfold Mk.mu;omega
 .have:=rz b.O _ (mg b).1 (rB (l:=l) (ops:=ops) b).1 e1;unfold Mk.mu;omega
theorem FL{l:List Obj}{ops:List bC}:∀(n:Nat)(b:Mk),b.mu<=n->Ci l ops (Qq (Ci l ops) n b)=Qq (Ci l ops) n b
 |0,b,h=>by
  rcases Kk (l:=l) (ops:=ops) b with h1|h1
  .exact h1
  .omega
 |n+1,b,h=>by
  rcases Kk (l:=l) (ops:=ops) b with h1|h1
  .have:∀n,Qq (Ci l ops) n b=b:=fun n=>by
    induction n with
    |zero=>rfl
    |succ n ih=>show Qq _ n (Ci l ops b)=b;rw[h1,ih]
   rw[this,h1]
  .exact FL n _ om
theorem tI{α:Type}{f:α->α}{Q:α->Prop}(hf:∀a,Q a->Q (f a)):∀(n:Nat)(a:α),Q a->Q (Qq f n a)
 |0,_,h=>h
 |n+1,a,h=>tI hf n (f a) (hf a h)
theorem yJ{α:Type}{l:List α}{O:List Bool}{g:α->Bool}:(l.zip O).any (fun y=>y.2&&g y.1)=true↔∃(i:Nat)(o:α),l[i]? =some o/\dx O i/\g o=true:=by
 rw[aaH];constructor
 .rintro⟨⟨o,x⟩,hm,h⟩;obtain⟨i,hi⟩:=Xz hm;rw[List.getElem?_zip_eq_some]at hi;simp only[T6]at h;exact⟨i,o,hi.1,by unfold dx;rw[hi.2,h.1],h.2⟩
 .rintro⟨i,o,h1,h2,h3⟩;refine⟨(o,true),O9 (i:=i) (List.getElem?_zip_eq_some.2 ⟨h1,h2⟩),by simp[h3]⟩
theorem FM{l:List Obj}{O:List Bool}{n:Nat}:Xr l O n=true↔∃(i:Nat)(o:Obj),l[i]? =some o/\dx O i/\(o.aj.any fun e=>(mH e).2==(n:Int))=true:=yJ (g:=fun o:Obj=>o.aj.any fun e=>(mH e).2==(n:Int))
theorem FN{ops:List bC}{P:List Bool}{n:Nat}:Xs ops P n=true↔∃(i:Nat)(o:bC),ops[i]? =some o/\dx P i/\(o.bt==(n:Int))=true:=yJ (g:=fun o:bC=>o.bt==(n:Int))
theorem FO{l:List Obj}{O:List Bool}{n:Nat}:Xt l O n=true↔∃(i:Nat)(o:Obj),l[i]? =some o/\dx O i/\(o.ak.any fun q=>q.has&&q.eJ==(n:Int))=true:=yJ (g:=fun o:Obj=>o.ak.any fun q=>q.has&&q.eJ==(n:Int))
theorem FP{l:List Obj}{i:Nat}:Xq l i=true↔∃o,l[i]? =some o/\o.ah≠0:=by
 unfold Xq;cases l[i]? <;>simp
theorem Dv{l:List Obj}{ops:List bC}{ps:List bi}(ht:∀o,o∈l->o.OR){RO RP:Nat->Prop}(hc:Cl l ops RO RP)(hr:FF l ops ps RO RP):Mq RO RP (nv l ops ps):=by
 refine(tI (Q:=fun b=>Mq RO RP b/\b.P.length=ops.length) (fun b⟨h,P6⟩=>⟨⟨fun i hi=>?_,fun c hi=>?_⟩,(mg b).2.trans P6⟩) _ _ ⟨⟨fun i hi=>?_,fun c hi=>?_⟩,aa0⟩).1
 .obtain⟨x,h1,h2⟩:=rA.1 hi;cases x with
  |true=>exact h.1 i h1
  |false=>
   rw[abV,T6,aaT]at h2;have hn:=FP.1 h2.1;rcases h2.2 with h2|h2
   .obtain⟨j,o,hj,ho,hg⟩:=FM.1 h2;obtain⟨e,he,hei⟩:=aaH.1 hg;obtain⟨es,pg⟩:=(ht o (O9 hj)).2.1;rw[pg]at he;obtain⟨⟨nm,z⟩,hx,rfl⟩:=aae.1 he;have hz:z=(i:Int):=by simpa[fD,mH]using hei
    refine hc.e j o (h.1 j ho) hj z i ⟨nm,?_⟩ ⟨hz,hn⟩;rw[pg];exact aae.2 ⟨_,hx,rfl⟩
   .obtain⟨c,o,hj,ho,hg⟩:=FN.1 h2;exact hc.p c o (h.2 c ho) hj i ⟨by simpa using hg,hn⟩
 .obtain⟨x,h1,h2⟩:=rA.1 hi;cases x with
  |true=>exact h.2 c h1
  |false=>
   rw[abV]at h2;obtain⟨j,o,hj,ho,hg⟩:=FO.1 h2;obtain⟨q,hq,wn⟩:=aaH.1 hg;rw[T6]at wn;exact hc.q j o (h.1 j ho) hj q.eJ c ⟨q,hq,wn.1,rfl⟩ ⟨by simpa using wn.2,P6▸(Hy.1 h1).1⟩
 .unfold dx Ho at hi;simp only[aa2]at hi;cases ho:l[i]? with
  |none=>rw[ho]at hi;cases hi
  |some o=>
   rw[ho]at hi;simp only[XS,XQ,T6,decide_eq_true_eq]at hi;obtain⟨rfl,hk⟩:=hi;exact hr.1 0 ⟨rfl,o,ho,by simpa using hk⟩
 .unfold dx Ho at hi;simp only[aa2]at hi;cases ho:ops[c]? with
  |none=>rw[ho]at hi;cases hi
  |some o=>
   rw[ho]at hi;simp only[XS,XQ]at hi;obtain⟨pr,hp,hi⟩:=aaH.1 hi;rw[T6]at hi;obtain⟨s,hs,d8⟩:=aaH.1 hi.2;rw[T6]at d8;obtain⟨p,hp⟩:=Xz hp;exact hr.2 p pr hp hi.1 s hs d8.1 c ⟨by simpa using d8.2,(Hy.1 ho).1⟩
theorem Nc(l:List Obj)(ops:List bC)(ps:List bi)(ht:∀o,o∈l->o.OR):k8 l ops ps (nv l ops ps):=by
 have hl:wv l ops (nv l ops ps):=tI (Q:=wv l ops) (fun b h=>⟨(mg b).1.trans h.1,(mg b).2.trans h.2⟩) _ _ ⟨aa0,aa0⟩
 have Qr:Ci l ops (nv l ops ps)=nv l ops ps:=by refine FL _ _ ?_;unfold Mk.mu;have h1:=uQ (Ho l ops ps).O;have h2:=uQ (Ho l ops ps).P;have h3:(Ho l ops ps).O.length=l.length:=aa0;have h4:(Ho l ops ps).P.length=ops.length:=aa0;omega
 have hle:= @Dv l ops ps ht;have oo:(∀i,dx (Ho l ops ps).O i->dx (nv l ops ps).O i)/\∀c,dx (Ho l ops ps).P c->dx (nv l ops ps).P c:=
  tI (Q:=fun b=>(∀i,dx (Ho l ops ps).O i->dx b.O i)/\∀c,dx (Ho l ops ps).P c->dx b.P c) (fun b h=>⟨fun i hi=>(rB b).1 i (h.1 i hi),fun c hc=>(rB b).2 c (h.2 c hc)⟩) _ _ ⟨fun _ h=>h,fun _ h=>h⟩
 generalize nv l ops ps=b at hl Qr hle oo⊢;have hO:∀n:Nat,(∃o,l[n]? =some o/\o.ah≠0)->(Xr l b.O n=true\/Xs ops b.P n=true)->dx b.O n:=fun n hn hx=>by
  rw[<-Qr];have:n<b.O.length:=by obtain⟨o,ho,_⟩:=hn;rw[hl.1];exact(Hy.1 ho).1
  refine rA.2 ⟨b.O[n],tq this,?_⟩;rw[FP.2 hn];rcases hx with hx|hx<;>rw[hx]<;>simp
 have gK:Cl l ops (dx b.O) (dx b.P):=by
  refine⟨fun i o hi ho z n hs hv=>?_,fun i o hi ho z c hs hv=>?_,fun c o hc ho n hv=>?_⟩
  .obtain⟨rfl,hn⟩:=hv;obtain⟨nm,hs⟩:=hs;refine hO n hn (.inl (FM.2 ⟨i,o,ho,hi,aaH.2 ⟨_,hs,?_⟩⟩));show((mH (fD (nm,(n:Int)))).2==(n:Int))=true;simp[fD,mH]
  .obtain⟨rfl,hn⟩:=hv;obtain⟨q,hq,h1,h2⟩:=hs;rw[<-Qr];refine rA.2 ⟨b.P[c]'(by rw[hl.2];exact hn),tq _,?_⟩
   have:Xt l b.O c=true:=FO.2 ⟨i,o,ho,hi,aaH.2 ⟨q,hq,by simp[h1,h2]⟩⟩
   rw[this];simp
  .obtain⟨h1,hn⟩:=hv;exact hO n hn (.inr (FN.2 ⟨c,o,ho,hc,by simp[h1]⟩))
 refine⟨hl,⟨fun n hv=>oo.1 n ?_,fun p pr hp dG s hs hh c hv=>oo.2 c ?_⟩,gK,fun RO RP hc hr=>?_⟩
 .obtain⟨h0,o,ho,hk⟩:=hv;have h0:n=0:=om;subst h0;unfold Ho dx;simp only[aa2,ho,XS,XQ];simp[hk]
 .obtain⟨h0,hn⟩:=hv;unfold Ho dx;simp only[aa2,tq hn,XS,XQ];exact aaH.2 ⟨pr,O9 hp,by rw[dG,Bool.true_and];exact aaH.2 ⟨s,hs,by simp[hh,h0]⟩⟩
 .exact hle hc hr
def mJ(k:Kr):Kr:=
 ⟨k.l.mapIdx (cz (nv k.l k.ops k.ps) k.l k.l.length),k.ops.mapIdx (Ch (nv k.l k.ops k.ps) k.ops.length),k.ps.mapIdx (xu (k.l.mapIdx (cz (nv k.l k.ops k.ps) k.l k.l.length)) k.ps.length)⟩
theorem Kl(k:Kr)(ht:∀o,o∈k.l->o.OR):db k.l k.ops k.ps (mJ k).l (mJ k).ops (mJ k).ps (kK (mJ k).l k.ps k.ps.length):=
 ⟨⟨_,Nc k.l k.ops k.ps ht,yI _ _,yI _ _⟩,yI _ _,rfl⟩
def A5:Nat->Kr->Kr
 |0,k=>mJ k
 |n+1,k=>bif kK (mJ k).l k.ps k.ps.length then A5 n (mJ k)else mJ k
theorem Km:∀(n:Nat)(k:Kr),dC k.l k.ops k.ps->jO k.ps<=n->∃a,iL k a/\db a.l a.ops a.ps (A5 n k).l (A5 n k).ops (A5 n k).ps false
 |n,k,hk,hn=>by
  have h:=Kl k fun o ho=>(hk.sm o ho).t
  cases he:kK (mJ k).l k.ps k.ps.length with
  |false=>
   rw[he]at h;refine⟨k,.refl,?_⟩;have:A5 n k=mJ k:=by
    cases n with
    |zero=>rfl
    |succ n=>show(bif _ then _ else _)=_;rw[he];rfl
   rw[this];exact h
  |true=>
   rw[he]at h;have aF:=h.jO;cases n with
   |zero=>omega
   |succ n=>
    obtain⟨a,h1,h2⟩:=Km n (mJ k) (h.kr hk) om;have e:A5 (n+1) k=A5 n (mJ k):=by show(bif _ then _ else _)=_;rw[he];rfl
    rw[e];refine⟨a,?_,h2⟩;have:∀{x y:Kr},iL x y->db k.l k.ops k.ps x.l x.ops x.ps true->iL k y:=fun h3 h4=>by
     induction h3 with
     |refl=>exact .step .refl h4
     |step _ s ih=>exact .step ih s
    exact this h1 h
def ld{α:Type}(q:Nat->α->Bool):List α->Nat->Nat->Nat
 | [],_,b=>b
 |x::r,i,b=>ld q r (i+1) (bif q i x then b else i+1)
def A6{α:Type}(q:Nat->α->Bool)(mn:Nat)(L:List α):Nat:=min L.length (max mn (ld q L 0 0))
theorem yK{α:Type}(q:Nat->α->Bool):∀(L:List α)(i b:Nat),b<=i->(ld q L i b=b/\(∀(t:Nat)o,L[t]? =some o->q (i+t) o=true))\/
  (i<ld q L i b/\ld q L i b<=i+L.length/\(∃o,L[ld q L i b-1-i]? =some o/\q (ld q L i b-1) o=false)/\∀(t:Nat)o,ld q L i b<=i+t->L[t]? =some o->q (i+t) o=true)
 | [],i,b,h=>.inl ⟨rfl,fun t o h=>by simp at h⟩
 |x::r,i,b,h=>by
  cases hq:q i x with
  |true=>
   have e:ld q (x::r) i b=ld q r (i+1) b:=by show ld q r (i+1) (bif q i x then b else i+1)=_;rw[hq];rfl
   rw[e];rcases yK q r (i+1) b om with⟨h1,h2⟩|⟨h1,h2,⟨o,h3,h4⟩,h5⟩
   .refine .inl ⟨h1,fun t o ho=>?_⟩
    cases t with
    |zero=>simp at ho;subst ho;exact hq
    |succ t=>have:=h2 t o (by simpa using ho);rwa [show i+(t+1)=i+1+t by omega]
   .refine .inr ⟨om,by simp;omega,⟨o,?_,h4⟩,fun t o ht ho=>?_⟩
    .rw[show ld q r (i+1) b-1-i=(ld q r (i+1) b-1-(i+1))+1 by omega];simpa using h3
    .cases t with
     |zero=>simp at ho;subst ho;exact hq
     |succ t=>have:=h5 t o om (by simpa using ho);rwa [show i+(t+1)=i+1+t by omega]
  |false=>
   have e:ld q (x::r) i b=ld q r (i+1) (i+1):=by show ld q r (i+1) (bif q i x then b else i+1)=_;rw[hq];rfl
   rw[e];rcases yK q r (i+1) (i+1) (QN _)with⟨h1,h2⟩|⟨h1,h2,⟨o,h3,h4⟩,h5⟩
   .refine .inr ⟨om,by simp;omega,⟨x,by rw[h1];simp,by rw[h1];simpa using hq⟩,fun t o ht ho=>?_⟩
    cases t with
    |zero=>omega
    |succ t=>have:=h2 t o (by simpa using ho);rwa [show i+(t+1)=i+1+t by omega]
   .refine .inr ⟨om,by simp;omega,⟨o,?_,h4⟩,fun t o ht ho=>?_⟩
    .rw[show ld q r (i+1) (i+1)-1-i=(ld q r (i+1) (i+1)-1-(i+1))+1 by omega];simpa using h3
    .cases t with
     |zero=>omega
     |succ t=>have:=h5 t o om (by simpa using ho);rwa [show i+(t+1)=i+1+t by omega]
theorem Dw{α:Type}(q:Nat->α->Bool)(mn:Nat)(L:List α):rx q mn L (A6 q mn L):=by
 unfold A6;rcases yK q L 0 0 (QN _)with⟨h1,h2⟩|⟨h1,h2,⟨o,h3,h4⟩,h5⟩
 .refine⟨⟨Nat.min_le_left _ _,om,fun t o _ ho=>by have:=h2 t o ho;rwa [aak]at this⟩,.inl om⟩
 .refine⟨⟨Nat.min_le_left _ _,om,fun t o ht ho=>?_⟩,?_⟩
  .have aF:=(Hy.1 ho).1;have:=h5 t o om ho;rwa [aak]at this
  .rcases XN mn (ld q L 0 0)with hm|hm
   .refine .inr ⟨o,?_⟩;have e:min L.length (max mn (ld q L 0 0))=ld q L 0 0:=om;rw[e];exact⟨by simpa using h3,h4⟩
   .exact .inl om
def TJ(c:Kr):Kr:=
 ⟨c.l.take (A6 qO 1 c.l),c.ops.take (A6 qP 0 c.ops),(c.ps.mapIdx (yH (c.l.take (A6 qO 1 c.l)) c.ps.length)).take (A6 (qR (c.l.take (A6 qO 1 c.l))) 1 (c.ps.mapIdx (yH (c.l.take (A6 qO 1 c.l)) c.ps.length)))⟩
theorem Qs(c:Kr):kL c (TJ c):=⟨⟨_,_,_,_,Dw _ _ _,Dw _ _ _,yI _ _,Dw _ _ _,rfl⟩⟩
def oX(k:Kr):Kr:=TJ (A5 k.ps.length k)
theorem xw{k:Kr}(hk:dC k.l k.ops k.ps):Kh k (oX k):=by
 obtain⟨a,h1,h2⟩:=Km k.ps.length k hk (by unfold jO;exact abi _ _)
 exact⟨a,_,h1,h2,Qs _⟩
theorem Hp{k a c d:Kr}(hk:dC k.l k.ops k.ps)(h1:iL k a)(h2:db a.l a.ops a.ps c.l c.ops c.ps false)(h3:kL c d):d=oX k:=
 Kh.Ao ⟨a,c,h1,h2,h3⟩ (xw hk)
theorem Hq(k:Kr)(hk:dC k.l k.ops k.ps){m:Mem}{K:CV->Mem->Prop}(h:K (dX (oX k).l (oX k).ops (oX k).ps) m):ar Tryz.prog 37 [dX k.l k.ops k.ps] m K:=
 Kg k hk fun a c d h1 h2 h3=>by rw[Hp hk h1 h2 h3];exact h
end Kn
theorem tJ{l:List bC}{k:Nat}(h:k<l.length):dg (l.map bC.enc) (k:Nat)=some [.val (.int .i64 l[k].bt),.val (.int .i64 l[k].cU)]:=by rw[bF,O6,tq h];rfl
inductive gx(m:Mem)(Z:Nat->Prop)(p:Option Nat):List CC->List Dt->Prop
 |nil:gx m Z p [] []
 |cons {c:CC} {d:Dt} {r:List CC} {r':List Dt} (h:dm m Z p c d) (hr:gx m Z p r r'):gx m Z p (c::r) (d::r')
theorem gx.len{m:Mem}{Z:Nat->Prop}{p:Option Nat}{a:List CC}{b:List Dt}(h:gx m Z p a b):a.length=b.length:=by induction h<;>simp[*]
theorem gx.get{m:Mem}{Z:Nat->Prop}{p:Option Nat}{a:List CC}{b:List Dt}(h:gx m Z p a b):∀(i:Nat)c d,a[i]? =some c->b[i]? =some d->dm m Z p c d:=by
 induction h with
 |nil=>intro i c d h;simp at h
 |cons h hr ih=>
  intro i c d h1 h2;cases i with
  |zero=>simp at h1 h2;subst h1 h2;exact h
  |succ i=>exact ih i c d (by simpa using h1) (by simpa using h2)
inductive ep(m:Mem)(Z:Nat->Prop)(p:Option Nat):List (List CC)->List (List Dt)->Prop
 |nil:ep m Z p [] []
 |cons {c:List CC} {d:List Dt} {r:List (List CC)} {r':List (List Dt)} (h:gx m Z p c d) (hr:ep m Z p r r'):ep m Z p (c::r) (d::r')
theorem ep.len{m:Mem}{Z:Nat->Prop}{p:Option Nat}{a:List (List CC)}{b:List (List Dt)}(h:ep m Z p a b):a.length=b.length:=by induction h<;>simp[*]
theorem ep.get{m:Mem}{Z:Nat->Prop}{p:Option Nat}{a:List (List CC)}{b:List (List Dt)}(h:ep m Z p a b):∀(i:Nat)c d,a[i]? =some c->b[i]? =some d->gx m Z p c d:=by
 induction h with
 |nil=>intro i c d h;simp at h
 |cons h hr ih=>
  intro i c d h1 h2;cases i with
  |zero=>simp at h1 h2;subst h1 h2;exact h
  |succ i=>exact ih i c d (by simpa using h1) (by simpa using h2)
theorem ep.eu{m:Mem}{Z:Nat->Prop}{p:Option Nat}{id esz:Nat}{elems:List (List CC)}{ds:List (List Dt)}(h:ep m Z (some id) elems ds)(hz:Z id)(hm:m[id]? =some (.row esz elems)):dm m Z p (.row id esz 0 none) (.sl esz ds):=
 dm.row id esz 0 none elems ds hz hm h.len (fun i cs es h1 h2=>(h.get i cs es h1 h2).len) (fun i cs es j c d h1 h2 h3 h4=>(h.get i cs es h1 h2).get j c d h3 h4)
end Go.Proofs.YthagjdhjmamakaaGreatDoor
