/- Part 22 of 43: what the law stands on. -/
import Derived.Test.YtojhmadmlnfpcaaGreatDoorK16
import Derived.Test.YtojhmadmlnfpcaaGreatDoorK21
set_option linter.unusedVariables false
set_option linter.unusedSimpArgs false
set_option linter.unnecessarySimpa false
set_option maxRecDepth 100000
set_option maxHeartbeats 64000000
namespace Go.Proofs.YtojhmadmlnfpcaaGreatDoor
open Go.AM Go.ChangeShapes Go.WideShapes Go.ChangeAt Go.RowKit
theorem QW(k a c:Kr)(ha:il k a)(hc:cU a.l a.ops a.ps c.l c.ops c.ps false)(hk:dE c.l c.ops c.ps)(n1:Nat)(h1:o4 qO 1 c.l n1):
  aw Tryz.prog 0 T4 (YH k) ⟨YI,[.bh,.var z3,.var [.aa (cX (c.l.take n1)),.aa (eA c.ops),.row 3 4 0 none],.row 4 (af (c.ps.map bi.enc))]⟩:=by
 have gR:=hk.lo;refine aO (fun n=>Cv qP 0 c.ops n) [2,3] (fun _=>[]) (fun n=>[.bh,.var z3,.var [.aa (cX (c.l.take n1)),.aa (eA (c.ops.take n)),.row 3 4 0 none],.row 4 (af (c.ps.map bi.enc))]) (fun n=>n) c.ops.length (.start _ _ _) ?_ (fun n hn=>?_)
 .refine View.o1 4 [0,1,2,3] [] ?_
  .exact(.bh (.pe rfl rfl rfl (.pt rfl rfl (e7.var (.cons (.aQ (.aa _)) (.cons (L7 (by rw[aaO])) (.cons (.aQ (.row 3 4 0 none)) .nil)))) (.pn rfl rfl rfl))))
 have hn:Cv qP 0 c.ops n:=hn;have kM:=hn.le;refine aB (fun h=>?_) (fun h=>?_)
 .have pJ:0<n:=by have h:(((c.ops.take n).map bG.enc).length:Int)>0:=h;rw[aad,gI kM]at h;omega
  have hz:IntKind.i64.wrap ((((c.ops.take n).map bG.enc).length:Int)-1)=((n-1:Nat):Int):=by rw[aad,gI kM,g9 om om];omega
  have aC:n-1<c.ops.length:=om;have hg:=v6 bG.enc c.ops om kM;rw[<-hz]at hg;have lN:=aab aC;have pb:=hn.step om aC;generalize c.ops[n-1]=x at hg lN pb;have hg:cy ((c.ops.take n).map bG.enc) (IntKind.i64.wrap ((((c.ops.take n).map bG.enc).length:Int)-1))=some [.val (.int .i64 x.bv),.val (.int .i64 x.dm)]:=hg;refine ag hg ?_;refine aB (fun hx=>?_) (fun hx=>?_)
  .have hq:qP (n-1) x=true:=decide_eq_true hx;refine ag (x:=n-1) (by show pF (an .i64 (IntKind.i64.wrap ((((c.ops.take n).map bG.enc).length:Int)-1)))=_;rw[hz];rfl) ?_
   refine cF (by simp[aaR];omega) ?_
   refine⟨n-1,pb hq,(show n-1<n by omega),View.o1 4 [0,1,2,3] [] ?_⟩
   .exact(.bh (.pe rfl rfl rfl (.pt rfl rfl (e7.var (.cons (.aQ (.aa _)) (.cons (L7 (congrArg (Dt.sl 2) (vZ bG.enc c.ops kM))) (.cons (.aQ (.row 3 4 0 none)) .nil)))) (.pn rfl rfl rfl))))
  .have hq:qP (n-1) x=false:=decide_eq_false hx;refine fa [2,3] [] ([.bh,.var z3,.var [.aa (cX (c.l.take n1)),.aa (eA (c.ops.take n)),.row 3 4 0 none],.row 4 (af (c.ps.map bi.enc))]) (View.o1 4 [0,1,2,3] [] ?_) ?_
   .exact(.bh (.pe rfl rfl rfl (.pt rfl rfl (e7.var (.cons (.aQ (.aa _)) (.cons (.aQ (.aa _)) (.cons (.aQ (.row 3 4 0 none)) .nil)))) (.pn rfl rfl rfl))))
   exact QT k a c ha hc hk n1 n h1 ⟨hn,(.inr ⟨x,lN,hq⟩)⟩
 .have pJ:n<=0:=by have h:¬(((c.ops.take n).map bG.enc).length:Int)>0:=h;rw[aad,gI kM]at h;omega
  refine fa [2,3] [] ([.bh,.var z3,.var [.aa (cX (c.l.take n1)),.aa (eA (c.ops.take n)),.row 3 4 0 none],.row 4 (af (c.ps.map bi.enc))]) (View.o1 4 [0,1,2,3] [] ?_) ?_
  .exact(.bh (.pe rfl rfl rfl (.pt rfl rfl (e7.var (.cons (.aQ (.aa _)) (.cons (.aQ (.aa _)) (.cons (.aQ (.row 3 4 0 none)) .nil)))) (.pn rfl rfl rfl))))
  exact QT k a c ha hc hk n1 n h1 ⟨hn,(.inl pJ)⟩
theorem EY(k:Kr)(hk:dE k.l k.ops k.ps):body Tryz.prog c46 [dJ k.l k.ops k.ps] [] (KS k):=by
 refine ix k.l k.ops k.ps ⟨hk.ll,fun o ho=>(hk.sm o ho).mP⟩ hk.lo hk.lp hk.sl hk.ne ?_
 refine aO (fun(a:Kr)=>il k a/\dE a.l a.ops a.ps) [2] (fun _=>[(3,.rv (.one (.ptr 2 0)))]) (fun a=>[.bh,.var z3,.var [.row 3 9 0 none,.row 4 2 0 none,.row 5 4 0 none],.row 9 (af (a.l.map Obj.enc)),.row 2 (af (a.ops.map bG.enc)),.row 4 (af (a.ps.map bi.enc))]) (fun a=>kR a.ps) k ⟨.refl,hk⟩ ?_ (fun a ha=>?_)
 .refine View.o1 6 [0,1,5,2,3,4] [] ?_
  .exact(.bh (.pe rfl rfl rfl (.pe rfl rfl rfl (.pr rfl rfl rfl (.pr rfl rfl rfl (.pn rfl rfl rfl))))))
 obtain⟨ha,Og⟩:=ha;refine EW a Og .bh fun c en ho=>?_
 refine aE (fun he=>?_) (fun he=>?_)
 .subst he;refine⟨c,⟨.step ha ho,ho.kr Og⟩,ho.kR,View.o1 6 [0,1,2,3,4,5] [] ?_⟩
  .exact(.bh (.pe rfl rfl rfl (.pe rfl rfl rfl (.pr rfl rfl rfl (.pr rfl rfl rfl (.pn rfl rfl rfl))))))
 .subst he;have hc:=ho;have Ow:=ho.kr Og;have Uk:=Ow.ll;refine aO (fun n=>Cv qO 1 c.l n) [2,3] (fun _=>[]) (fun n=>[.bh,.var z3,.var [.aa (cX (c.l.take n)),.aa (eA c.ops),.row 3 4 0 none],.row 4 (af (c.ps.map bi.enc))]) (fun n=>n) c.l.length (.start _ _ _) ?_ (fun n hn=>?_)
  .refine View.o1 6 [0,1,2,5] [3,4] ?_
   .exact(.bh (.pe rfl rfl rfl (.pt rfl rfl (e7.var (.cons (by rw[aaO];exact .fv (dP.eE (Z:=fun k=>bq [3,4] k=true) rfl rfl 0 none)) (.cons (.fv (dP.eE (Z:=fun k=>bq [3,4] k=true) rfl rfl 0 none)) (.cons (.aQ (.row 3 4 0 none)) .nil)))) (.pn rfl rfl rfl))))
  have hn:Cv qO 1 c.l n:=hn;have kM:=hn.le;refine aB (fun h=>?_) (fun h=>?_)
  .have pJ:1<n:=by have h:(((c.l.take n).map Obj.enc).length:Int)>1:=h;rw[aad,gI kM]at h;omega
   have hz:IntKind.i64.wrap ((((c.l.take n).map Obj.enc).length:Int)-1)=((n-1:Nat):Int):=by rw[aad,gI kM,g9 om om];omega
   have aC:n-1<c.l.length:=om;have hg:=v6 Obj.enc c.l om kM;rw[<-hz]at hg;have lN:=aab aC;have pb:=hn.step om aC;generalize c.l[n-1]=x at hg lN pb;have hg:cy ((c.l.take n).map Obj.enc) (IntKind.i64.wrap ((((c.l.take n).map Obj.enc).length:Int)-1))=some [.val (.int .i64 x.ah),.sl 1 x.data,.sl 2 x.ak,.val (.string x.target),.val (.int .i64 x.aJ),.sl 4 (x.aj.map bw.enc),.val (.int .i64 x.aL),.val (.int .i64 x.am),.val (.int .i64 x.up)]:=hg;refine ag hg ?_;refine bH (fun hx=>?_) (fun hx=>?_)
   .have hq:qO (n-1) x=true:=(by unfold qO;simpa using hx)
    refine ag (x:=n-1) (by show pF (an .i64 (IntKind.i64.wrap ((((c.l.take n).map Obj.enc).length:Int)-1)))=_;rw[hz];rfl) ?_
    refine cF (by simp[aaR];omega) ?_
    refine⟨n-1,pb hq,(show n-1<n by omega),View.o1 4 [0,1,2,3] [] ?_⟩
    .exact(.bh (.pe rfl rfl rfl (.pt rfl rfl (e7.var (.cons (L7 (congrArg (Dt.sl 9) (vZ Obj.enc c.l kM))) (.cons (.aQ (.aa _)) (.cons (.aQ (.row 3 4 0 none)) .nil)))) (.pn rfl rfl rfl))))
   .have hq:qO (n-1) x=false:=(by unfold qO;simpa using hx)
    refine fa [2,3] [] ([.bh,.var z3,.var [.aa (cX (c.l.take n)),.aa (eA c.ops),.row 3 4 0 none],.row 4 (af (c.ps.map bi.enc))]) (View.o1 4 [0,1,2,3] [] ?_) ?_
    .exact(.bh (.pe rfl rfl rfl (.pt rfl rfl (e7.var (.cons (.aQ (.aa _)) (.cons (.aQ (.aa _)) (.cons (.aQ (.row 3 4 0 none)) .nil)))) (.pn rfl rfl rfl))))
    exact QW k a c ha hc Ow n ⟨hn,(.inr ⟨x,lN,hq⟩)⟩
  .have pJ:n<=1:=by have h:¬(((c.l.take n).map Obj.enc).length:Int)>1:=h;rw[aad,gI kM]at h;omega
   refine fa [2,3] [] ([.bh,.var z3,.var [.aa (cX (c.l.take n)),.aa (eA c.ops),.row 3 4 0 none],.row 4 (af (c.ps.map bi.enc))]) (View.o1 4 [0,1,2,3] [] ?_) ?_
   .exact(.bh (.pe rfl rfl rfl (.pt rfl rfl (e7.var (.cons (.aQ (.aa _)) (.cons (.aQ (.aa _)) (.cons (.aQ (.row 3 4 0 none)) .nil)))) (.pn rfl rfl rfl))))
   exact QW k a c ha hc Ow n ⟨hn,(.inl pJ)⟩
theorem L8(k:Kr)(hk:dE k.l k.ops k.ps){m:Mem}{K:CV->Mem->Prop}(h:∀a c d,il k a->cU a.l a.ops a.ps c.l c.ops c.ps false->gm c d->K (dJ d.l d.ops d.ps) m):ar Tryz.prog 46 [dJ k.l k.ops k.ps] m K:=by
 refine bb (K0:=KS k) (cm Tryz.func46 l46 (EY k hk)) (by simp[dJ,cX,eA,fC,CV.dx,CC.dx,RV.dx]) fun r m1 hr=>?_
 obtain⟨a,c,d,h1,h2,h3,hf⟩:=hr;exact⟨_,hf,h a c d h1 h2 h3⟩
def jl(l L:List Obj):Prop:=L.length<=l.length/\∀(i:Nat)o,L[i]? =some o->o.ah≠0->∃o':Obj,l[i]? =some o'/\o={o' with aJ:=o.aJ}
def iy(p P:List bi):Prop:=P.length<=p.length/\∀(i:Nat)x,P[i]? =some x->x.aV=true->p[i]? =some x
theorem jl.refl(l:List Obj):jl l l:=⟨aaj _,fun i o h _=>⟨o,h,rfl⟩⟩
theorem jl.trans{a b c:List Obj}(h1:jl a b)(h2:jl b c):jl a c:=by
 refine⟨aa0 h2.1 h1.1,fun i o ho hk=>?_⟩
 obtain⟨o',ir,e⟩:=h2.2 i o ho hk;have ij:o'.ah≠0:=by rw[e]at hk;exact hk
 obtain⟨o2,oM,e2⟩:=h1.2 i o' ir ij;refine⟨o2,oM,?_⟩;rw[e,e2]
theorem iy.refl(l:List bi):iy l l:=⟨aaj _,fun i o h _=>h⟩
theorem iy.trans{a b c:List bi}(h1:iy a b)(h2:iy b c):iy a c:=
 ⟨aa0 h2.1 h1.1,fun i x hx hl=>h1.2 i x (h2.2 i x hx hl) hl⟩
theorem Pt.get{α:Type}{l L:List α}{f:Nat->α->α}(h:Pt l L f){i:Nat}{x:α}(hx:L[i]? =some x):∃o,l[i]? =some o/\x=f i o:=by
 have aC:i<l.length:=by have:=(aac.1 hx).1;rw[h.1]at this;exact this
 have:=h.2 i l[i] (aab aC);rw[hx]at this;cases this;exact⟨_,aab aC,rfl⟩
theorem cU.eH{l:List Obj}{ops:List bG}{ps:List bi}{L:List Obj}{L2:List bG}{L3:List bi}{en:Bool}(h:cU l ops ps L L2 L3 en):jl l L/\iy ps L3:=by
 obtain⟨b,hb,hP,Bs⟩:=h.ex;refine⟨⟨by rw[hP.1];exact aaj _,fun i o ho hk=>?_⟩,by rw[h.pr.1];exact aaj _,fun i x hx hl=>?_⟩
 .obtain⟨o',ir,e⟩:=hP.get ho;refine⟨o',ir,?_⟩;unfold cu at e;split at e
  .rw[e]at hk;exact absurd rfl hk
  .split at e
   .rw[e]
   .rw[e]
 .obtain⟨y,hy,e⟩:=h.pr.get hx;unfold xI at e;split at e
  .rw[e]at hl;simp[fQ]at hl
  .rw[e];exact hy
theorem il.eH{k a:Kr}(h:il k a):jl k.l a.l/\iy k.ps a.ps:=by
 induction h with
 |refl=>exact⟨.refl _,.refl _⟩
 |step h ho ih=>exact⟨ih.1.trans ho.eH.1,ih.2.trans ho.eH.2⟩
theorem il.kr{k a:Kr}(h:il k a)(hk:dE k.l k.ops k.ps):dE a.l a.ops a.ps:=by
 induction h with
 |refl=>exact hk
 |step h ho ih=>exact ho.kr ih
theorem gm.eH{c d:Kr}(h:gm c d):jl c.l d.l/\iy c.ps d.ps:=by
 obtain⟨n1,n2,n3,P,h1,h2,hP,h3,rfl⟩:=h.ex;refine⟨⟨by simp[aaz];omega,fun i o ho _=>?_⟩,by simp[aaz];have:=hP.1;omega,fun i x hx hl=>?_⟩
 .have ho:(c.l.take n1)[i]? =some o:=ho;rw[aaK]at ho;split at ho
  .exact⟨o,ho,rfl⟩
  .cases ho
 .have hx:(P.take n3)[i]? =some x:=hx;rw[aaK]at hx;split at hx
  .obtain⟨y,hy,e⟩:=hP.get hx;unfold rS at e;split at e
   .rw[e]at hl;simp[fQ]at hl
   .rw[e];exact hy
  .cases hx
theorem gm.one{c d:Kr}(h:gm c d)(hc:c.ps≠[]):1<=d.ps.length:=by obtain⟨n1,n2,n3,P,h1,h2,hP,h3,rfl⟩:=h.ex;have hl:0<c.ps.length:=acB.2 hc;have:=h3.t.mn;rw[hP.1]at this;have h4:=h3.t.le;show 1<=(P.take n3).length;rw[aaz];omega
theorem EZ{k a c d:Kr}(hk:dE k.l k.ops k.ps)(h1:il k a)(h2:cU a.l a.ops a.ps c.l c.ops c.ps false)(h3:gm c d):jl k.l d.l/\iy k.ps d.ps/\1<=d.ps.length:=
 ⟨(h1.eH.1.trans h2.eH.1).trans h3.eH.1,(h1.eH.2.trans h2.eH.2).trans h3.eH.2,h3.one (h2.kr (h1.kr hk)).ne⟩
theorem gq.ah{l:List Obj}{ops:List bG}{ps:List bi}{b:Mk}(h:gq l ops ps b){i:Nat}(hi:dv b.O i):∃o,l[i]? =some o/\o.ah≠0:=by refine(h.nw (fun i=>∃o,l[i]? =some o/\o.ah≠0) (fun c=>c<ops.length) ⟨fun i o _ _ z n _ hv=>hv.2,fun i o _ _ z c _ hv=>hv.2,fun c o _ _ n hv=>hv.2⟩ ⟨fun n hv=>hv.2,fun p pr _ _ s _ _ c hv=>hv.2⟩).1 i hi
theorem gm.kr{c d:Kr}(h:gm c d)(k:dE c.l c.ops c.ps):dE d.l d.ops d.ps:=by
 have h1:=h.one k.ne;obtain⟨n1,n2,n3,P,t1,t2,hP,t3,rfl⟩:=h.ex;refine⟨fun o ho=>k.sm o (aa1 ho),?_,?_,?_,fun p hp=>?_,fun e=>?_⟩
 .show(c.l.take n1).length<=_;rw[aaz];have:=k.ll;omega
 .show(c.ops.take n2).length<=_;rw[aaz];have:=k.lo;omega
 .show(P.take n3).length<=_;rw[aaz,hP.1];have:=k.lp;omega
 .refine hP.all (Q:=fun p=>p.aU.length<=10) (fun t o ho=>?_) p (aa1 hp)
  unfold rS;split
  .simp[fQ]
  .exact k.sl o (aag ho)
 .have h1:1<=(P.take n3).length:=h1;have e:P.take n3=[]:=e;rw[e]at h1;simp at h1
theorem Cv.Sg{α:Type}{q:Nat->α->Bool}{mn n n':Nat}{L:List α}(h:o4 q mn L n)(h':o4 q mn (L.take n) n'):n'=(L.take n).length:=by
 have hn:=h.t.le;have e:(L.take n).length=n:=gI hn;have N4:=h'.t.le;have RD:=h'.t.mn;rw[e]at N4 RD⊢;rcases aaq n' n with aC|ei
 .exfalso;rcases h.e with h1|⟨o,ho,hq⟩
  .omega
  .have h2:(L.take n)[n-1]? =some o:=by rw[abj om];exact ho
   have:=h'.t.dr (n-1) o om h2;rw[hq]at this;cases this
 .omega
theorem Cw{L:List Obj}{ps:List bi}(h:false=iP L ps ps.length){t:Nat}{x:bi}(hx:ps[t]? =some x):ik L t x=false:=by
 cases he:ik L t x with
 |false=>rfl
 |true=>
  have:iP L ps ps.length=true:=by
   unfold iP;rw[aaM];exact⟨t,by simpa using(aac.1 hx).1,by rw[hx];exact he⟩
  rw[this]at h;cases h
theorem Pt.id{α:Type}{l L:List α}{f:Nat->α->α}(h:Pt l L f)(hf:∀(t:Nat)o,l[t]? =some o->f t o=o):L=l:=by
 apply aa7;intro t;cases ht:l[t]? with
 |some o=>rw[h.2 t o ht,hf t o ht]
 |none=>
  have:l.length<=t:=by simpa using ht
  simp[h.1,this]
theorem v7{p:Int}{o:Obj}(h:dL p o=true):o.ah≠0:=by intro h0;simp[dL,h0]at h
structure Left(c:Kr)(b:Mk):Prop where
 ok:gq c.l c.ops c.ps b
 all:∀(i:Nat)o,c.l[i]? =some o->o.ah≠0->dv b.O i
 ops:∀(i:Nat)o,c.ops[i]? =some o->¬dv b.P i->o=⟨-1,0⟩
 prs:∀(t:Nat)x,c.ps[t]? =some x->ik c.l t x=false
theorem cU.left{a c:Kr}(h:cU a.l a.ops a.ps c.l c.ops c.ps false):∃b,Left c b:=by
 obtain⟨b,hb,hP,Bs⟩:=h.ex;have qq:c.ps=a.ps:=h.pr.id fun t o ho=>by have:=Cw h.en ho;simp[xI,this]
 have hlen:=hP.1;have tM:=Bs.1;have Hd:∀(i:Nat)o',a.l[i]? =some o'->dv b.O i->∃o,c.l[i]? =some o/\o.ah=o'.ah/\o.ak=o'.ak/\o.aj=o'.aj:=fun i o' ir hi=>by
  refine⟨_,hP.2 i o' ir,?_⟩;have hd:eK b a.l i=false:=by unfold eK;rw[ir];have:b.O[i]? =some true:=hi;simp[this]
  unfold cu;rw[hd];simp only[Bool.false_and,abh,if_false];split<;>exact⟨rfl,rfl,rfl⟩
 have QX:∀(i:Nat)o,c.l[i]? =some o->o.ah≠0->dv b.O i/\∃o',a.l[i]? =some o'/\o.ah=o'.ah/\o.ak=o'.ak/\o.aj=o'.aj:=fun i o ho hk=>by
  obtain⟨o',ir,e⟩:=hP.get ho;have Qq:i<a.l.length:=(aac.1 ir).1;unfold cu at e;split at e
  .rw[e]at hk;exact absurd rfl hk
  .rename_i nY;have hko:o.ah=o'.ah:=by split at e<;>rw[e]
   refine⟨?_,o',ir,hko,by split at e<;>rw[e],by split at e<;>rw[e]⟩
   have hd:eK b a.l i=false:=by
    cases OB:eK b a.l i with
    |false=>rfl
    |true=>exact absurd (by rw[OB];simpa using Qq) nY
   unfold eK at hd;rw[ir]at hd;have ij:(o'.ah !=0)=true:=by rw[<-hko];simpa using hk
   simp only[ij,Bool.and_true]at hd;simpa[dv]using hd
 have Uj:∀z n,vO c.l z n->dv b.O n/\vO a.l z n:=fun z n hv=>by
  obtain⟨hz,o,ho,hk⟩:=hv;obtain⟨h1,o',ir,ij,_⟩:=QX n o ho hk;exact⟨h1,hz,o',ir,by rw[<-ij];exact hk⟩
 have YM:∀z n,vO a.l z n->dv b.O n->vO c.l z n:=fun z n hv hn=>by
  obtain⟨hz,o',ir,hk⟩:=hv;obtain⟨o,ho,ij,_⟩:=Hd n o' ir hn;exact⟨hz,o,ho,by rw[ij];exact hk⟩
 have Xd:∀z n,vP c.ops z n↔vP a.ops z n:=fun z n=>by unfold vP;rw[tM]
 have acM:∀(i:Nat)o,c.ops[i]? =some o->dv b.P i->a.ops[i]? =some o:=fun i o ho hi=>by obtain⟨o',ir,e⟩:=Bs.get ho;have:b.P[i]? =some true:=hi;rw[e];simpa[Br,this]using ir
 refine⟨b,⟨⟨by rw[hlen];exact hb.len.1,by rw[tM];exact hb.len.2⟩,⟨fun n hv=>(Uj 0 n hv).1,fun p pr hp hl s hs hh cc hv=>?_⟩,⟨fun i o hi ho z n hz hv=>(Uj z n hv).1,fun i o hi ho z cc hz hv=>?_,fun cc o hc ho n hv=>(Uj _ n hv).1⟩,fun RO RP gZ hr=>?_⟩,fun i o ho hk=>(QX i o ho hk).1,fun i o ho hn=>?_,fun t x hx=>?_⟩
 .rw[qq]at hp;exact hb.nv.2 p pr hp hl s hs hh cc ((Xd _ _).1 hv)
 .obtain⟨o',ir,e⟩:=hP.get ho;obtain⟨o2,oM,_,_,hq⟩:=Hd i o' ir hi;rw[ho]at oM;cases oM;obtain⟨q,Hc,Ok,YN⟩:=hz;exact hb.cl.q i o' hi ir z cc ⟨q,by rw[<-hq];exact Hc,Ok,YN⟩ ((Xd _ _).1 hv)
 ·
  have iV:=hb.nw (fun i=>RO i/\dv b.O i) (fun cc=>RP cc/\dv b.P cc) ⟨fun i o' hi ir z n hz hv=>?_,fun i o' hi ir z cc hz hv=>?_,fun cc o' hc ir n hv=>?_⟩ ⟨fun n hv=>?_,fun p pr hp hl s hs hh cc hv=>?_⟩
  .exact⟨fun i hi=>(iV.1 i hi).1,fun i hi=>(iV.2 i hi).1⟩
  .have hn:=hb.cl.e i o' hi.2 ir z n hz hv;obtain⟨o,ho,_,he,_⟩:=Hd i o' ir hi.2;obtain⟨nm,hm⟩:=hz;exact⟨gZ.e i o hi.1 ho z n ⟨nm,by rw[he];exact hm⟩ (YM z n hv hn),hn⟩
  .have hn:=hb.cl.q i o' hi.2 ir z cc hz hv;obtain⟨o,ho,_,_,hq⟩:=Hd i o' ir hi.2;obtain⟨q,Hc,Ok,YN⟩:=hz;exact⟨gZ.q i o hi.1 ho z cc ⟨q,by rw[hq];exact Hc,Ok,YN⟩ ((Xd _ _).2 hv),hn⟩
  .have hn:=hb.cl.p cc o' hc.2 ir n hv;have hco:c.ops[cc]? =some o':=by have:=Bs.2 cc o' ir;have L9:b.P[cc]? =some true:=hc.2;simpa[Br,L9]using this
   exact⟨gZ.p cc o' hc.1 hco n (YM _ n hv hn),hn⟩
  .have hn:=hb.nv.1 n hv;exact⟨hr.1 n (YM 0 n hv hn),hn⟩
  .exact⟨hr.2 p pr (by rw[qq];exact hp) hl s hs hh cc ((Xd _ _).2 hv),hb.nv.2 p pr hp hl s hs hh cc hv⟩
 .obtain⟨o',ir,e⟩:=Bs.get ho;have aC:i<a.ops.length:=(aac.1 ir).1;have hn:(b.P[i]? ==some true)=false:=by simpa[dv]using hn
  rw[e];simp[Br,hn,aC]
 .rw[qq]at hx;exact Cw h.en hx
theorem gm.Ma{c d:Kr}{b bd:Mk}(hl:Left c b)(hf:gm c d)(hd:gq d.l d.ops d.ps bd):(∀(i:Nat)o,d.l[i]? =some o->o.ah≠0->dv bd.O i)/\(∀(i:Nat)o,d.ops[i]? =some o->¬dv bd.P i->o=⟨-1,0⟩):=by
 obtain⟨n1,n2,n3,P,t1,t2,hP,t3,rfl⟩:=hf.ex;have hd:gq (c.l.take n1) (c.ops.take n2) (P.take n3) bd:=hd;have h1:∀(i:Nat)o,c.l[i]? =some o->o.ah≠0->(c.l.take n1)[i]? =some o:=fun i o ho hk=>by
  rcases aaq i n1 with h|h
  .rw[abj h];exact ho
  .have:=t1.t.dr i o h ho;simp[qO]at this;exact absurd this hk
 have YO:∀z n,vO c.l z n->vO (c.l.take n1) z n:=fun z n⟨hz,o,ho,hk⟩=>⟨hz,o,h1 n o ho hk,hk⟩
 have iV:=hl.ok.nw (fun i=>dv bd.O i) (fun cc=>dv bd.P cc\/n2<=cc) ⟨fun i o hi ho z n hz hv=>?_,fun i o hi ho z cc hz hv=>?_,fun cc o hc ho n hv=>?_⟩ ⟨fun n hv=>?_,fun p pr hp dh s hs hh cc hv=>?_⟩
 .refine⟨fun i o ho hk=>?_,fun i o ho hn=>?_⟩
  .have ho:(c.l.take n1)[i]? =some o:=ho;rw[aaK]at ho;split at ho
   .exact iV.1 i (hl.all i o ho hk)
   .cases ho
  .have ho:(c.ops.take n2)[i]? =some o:=ho;rw[aaK]at ho;split at ho
   .rename_i aC;refine hl.ops i o ho fun hb=>?_
    rcases iV.2 i hb with h|h
    .exact hn h
    .omega
   .cases ho
 .obtain⟨o',ir,hk⟩:=hd.ah hi;have:(c.l.take n1)[i]? =some o:=by
   rw[aaK]at ir⊢;split at ir
   .rename_i aC;rw[if_pos aC];exact ho
   .cases ir
  exact hd.cl.e i o hi this z n hz (YO z n hv)
 .obtain⟨o',ir,hk⟩:=hd.ah hi;have:(c.l.take n1)[i]? =some o:=by
   rw[aaK]at ir⊢;split at ir
   .rename_i aC;rw[if_pos aC];exact ho
   .cases ir
  rcases aaq cc n2 with h|h
  .exact .inl (hd.cl.q i o hi this z cc hz ⟨hv.1,by have:=hv.2;rw[aaz];omega⟩)
  .exact .inr h
 .rcases hc with hc|hc
  .have aC:cc<n2:=by have h2:=(aac.1 hc).1;rw[hd.len.2,aaz]at h2;omega
   exact hd.cl.p cc o hc (by rw[abj aC];exact ho) n (YO _ n hv)
  .have:=t2.t.dr cc o hc ho;simp[qP]at this;have:=hv.1;omega
 .exact hd.nv.1 n (YO 0 n hv)
 .rcases aaq cc n2 with h|h
  .refine .inl (hd.nv.2 p pr ?_ dh s hs hh cc ⟨hv.1,by have:=hv.2;rw[aaz];omega⟩)
   have hnz:rS (c.l.take n1) c.ps.length p pr=pr:=by unfold rS qZ;simp[dh]
   have QU:=hP.2 p pr hp;rw[hnz]at QU;rcases aaq p n3 with h3|h3
   .rw[abj h3];exact QU
   .have:=t3.t.dr p pr h3 QU;simp[qR,dh]at this
  .exact .inr h
theorem gm.IW{c d:Kr}{b:Mk}(hl:Left c b)(hf:gm c d){L:List Obj}{L2:List bG}{L3:List bi}{en:Bool}(h:cU d.l d.ops d.ps L L2 L3 en):L=d.l/\L2=d.ops/\L3=d.ps/\en=false:=by
 obtain⟨bd,O5,YP,Bs⟩:=h.ex;obtain⟨m1,m2⟩:=hf.Ma hl O5;have kT:∀i,eK bd d.l i=false:=fun i=>by
  unfold eK;cases hi:d.l[i]? with
  |none=>rfl
  |some o=>
   by_cases hk:o.ah=0
   .simp[hk]
   .have:bd.O[i]? =some true:=m1 i o hi hk;simp[this]
 have OK:∀(t:Nat)x,d.ps[t]? =some x->ik d.l t x=false:=fun t x hx=>by
  obtain⟨n1,n2,n3,P,t1,t2,hP,t3,rfl⟩:=hf.ex;have hx:(P.take n3)[t]? =some x:=hx;rw[aaK]at hx;split at hx
  .obtain⟨y,hy,e⟩:=hP.get hx;cases dh:x.aV with
   |false=>simp[ik,dh]
   |true=>
    have La:x=y:=by
     unfold rS at e;split at e
     .rw[e]at dh;simp[fQ]at dh
     .exact e
    subst La;have he:=hl.prs t x hy;cases h0:ik (c.l.take n1) t x with
    |false=>rfl
    |true=>
     unfold ik at he h0;simp[dh]at he h0;obtain⟨o,ho,hh⟩:=he h0.1;obtain⟨i,hi⟩:=aam ho;have hk:=v7 hh;have kN:o∈c.l.take n1:=by
      rcases aaq i n1 with h|h
      .exact aag (by rw[abj h];exact hi)
      .have:=t1.t.dr i o h hi;simp[qO]at this;exact absurd this hk
     have:=h0.2 o kN;rw[hh]at this;cases this
  .cases hx
 have hL:L=d.l:=YP.id fun t o _=>by
  unfold cu;rw[kT t];have:lM bd d.l d.l.length o.aJ=false:=by unfold lM;rw[kT];simp
  rw[this];simp
 have uu:=h.pr;have pk:=h.en;rw[hL]at uu pk;refine⟨hL,Bs.id fun t o ho=>?_,uu.id fun t o ho=>?_,?_⟩
 .unfold Br;split
  .rename_i hh;have hn:¬dv bd.P t:=by intro L9;have L9:bd.P[t]? =some true:=L9;simp[L9]at hh
   exact(m2 t o ho hn).symm
  .rfl
 .simp[xI,OK t o ho]
 .rw[pk];cases he:iP d.l d.ps d.ps.length with
  |false=>rfl
  |true=>
   unfold iP at he;rw[aaM]at he;obtain⟨t,ht,Ae⟩:=he;have Oj:t<d.ps.length:=by simpa using ht
   rw[aab Oj]at Ae;have Ae:ik d.l t d.ps[t]=true:=Ae;rw[OK t _ (aab Oj)]at Ae;cases Ae
theorem gm.Mb{c d a2 c2 d2:Kr}{b:Mk}(hl:Left c b)(hf:gm c d)(h1:il d a2)(h2:cU a2.l a2.ops a2.ps c2.l c2.ops c2.ps false)(h3:gm c2 d2):d2=d:=by
 have ha:a2=d:=by
  clear h2 h3
  induction h1 with
  |refl=>rfl
  |step h ho ih=>
   subst ih;exact absurd (hf.IW hl ho).2.2.2 aG
 subst ha;obtain⟨e1,e2,e3,_⟩:=hf.IW hl h2;obtain⟨n1,n2,n3,P,t1,t2,hP,t3,he⟩:=hf.ex;obtain⟨m1,m2,m3,P',s1,s2,Tr,s3,rfl⟩:=h3.ex;rw[e1]at s1 Tr s3⊢;rw[e2]at s2⊢;rw[e3]at Tr;obtain⟨dl,uj,dps⟩:=a2;cases he;have k1:=Cv.Sg t1 s1;have k2:=Cv.Sg t2 s2;have q1:(c.l.take n1).take m1=c.l.take n1:=by rw[k1,aaO]
 have q2:(c.ops.take n2).take m2=c.ops.take n2:=by rw[k2,aaO]
 have hid:P'=P.take n3:=by
  have Tr:Pt (P.take n3) P' (rS ((c.l.take n1).take m1) (P.take n3).length):=Tr;rw[q1]at Tr;refine Tr.id fun t x hx=>?_
  rw[aaK]at hx;split at hx
  .obtain⟨y,hy,e⟩:=hP.get hx;have Xe:t<c.ps.length:=(aac.1 hy).1;by_cases hq:qZ (c.l.take n1) t y=true
   .have:x=fQ:=by rw[e];simp[rS,hq,Xe]
    subst this;unfold rS;split<;>rfl
   .have La:x=y:=by rw[e];simp[rS,hq]
    subst La;simp[rS,hq]
  .cases hx
 subst hid;have s3:o4 (qR ((c.l.take n1).take m1)) 1 (P.take n3) m3:=s3;rw[q1]at s3;have k3:=Cv.Sg t3 s3;show Kr.mk ((c.l.take n1).take m1) ((c.ops.take n2).take m2) ((P.take n3).take m3)=Kr.mk (c.l.take n1) (c.ops.take n2) (P.take n3);rw[q1,q2,k3,aaO]
namespace Kn
structure IX(k d:Kr):Prop where
 ex:∃a c,il k a/\cU a.l a.ops a.ps c.l c.ops c.ps false/\gm c d
theorem oh{α:Type}{l L:List α}{f:Nat->α->α}(h:Pt l L f):L=l.mapIdx f:=by
 refine aa7 fun i=>?_
 rw[abu];cases hx:l[i]? with
 |none=>exact ab7.2 (by rw[h.1];exact ab7.1 hx)
 |some x=>rw[h.2 i x hx];rfl
theorem Af{α:Type}(l:List α)(f:Nat->α->α):Pt l (l.mapIdx f) f:=
 ⟨abq,fun t o ho=>by rw[abu,ho];rfl⟩
theorem Mc{A B:List Bool}(hl:A.length=B.length)(h:∀i,dv A i↔dv B i):A=B:=by
 refine List.ext_getElem hl fun i h1 h2=>?_
 have OS:=h i;unfold dv at OS;rw[aab h1,aab h2]at OS;simp only[aaA]at OS;cases ha:A[i]<;>cases hb:B[i]<;>simp[ha,hb]at OS⊢
theorem IY{l:List Obj}{ops:List bG}{ps:List bi}{b b':Mk}(h:gq l ops ps b)(h':gq l ops ps b'):b=b':=by
 have h1:=h.nw _ _ h'.cl h'.nv;have h2:=h'.nw _ _ h.cl h.nv;obtain⟨O,P⟩:=b;obtain⟨O',P'⟩:=b';have e1:O=O':=Mc (h.len.1.trans h'.len.1.symm) fun i=>⟨h1.1 i,h2.1 i⟩
 have e2:P=P':=Mc (h.len.2.trans h'.len.2.symm) fun i=>⟨h1.2 i,h2.2 i⟩
 rw[e1,e2]
theorem sG{k c c':Kr}{e e':Bool}(h:cU k.l k.ops k.ps c.l c.ops c.ps e)(h':cU k.l k.ops k.ps c'.l c'.ops c'.ps e'):c=c'/\e=e':=by
 obtain⟨b,hb,h1,h2⟩:=h.ex;obtain⟨b',sb,OS,QJ⟩:=h'.ex;have:=IY hb sb;subst this;have e1:c.l=c'.l:=(oh h1).trans (oh OS).symm;have e2:c.ops=c'.ops:=(oh h2).trans (oh QJ).symm;have p:=h.pr;rw[e1]at p;have e3:c.ps=c'.ps:=(oh p).trans (oh h'.pr).symm;refine⟨?_,?_⟩
 .obtain⟨x,y,z⟩:=c;obtain⟨x',y',z'⟩:=c';simp only at e1 e2 e3;rw[e1,e2,e3]
 .rw[h.en,h'.en,e1]
theorem Ag{k a:Kr}(h:il k a):a=k\/∃x,cU k.l k.ops k.ps x.l x.ops x.ps true/\il x a:=by
 induction h with
 |refl=>exact .inl rfl
 | @step a b h s ih=>
  rcases ih with rfl|⟨x,hx,YQ⟩
  .exact .inr ⟨b,s,.refl⟩
  .exact .inr ⟨x,hx,.step YQ s⟩
theorem O6{k a b:Kr}(h1:il k a)(h2:il k b):il a b\/il b a:=by
 induction h2 with
 |refl=>exact .inr h1
 | @step b c h s ih=>
  rcases ih with h|h
  .exact .inl (.step h s)
  .rcases Ag h with rfl|⟨x,hx,YQ⟩
   .exact .inl (.step .refl s)
   .have:=(sG hx s).1;subst this;exact .inr YQ
theorem O7{k a b c d:Kr}(h1:il k a)(h2:il k b)(o1:cU a.l a.ops a.ps c.l c.ops c.ps false)(o2:cU b.l b.ops b.ps d.l d.ops d.ps false):a=b:=by
 have key:∀{a b c:Kr},il a b->cU a.l a.ops a.ps c.l c.ops c.ps false->b=a:=fun h o=>by
  rcases Ag h with h|⟨x,hx,_⟩
  .exact h
  .have:=(sG hx o).2;cases this
 rcases O6 h1 h2 with h|h
 .exact(key h o1).symm
 .exact key h o2
theorem v8{α:Type}{q:Nat->α->Bool}{mn:Nat}{L:List α}{a b:Nat}(ha:o4 q mn L a)(hb:o4 q mn L b):a=b:=by
 have key:∀{a b:Nat},o4 q mn L a->o4 q mn L b->¬a<b:=fun{a b}ha hb aC=>by
  have h1:=ha.t.mn;have h2:=hb.t.le;rcases hb.e with h3|⟨o,ho,hq⟩
  .omega
  .have:=ha.t.dr (b-1) o om ho;rw[hq]at this;cases this
 have h1:=key ha hb;have h2:=key hb ha;omega
theorem Md{c d d':Kr}(h:gm c d)(h':gm c d'):d=d':=by obtain⟨n1,n2,n3,P,a1,a2,a3,a4,rfl⟩:=h.ex;obtain⟨m1,m2,m3,P',b1,b2,b3,b4,rfl⟩:=h'.ex;have:=v8 a1 b1;subst this;have:=v8 a2 b2;subst this;have:=(oh a3).trans (oh b3).symm;subst this;have:=v8 a4 b4;subst this;rfl
theorem IX.zM{k d d':Kr}(h:IX k d)(h':IX k d'):d=d':=by obtain⟨a,c,h1,h2,h3⟩:=h.ex;obtain⟨a',c',OS,QJ,h3'⟩:=h'.ex;have:=O7 h1 OS h2 QJ;subst this;have:=(sG h2 QJ).1;subst this;exact Md h3 h3'
def YR(l:List Obj)(i:Nat):Bool:=match l[i]? with|some o=>o.ah !=0|none=>false
def YS(l:List Obj)(O:List Bool)(i:Nat):Bool:=(l.zip O).any fun y=>y.2&&y.1.ak.any fun e=>(nu e).2==(i:Int)
def YT(ops:List bG)(P:List Bool)(i:Nat):Bool:=(ops.zip P).any fun y=>y.2&&y.1.bv==(i:Int)
def YU(l:List Obj)(O:List Bool)(c:Nat):Bool:=(l.zip O).any fun y=>y.2&&y.1.aj.any fun q=>q.has&&q.eT==(c:Int)
def DG(l:List Obj)(ops:List bG)(b:Mk):Mk:=
 ⟨b.O.mapIdx fun i x=>x||(YR l i&&(YS l b.O i||YT ops b.P i)),b.P.mapIdx fun c x=>x||YU l b.O c⟩
def IZ(l:List Obj)(ops:List bG)(ps:List bi):Mk:=
 ⟨l.mapIdx fun i o=>decide (i=0)&&o.ah !=0,ops.mapIdx fun c _=>ps.any fun p=>p.aV&&p.aU.any fun s=>s.has&&s.eT==(c:Int)⟩
def Si{α:Type}(f:α->α):Nat->α->α
 |0,a=>a
 |n+1,a=>Si f n (f a)
def oi(l:List Obj)(ops:List bG)(ps:List bi):Mk:=Si (DG l ops) (l.length+ops.length) (IZ l ops ps)
theorem sH:∀(a b:List Bool),b.length=a.length->(∀i,dv a i->dv b i)->a≠b->ec b<ec a
 | [],[],_,_,h=>absurd rfl h
 | [],_::_,h,_,_=>by simp at h
 |_::_,[],h,_,_=>by simp at h
 |x::a,y::b,h,hm,eW=>by
  have hl:b.length=a.length:=by simpa using h
  have RD:∀i,dv a i->dv b i:=fun i hi=>by have:=hm (i+1);unfold dv at this hi⊢;simp only[aa9]at this;exact this hi
  have h0:x=true->y=true:=fun hx=>by have:=hm 0;unfold dv at this;simp only[abR,aaA]at this;exact this hx
  have hle:=kz a b hl RD;by_cases DH:a=b
  .subst DH;cases x<;>cases y
   .exact absurd rfl eW
   .simp[ec]
   .exact absurd (h0 rfl) aG
   .exact absurd rfl eW
  .have ih:=sH a b hl RD DH;cases x<;>cases y
   .simp only[ec]at ih⊢;simpa using ih
   .simp only[ec]at ih⊢;simp;omega
   .exact absurd (h0 rfl) aG
   .simp only[ec]at ih⊢;simpa using ih
theorem wa:∀a:List Bool,ec a<=a.length:=fun a=>by unfold ec;exact abJ _ _
theorem sI{A:List Bool}{f:Nat->Bool->Bool}{i:Nat}:dv (A.mapIdx f) i↔∃x,A[i]? =some x/\f i x=true:=by
 unfold dv;rw[abu];cases A[i]? <;>simp
theorem sJ{l:List Obj}{ops:List bG}(b:Mk):(∀i,dv b.O i->dv (DG l ops b).O i)/\∀c,dv b.P c->dv (DG l ops b).P c:=
 ⟨fun i h=>sI.2 ⟨true,h,aG⟩,fun c h=>sI.2 ⟨true,h,aG⟩⟩
theorem m7{l:List Obj}{ops:List bG}(b:Mk):(DG l ops b).O.length=b.O.length/\(DG l ops b).P.length=b.P.length:=
 ⟨abq,abq⟩
theorem Me{l:List Obj}{ops:List bG}(b:Mk):DG l ops b=b\/(DG l ops b).mu<b.mu:=by
 have h1:=kz b.O _ (m7 b).1 (sJ (l:=l) (ops:=ops) b).1;have h2:=kz b.P _ (m7 b).2 (sJ (l:=l) (ops:=ops) b).2;by_cases e1:b.O=(DG l ops b).O
 .by_cases e2:b.P=(DG l ops b).P
  .refine .inl ?_;cases hb:b with
   |mk O P=>
    rw[hb]at e1 e2;generalize hm:DG l ops ⟨O,P⟩=m at e1 e2;cases m;simp only at e1 e2;rw[e1,e2]
  .have:=sH b.P _ (m7 b).2 (sJ (l:=l) (ops:=ops) b).2 e2;unfold Mk.mu;omega
 .have:=sH b.O _ (m7 b).1 (sJ (l:=l) (ops:=ops) b).1 e1;unfold Mk.mu;omega
theorem He{l:List Obj}{ops:List bG}:∀(n:Nat)(b:Mk),b.mu<=n->DG l ops (Si (DG l ops) n b)=Si (DG l ops) n b
 |0,b,h=>by
  rcases Me (l:=l) (ops:=ops) b with h1|h1
  .exact h1
  .omega
 |n+1,b,h=>by
  rcases Me (l:=l) (ops:=ops) b with h1|h1
  .have:∀n,Si (DG l ops) n b=b:=fun n=>by
    induction n with
    |zero=>rfl
    |succ n ih=>show Si _ n (DG l ops b)=b;rw[h1,ih]
   rw[this,h1]
  .exact He n _ om
theorem uU{α:Type}{f:α->α}{Q:α->Prop}(hf:∀a,Q a->Q (f a)):∀(n:Nat)(a:α),Q a->Q (Si f n a)
 |0,_,h=>h
 |n+1,a,h=>uU hf n (f a) (hf a h)
theorem Ah{α:Type}{l:List α}{O:List Bool}{g:α->Bool}:(l.zip O).any (fun y=>y.2&&g y.1)=true↔∃(i:Nat)(o:α),l[i]? =some o/\dv O i/\g o=true:=by
 rw[aaM];constructor
 .rintro⟨⟨o,x⟩,hm,h⟩;obtain⟨i,hi⟩:=aam hm;rw[List.getElem?_zip_eq_some]at hi;simp only[aap]at h;exact⟨i,o,hi.1,by unfold dv;rw[hi.2,h.1],h.2⟩
 .rintro⟨i,o,h1,h2,h3⟩;refine⟨(o,true),aag (i:=i) (List.getElem?_zip_eq_some.2 ⟨h1,h2⟩),by simp[h3]⟩
theorem Hf{l:List Obj}{O:List Bool}{n:Nat}:YS l O n=true↔∃(i:Nat)(o:Obj),l[i]? =some o/\dv O i/\(o.ak.any fun e=>(nu e).2==(n:Int))=true:=Ah (g:=fun o:Obj=>o.ak.any fun e=>(nu e).2==(n:Int))
theorem Hg{ops:List bG}{P:List Bool}{n:Nat}:YT ops P n=true↔∃(i:Nat)(o:bG),ops[i]? =some o/\dv P i/\(o.bv==(n:Int))=true:=Ah (g:=fun o:bG=>o.bv==(n:Int))
theorem Hh{l:List Obj}{O:List Bool}{n:Nat}:YU l O n=true↔∃(i:Nat)(o:Obj),l[i]? =some o/\dv O i/\(o.aj.any fun q=>q.has&&q.eT==(n:Int))=true:=Ah (g:=fun o:Obj=>o.aj.any fun q=>q.has&&q.eT==(n:Int))
theorem Hi{l:List Obj}{i:Nat}:YR l i=true↔∃o,l[i]? =some o/\o.ah≠0:=by
 unfold YR;cases l[i]? <;>simp
theorem E0{l:List Obj}{ops:List bG}{ps:List bi}(ht:∀o,o∈l->o.Kk){RO RP:Nat->Prop}(hc:Cl l ops RO RP)(hr:Hb l ops ps RO RP):Oh RO RP (oi l ops ps):=by
 refine(uU (Q:=fun b=>Oh RO RP b/\b.P.length=ops.length) (fun b⟨h,RU⟩=>⟨⟨fun i hi=>?_,fun c hi=>?_⟩,(m7 b).2.trans RU⟩) _ _ ⟨⟨fun i hi=>?_,fun c hi=>?_⟩,abq⟩).1
 .obtain⟨x,h1,h2⟩:=sI.1 hi;cases x with
  |true=>exact h.1 i h1
  |false=>
   rw[abL,aap,abk]at h2;have hn:=Hi.1 h2.1;rcases h2.2 with h2|h2
   .obtain⟨j,o,hj,ho,hg⟩:=Hf.1 h2;obtain⟨e,he,hei⟩:=aaM.1 hg;obtain⟨es,qn⟩:=(ht o (aag hj)).2.1;rw[qn]at he;obtain⟨⟨nm,z⟩,hx,rfl⟩:=aay.1 he;have hz:z=(i:Int):=by simpa[fq,nu]using hei
    refine hc.e j o (h.1 j ho) hj z i ⟨nm,?_⟩ ⟨hz,hn⟩;rw[qn];exact aay.2 ⟨_,hx,rfl⟩
   .obtain⟨c,o,hj,ho,hg⟩:=Hg.1 h2;exact hc.p c o (h.2 c ho) hj i ⟨by simpa using hg,hn⟩
 .obtain⟨x,h1,h2⟩:=sI.1 hi;cases x with
  |true=>exact h.2 c h1
  |false=>
   rw[abL]at h2;obtain⟨j,o,hj,ho,hg⟩:=Hh.1 h2;obtain⟨q,hq,xV⟩:=aaM.1 hg;rw[aap]at xV;exact hc.q j o (h.1 j ho) hj q.eT c ⟨q,hq,xV.1,rfl⟩ ⟨by simpa using xV.2,RU▸(aac.1 h1).1⟩
 .unfold dv IZ at hi;simp only[abu]at hi;cases ho:l[i]? with
  |none=>rw[ho]at hi;cases hi
  |some o=>
   rw[ho]at hi;simp only[aaC,aaA,aap,decide_eq_true_eq]at hi;obtain⟨rfl,hk⟩:=hi;exact hr.1 0 ⟨rfl,o,ho,by simpa using hk⟩
 .unfold dv IZ at hi;simp only[abu]at hi;cases ho:ops[c]? with
  |none=>rw[ho]at hi;cases hi
  |some o=>
   rw[ho]at hi;simp only[aaC,aaA]at hi;obtain⟨pr,hp,hi⟩:=aaM.1 hi;rw[aap]at hi;obtain⟨s,hs,eL⟩:=aaM.1 hi.2;rw[aap]at eL;obtain⟨p,hp⟩:=aam hp;exact hr.2 p pr hp hi.1 s hs eL.1 c ⟨by simpa using eL.2,(aac.1 ho).1⟩
theorem O8(l:List Obj)(ops:List bG)(ps:List bi)(ht:∀o,o∈l->o.Kk):gq l ops ps (oi l ops ps):=by
 have hl:x4 l ops (oi l ops ps):=uU (Q:=x4 l ops) (fun b h=>⟨(m7 b).1.trans h.1,(m7 b).2.trans h.2⟩) _ _ ⟨abq,abq⟩
 have Sj:DG l ops (oi l ops ps)=oi l ops ps:=by refine He _ _ ?_;unfold Mk.mu;have h1:=wa (IZ l ops ps).O;have h2:=wa (IZ l ops ps).P;have h3:(IZ l ops ps).O.length=l.length:=abq;have h4:(IZ l ops ps).P.length=ops.length:=abq;omega
 have hle:= @E0 l ops ps ht;have o0:(∀i,dv (IZ l ops ps).O i->dv (oi l ops ps).O i)/\∀c,dv (IZ l ops ps).P c->dv (oi l ops ps).P c:=
  uU (Q:=fun b=>(∀i,dv (IZ l ops ps).O i->dv b.O i)/\∀c,dv (IZ l ops ps).P c->dv b.P c) (fun b h=>⟨fun i hi=>(sJ b).1 i (h.1 i hi),fun c hc=>(sJ b).2 c (h.2 c hc)⟩) _ _ ⟨fun _ h=>h,fun _ h=>h⟩
 generalize oi l ops ps=b at hl Sj hle o0⊢;have hO:∀n:Nat,(∃o,l[n]? =some o/\o.ah≠0)->(YS l b.O n=true\/YT ops b.P n=true)->dv b.O n:=fun n hn hx=>by
  rw[<-Sj];have:n<b.O.length:=by obtain⟨o,ho,_⟩:=hn;rw[hl.1];exact(aac.1 ho).1
  refine sI.2 ⟨b.O[n],aab this,?_⟩;rw[Hi.2 hn];rcases hx with hx|hx<;>rw[hx]<;>simp
 have gZ:Cl l ops (dv b.O) (dv b.P):=by
  refine⟨fun i o hi ho z n hs hv=>?_,fun i o hi ho z c hs hv=>?_,fun c o hc ho n hv=>?_⟩
  .obtain⟨rfl,hn⟩:=hv;obtain⟨nm,hs⟩:=hs;refine hO n hn (.inl (Hf.2 ⟨i,o,ho,hi,aaM.2 ⟨_,hs,?_⟩⟩));show((nu (fq (nm,(n:Int)))).2==(n:Int))=true;simp[fq,nu]
  .obtain⟨rfl,hn⟩:=hv;obtain⟨q,hq,h1,h2⟩:=hs;rw[<-Sj];refine sI.2 ⟨b.P[c]'(by rw[hl.2];exact hn),aab _,?_⟩
   have:YU l b.O c=true:=Hh.2 ⟨i,o,ho,hi,aaM.2 ⟨q,hq,by simp[h1,h2]⟩⟩
   rw[this];simp
  .obtain⟨h1,hn⟩:=hv;exact hO n hn (.inr (Hg.2 ⟨c,o,ho,hc,by simp[h1]⟩))
 refine⟨hl,⟨fun n hv=>o0.1 n ?_,fun p pr hp dh s hs hh c hv=>o0.2 c ?_⟩,gZ,fun RO RP hc hr=>?_⟩
 .obtain⟨h0,o,ho,hk⟩:=hv;have h0:n=0:=om;subst h0;unfold IZ dv;simp only[abu,ho,aaC,aaA];simp[hk]
 .obtain⟨h0,hn⟩:=hv;unfold IZ dv;simp only[abu,aab hn,aaC,aaA];exact aaM.2 ⟨pr,aag hp,by rw[dh,ack];exact aaM.2 ⟨s,hs,by simp[hh,h0]⟩⟩
 .exact hle hc hr
def ny(k:Kr):Kr:=
 ⟨k.l.mapIdx (cu (oi k.l k.ops k.ps) k.l k.l.length),k.ops.mapIdx (Br (oi k.l k.ops k.ps) k.ops.length),k.ps.mapIdx (xI (k.l.mapIdx (cu (oi k.l k.ops k.ps) k.l k.l.length)) k.ps.length)⟩
theorem Mf(k:Kr)(ht:∀o,o∈k.l->o.Kk):cU k.l k.ops k.ps (ny k).l (ny k).ops (ny k).ps (iP (ny k).l k.ps k.ps.length):=
 ⟨⟨_,O8 k.l k.ops k.ps ht,Af _ _,Af _ _⟩,Af _ _,rfl⟩
def Cx:Nat->Kr->Kr
 |0,k=>ny k
 |n+1,k=>bif iP (ny k).l k.ps k.ps.length then Cx n (ny k)else ny k
theorem Mg:∀(n:Nat)(k:Kr),dE k.l k.ops k.ps->kR k.ps<=n->∃a,il k a/\cU a.l a.ops a.ps (Cx n k).l (Cx n k).ops (Cx n k).ps false
 |n,k,hk,hn=>by
  have h:=Mf k fun o ho=>(hk.sm o ho).t
  cases he:iP (ny k).l k.ps k.ps.length with
  |false=>
   rw[he]at h;refine⟨k,.refl,?_⟩;have:Cx n k=ny k:=by
    cases n with
    |zero=>rfl
    |succ n=>show(bif _ then _ else _)=_;rw[he];rfl
   rw[this];exact h
  |true=>
   rw[he]at h;have aC:=h.kR;cases n with
   |zero=>omega
   |succ n=>
    obtain⟨a,h1,h2⟩:=Mg n (ny k) (h.kr hk) om;have e:Cx (n+1) k=Cx n (ny k):=by show(bif _ then _ else _)=_;rw[he];rfl
    rw[e];refine⟨a,?_,h2⟩;have:∀{x y:Kr},il x y->cU k.l k.ops k.ps x.l x.ops x.ps true->il k y:=fun h3 h4=>by
     induction h3 with
     |refl=>exact .step .refl h4
     |step _ s ih=>exact .step ih s
    exact this h1 h
def lZ{α:Type}(q:Nat->α->Bool):List α->Nat->Nat->Nat
 | [],_,b=>b
 |x::r,i,b=>lZ q r (i+1) (bif q i x then b else i+1)
def Cy{α:Type}(q:Nat->α->Bool)(mn:Nat)(L:List α):Nat:=min L.length (max mn (lZ q L 0 0))
theorem Ai{α:Type}(q:Nat->α->Bool):∀(L:List α)(i b:Nat),b<=i->(lZ q L i b=b/\(∀(t:Nat)o,L[t]? =some o->q (i+t) o=true))\/
  (i<lZ q L i b/\lZ q L i b<=i+L.length/\(∃o,L[lZ q L i b-1-i]? =some o/\q (lZ q L i b-1) o=false)/\∀(t:Nat)o,lZ q L i b<=i+t->L[t]? =some o->q (i+t) o=true)
 | [],i,b,h=>.inl ⟨rfl,fun t o h=>by simp at h⟩
 |x::r,i,b,h=>by
  cases hq:q i x with
  |true=>
   have e:lZ q (x::r) i b=lZ q r (i+1) b:=by show lZ q r (i+1) (bif q i x then b else i+1)=_;rw[hq];rfl
   rw[e];rcases Ai q r (i+1) b om with⟨h1,h2⟩|⟨h1,h2,⟨o,h3,h4⟩,h5⟩
   .refine .inl ⟨h1,fun t o ho=>?_⟩
    cases t with
    |zero=>simp at ho;subst ho;exact hq
    |succ t=>have:=h2 t o (by simpa using ho);rwa [show i+(t+1)=i+1+t by omega]
   .refine .inr ⟨om,by simp;omega,⟨o,?_,h4⟩,fun t o ht ho=>?_⟩
    .rw[show lZ q r (i+1) b-1-i=(lZ q r (i+1) b-1-(i+1))+1 by omega];simpa using h3
    .cases t with
     |zero=>simp at ho;subst ho;exact hq
     |succ t=>have:=h5 t o om (by simpa using ho);rwa [show i+(t+1)=i+1+t by omega]
  |false=>
   have e:lZ q (x::r) i b=lZ q r (i+1) (i+1):=by show lZ q r (i+1) (bif q i x then b else i+1)=_;rw[hq];rfl
   rw[e];rcases Ai q r (i+1) (i+1) (aaj _)with⟨h1,h2⟩|⟨h1,h2,⟨o,h3,h4⟩,h5⟩
   .refine .inr ⟨om,by simp;omega,⟨x,by rw[h1];simp,by rw[h1];simpa using hq⟩,fun t o ht ho=>?_⟩
    cases t with
    |zero=>omega
    |succ t=>have:=h2 t o (by simpa using ho);rwa [show i+(t+1)=i+1+t by omega]
   .refine .inr ⟨om,by simp;omega,⟨o,?_,h4⟩,fun t o ht ho=>?_⟩
    .rw[show lZ q r (i+1) (i+1)-1-i=(lZ q r (i+1) (i+1)-1-(i+1))+1 by omega];simpa using h3
    .cases t with
     |zero=>omega
     |succ t=>have:=h5 t o om (by simpa using ho);rwa [show i+(t+1)=i+1+t by omega]
theorem E3{α:Type}(q:Nat->α->Bool)(mn:Nat)(L:List α):o4 q mn L (Cy q mn L):=by
 unfold Cy;rcases Ai q L 0 0 (aaj _)with⟨h1,h2⟩|⟨h1,h2,⟨o,h3,h4⟩,h5⟩
 .refine⟨⟨Nat.min_le_left _ _,om,fun t o _ ho=>by have:=h2 t o ho;rwa [aaS]at this⟩,.inl om⟩
 .refine⟨⟨Nat.min_le_left _ _,om,fun t o ht ho=>?_⟩,?_⟩
  .have aC:=(aac.1 ho).1;have:=h5 t o om ho;rwa [aaS]at this
  .rcases aaq mn (lZ q L 0 0)with hm|hm
   .refine .inr ⟨o,?_⟩;have e:min L.length (max mn (lZ q L 0 0))=lZ q L 0 0:=om;rw[e];exact⟨by simpa using h3,h4⟩
   .exact .inl om
def O9(c:Kr):Kr:=
 ⟨c.l.take (Cy qO 1 c.l),c.ops.take (Cy qP 0 c.ops),(c.ps.mapIdx (rS (c.l.take (Cy qO 1 c.l)) c.ps.length)).take (Cy (qR (c.l.take (Cy qO 1 c.l))) 1 (c.ps.mapIdx (rS (c.l.take (Cy qO 1 c.l)) c.ps.length)))⟩
theorem E4(c:Kr):gm c (O9 c):=⟨⟨_,_,_,_,E3 _ _ _,E3 _ _ _,Af _ _,E3 _ _ _,rfl⟩⟩
def i9(k:Kr):Kr:=O9 (Cx k.ps.length k)
theorem hC{k:Kr}(hk:dE k.l k.ops k.ps):IX k (i9 k):=by
 obtain⟨a,h1,h2⟩:=Mg k.ps.length k hk (by unfold kR;exact abJ _ _)
 exact⟨a,_,h1,h2,E4 _⟩
theorem I0{k a c d:Kr}(hk:dE k.l k.ops k.ps)(h1:il k a)(h2:cU a.l a.ops a.ps c.l c.ops c.ps false)(h3:gm c d):d=i9 k:=
 IX.zM ⟨a,c,h1,h2,h3⟩ (hC hk)
theorem I1(k:Kr)(hk:dE k.l k.ops k.ps){m:Mem}{K:CV->Mem->Prop}(h:K (dJ (i9 k).l (i9 k).ops (i9 k).ps) m):ar Tryz.prog 46 [dJ k.l k.ops k.ps] m K:=
 L8 k hk fun a c d h1 h2 h3=>by rw[I0 hk h1 h2 h3];exact h
end Kn
end Go.Proofs.YtojhmadmlnfpcaaGreatDoor
