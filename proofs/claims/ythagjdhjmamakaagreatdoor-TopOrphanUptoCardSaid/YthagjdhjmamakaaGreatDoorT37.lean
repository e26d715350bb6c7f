/- Part 37 of 41: what the law stands on. -/
import Derived.Test.YthagjdhjmamakaaGreatDoorT16
import Derived.Test.YthagjdhjmamakaaGreatDoorT34
import Derived.Test.YthagjdhjmamakaaGreatDoorT36
set_option linter.unusedVariables false
set_option linter.unusedSimpArgs false
set_option linter.unnecessarySimpa false
set_option maxRecDepth 100000
set_option maxHeartbeats 64000000
namespace Go.Proofs.YthagjdhjmamakaaGreatDoor
open Go.AM Go.ChangeShapes Go.WideShapes Go.ChangeAt Go.RowKit
namespace Kn
structure UK(k:Kr)(x:bi):Prop where
 sl:x.bd.length<=10
 aZ:x.a8=false->x.bd=[]
 cap:∀s,s∈x.bd->s.has=true->fu k s.eJ s.cn
theorem KI.Pn{k:Kr}(h:KI k){x:bi}(hx:x∈k.ps):UK k x:=⟨h.sl x hx,h.aZ x hx,h.cap x hx⟩
theorem KI.Gi{k:Kr}(h:KI k){ph:List bi}(hl:ph.length<=8)(ef:k.ps.length<=ph.length)(hx:∀x,x∈ph->UK k x):KI ⟨k.l,k.ops,ph⟩:=
 ⟨h.ll,h.lo,hl,h.sm,fun x h=>(hx x h).sl,fun e=>h.ne (XJ (by have:ph=[]:=e;rw[this]at ef;simpa using ef)),fun x h=>(hx x h).aZ,fun x h=>(hx x h).cap,
  h.qu,fun o ho h5=>let⟨n,a,b⟩:=h.pr o ho h5;⟨n,a,aaf b ef⟩,h.en,h.z,h.pe,h.cU,h.NQ,h.qC⟩
theorem KI.UL{k:Kr}(h:KI k){LK:List bC}(hl:LK.length<=60)(hm:∀(n:Nat)o,k.ops[n]? =some o->fA k.l o.bt->∃o',LK[n]? =some o'/\fA k.l o'.bt)(ha:∀o,o∈LK->0<=o.cU/\o.cU<=64):KI ⟨k.l,LK,k.ps⟩:=by
 have dN:∀z r,fu k z r->fu ⟨k.l,LK,k.ps⟩ z r:=fun z r hc=>hc.mono hm
 exact⟨h.ll,hl,h.lp,h.sm,h.sl,h.ne,h.aZ,fun x hx s hs hh=>dN _ _ (h.cap x hx s hs hh),fun o ho q hq hh=>dN _ _ (h.qu o ho q hq hh),h.pr,h.en,h.z,h.pe,ha,h.NQ,h.qC⟩
theorem KI.PJ{k:Kr}(h:KI k)(z:Int){a:Int}(ha:0<=a/\a<=64):KI (kO k z a):=by
 unfold kO;cases ho:k.ops[z.toNat]? with
 |none=>exact h
 |some o=>
  have hz:=(Hy.1 ho).1;refine h.UL (by rw[aab];exact h.lo) (fun n x hx hi=>?_) fun x hx=>?_
  .by_cases e:n=z.toNat
   .subst e;rw[ho]at hx;cases hx;exact⟨_,QO hz,hi⟩
   .exact⟨x,by rw[XK (fun x=>e x.symm)];exact hx,hi⟩
  .rcases aag hx with hx|rfl
   .exact h.cU x hx
   .exact ha
theorem KI.eQ{k:Kr}(h:KI k){p:Nat}{x:bi}(hp:k.ps[p]? =some x)(dG:x.a8=true){l:List fq}(hl:l.length<=10)(hc:∀s,s∈l->s.has=true->fu k s.eJ s.cn):KI ⟨k.l,k.ops,eQ k.ps p l⟩:=by
 have e:Go.Proofs.YthagjdhjmamakaaGreatDoor.eQ k.ps p l=k.ps.set p {x with bd:=l}:=by unfold Go.Proofs.YthagjdhjmamakaaGreatDoor.eQ;rw[hp]
 rw[e];refine h.Gi (by rw[aab];exact h.lp) (by rw[aab];exact QN _) fun y hy=>?_
 rcases aag hy with hy|rfl
 .exact h.Pn hy
 .exact⟨hl,fun hd=>(by rw[dG]at hd;cases hd),hc⟩
theorem pa{l:List fq}{o r:Int}(h:(eI l o r).2.2=0):Tb.dv r=true/\0<=o/\∀s,s∈(eI l o r).1->s∈l\/s=⟨true,o,r⟩:=by
 have Mo:∀s:fq,Ng (m4 s)=s:=fun s=>rfl
 unfold eI at h⊢;simp only[]at h⊢;unfold Tb.gE at h⊢;split at h
 .cases h
 .rename_i h1;have hr:Tb.dv r=true:=by
   cases hx:Tb.dv r with
   |true=>rfl
   |false=>exact absurd (.inl hx) h1
  have ho:0<=o:=Int.not_lt.1 fun hx=>h1 (.inr hx)
  refine⟨hr,ho,fun s hs=>?_⟩
  rw[if_neg h1]at hs;split at hs
  .obtain⟨t,ht,rfl⟩:=aae.1 hs;rcases aag ht with ht|rfl
   .obtain⟨u,hu,rfl⟩:=aae.1 ht;exact .inl hu
   .exact .inr rfl
  .split at hs
   .cases hs
   .obtain⟨t,ht,rfl⟩:=aae.1 hs;rcases aaF.1 ht with ht|ht
    .obtain⟨u,hu,rfl⟩:=aae.1 ht;exact .inl hu
    .simp at ht;subst ht;exact .inr rfl
theorem rP{n:Int}:Tb.dv n=true↔0<=n/\n<=4095:=by unfold Tb.dv;rw[T6,decide_eq_true_eq,decide_eq_true_eq]
theorem KI.vI{k:Kr}(h:KI k){p:Nat}{x:bi}(hp:k.ps[p]? =some x)(dG:x.a8=true){bt cn:Int}(ho:fA k.l bt)(he:(aH k p bt cn).2.2=0):KI (aH k p bt cn).1:=by
 have FV:aV k.ps p=x.bd:=by rw[aV,hp]
 unfold aH at he⊢;split at he
 .cases he
 rename_i h1;rw[if_neg h1];split at he
 .rename_i h2;exact absurd he h2
 rename_i h2;rw[if_neg h2];have h2:(eI (aV k.ps p) (dK k.ops) cn).2.2=0:=ZM h2;rw[FV]at h2⊢;obtain⟨c1,c2,c3⟩:=pa h2;have hi:dK k.ops<k.ops.length\/dK k.ops=k.ops.length/\k.ops.length<60:=by
  unfold dK;cases hf:DF k.ops with
  |none=>exact .inr ⟨rfl,Nat.not_le.1 fun a=>h1 ⟨hf,a⟩⟩
  |some i=>exact .inl (DG hf)
 have JK:∀o,k.ops[dK k.ops]? =some o->o.bt<0:=fun o hx=>by
  unfold dK at hx;cases hf:DF k.ops with
  |none=>
   rw[hf]at hx;rw[show(none:Option Nat).getD k.ops.length=k.ops.length from rfl,aaj (QN _)]at hx;cases hx
  |some i=>
   rw[hf]at hx;have:=aar.1 hf;obtain⟨a1,a2,_⟩:=this;rw[show(some i).getD k.ops.length=i from rfl,tq a1]at hx;cases hx;simpa using a2
 have ji:∀n:Nat,(iM k.ops (dK k.ops) ⟨bt,0⟩)[n]? =if n=dK k.ops then some ⟨bt,0⟩else k.ops[n]? :=fun n=>by
  unfold iM;split
  .rename_i e;rw[e];by_cases hn:n=k.ops.length
   .subst hn;rw[if_pos rfl,UX (QN _)];simp
   .rw[if_neg hn];rcases XN n k.ops.length with a|a
    .exact VO a
    .rw[UX a,aaj a];cases e2:n-k.ops.length with
     |zero=>omega
     |succ m=>rfl
  .rename_i e;have aF:dK k.ops<k.ops.length:=om;by_cases hn:n=dK k.ops
   .subst hn;rw[if_pos rfl,QO aF]
   .rw[if_neg hn,XK (fun a=>hn a.symm)]
 have i4:KI ⟨k.l,iM k.ops (dK k.ops) ⟨bt,0⟩,k.ps⟩:=by
  refine h.UL ?_ (fun n o hx Z0=>?_) fun o hx=>?_
  .unfold iM;split
   .rw[aaw];simp;omega
   .rw[aab];exact h.lo
  .rw[ji];by_cases e:n=dK k.ops
   .subst e;have:=JK o hx;obtain⟨j,_,e2,_⟩:=Z0;omega
   .rw[if_neg e];exact⟨o,hx,Z0⟩
  .unfold iM at hx;split at hx
   .rcases aaF.1 hx with hx|hx
    .exact h.cU o hx
    .simp at hx;subst hx;exact⟨abT _,by show(0:Int)<=64;omega⟩
   .rcases aag hx with hx|rfl
    .exact h.cU o hx
    .exact⟨abT _,by show(0:Int)<=64;omega⟩
 refine i4.eQ hp dG (qA (h.sl x (O9 hp))) fun s hs hh=>?_
 rcases c3 s hs with hs|rfl
 .exact i4.cap x (O9 hp) s hs hh
 .exact⟨rP.1 c1,dK k.ops,⟨bt,0⟩,rfl,by rw[ji,if_pos rfl],ho⟩
theorem KI.exit{k:Kr}(h:KI k){p code:Int}(he:(ic k p code).2=0):KI (ic k p code).1:=by
 unfold ic at he⊢;split at he
 .cases he
 rename_i h1;rw[if_neg h1];split at he
 .cases he
 rename_i h2;rw[if_neg h2];refine h.Gi (by rw[aab];exact h.lp) (by rw[aab];exact QN _) fun y hy=>?_
 rcases aag hy with hy|rfl
 .exact h.Pn hy
 .exact⟨aK,fun _=>rfl,fun s hs=>by cases hs⟩
theorem KI.Yu{k:Kr}(h:KI k)(p:Nat):KI ⟨k.l,k.ops,nK k.ps p⟩:=by
 unfold nK;cases hp:k.ps[p]? with
 |none=>exact h
 |some x=>
  refine h.Gi (by rw[aab];exact h.lp) (by rw[aab];exact QN _) fun y hy=>?_
  have:=h.Pn (O9 hp);rcases aag hy with hy|rfl
  .exact h.Pn hy
  .exact⟨this.sl,this.aZ,this.cap⟩
theorem EB{l:List Obj}{ps:List bi}(h:¬fR l ps<0):∃c:Nat,fR l ps=c/\c<=ps.length/\c<8/\(c<ps.length->sZ l ps c=true):=by obtain⟨c,hc⟩:∃c:Nat,fR l ps=c:=⟨(fR l ps).toNat,om⟩;obtain⟨h1,_,h3,h4⟩:=nz l ps 8 0 c hc (XL _);exact⟨c,hc,h1,om,h4⟩
theorem LL{k:Kr}{c:Nat}(hc:c<k.ps.length):NV k (dL c):=⟨Ba _,by simp[dL],rfl,rfl,by simp[dL],rfl,rfl,fun h=>by simp[dL]at h,fun _=>⟨c,rfl,hc⟩⟩
theorem Ik{ps:List bi}{n c:Nat}{x:bi}(hn:ps[n]? =some x)(hc:c<=ps.length):(iN ps n c).length=(if c=ps.length then ps.length+1 else ps.length)/\(iN ps n c)[c]? =some ⟨true,x.fenced,0,x.bd⟩/\(∀i,i≠c->(iN ps n c)[i]? =ps[i]?)/\(∀y,y∈iN ps n c->y∈ps\/y=⟨true,x.fenced,0,x.bd⟩):=by
 unfold iN;rw[hn];simp only[];split
 .rename_i e;subst e;refine⟨aK,by rw[UX (QN _)];simp,fun i hi=>?_,fun y hy=>by simpa using hy⟩
  rcases XN i ps.length with a|a
  .exact VO a
  .rw[UX a,aaj a];cases e2:i-ps.length with
   |zero=>omega
   |succ m=>rfl
 .exact⟨aK,QO om,fun i hi=>XK (fun e=>hi e.symm),fun y hy=>aag hy⟩
structure UM(k:Kr)(p:Nat)(x:bi)(c:Nat):Prop where
 le:c<=k.ps.length
 c8:c<8
 aZ:c<k.ps.length->sZ k.l k.ps c=true
 ne:p≠c
 em:(aI k.l (dL c)).2.2=0
 eo:(aH ⟨(aI k.l (dL c)).1,k.ops,iN k.ps p c⟩ p (aI k.l (dL c)).2.1 3200).2.2=0
 R:i7 k p=((aH ⟨(aI k.l (dL c)).1,k.ops,iN k.ps p c⟩ p (aI k.l (dL c)).2.1 3200).1,(c:Int),(aH ⟨(aI k.l (dL c)).1,k.ops,iN k.ps p c⟩ p (aI k.l (dL c)).2.1 3200).2.1,0)
theorem EC{k:Kr}{p:Nat}{x:bi}(hp:k.ps[p]? =some x)(dG:x.a8=true)(he:(i7 k p).2.2.2=0):∃c:Nat,UM k p x c:=by
 have hl:eZ k.ps p=true:=by have iI:=(Hy.1 hp).1;refine Nf iI ?_;have:=tq iI;rw[hp]at this;cases this;exact dG
 unfold i7 at he;rw[if_neg (by rw[hl];simp)]at he
 split at he
 .cases he
 rename_i hf;obtain⟨c,hc,c1,c2,c3⟩:=EB hf;rw[hc,XO,XO]at he;have hR:i7 k p=uU k.l k.ops (iN k.ps p c) p c:=by
  rw[i7,if_neg (by rw[hl];simp),if_neg hf,hc,XO,XO]
 unfold uU at he;split at he
 .rename_i h1;exact absurd he h1
 rename_i h1;split at he
 .rename_i h2;exact absurd he h2
 rename_i h2;refine⟨c,c1,c2,c3,fun e=>?_,ZM h1,ZM h2,?_⟩
 .subst e;have:=c3 (Hy.1 hp).1;rw[sZ,hp]at this;simp only[dG]at this;cases this
 .rw[hR,uU,if_neg h1,if_neg h2]
theorem KI.YA{k:Kr}(h:KI k){p:Nat}{x:bi}(hp:k.ps[p]? =some x)(dG:x.a8=true)(he:(i7 k p).2.2.2=0):KI (i7 k p).1:=by
 obtain⟨c,C⟩:=EC hp dG he;obtain⟨g1,g2,g3,g4⟩:=Ik hp C.le;have hx:=h.Pn (O9 hp);have h1:KI ⟨k.l,k.ops,iN k.ps p c⟩:=by
  refine h.Gi ?_ ?_ fun y hy=>?_
  .rw[g1];have:=C.c8;have:=h.lp;split<;>omega
  .rw[g1];split<;>omega
  .rcases g4 y hy with hy|rfl
   .exact h.Pn hy
   .exact⟨hx.sl,fun hd=>(by cases hd),hx.cap⟩
 have gK:c<(iN k.ps p c).length:=(Hy.1 g2).1;have h2:=h1.make (LL gK) C.em;obtain⟨j,j1,j2,_⟩:=gn C.em h.ll;rw[C.R];refine h2.vI (p:=p) (x:=x) (by show(iN k.ps p c)[p]? =some x;rw[g3 p C.ne];exact hp) dG ⟨j,_,j1,j2,by simp[dL]⟩ C.eo
end Kn
namespace Kn
theorem ED{b:Bool}{l:List Obj}{cE bt:Int}{name:ByteArray}(vY:∀(p:Nat)q,bt=p->l[p]? =some q->q.am=0)(h:(cP b l cE name bt).2=0){z:Int}(hz:fA l z):fA (cP b l cE name bt).1 z:=by
 obtain⟨n,p,o,q,rfl,rfl,hn,hp,Ic,i5,Aw,_,_,_,hR⟩:=tc h;have Eu:n≠p:=fun e=>by subst e;rw[hn]at hp;cases hp;exact Aw (vY n _ rfl hn)
 obtain⟨g1,g2,g3,g4⟩:=xS hn hp Eu name;rw[hR];refine hz.mono fun j x hx hk=>?_
 by_cases e:j=n
 .subst e;rw[hn]at hx;cases hx;exact⟨_,g1,hk⟩
 .by_cases e2:j=p
  .subst e2;rw[hp]at hx;cases hx;exact⟨_,g2,hk⟩
  .exact⟨x,by rw[g3 j e e2];exact hx,hk⟩
theorem Il{t:bD.di}(h:bD.fo t=true):(bD.cu t).size<=12:=by unfold bD.fo at h;simp only[T6,decide_eq_true_eq]at h;rw[bD.lP];exact h.1.1.1.2
structure Im(o:Obj):Prop where
 n:ND o
 k:o.ah=1\/o.ah=2\/o.ah=3
 q:o.ak=[]
 d:o.data.length<=60
 l:o.am=0
 u:o.up=0
theorem Im.UN{o:Obj}(h:Im o)(k:Kr):NV k (fW o):=
 ⟨h.n.fW.sm,fun e=>(by have:o.ah=0:=e;have:=h.k;omega),h.n.en,h.q,h.d,h.l,h.u,fun e=>(by have:o.ah=4:=e;have:=h.k;omega),fun e=>(by have:o.ah=5:=e;have:=h.k;omega)⟩
theorem NX:Im nF:=⟨xI,.inl rfl,rfl,by simp[nF],rfl,rfl⟩
theorem Rg:Im Eh:=⟨ze _ _,.inr (.inl rfl),rfl,by simp[Eh],rfl,rfl⟩
theorem NY(d:List Int):Im (vz d):=⟨ze _ _,.inr (.inr rfl),rfl,by simp[vz],rfl,rfl⟩
structure YB(k:Kr)(f:R4)(o:Obj)(j:Nat):Prop where
 em:(aI k.l (fW o)).2.2=0
 ej:(aI k.l (fW o)).2.1=j
 ee:(y8 (aI k.l (fW o)).1 f j).2=0
 R:cK k f o=(⟨(y8 (aI k.l (fW o)).1 f j).1,k.ops,k.ps⟩,(j:Int),0)
theorem zj{k:Kr}(hl:k.l.length<=40){f:R4}{o:Obj}(he:(cK k f o).2.2=0):∃j:Nat,YB k f o j:=by
 unfold cK at he;by_cases h1:(aI k.l (fW o)).2.2=0
 .rw[if_neg (by simp[h1])]at he
  obtain⟨j,e1,_⟩:=gn h1 hl;have he:(y8 (aI k.l (fW o)).1 f (aI k.l (fW o)).2.1).2=0:=he;rw[e1]at he;refine⟨j,h1,e1,he,?_⟩;rw[cK,if_neg (by simp[h1]),e1,he,cW,if_pos rfl]
 .rw[if_pos h1]at he;exact absurd he h1
theorem KI.EE{k:Kr}(h:KI k){f:R4}{o:Obj}(ho:Im o)(he:(cK k f o).2.2=0):KI (cK k f o).1/\fA (cK k f o).1.l (cK k f o).2.1/\(cK k f o).1.ps=k.ps:=by
 obtain⟨j,C⟩:=zj h.ll he;have h1:=h.make (ho.UN k) C.em;obtain⟨j',e1,a2,_⟩:=gn C.em h.ll;have:j'=j:=by have:=C.ej;omega
 subst this;have vY:∀(p:Nat)q,((j':Nat):Int)=p->(aI k.l (fW o)).1[p]? =some q->q.am=0:=fun p q e hq=>by have:p=j':=om;subst this;rw[a2]at hq;cases hq;exact ho.l
 rw[C.R];exact⟨h1.enter (fun hb=>Il hb) vY C.ee,ED vY C.ee ⟨j',_,rfl,a2,(ho.UN k).kd⟩,rfl⟩
theorem KI.cH{k:Kr}(h:KI k){c:Cl}{f:R4}(hf:f.ix=0->f.bt= -1\/fA k.l f.bt)(he:(cH k c f).2.2=0):KI (cH k c f).1/\fA (cH k c f).1.l (cH k c f).2.1/\(cH k c f).1.ps=k.ps:=by
 unfold Kn.cH at he⊢;split at he
 .rename_i h1;exact absurd he h1
 rename_i h1;rw[if_neg h1];have hf:=hf (ZM h1);split at he
 .rename_i h2;rw[if_pos h2];split at he
  .cases he
  .rename_i h3;rw[if_neg h3];exact h.EE NX he
 .rename_i h2;rw[if_neg h2];split at he
  .cases he
  .rename_i h3;rw[if_neg h3];refine⟨h,hf.elim (fun e=>absurd (by show f.bt<0;omega) h2) id,rfl⟩
theorem rQ{k:Kr}{p:Nat}{bt cn:Int}(he:(aH k p bt cn).2.2=0):(aH k p bt cn).1.ps=eQ k.ps p (eI (aV k.ps p) (dK k.ops) cn).1/\(aH k p bt cn).1.l=k.l/\(eI (aV k.ps p) (dK k.ops) cn).2.2=0/\(aH k p bt cn).1.ops=iM k.ops (dK k.ops) ⟨bt,0⟩/\(aH k p bt cn).2.1=(eI (aV k.ps p) (dK k.ops) cn).2.1:=by
 unfold aH at he⊢;split at he
 .cases he
 rename_i h1;rw[if_neg h1];split at he
 .rename_i h2;exact absurd he h2
 rename_i h2;rw[if_neg h2];exact⟨rfl,rfl,ZM h2,rfl,rfl⟩
theorem In(ps:List bi)(p:Nat)(l:List fq):(eQ ps p l).length=ps.length:=by
 unfold eQ;split
 .rw[aab]
 .rfl
theorem LM{ps:List bi}{p:Nat}{x:bi}(hp:ps[p]? =some x)(l:List fq):(eQ ps p l)[p]? =some {x with bd:=l}:=by unfold eQ;rw[hp];exact QO (Hy.1 hp).1
theorem KI.UO{k:Kr}(h:KI k){z:Int}(hz:fA k.l z):KI ⟨nG k.l z,k.ops,k.ps⟩:=by obtain⟨j,o,rfl,hj,hk⟩:=hz;have hs:=h.sm o (O9 hj);rw[nG,XO,hj];exact h.HZ hj ⟨rfl,rfl,rfl,rfl,rfl,rfl⟩ hk ⟨⟨⟨[],rfl⟩,hs.t.2.1,hs.t.2.2⟩,aK,hs.e,hs.q,hs.qd⟩ aK (h.qu o (O9 hj))
theorem KI.Po{k:Kr}(h:KI k){p:Nat}{x:bi}(hp:k.ps[p]? =some x)(dG:x.a8=true){c:Cl}{au:Int}{ax:Bool}(he:(iB k p c au ax).2.ix=0):KI (iB k p c au ax).1:=by
 unfold iB gV at he⊢;split at he
 .rename_i h1;exact absurd he h1
 rename_i h1;rw[if_neg h1];obtain⟨g1,g2,g3⟩:=h.cH (h.Rd au c.bZ ax true) (ZM h1);split at he
 .rename_i h2;exact absurd he h2
 rename_i h2;rw[if_neg h2];have h2:=ZM h2;have h3:=g1.vI (by rw[g3];exact hp) dG g2 h2
 split
 .exact h3.UO (by rw[(rQ h2).2.1];exact g2)
 .exact h3
theorem KI.UP{k:Kr}(h:KI k){p:Nat}{x:bi}(hp:k.ps[p]? =some x)(dG:x.a8=true){c:Cl}(he:(ig k p c).2.ix=0):KI (ig k p c).1:=by
 unfold ig at he⊢;split at he
 .cases he
 rename_i h1;rw[if_neg h1];split at he
 .rename_i h2;rw[if_pos h2];exact h.Po hp dG he
 rename_i h2;rw[if_neg h2];split at he
 .rename_i h3;exact absurd he h3
 .rename_i h3;rw[if_neg h3];exact h.Po hp dG he
theorem EF{k:Kr}{p:Nat}{fd need:Int}(h:(bn k p fd need).2.2=0):∃s,s∈aV k.ps p/\s.has=true/\(bn k p fd need).1=(s.eJ,s.cn)/\(bn k p fd need).2.1=jT k.ops s.eJ:=by
 unfold bn at h⊢;split at h
 .rename_i h1;exact absurd h h1
 .rename_i h1;rw[if_neg h1];obtain⟨s,hs,hh,e⟩:=vn (ZM h1);exact⟨s,hs,hh,e,by show jT k.ops _=_;rw[e]⟩
theorem KI.bn{k:Kr}(h:KI k){p:Nat}{fd need:Int}(he:(Kn.bn k p fd need).2.2=0):∃(n:Nat)(o:bC)(j:Nat)(x:Obj),(Kn.bn k p fd need).1.1=n/\k.ops[n]? =some o/\(Kn.bn k p fd need).2.1=j/\o.bt=j/\k.l[j]? =some x/\x.ah≠0/\0<=(Kn.bn k p fd need).1.2/\(Kn.bn k p fd need).1.2<=4095:=by
 obtain⟨s,hs,hh,e,e2⟩:=EF he;obtain⟨hr,n,o,h1,h2,j,x,h3,h4,h5⟩:=h.dN hs hh;refine⟨n,o,j,x,by rw[e];exact h1,h2,?_,h3,h4,h5,by rw[e];exact hr.1,by rw[e];exact hr.2⟩
 rw[e2,h1,jT,XO,h2];exact h3
theorem Gj{a b:Int}(h0:0<=a)(ha:a<=1000)(wb:0<=b)(hb:b<=5000000):qy a b=a+b:=by unfold qy;exact gh om om
theorem KI.nD{k:Kr}(h:KI k)(z:Int):0<=nD k.ops z/\nD k.ops z<=64:=by
 unfold Kn.nD;cases ho:k.ops[z.toNat]? with
 |none=>exact⟨abT _,by show(0:Int)<=64;omega⟩
 |some o=>exact h.cU o (O9 ho)
theorem LN{ah:Int}{d:List (List Dt)}{cU n:Int}(h:(e8 ah d cU n).2=0):ah=1/\0<=cU/\0<=n/\(e8 ah d cU n).1=wx d cU.toNat n.toNat:=by
 unfold e8 at h⊢;split at h
 .cases h
 rename_i h1;split at h
 .cases h
 rename_i h2;split at h
 .cases h
 rename_i h3;rw[if_neg h1,if_neg h2,if_neg h3];exact⟨om,om,om,rfl⟩
theorem NZ(d:List (List Dt))(a n:Nat):(wx d a n).length=dJ n (d.length-dJ a d.length):=by have h1:=mj a d.length;have h2:=mj n (d.length-dJ a d.length);unfold wx;rw[aaE,Z3];omega
theorem N0{o:Obj}{cU:Int}{b:List Int}(ho:o.sm)(hd:o.data.length<=60)(h:(dR o cU (dh b)).2=0):(dR o cU (dh b)).1.data.length<=60:=by
 obtain⟨_,_,h1,h2,h3,h4⟩:=vr ho h;rw[h4];obtain⟨d,Cc⟩:=ho.t.1;show(mK o.data cU.toNat (dh b)).length<=60;rw[Cc,zc,show ∀x:List Int,(dh x).length=x.length from fun x=>by simp[dh]]
 have kI:d.length<=60:=by rw[Cc]at hd;simpa[dh]using hd
 have:=Gb d b cU.toNat om om;omega
theorem KI.bytes{k:Kr}(h:KI k){p:Nat}{c:Cl}(he:(iY k p c).2.ix=0):KI (iY k p c).1:=by
 unfold iY jU at he⊢;split at he
 .rename_i h1;exact absurd he h1
 rename_i h1;rw[if_neg h1];obtain⟨n,op,j,x,e1,e2,e3,e4,e5,e6,_⟩:=h.bn (ZM h1);have UQ:=O9 e5;have OT:mq k.l (Kn.bn k p c.fd (nH c.ah)).2.1=x:=by rw[e3,mq,XO,e5];rfl
 rw[OT]at he⊢;have G4:=h.nD (Kn.bn k p c.fd (nH c.ah)).1.1;split at he
 .rename_i h4;rw[if_pos h4];unfold iC at he⊢;split at he
  .rename_i h5;exact absurd he h5
  rename_i h5;rw[if_neg h5];obtain⟨_,h6,_,h7⟩:=LN (ZM h5);refine h.PJ _ ?_;rw[h7,NZ];have hd:=h.NQ x UQ;have m1:=mj (Kn.nD k.ops (Kn.bn k p c.fd (nH c.ah)).1.1).toNat x.data.length;have m2:=mj c.n.toNat (x.data.length-dJ (Kn.nD k.ops (Kn.bn k p c.fd (nH c.ah)).1.1).toNat x.data.length);have m3:dJ (Kn.nD k.ops (Kn.bn k p c.fd (nH c.ah)).1.1).toNat x.data.length=(Kn.nD k.ops (Kn.bn k p c.fd (nH c.ah)).1.1).toNat\/dJ (Kn.nD k.ops (Kn.bn k p c.fd (nH c.ah)).1.1).toNat x.data.length=x.data.length:=by unfold dJ;split<;>simp
  rw[Gj om om om om];omega
 rename_i h4;rw[if_neg h4];split at he
 .rename_i h5;rw[if_pos h5];unfold mr at he⊢;split at he
  .rename_i h6;exact absurd he h6
  rename_i h6;rw[if_neg h6];have h6:=ZM h6;obtain⟨w1,w2,w3,w4,w5,w6⟩:=vr (h.sm x UQ) h6;have w7:=N0 (h.sm x UQ) (h.NQ x UQ) h6;have h2:KI (setObj k (Kn.bn k p c.fd (nH c.ah)).2.1 (dR x (Kn.nD k.ops (Kn.bn k p c.fd (nH c.ah)).1.1) (dh c.data)).1):=by
   rw[e3,setObj,XO];exact h.HZ e5 (by rw[w6];exact⟨rfl,rfl,rfl,rfl,rfl,rfl⟩) e6 w1 w7 (by rw[w6];exact h.qu x UQ)
  refine h2.PJ _ ?_;rw[Gj om om om om];omega
 .rename_i h5;rw[if_neg h5];unfold rL at he⊢;split at he
  .cases he
  rename_i h6;rw[if_neg h6];exact h.PJ _ ⟨om,om⟩
theorem rR{l:List fq}{fd:Int}(h:(qv l fd).2=0):∃(i:Nat)(s:fq),fd=i/\l[i]? =some s/\s.has=true/\(qv l fd).1=(s.eJ,s.cn)/\Tb.ei (l.map m4) fd=(⟨s.eJ,s.cn⟩,0):=by
 unfold qv Tb.ei at h⊢;by_cases h0:0<=fd
 .rw[if_pos h0,O6]at h⊢;cases hy:l[fd.toNat]? with
  |none=>rw[hy]at h;cases h
  |some t=>
   rw[hy]at h;simp only[XS]at h⊢;cases hh:t.has with
   |false=>
    have:(m4 t).has=false:=hh;rw[this]at h;cases h
   |true=>
    have h2:(m4 t).has=true:=hh;refine⟨fd.toNat,t,om,hy,hh,?_,?_⟩
    .rw[h2];rfl
    .rw[h2];rfl
 .rw[if_neg h0]at h;cases h
theorem BL{l:List fq}{c:Cl}(hl:l.length<=10)(h:(mL l c).2.2=0):(mL l c).1.length<=10/\∀s,s∈(mL l c).1->s.has=true->s∈l\/∃t,t∈l/\t.has=true/\s.eJ=t.eJ/\0<=s.cn/\s.cn<=4095:=by
 have Mo:∀s:fq,Ng (m4 s)=s:=fun s=>rfl
 unfold mL at h⊢;split at h
 .rename_i h7;rw[if_pos h7];unfold vl Tb.mh at h⊢;split at h
  .rename_i h1;simp only[if_pos h1];refine⟨by simp only[LW,Z3,aab];omega,fun s hs hh=>?_⟩
   obtain⟨t,ht,rfl⟩:=aae.1 hs;rcases aag (aaB ht)with ht|rfl
   .obtain⟨u,hu,rfl⟩:=aae.1 ht;exact .inl hu
   .cases hh
  .rename_i h1;exact absurd h h1
 rename_i h7;rw[if_neg h7];split at h
 .rename_i h8;rw[if_pos h8];unfold Lc Tb.tp at h⊢;split at h
  .rename_i h1;obtain⟨i,t,_,h3,h4,h5,h6⟩:=rR (l:=l) (fd:=c.fd) h1;have e:(Tb.ei (l.map m4) c.fd).1=⟨t.eJ,t.cn⟩:=by rw[h6]
   rw[e]at h;simp only[if_pos h1,e];obtain⟨a1,_,a3⟩:=pa (l:=l) (o:=t.eJ) (r:=t.cn) h;refine⟨qA (l:=l) (o:=t.eJ) (r:=t.cn) hl,fun s hs hh=>?_⟩
   rcases a3 s hs with hs|rfl
   .exact .inl hs
   .exact .inr ⟨t,O9 h3,h4,rfl,rP.1 a1⟩
  .rename_i h1;exact absurd h h1
 .rename_i h8;rw[if_neg h8];unfold y5 Tb.uV at h⊢;split at h
  .rename_i h1;obtain⟨i,t,_,h3,h4,h5,h6⟩:=rR (l:=l) (fd:=c.fd) h1;split at h
   .cases h
   rename_i h2;split at h
   .cases h
   rename_i h9;simp only[if_pos h1,if_neg h2,if_neg h9];have hr:Tb.dv c.aQ=true:=by cases hx:Tb.dv c.aQ with|true=>rfl|false=>exact absurd hx h2
   refine⟨by simp only[LW,aab];omega,fun s hs hh=>?_⟩
   obtain⟨u,hu,rfl⟩:=aae.1 hs;rcases aag hu with hu|rfl
   .obtain⟨v,hv,rfl⟩:=aae.1 hu;exact .inl hv
   .refine .inr ⟨t,O9 h3,h4,?_,rP.1 hr⟩;show(Tb.ei (l.map m4) c.fd).1.eJ=_;rw[h6]
  .rename_i h1;exact absurd h h1
theorem KI.YC{k:Kr}(h:KI k){p:Nat}{x:bi}(hp:k.ps[p]? =some x)(dG:x.a8=true){c:Cl}(he:(nI k p c).2.ix=0):KI (nI k p c).1:=by
 have FV:aV k.ps p=x.bd:=by rw[aV,hp]
 have he:(mL (aV k.ps p) c).2.2=0:=he;have hx:=h.Pn (O9 hp);show KI (iz k p (mL (aV k.ps p) c).1 (mL (aV k.ps p) c).2.2);rw[iz,if_pos he];rw[FV]at he⊢;obtain⟨h1,h2⟩:=BL hx.sl he;refine h.eQ hp dG h1 fun s hs hh=>?_
 rcases h2 s hs hh with hs|⟨t,ht,hth,e,r⟩
 .exact hx.cap s hs hh
 .obtain⟨_,n,o,a1,a2,a3⟩:=hx.cap t ht hth;exact⟨r,n,o,e.trans a1,a2,a3⟩
theorem KI.name{k:Kr}(h:KI k){p:Nat}{c:Cl}(he:(kP k p c).2.ix=0):KI (kP k p c).1:=by
 have he:(i9 k c (Kn.bn k p c.fd (xK c))).2=0:=he;show KI (i9 k c (Kn.bn k p c.fd (xK c))).1;unfold i9 at he⊢;split at he
 .rename_i h1;exact absurd he h1
 rename_i h1;rw[if_neg h1];split at he
 .rename_i h2;exact absurd he h2.2
 rename_i h2;rw[if_neg h2];unfold nJ at he⊢;split at he
 .rename_i h3;exact absurd he h3
 rename_i h3;rw[if_neg h3];split at he
 .cases he
 rename_i h4;rw[if_neg h4];split at he
 .rename_i h5;rw[if_pos h5];split at he
  .cases he
  rename_i h6;rw[if_neg h6];have he:(Ei k (iQ k (Kn.bn k p c.fd (xK c)).2.1 c.bZ true false)).2.2=0:=he;show KI (cW k _ _);rw[cW,if_pos he];exact h.Ev he
 rename_i h5;rw[if_neg h5];split at he
 .cases he
 rename_i h6;rw[if_neg h6];split at he
 .rename_i h7;rw[if_pos h7];exact(h.EE (NY _) he).1
 .rename_i h7;rw[if_neg h7];exact(h.EE Rg he).1
theorem KI.mP{k:Kr}(h:KI k){p:Nat}{x:bi}(hp:k.ps[p]? =some x)(dG:x.a8=true)(he:(mP k p).2.ix=0):KI (mP k p).1:=by
 unfold Kn.mP BC at he⊢;split at he
 .rename_i h1;exact absurd he h1
 rename_i h1;rw[if_neg h1];obtain⟨g1,g2,g3⟩:=h.Rf (ZM h1);unfold vC at he⊢;split at he
 .rename_i h2;exact absurd he h2
 rename_i h2;rw[if_neg h2];have h2:=ZM h2;have o1:=g1.vI (p:=p) hp dG g2 h2;split at he
 .rename_i h3;exact absurd he h3
 rename_i h3;rw[if_neg h3];have e:=rQ h2;refine o1.vI (p:=p) (x:=⟨x.a8,x.fenced,x.code,(eI (aV k.ps p) (dK k.ops) 896).1⟩) (by rw[e.1];exact LM hp _) dG (by rw[e.2.1];exact g3) (ZM h3)
theorem KI.mN{k:Kr}(h:KI k){p:Nat}{c:Cl}(he:(mN k p c).2.ix=0):KI (mN k p c).1:=by
 have key:∀r:List Obj×Int,(mM k c r).2.ix=0->r.2=0:=fun r hr=>by
  unfold mM at hr;by_cases h1:r.2=0
  .exact h1
  .rw[if_pos h1]at hr;exact absurd hr h1
 have hU:∀(bt:Int)(m:bp),m.OR->(m.has=true->fu k m.eJ m.cn)->(mM k c (eP k.l bt m)).2.ix=0->KI (mM k c (eP k.l bt m)).1:=fun bt m ht hc hr=>by have h1:=key _ hr;show KI (cW k _ _);rw[cW,if_pos h1];exact h.send ht hc h1
 unfold Kn.mN Bz at he⊢;split at he
 .rename_i h1;exact absurd he h1
 rename_i h1;rw[if_neg h1];unfold xM at he⊢;split at he
 .rename_i h2;rw[if_pos h2];split at he
  .rename_i h3;exact absurd he h3
  rename_i h3;rw[if_neg h3];obtain⟨i,s,_,a2,a3,a4,_⟩:=rR (ZM h3);refine hU _ _ ⟨c.data,rfl⟩ (fun _=>?_) he
  show fu k (qv (aV k.ps p) c.fT).1.1 (qv (aV k.ps p) c.fT).1.2;rw[a4];exact h.dN (O9 a2) a3
 .rename_i h2;rw[if_neg h2];exact hU _ _ ⟨c.data,rfl⟩ (fun hh=>by cases hh) he
theorem KI.mO{k:Kr}(h:KI k){p:Nat}{x:bi}(hp:k.ps[p]? =some x)(dG:x.a8=true){c:Cl}(he:(mO k p c).2.ix=0):KI (mO k p c).1:=by
 unfold Kn.mO BA at he⊢;split at he
 .rename_i h1;exact absurd he h1
 rename_i h1;rw[if_neg h1];unfold vB at he⊢;split at he
 .rename_i h2;exact absurd he h2
 rename_i h2;rw[if_neg h2];obtain⟨g1,g2⟩:=h.recv (ZM h2);have FV:aV k.ps p=x.bd:=by rw[aV,hp]
 split at he
 .rename_i h3;rw[if_pos h3];split at he
  .rename_i h4;exact absurd he h4
  rename_i h4;rw[if_neg h4];show KI (cW (iz k p _ 0) _ 0);rw[cW,if_pos rfl,iz,if_pos rfl];have h4:=ZM h4;rw[FV]at h4⊢;obtain⟨a1,_,a3⟩:=pa h4;have hx:=h.Pn (O9 hp);refine g1.eQ (p:=p) hp dG (qA hx.sl) fun s hs hh=>?_
  rcases a3 s hs with hs|rfl
  .exact g1.cap x (O9 hp) s hs hh
  .have hq:fu ⟨(ff k.l (Kn.bn k p c.fd 512).2.1).1,k.ops,k.ps⟩ (ff k.l (Kn.bn k p c.fd 512).2.1).2.1.eJ (ff k.l (Kn.bn k p c.fd 512).2.1).2.1.cn:=by
    obtain⟨r,n,o,b1,b2,b3⟩:=g2 h3;refine⟨r,n,o,b1,b2,b3.mono fun j y hy LH=>?_⟩
    obtain⟨n',o',_,_,_,c2,c3,_,c5,_⟩:=vH (ZM h2);rw[c5];by_cases ej:j=n'
    .subst ej;rw[c2]at hy;cases hy;exact⟨_,QO (Hy.1 c2).1,LH⟩
    .exact⟨y,by rw[XK (fun e=>ej e.symm)];exact hy,LH⟩
   exact hq
 .rename_i h3;rw[if_neg h3];show KI (cW k _ 0);rw[cW,if_pos rfl];exact g1
theorem KI.UR{k:Kr}(h:KI k){p:Nat}{x:bi}(hp:k.ps[p]? =some x)(dG:x.a8=true){c:Cl}(he:(fx k p c).2.ix=0):KI (fx k p c).1:=by
 have ex:∀e:Kr×Int,(e.2=0->KI e.1)->KI (kQ k e).1:=fun e hE=>by
  unfold kQ;split
  .rename_i h1;exact hE h1
  .exact h
 unfold fx at he⊢;split at he
 .rename_i h1;rw[if_pos h1];exact h.Yu p
 rename_i h1;rw[if_neg h1];split at he
 .rename_i h2;rw[if_pos h2];exact h
 rename_i h2;rw[if_neg h2];split at he
 .rename_i h3;rw[if_pos h3];unfold s9 at he⊢;split at he
  .rename_i h4;exact absurd he h4
  .rename_i h4;rw[if_neg h4];exact h.YA hp dG (ZM h4)
 rename_i h3;rw[if_neg h3];split at he
 .rename_i h4;rw[if_pos h4];exact ex _ fun e=>h.exit e
 .rename_i h4;rw[if_neg h4];generalize Kn.bn k p c.fd (if c.ah=20 then 2048 else 1024)=w
  unfold mv;split
  .exact h
  .unfold vD;split
   .exact h
   .split
    .split<;>exact h
    .exact ex _ fun e=>h.exit e
theorem KI.op{k:Kr}(h:KI k){p:Nat}{x:bi}(hp:k.ps[p]? =some x)(dG:x.a8=true){c:Cl}(he:(ii k p c).2.ix=0):KI (ii k p c).1:=by
 unfold ii at he⊢;split at he
 .rename_i a;rw[if_pos a];exact h.UP hp dG he
 rename_i a;rw[if_neg a];split at he
 .rename_i a;rw[if_pos a];exact h.bytes he
 rename_i a;rw[if_neg a];split at he
 .rename_i a;rw[if_pos a];exact h.YC hp dG he
 rename_i a;rw[if_neg a];split at he
 .rename_i a;rw[if_pos a];exact h
 rename_i a;rw[if_neg a];split at he
 .rename_i a;rw[if_pos a];exact h.name he
 rename_i a;rw[if_neg a];split at he
 .rename_i a;rw[if_pos a];exact h.mP hp dG he
 rename_i a;rw[if_neg a];split at he
 .rename_i a;rw[if_pos a];exact h.mN he
 rename_i a;rw[if_neg a];split at he
 .rename_i a;rw[if_pos a];exact h.mO hp dG he
 rename_i a;rw[if_neg a];exact h.UR hp dG he
theorem KI.do_{k:Kr}(h:KI k)(prog:List dS)(c:Cl):KI (iR prog k c).1:=by
 unfold iR;split
 .exact h
 rename_i h1;have h1:eZ k.ps c.aM=true:=by cases hx:eZ k.ps c.aM with|true=>rfl|false=>exact absurd hx h1
 obtain⟨p,hc,hp,dG⟩:=p9 h1;split
 .exact h
 split
 .exact h
 rw[hc,XO];unfold ta;split
 .exact h
 .rename_i he;exact(h.op (tq hp) dG (ZM he)).UH
theorem KI.YD{k:Kr}(h:KI k){p:Nat}(hp:p<k.ps.length)(dG:k.ps[p].a8=true)(c:Cl):Ly k p c:=by
 have Z1:=tq hp;refine⟨h.kw hp,fun au ax=>⟨fun he=>?_,fun he=>?_⟩,⟨fun he=>(h.Rf he).1.kr,fun he qH=>?_⟩,h.pr,fun he=>(h.op Z1 dG he).kr⟩
 .rcases h.Rd au c.bZ ax true he with e|⟨j,y,e,hj,_⟩
  .rw[e];omega
  .have:=(Hy.1 hj).1;rw[e];omega
 .obtain⟨g1,⟨j,y,g2,g3,_⟩,g4⟩:=h.cH (h.Rd au c.bZ ax true) he;exact⟨g1.kr,by rw[g4];exact hp,j,g2,(Hy.1 g3).1⟩
 .obtain⟨g1,g2,_⟩:=h.Rf he;have:=g1.vI (p:=p) Z1 dG g2 qH;exact⟨this.kr,by rw[(rQ qH).1,In];exact hp⟩
theorem Rh(prog:List dS)(k:Kr)(h:KI k)(c:Cl)(hd:c.data.length<=4194304){m:Mem}{K:CV->Mem->Prop}(hK:K (UB (iR prog k c)) m):
  ar Tryz.prog 16 [qB prog,dX k.l k.ops k.ps,c.cv] m K:=
 UC prog k c (fun _ hp _ dG=>h.YD hp dG c) hd hK
end Kn
def c38:LF:= ⟨9,[.tmp 4],(.seq (.ai [qu 4 (.aD (qb false))]) (.seq (.ai [qm 5 0,qm 6 1,qu 7 (qc 76 [5,6]),qu 8 (.aE .geq 7 (qi 0)),qm 4 8]) .ret))⟩
def c39:LF:= ⟨9,[.tmp 3],(.seq (.ai [qu 2 (.box 0),qu 3 (.aD (qb false))]) (.seq (.ai [qf 4 0 2,ql 5 4,qf 6 0 1,ql 7 6,qu 8 (.aE .eql 5 7),qm 3 8]) .ret))⟩
def c40:LF:= ⟨9,[.tmp 4],(.seq (.ai [qu 4 (.aD (qb false))]) (.seq (.ai [qm 5 0,qm 6 1,qu 7 (qc 77 [5,6]),qu 8 (.aE .geq 7 (qi 0)),qm 4 8]) .ret))⟩
def c41:LF:= ⟨21,[.tmp 2],(.seq (.ai [qu 1 (.box 0),qu 2 (.aD (qb false))]) (.seq (.ai [qf 3 0 1,ql 4 3,qu 5 (.aE .lss 4 (qi 1)),qm 6 5,qg 7 (.bQ 0 1) 6 false,qg 8 (.load false 1 7) 6 false,qg 9 (.aE .geq 8 (qi 6)) 6 false,qu 10 (.pick 6 (qb true) 9),qm 11 10,qg 12 (.bQ 1 1) 11 false,qg 13 (.load false 1 12) 11 false,qg 14 (.aE .lss 13 (qi 1)) 11 false,qu 15 (.pick 11 (qb true) 14),qm 16 15,qg 17 (.bQ 1 1) 16 false,qg 18 (.load false 1 17) 16 false,qg 19 (.aE .geq 18 (qi 2147483648)) 16 false,qu 20 (.pick 16 (qb true) 19),qm 2 20]) .ret))⟩
def c76:LF:= ⟨19,[.tmp 4],(.seq (.ai [qu 4 (.aD (qi 0))]) (.seq (.seq (.ai [qm 6 0,qu 7 (.len 1 6),qu 8 (.aD (qi 0))]) (.block 0 (.loop (.seq (.ai [qu 9 (.aE .lss 8 7)]) (.seq (.cond 9 .skip (.exit 0)) (.seq (.block 1 (.seq (.ai [qm 10 8,qm 5 10]) (.seq (.ai [qm 11 1,qm 12 0,qm 13 5,qu 14 (.b7 2 12 13),qL 15 2 14,qu 16 (.call 11 [15])]) (.cond 16 (.seq (.ai [qm 17 5,qm 4 17]) .ret) .skip)))) (.ai [qu 18 (.aE .add 8 (qi 1)),qm 8 18]))))))) (.seq (.ai [qu 4 (.aD (qi (-1)))]) .ret)))⟩
def c77:LF:= ⟨19,[.tmp 4],(.seq (.ai [qu 4 (.aD (qi 0))]) (.seq (.seq (.ai [qm 6 0,qu 7 (.len 1 6),qu 8 (.aD (qi 0))]) (.block 0 (.loop (.seq (.ai [qu 9 (.aE .lss 8 7)]) (.seq (.cond 9 .skip (.exit 0)) (.seq (.block 1 (.seq (.ai [qm 10 8,qm 5 10]) (.seq (.ai [qm 11 1,qm 12 0,qm 13 5,qu 14 (.b7 2 12 13),qL 15 2 14,qu 16 (.call 11 [15])]) (.cond 16 (.seq (.ai [qm 17 5,qm 4 17]) .ret) .skip)))) (.ai [qu 18 (.aE .add 8 (qi 1)),qm 8 18]))))))) (.seq (.ai [qu 4 (.aD (qi (-1)))]) .ret)))⟩
structure lV where
 w:Int
 bits:Int
def lV.enc(m:lV):List Dt:=[.val (.int .i64 m.w),.val (.int .i64 m.bits)]
def lV.cv(m:lV):CV:= .rv (.agg (m.enc.map .aa))
structure cY where
 call:Int
 bm:List lV
def cY.enc(p:cY):List Dt:=[.val (.int .i64 p.call),.sl 2 (p.bm.map lV.enc)]
def cY.cv(p:cY):CV:= .rv (.agg (p.enc.map .aa))
def Gk(l:List lV):CV:= .rv (.one (.aa (.sl 2 (l.map lV.enc))))
def dM(l:List cY):CV:= .rv (.one (.aa (.sl 2 (l.map cY.enc))))
def LP:CV:= .rv (.one (.ptr 0 0))
theorem l38:bq Tryz.prog Tryz.f38=some c38:=by kernel_rfl
theorem l39:bq Tryz.prog Tryz.f39=some c39:=by kernel_rfl
theorem l40:bq Tryz.prog Tryz.f40=some c40:=by kernel_rfl
theorem l41:bq Tryz.prog Tryz.f41=some c41:=by kernel_rfl
theorem l76:bq Tryz.prog Tryz.f76=some c76:=by kernel_rfl
theorem l77:bq Tryz.prog Tryz.f77=some c77:=by kernel_rfl
theorem BM(l:List cY)(hb:l.length<=4194304)(F:Nat)(cs:List Dt)(q:cY->Bool)(hF:∀s,s∈l->∀K:CV->Mem->Prop,K (aA (q s)) [.var (cs.map .aa)]->ar Tryz.prog F [s.cv,LP] [.var (cs.map .aa)] K):body Tryz.prog c76 [dM l,(.rv (.one (.fn F [0])))] [.var (cs.map .aa)] (fun r m=>r=an .i64 (mV q l)/\∃ex,m= .var (cs.map .aa)::ex):=by
 refine aX (fun k=>k<=l.length/\∀(j:Nat)s,j<k->l[j]? =some s->q s=false) [0,1,7] (fun k=>[(8,an .i64 (k:Nat))]) (fun _=>[.var (cs.map .aa)]) (fun k=>l.length-k) 0 ⟨XL _,fun j s h=>absurd h (aal j)⟩ ?_ (fun k hk=>?_)
 .refine View.o1 1 [0] [] ?_
  .exact .put (by simp[bs]) rfl (.fz rfl) (.nil _)
 .refine aJ (fun h=>?_) (fun h=>?_)
  .have aF:k<l.length:=by have h:(k:Int)<((l.map cY.enc).length:Int):=h;rw[LW]at h;omega
   have hg:dg (l.map cY.enc) (k:Nat)=some (l[k].enc):=by rw[bF,O6,tq aF];rfl
   refine ag hg ?_;refine hF l[k] (XP aF) _ ?_;refine ay (fun h=>?_) (fun h=>?_)
   .rw[jM aF h hk.2];exact⟨rfl,[],rfl⟩
   .refine⟨k+1,⟨aF,fun j s hj hs=>?_⟩,(show l.length-(k+1)<l.length-k by omega),View.o 1 [0] [] ?_ ?_⟩
    .rcases XN j k with h5|h5
     .exact hk.2 j s h5 hs
     .have:j=k:=om;subst this;rw[tq aF]at hs;cases hs;exact h
    .repeat(first|exact .nil|refine .aq ?_|refine .put (.aP (aL om).symm) ?_|refine .eq rfl ?_)
    .exact .put (by simp[bs]) rfl (.fz rfl) (.nil _)
  .have ef:¬(k:Int)<((l.map cY.enc).length:Int):=h;rw[LW]at ef;rw[lL fun j s hs=>hk.2 j s (by have:=(Hy.1 hs).1;omega) hs]
   exact⟨rfl,[],rfl⟩
theorem Io(l:List cY)(hb:l.length<=4194304)(F:Nat)(cs:List Dt)(q:cY->Bool)(hF:∀s,s∈l->∀K:CV->Mem->Prop,K (aA (q s)) [.var (cs.map .aa)]->ar Tryz.prog F [s.cv,LP] [.var (cs.map .aa)] K){K:CV->Mem->Prop}(h:K (an .i64 (mV q l)) [.var (cs.map .aa)]):ar Tryz.prog 76 [dM l,(.rv (.one (.fn F [0])))] [.var (cs.map .aa)] K:=
 eM rfl (aW Tryz.func76 l76 (BM l hb F cs q hF)) h
theorem Ip(l:List cY)(hb:l.length<=4194304)(F:Nat)(cs:List Dt)(q:cY->Bool)(hF:∀s,s∈l->∀K:CV->Mem->Prop,K (aA (q s)) [.var (cs.map .aa)]->ar Tryz.prog F [s.cv,LP] [.var (cs.map .aa)] K)(K:CV->Mem->Prop)(h:K (aA (l.any q)) [.var (cs.map .aa)]):ar Tryz.prog 38 [dM l,(.rv (.one (.fn F [0])))] [.var (cs.map .aa)] K:=by
 refine eM rfl (aW Tryz.func38 l38 (show body Tryz.prog c38 [dM l,(.rv (.one (.fn F [0])))] [.var (cs.map .aa)] (fun r m=>r=aA (l.any q)/\∃ex,m= .var (cs.map .aa)::ex)from ?_)) h
 refine Io l hb F cs q hF ?_;rw[<-pY];exact⟨rfl,[],rfl⟩
theorem zk(l:List lV)(hb:l.length<=4194304)(F:Nat)(q:lV->Bool)(hF:∀s,s∈l->∀K:CV->Mem->Prop,K (aA (q s)) []->ar Tryz.prog F [s.cv] [] K):body Tryz.prog c77 [Gk l,(.rv (.one (.fn F [])))] [] (fun r m=>r=an .i64 (mV q l)):=by
 refine aX (fun k=>k<=l.length/\∀(j:Nat)s,j<k->l[j]? =some s->q s=false) [0,1,7] (fun k=>[(8,an .i64 (k:Nat))]) (fun _=>[]) (fun k=>l.length-k) 0 ⟨XL _,fun j s h=>absurd h (aal j)⟩ ?_ (fun k hk=>?_)
 .refine View.o1 0 [] [] ?_
  .exact .nil _
 .refine aJ (fun h=>?_) (fun h=>?_)
  .have aF:k<l.length:=by have h:(k:Int)<((l.map lV.enc).length:Int):=h;rw[LW]at h;omega
   have hg:dg (l.map lV.enc) (k:Nat)=some (l[k].enc):=by rw[bF,O6,tq aF];rfl
   refine ag hg ?_;refine hF l[k] (XP aF) _ ?_;refine ay (fun h=>?_) (fun h=>?_)
   .rw[jM aF h hk.2];exact rfl
   .refine⟨k+1,⟨aF,fun j s hj hs=>?_⟩,(show l.length-(k+1)<l.length-k by omega),View.o 0 [] [] ?_ ?_⟩
    .rcases XN j k with h5|h5
     .exact hk.2 j s h5 hs
     .have:j=k:=om;subst this;rw[tq aF]at hs;cases hs;exact h
    .repeat(first|exact .nil|refine .aq ?_|refine .put (.aP (aL om).symm) ?_|refine .eq rfl ?_)
    .exact .nil _
  .have ef:¬(k:Int)<((l.map lV.enc).length:Int):=h;rw[LW]at ef;rw[lL fun j s hs=>hk.2 j s (by have:=(Hy.1 hs).1;omega) hs]
   exact rfl
theorem EG(l:List lV)(hb:l.length<=4194304)(F:Nat)(q:lV->Bool)(hF:∀s,s∈l->∀K:CV->Mem->Prop,K (aA (q s)) []->ar Tryz.prog F [s.cv] [] K){m:Mem}{K:CV->Mem->Prop}(h:K (an .i64 (mV q l)) m):ar Tryz.prog 77 [Gk l,(.rv (.one (.fn F [])))] m K:=
 bo Tryz.func77 l77 rfl (T3 rfl) (zk l hb F q hF) rfl rfl h
theorem Iq(l:List lV)(hb:l.length<=4194304)(F:Nat)(q:lV->Bool)(hF:∀s,s∈l->∀K:CV->Mem->Prop,K (aA (q s)) []->ar Tryz.prog F [s.cv] [] K){m:Mem}{K:CV->Mem->Prop}(h:K (aA (l.any q)) m):ar Tryz.prog 40 [Gk l,(.rv (.one (.fn F [])))] m K:=by
 refine bo Tryz.func40 l40 rfl (T3 rfl) (show body Tryz.prog c40 [Gk l,(.rv (.one (.fn F [])))] [] (fun r m=>r=aA (l.any q))from ?_) rfl rfl h
 refine EG l hb F q hF ?_;rw[<-pY];exact rfl
def rS(m:lV):Bool:=decide (m.w<1)||decide (m.w>=6)||decide (m.bits<1)||decide (m.bits>=2147483648)
theorem US(p s:cY)(K:CV->Mem->Prop)(h:K (aA (s.call==p.call)) [.var (p.enc.map .aa)]):ar Tryz.prog 39 [s.cv,LP] [.var (p.enc.map .aa)] K:=
 eM rfl (aW Tryz.func39 l39 (show body Tryz.prog c39 [s.cv,LP] [.var (p.enc.map .aa)] (fun r m=>r=aA (s.call==p.call)/\∃ex,m= .var (p.enc.map .aa)::ex)from⟨rfl,_,rfl⟩)) h
theorem Ri(s:lV):body Tryz.prog c41 [s.cv] [] (fun r m=>r=aA (rS s)):=by
 refine ay (fun h=>?_) (fun h=>?_)
 .rw[rS,h];exact rfl
 refine ay (fun h2=>?_) (fun h2=>?_)
 .rw[rS,h,h2];exact rfl
 refine ay (fun h3=>?_) (fun h3=>?_)
 .rw[rS,h,h2,h3];exact rfl
 .rw[rS,h,h2,h3];exact rfl
theorem UT(s:lV)(K:CV->Mem->Prop)(h:K (aA (rS s)) []):ar Tryz.prog 41 [s.cv] [] K:=
 bo Tryz.func41 l41 rfl (T3 rfl) (Ri s) rfl rfl h
def c18:LF:= ⟨46,[.cell true 2 2],(.seq (.ai [qu 2 (.alloc [(qd 0),(qd 0)])]) (.seq (.seq (.ai [qm 5 0,qu 6 (.len 1 5),qu 7 (.aE .gtr 6 (qi 30))]) (.cond 7 (.seq (.ai [qu 8 (.build [(qd 0),(qd 0)] [(0,1,(qi 5))]),qw (.store 2 2 8)]) .ret) .skip)) (.seq (.seq (.ai [qm 9 0,qu 10 (.len 1 9),qu 11 (.aD (qi 0))]) (.block 0 (.loop (.seq (.ai [qu 12 (.aE .lss 11 10)]) (.seq (.cond 12 .skip (.exit 0)) (.seq (.block 1 (.seq (.ai [qm 13 11,qu 14 (.b7 2 9 11),qL 15 2 14,qu 4 (.alloc [(qd 0),.aB]),qm 3 13,qw (.store 2 4 15)]) (.seq (.seq (.ai [qf 16 0 4,ql 17 16,qu 18 (.aE .lss 17 (qi 0)),qm 19 18,qg 20 (.bQ 0 4) 19 false,qg 21 (.load false 1 20) 19 false,qg 22 (.aE .geq 21 (qi 2147483648)) 19 false,qu 23 (.pick 19 (qb true) 22)]) (.cond 23 (.seq (.ai [qm 24 3,qu 25 (.build [(qd 0),(qd 0)] [(0,1,(qi 3)),(1,1,24)]),qw (.store 2 2 25)]) .ret) .skip)) (.seq (.seq (.ai [qm 26 0,qm 27 3,qu 28 (.m6 2 26 none (some 27) none),qu 29 (.fn 39 [4]),qu 30 (qc 38 [28,29])]) (.cond 30 (.seq (.ai [qm 31 3,qu 32 (.build [(qd 0),(qd 0)] [(0,1,(qi 7)),(1,1,31)]),qw (.store 2 2 32)]) .ret) .skip)) (.seq (.seq (.ai [qf 33 1 4,ql 34 33,qu 35 (.len 1 34),qu 36 (.aE .gtr 35 (qi 3))]) (.cond 36 (.seq (.ai [qm 37 3,qu 38 (.build [(qd 0),(qd 0)] [(0,1,(qi 5)),(1,1,37)]),qw (.store 2 2 38)]) .ret) .skip)) (.seq (.ai [qf 39 1 4,ql 40 39,qu 41 (qc 40 [40,(.c (.rv (.one (.fn 41 []))))])]) (.cond 41 (.seq (.ai [qm 42 3,qu 43 (.build [(qd 0),(qd 0)] [(0,1,(qi 3)),(1,1,42)]),qw (.store 2 2 43)]) .ret) .skip))))))) (.ai [qu 44 (.aE .add 11 (qi 1)),qm 11 44]))))))) (.seq (.ai [qu 45 (.build [(qd 0),(qd 0)] []),qw (.store 2 2 45)]) .ret))))⟩
def jX(pre:List cY)(p:cY):Int:=
 if p.call<0\/p.call>=2147483648 then 3 else if pre.any (fun q=>q.call==p.call)=true then 7 else if p.bm.length>3 then 5 else if p.bm.any rS=true then 3 else 0
def gW(l:List cY)(k:Nat):Int:=match l[k]? with|some p=>jX (l.take k) p|none=>0
def rT(f:Nat->Int):Nat->Nat->Int×Int
 |0,_=>(0,0)
 |n+1,k=>if f k=0 then rT f n (k+1)else(f k,(k:Int))
theorem xU{f:Nat->Int}:∀(n k:Nat),(∀j,k<=j->j<k+n->f j=0)->rT f n k=(0,0)
 |0,_,_=>rfl
 |n+1,k,h=>by rw[rT,if_pos (h k (QN k) om)];exact xU n (k+1) fun j h1 h2=>h j om om
theorem pb{f:Nat->Int}:∀(n k j:Nat),k<=j->j<k+n->(∀i,k<=i->i<j->f i=0)->f j≠0->rT f n k=(f j,(j:Int))
 |0,_,_,_,_,_,_=>om
 |n+1,k,j,h1,h2,h3,h4=>by
  rw[rT];rcases XN k j with h|h
  .rw[if_pos (h3 k (QN k) h)];exact pb n (k+1) j om om (fun i a b=>h3 i om b) h4
  .have:k=j:=om;subst this;rw[if_neg h4]
def cT(l:List cY):Int×Int:=if l.length>30 then(5,0)else rT (gW l) l.length 0
theorem Ir{l:List cY}{k:Nat}(h0:¬l.length>30)(hk:k<l.length)(hg:∀j,j<k->gW l j=0){e:Int}(h:jX (l.take k) l[k]=e)(he:e≠0):zf (e,(k:Int))=zf (cT l):=by
 have hw:gW l k=e:=by rw[gW,tq hk];exact h
 rw[cT,if_neg h0,pb l.length 0 k om om (fun i _ hi=>hg i hi) (by rw[hw];exact he),hw]
theorem EH{l:List cY}{k:Nat}(hk:k<l.length)(hg:∀j,j<k->gW l j=0)(h:jX (l.take k) l[k]=0):∀j,j<k+1->gW l j=0:=by
 intro j hj;rcases XN j k with h1|h1
 .exact hg j h1
 .have:j=k:=om;subst this;rw[gW,tq hk];exact h
theorem l18:bq Tryz.prog Tryz.f18=some c18:=by kernel_rfl
theorem EI(l:List cY):body Tryz.prog c18 [dM l] [] (fun r m=>r=zf (cT l)):=by
 refine aJ (fun h=>?_) (fun h0=>?_)
 .have h:l.length>30:=by have h:(((l.map cY.enc).length:Nat):Int)>30:=h;rw[LW]at h;omega
  rw[cT,if_pos h];exact rfl
 have h0:¬l.length>30:=by have h:¬(((l.map cY.enc).length:Nat):Int)>30:=h0;rw[LW]at h;omega
 refine aX (fun k=>k<=l.length/\∀(j:Nat),j<k->gW l j=0) [0,2,9,10] (fun k=>[(11,an .i64 (k:Nat))]) (fun _=>[.var [.aa (.val (.int .i64 0)),.aa (.val (.int .i64 0))]]) (fun k=>l.length-k) 0 ⟨XL _,fun j h=>absurd h (aal j)⟩ ?_ (fun k hk=>?_)
 .refine View.o1 1 [0] [] ?_
  .exact .put (by simp[bs]) rfl (.eq rfl aK) (.nil _)
 .refine aJ (fun h=>?_) (fun h=>?_)
  .have aF:k<l.length:=by have h:(k:Int)<((l.map cY.enc).length:Int):=h;rw[LW]at h;omega
   have bad:∀{e:Int},jX (l.take k) l[k]=e->e≠0->zf (e,(k:Int))=zf (cT l):=fun a b=>Ir h0 aF hk.2 a b
   have UU:=EH aF hk.2;have hg:dg (l.map cY.enc) (k:Nat)=some [.val (.int .i64 l[k].call),.sl 2 (l[k].bm.map lV.enc)]:=by rw[bF,O6,tq aF];rfl
   generalize l[k]=p at bad UU hg;obtain⟨call,bm⟩:=p;refine ag hg ?_;refine aJ (fun h=>?_) (fun h1=>?_)
   .exact bad (by rw[jX,if_pos (.inl h)]) (by decide)
   refine aJ (fun h=>?_) (fun h2=>?_)
   .exact bad (by rw[jX,if_pos (.inr h)]) (by decide)
   have n1:¬((⟨call,bm⟩:cY).call<0\/(⟨call,bm⟩:cY).call>=2147483648):=fun h=>h.elim h1 h2
   have sF:∀{m:Mem}{K:CV->Mem->Prop},cR m 1=some (.var ((⟨call,bm⟩:cY).enc.map .aa))->K (aA ((l.take k).any fun q=>q.call==(⟨call,bm⟩:cY).call)) m->ar Tryz.prog 38 [.rv (.one (.aa (.sl 2 (((l.map cY.enc).take k).drop 0)))),.rv (.one (.fn 39 [1]))] m K:=by
    intro m K hm hK;have e:((l.map cY.enc).take k).drop 0=(l.take k).map cY.enc:=aK;rw[e];exact fl 1 hm rfl rfl (Ip (l.take k) (by simp;omega) 39 (⟨call,bm⟩:cY).enc (fun q=>q.call==(⟨call,bm⟩:cY).call) fun s _ K hs=>US _ s K hs) hK
   refine b8 (by simp[aap];omega) ?_
   refine sF rfl ?_;refine ay (fun h=>?_) (fun h3=>?_)
   .exact bad (by rw[jX,if_neg n1,if_pos h]) (by decide)
   have n2:¬((l.take k).any fun q=>q.call==(⟨call,bm⟩:cY).call)=true:=by rw[h3];simp
   refine aJ (fun h=>?_) (fun h4=>?_)
   .have h:(⟨call,bm⟩:cY).bm.length>3:=by have h:(((bm.map lV.enc).length:Nat):Int)>3:=h;rw[LW]at h;show bm.length>3;omega
    exact bad (by rw[jX,if_neg n1,if_neg n2,if_pos h]) (by decide)
   have n3:¬(⟨call,bm⟩:cY).bm.length>3:=by have h:¬(((bm.map lV.enc).length:Nat):Int)>3:=h4;rw[LW]at h;show ¬bm.length>3;omega
   refine Iq bm (by have:¬bm.length>3:=n3;omega) 41 rS (fun s _ K hs=>UT s K hs) ?_
   refine ay (fun h=>?_) (fun h5=>?_)
   .exact bad (by rw[jX,if_neg n1,if_neg n2,if_neg n3,if_pos h]) (by decide)
   have n4:¬(⟨call,bm⟩:cY).bm.any rS=true:=by show ¬bm.any rS=true;rw[h5];simp
   refine⟨k+1,⟨aF,UU (by rw[jX,if_neg n1,if_neg n2,if_neg n3,if_neg n4])⟩,(show l.length-(k+1)<l.length-k by omega),View.o 2 [0] [] ?_ ?_⟩
   .repeat(first|exact .nil|refine .aq ?_|refine .put (.aP (aL om).symm) ?_|refine .eq rfl ?_)
   .exact .put (by simp[bs]) rfl (.eq rfl aK) (.nil _)
  .have ef:¬(k:Int)<((l.map cY.enc).length:Int):=h;rw[LW]at ef;rw[cT,if_neg h0,xU l.length 0 fun j _ hj=>hk.2 j om]
   exact rfl
theorem LQ(l:List cY){m:Mem}{K:CV->Mem->Prop}(h:K (zf (cT l)) m):ar Tryz.prog 18 [dM l] m K:=
 bo Tryz.func18 l18 rfl (T3 rfl) (EI l) rfl rfl h
end Go.Proofs.YthagjdhjmamakaaGreatDoor
