/- Part 37 of 43: what the law stands on. -/
import Derived.Test.YtojhmadmlnfpcaaGreatDoorK16
import Derived.Test.YtojhmadmlnfpcaaGreatDoorK34
import Derived.Test.YtojhmadmlnfpcaaGreatDoorK36
set_option linter.unusedVariables false
set_option linter.unusedSimpArgs false
set_option linter.unnecessarySimpa false
set_option maxRecDepth 100000
set_option maxHeartbeats 64000000
namespace Go.Proofs.YtojhmadmlnfpcaaGreatDoor
open Go.AM Go.ChangeShapes Go.WideShapes Go.ChangeAt Go.RowKit
namespace Kn
structure Wf(k:Kr)(x:bi):Prop where
 sl:x.aU.length<=10
 bh:x.aV=false->x.aU=[]
 cap:∀s,s∈x.aU->s.has=true->fy k s.eT s.cf
theorem KI.Rh{k:Kr}(h:KI k){x:bi}(hx:x∈k.ps):Wf k x:=⟨h.sl x hx,h.bh x hx,h.cap x hx⟩
theorem KI.HH{k:Kr}(h:KI k){qp:List bi}(hl:qp.length<=8)(ei:k.ps.length<=qp.length)(hx:∀x,x∈qp->Wf k x):KI ⟨k.l,k.ops,qp⟩:=
 ⟨h.ll,h.lo,hl,h.sm,fun x h=>(hx x h).sl,fun e=>h.ne (aat (by have:qp=[]:=e;rw[this]at ei;simpa using ei)),fun x h=>(hx x h).bh,fun x h=>(hx x h).cap,
  h.qu,fun o ho h5=>let⟨n,a,b⟩:=h.pr o ho h5;⟨n,a,aaH b ei⟩,h.en,h.z,h.pe,h.dm,h.PR,h.rJ⟩
theorem KI.Wg{k:Kr}(h:KI k){Nz:List bG}(hl:Nz.length<=60)(hm:∀(n:Nat)o,k.ops[n]? =some o->fR k.l o.bv->∃o',Nz[n]? =some o'/\fR k.l o'.bv)(ha:∀o,o∈Nz->0<=o.dm/\o.dm<=64):KI ⟨k.l,Nz,k.ps⟩:=by
 have ew:∀z r,fy k z r->fy ⟨k.l,Nz,k.ps⟩ z r:=fun z r hc=>hc.mono hm
 exact⟨h.ll,hl,h.lp,h.sm,h.sl,h.ne,h.bh,fun x hx s hs hh=>ew _ _ (h.cap x hx s hs hh),fun o ho q hq hh=>ew _ _ (h.qu o ho q hq hh),h.pr,h.en,h.z,h.pe,ha,h.PR,h.rJ⟩
theorem KI.Rz{k:Kr}(h:KI k)(z:Int){a:Int}(ha:0<=a/\a<=64):KI (uc k z a):=by
 unfold uc;cases ho:k.ops[z.toNat]? with
 |none=>exact h
 |some o=>
  have hz:=(aac.1 ho).1;refine h.Wg (by rw[aaE];exact h.lo) (fun n x hx hi=>?_) fun x hx=>?_
  .by_cases e:n=z.toNat
   .subst e;rw[ho]at hx;cases hx;exact⟨_,aal hz,hi⟩
   .exact⟨x,by rw[aas (fun x=>e x.symm)];exact hx,hi⟩
  .rcases aaI hx with hx|rfl
   .exact h.dm x hx
   .exact ha
theorem KI.dM{k:Kr}(h:KI k){p:Nat}{x:bi}(hp:k.ps[p]? =some x)(dh:x.aV=true){l:List fH}(hl:l.length<=10)(hc:∀s,s∈l->s.has=true->fy k s.eT s.cf):KI ⟨k.l,k.ops,dM k.ps p l⟩:=by
 have e:Go.Proofs.YtojhmadmlnfpcaaGreatDoor.dM k.ps p l=k.ps.set p {x with aU:=l}:=by unfold Go.Proofs.YtojhmadmlnfpcaaGreatDoor.dM;rw[hp]
 rw[e];refine h.HH (by rw[aaE];exact h.lp) (by rw[aaE];exact aaj _) fun y hy=>?_
 rcases aaI hy with hy|rfl
 .exact h.Rh hy
 .exact⟨hl,fun hd=>(by rw[dh]at hd;cases hd),hc⟩
theorem ng{l:List fH}{o r:Int}(h:(fL l o r).2.2=0):Tb.eQ r=true/\0<=o/\∀s,s∈(fL l o r).1->s∈l\/s=⟨true,o,r⟩:=by
 have Oe:∀s:fH,Pd (lh s)=s:=fun s=>rfl
 unfold fL at h⊢;simp only[]at h⊢;unfold Tb.iz at h⊢;split at h
 .cases h
 .rename_i h1;have hr:Tb.eQ r=true:=by
   cases hx:Tb.eQ r with
   |true=>rfl
   |false=>exact absurd (.inl hx) h1
  have ho:0<=o:=Int.not_lt.1 fun hx=>h1 (.inr hx)
  refine⟨hr,ho,fun s hs=>?_⟩
  rw[if_neg h1]at hs;split at hs
  .obtain⟨t,ht,rfl⟩:=aay.1 hs;rcases aaI ht with ht|rfl
   .obtain⟨u,hu,rfl⟩:=aay.1 ht;exact .inl hu
   .exact .inr rfl
  .split at hs
   .cases hs
   .obtain⟨t,ht,rfl⟩:=aay.1 hs;rcases abf.1 ht with ht|ht
    .obtain⟨u,hu,rfl⟩:=aay.1 ht;exact .inl hu
    .simp at ht;subst ht;exact .inr rfl
theorem tc{n:Int}:Tb.eQ n=true↔0<=n/\n<=4095:=by unfold Tb.eQ;rw[aap,decide_eq_true_eq,decide_eq_true_eq]
theorem KI.k8{k:Kr}(h:KI k){p:Nat}{x:bi}(hp:k.ps[p]? =some x)(dh:x.aV=true){bv cf:Int}(ho:fR k.l bv)(he:(aM k p bv cf).2.2=0):KI (aM k p bv cf).1:=by
 have DJ:aT k.ps p=x.aU:=by rw[aT,hp]
 unfold aM at he⊢;split at he
 .cases he
 rename_i h1;rw[if_neg h1];split at he
 .rename_i h2;exact absurd he h2
 rename_i h2;rw[if_neg h2];have h2:(fL (aT k.ps p) (cY k.ops) cf).2.2=0:=aaB h2;rw[DJ]at h2⊢;obtain⟨c1,c2,c3⟩:=ng h2;have hi:cY k.ops<k.ops.length\/cY k.ops=k.ops.length/\k.ops.length<60:=by
  unfold cY;cases hf:DI k.ops with
  |none=>exact .inr ⟨rfl,Nat.not_le.1 fun a=>h1 ⟨hf,a⟩⟩
  |some i=>exact .inl (Ao hf)
 have Lr:∀o,k.ops[cY k.ops]? =some o->o.bv<0:=fun o hx=>by
  unfold cY at hx;cases hf:DI k.ops with
  |none=>
   rw[hf]at hx;rw[show(none:Option Nat).getD k.ops.length=k.ops.length from rfl,aaG (aaj _)]at hx;cases hx
  |some i=>
   rw[hf]at hx;have:=aaN.1 hf;obtain⟨a1,a2,_⟩:=this;rw[show(some i).getD k.ops.length=i from rfl,aab a1]at hx;cases hx;simpa using a2
 have jU:∀n:Nat,(iR k.ops (cY k.ops) ⟨bv,0⟩)[n]? =if n=cY k.ops then some ⟨bv,0⟩else k.ops[n]? :=fun n=>by
  unfold iR;split
  .rename_i e;rw[e];by_cases hn:n=k.ops.length
   .subst hn;rw[if_pos rfl,aan (aaj _)];simp
   .rw[if_neg hn];rcases aaq n k.ops.length with a|a
    .exact aar a
    .rw[aan a,aaG a];cases e2:n-k.ops.length with
     |zero=>omega
     |succ m=>rfl
  .rename_i e;have aC:cY k.ops<k.ops.length:=om;by_cases hn:n=cY k.ops
   .subst hn;rw[if_pos rfl,aal aC]
   .rw[if_neg hn,aas (fun a=>hn a.symm)]
 have jM:KI ⟨k.l,iR k.ops (cY k.ops) ⟨bv,0⟩,k.ps⟩:=by
  refine h.Wg ?_ (fun n o hx hio=>?_) fun o hx=>?_
  .unfold iR;split
   .rw[aa3];simp;omega
   .rw[aaE];exact h.lo
  .rw[jU];by_cases e:n=cY k.ops
   .subst e;have:=Lr o hx;obtain⟨j,_,e2,_⟩:=hio;omega
   .rw[if_neg e];exact⟨o,hx,hio⟩
  .unfold iR at hx;split at hx
   .rcases abf.1 hx with hx|hx
    .exact h.dm o hx
    .simp at hx;subst hx;exact⟨ab3 _,by show(0:Int)<=64;omega⟩
   .rcases aaI hx with hx|rfl
    .exact h.dm o hx
    .exact⟨ab3 _,by show(0:Int)<=64;omega⟩
 refine jM.dM hp dh (rG (h.sl x (aag hp))) fun s hs hh=>?_
 rcases c3 s hs with hs|rfl
 .exact jM.cap x (aag hp) s hs hh
 .exact⟨tc.1 c1,cY k.ops,⟨bv,0⟩,rfl,by rw[jU,if_pos rfl],ho⟩
theorem KI.exit{k:Kr}(h:KI k){p code:Int}(he:(gJ k p code).2=0):KI (gJ k p code).1:=by
 unfold gJ at he⊢;split at he
 .cases he
 rename_i h1;rw[if_neg h1];split at he
 .cases he
 rename_i h2;rw[if_neg h2];refine h.HH (by rw[aaE];exact h.lp) (by rw[aaE];exact aaj _) fun y hy=>?_
 rcases aaI hy with hy|rfl
 .exact h.Rh hy
 .exact⟨aG,fun _=>rfl,fun s hs=>by cases hs⟩
theorem KI.V9{k:Kr}(h:KI k)(p:Nat):KI ⟨k.l,k.ops,ma k.ps p⟩:=by
 unfold ma;cases hp:k.ps[p]? with
 |none=>exact h
 |some x=>
  refine h.HH (by rw[aaE];exact h.lp) (by rw[aaE];exact aaj _) fun y hy=>?_
  have:=h.Rh (aag hp);rcases aaI hy with hy|rfl
  .exact h.Rh hy
  .exact⟨this.sl,this.bh,this.cap⟩
theorem Gb{l:List Obj}{ps:List bi}(h:¬gw l ps<0):∃c:Nat,gw l ps=c/\c<=ps.length/\c<8/\(c<ps.length->po l ps c=true):=by obtain⟨c,hc⟩:∃c:Nat,gw l ps=c:=⟨(gw l ps).toNat,om⟩;obtain⟨h1,_,h3,h4⟩:=ot l ps 8 0 c hc (aao _);exact⟨c,hc,h1,om,h4⟩
theorem NA{k:Kr}{c:Nat}(hc:c<k.ps.length):PW k (cP c):=⟨CE _,by simp[cP],rfl,rfl,by simp[cP],rfl,rfl,fun h=>by simp[cP]at h,fun _=>⟨c,rfl,hc⟩⟩
theorem td{ps:List bi}{n c:Nat}{x:bi}(hn:ps[n]? =some x)(hc:c<=ps.length):(fU ps n c).length=(if c=ps.length then ps.length+1 else ps.length)/\(fU ps n c)[c]? =some ⟨true,x.fenced,0,x.aU⟩/\(∀i,i≠c->(fU ps n c)[i]? =ps[i]?)/\(∀y,y∈fU ps n c->y∈ps\/y=⟨true,x.fenced,0,x.aU⟩):=by
 unfold fU;rw[hn];simp only[];split
 .rename_i e;subst e;refine⟨aG,by rw[aan (aaj _)];simp,fun i hi=>?_,fun y hy=>by simpa using hy⟩
  rcases aaq i ps.length with a|a
  .exact aar a
  .rw[aan a,aaG a];cases e2:i-ps.length with
   |zero=>omega
   |succ m=>rfl
 .exact⟨aG,aal om,fun i hi=>aas (fun e=>hi e.symm),fun y hy=>aaI hy⟩
structure Wh(k:Kr)(p:Nat)(x:bi)(c:Nat):Prop where
 le:c<=k.ps.length
 c8:c<8
 bh:c<k.ps.length->po k.l k.ps c=true
 ne:p≠c
 em:(aK k.l (cP c)).2.2=0
 eo:(aM ⟨(aK k.l (cP c)).1,k.ops,fU k.ps p c⟩ p (aK k.l (cP c)).2.1 3200).2.2=0
 R:gL k p=((aM ⟨(aK k.l (cP c)).1,k.ops,fU k.ps p c⟩ p (aK k.l (cP c)).2.1 3200).1,(c:Int),(aM ⟨(aK k.l (cP c)).1,k.ops,fU k.ps p c⟩ p (aK k.l (cP c)).2.1 3200).2.1,0)
theorem p5{k:Kr}{p:Nat}{x:bi}(hp:k.ps[p]? =some x)(dh:x.aV=true)(he:(gL k p).2.2.2=0):∃c:Nat,Wh k p x c:=by
 have hl:ek k.ps p=true:=by have gE:=(aac.1 hp).1;refine Pc gE ?_;have:=aab gE;rw[hp]at this;cases this;exact dh
 unfold gL at he;rw[if_neg (by rw[hl];simp)]at he
 split at he
 .cases he
 rename_i hf;obtain⟨c,hc,c1,c2,c3⟩:=Gb hf;rw[hc,aaw,aaw]at he;have hR:gL k p=wg k.l k.ops (fU k.ps p c) p c:=by
  rw[gL,if_neg (by rw[hl];simp),if_neg hf,hc,aaw,aaw]
 unfold wg at he;split at he
 .rename_i h1;exact absurd he h1
 rename_i h1;split at he
 .rename_i h2;exact absurd he h2
 rename_i h2;refine⟨c,c1,c2,c3,fun e=>?_,aaB h1,aaB h2,?_⟩
 .subst e;have:=c3 (aac.1 hp).1;rw[po,hp]at this;simp only[dh]at this;cases this
 .rw[hR,wg,if_neg h1,if_neg h2]
theorem KI.PY{k:Kr}(h:KI k){p:Nat}{x:bi}(hp:k.ps[p]? =some x)(dh:x.aV=true)(he:(gL k p).2.2.2=0):KI (gL k p).1:=by
 obtain⟨c,C⟩:=p5 hp dh he;obtain⟨g1,g2,g3,g4⟩:=td hp C.le;have hx:=h.Rh (aag hp);have h1:KI ⟨k.l,k.ops,fU k.ps p c⟩:=by
  refine h.HH ?_ ?_ fun y hy=>?_
  .rw[g1];have:=C.c8;have:=h.lp;split<;>omega
  .rw[g1];split<;>omega
  .rcases g4 y hy with hy|rfl
   .exact h.Rh hy
   .exact⟨hx.sl,fun hd=>(by cases hd),hx.cap⟩
 have gZ:c<(fU k.ps p c).length:=(aac.1 g2).1;have h2:=h1.make (NA gZ) C.em;obtain⟨j,j1,j2,_⟩:=gd C.em h.ll;rw[C.R];refine h2.k8 (p:=p) (x:=x) (by show(fU k.ps p c)[p]? =some x;rw[g3 p C.ne];exact hp) dh ⟨j,_,j1,j2,by simp[cP]⟩ C.eo
end Kn
namespace Kn
theorem Gc{b:Bool}{l:List Obj}{cL bv:Int}{name:ByteArray}(xG:∀(p:Nat)q,bv=p->l[p]? =some q->q.am=0)(h:(de b l cL name bv).2=0){z:Int}(hz:fR l z):fR (de b l cL name bv).1 z:=by
 obtain⟨n,p,o,q,rfl,rfl,hn,hp,JO,jz,B2,_,_,_,hR⟩:=uf h;have F5:n≠p:=fun e=>by subst e;rw[hn]at hp;cases hp;exact B2 (xG n _ rfl hn)
 obtain⟨g1,g2,g3,g4⟩:=zk hn hp F5 name;rw[hR];refine hz.mono fun j x hx hk=>?_
 by_cases e:j=n
 .subst e;rw[hn]at hx;cases hx;exact⟨_,g1,hk⟩
 .by_cases e2:j=p
  .subst e2;rw[hp]at hx;cases hx;exact⟨_,g2,hk⟩
  .exact⟨x,by rw[g3 j e e2];exact hx,hk⟩
theorem JU{t:bJ.dN}(h:bJ.fD t=true):(bJ.cz t).size<=12:=by unfold bJ.fD at h;simp only[aap,decide_eq_true_eq]at h;rw[bJ.mG];exact h.1.1.1.2
structure JV(o:Obj):Prop where
 n:PC o
 k:o.ah=1\/o.ah=2\/o.ah=3
 q:o.aj=[]
 d:o.data.length<=60
 l:o.am=0
 u:o.up=0
theorem JV.Wi{o:Obj}(h:JV o)(k:Kr):PW k (gy o):=
 ⟨h.n.gy.sm,fun e=>(by have:o.ah=0:=e;have:=h.k;omega),h.n.en,h.q,h.d,h.l,h.u,fun e=>(by have:o.ah=4:=e;have:=h.k;omega),fun e=>(by have:o.ah=5:=e;have:=h.k;omega)⟩
theorem PZ:JV oy:=⟨y9,.inl rfl,rfl,by simp[oy],rfl,rfl⟩
theorem S1:JV FQ:=⟨AO _ _,.inr (.inl rfl),rfl,by simp[FQ],rfl,rfl⟩
theorem P0(d:List Int):JV (wL d):=⟨AO _ _,.inr (.inr rfl),rfl,by simp[wL],rfl,rfl⟩
structure ZY(k:Kr)(f:R4)(o:Obj)(j:Nat):Prop where
 em:(aK k.l (gy o)).2.2=0
 ej:(aK k.l (gy o)).2.1=j
 ee:(AJ (aK k.l (gy o)).1 f j).2=0
 R:cI k f o=(⟨(AJ (aK k.l (gy o)).1 f j).1,k.ops,k.ps⟩,(j:Int),0)
theorem AS{k:Kr}(hl:k.l.length<=40){f:R4}{o:Obj}(he:(cI k f o).2.2=0):∃j:Nat,ZY k f o j:=by
 unfold cI at he;by_cases h1:(aK k.l (gy o)).2.2=0
 .rw[if_neg (by simp[h1])]at he
  obtain⟨j,e1,_⟩:=gd h1 hl;have he:(AJ (aK k.l (gy o)).1 f (aK k.l (gy o)).2.1).2=0:=he;rw[e1]at he;refine⟨j,h1,e1,he,?_⟩;rw[cI,if_neg (by simp[h1]),e1,he,cQ,if_pos rfl]
 .rw[if_pos h1]at he;exact absurd he h1
theorem KI.Gd{k:Kr}(h:KI k){f:R4}{o:Obj}(ho:JV o)(he:(cI k f o).2.2=0):KI (cI k f o).1/\fR (cI k f o).1.l (cI k f o).2.1/\(cI k f o).1.ps=k.ps:=by
 obtain⟨j,C⟩:=AS h.ll he;have h1:=h.make (ho.Wi k) C.em;obtain⟨j',e1,a2,_⟩:=gd C.em h.ll;have:j'=j:=by have:=C.ej;omega
 subst this;have xG:∀(p:Nat)q,((j':Nat):Int)=p->(aK k.l (gy o)).1[p]? =some q->q.am=0:=fun p q e hq=>by have:p=j':=om;subst this;rw[a2]at hq;cases hq;exact ho.l
 rw[C.R];exact⟨h1.enter (fun hb=>JU hb) xG C.ee,Gc xG C.ee ⟨j',_,rfl,a2,(ho.Wi k).kd⟩,rfl⟩
theorem KI.cC{k:Kr}(h:KI k){c:Cl}{f:R4}(hf:f.iL=0->f.bv= -1\/fR k.l f.bv)(he:(cC k c f).2.2=0):KI (cC k c f).1/\fR (cC k c f).1.l (cC k c f).2.1/\(cC k c f).1.ps=k.ps:=by
 unfold Kn.cC at he⊢;split at he
 .rename_i h1;exact absurd he h1
 rename_i h1;rw[if_neg h1];have hf:=hf (aaB h1);split at he
 .rename_i h2;rw[if_pos h2];split at he
  .cases he
  .rename_i h3;rw[if_neg h3];exact h.Gd PZ he
 .rename_i h2;rw[if_neg h2];split at he
  .cases he
  .rename_i h3;rw[if_neg h3];refine⟨h,hf.elim (fun e=>absurd (by show f.bv<0;omega) h2) id,rfl⟩
theorem te{k:Kr}{p:Nat}{bv cf:Int}(he:(aM k p bv cf).2.2=0):(aM k p bv cf).1.ps=dM k.ps p (fL (aT k.ps p) (cY k.ops) cf).1/\(aM k p bv cf).1.l=k.l/\(fL (aT k.ps p) (cY k.ops) cf).2.2=0/\(aM k p bv cf).1.ops=iR k.ops (cY k.ops) ⟨bv,0⟩/\(aM k p bv cf).2.1=(fL (aT k.ps p) (cY k.ops) cf).2.1:=by
 unfold aM at he⊢;split at he
 .cases he
 rename_i h1;rw[if_neg h1];split at he
 .rename_i h2;exact absurd he h2
 rename_i h2;rw[if_neg h2];exact⟨rfl,rfl,aaB h2,rfl,rfl⟩
theorem JW(ps:List bi)(p:Nat)(l:List fH):(dM ps p l).length=ps.length:=by
 unfold dM;split
 .rw[aaE]
 .rfl
theorem wV{ps:List bi}{p:Nat}{x:bi}(hp:ps[p]? =some x)(l:List fH):(dM ps p l)[p]? =some {x with aU:=l}:=by unfold dM;rw[hp];exact aal (aac.1 hp).1
theorem KI.Wj{k:Kr}(h:KI k){z:Int}(hz:fR k.l z):KI ⟨oz k.l z,k.ops,k.ps⟩:=by obtain⟨j,o,rfl,hj,hk⟩:=hz;have hs:=h.sm o (aag hj);rw[oz,aaw,hj];exact h.JC hj ⟨rfl,rfl,rfl,rfl,rfl,rfl⟩ hk ⟨⟨⟨[],rfl⟩,hs.t.2.1,hs.t.2.2⟩,aG,hs.e,hs.q,hs.qd⟩ aG (h.qu o (aag hj))
theorem KI.Dc{k:Kr}(h:KI k){p:Nat}{x:bi}(hp:k.ps[p]? =some x)(dh:x.aV=true){c:Cl}{ax:Int}{aA:Bool}(he:(gV k p c ax aA).2.iL=0):KI (gV k p c ax aA).1:=by
 unfold gV je at he⊢;split at he
 .rename_i h1;exact absurd he h1
 rename_i h1;rw[if_neg h1];obtain⟨g1,g2,g3⟩:=h.cC (h.SZ ax c.cA aA true) (aaB h1);split at he
 .rename_i h2;exact absurd he h2
 rename_i h2;rw[if_neg h2];have h2:=aaB h2;have h3:=g1.k8 (by rw[g3];exact hp) dh g2 h2
 split
 .exact h3.Wj (by rw[(te h2).2.1];exact g2)
 .exact h3
theorem KI.Wk{k:Kr}(h:KI k){p:Nat}{x:bi}(hp:k.ps[p]? =some x)(dh:x.aV=true){c:Cl}(he:(gN k p c).2.iL=0):KI (gN k p c).1:=by
 unfold gN at he⊢;split at he
 .cases he
 rename_i h1;rw[if_neg h1];split at he
 .rename_i h2;rw[if_pos h2];exact h.Dc hp dh he
 rename_i h2;rw[if_neg h2];split at he
 .rename_i h3;exact absurd he h3
 .rename_i h3;rw[if_neg h3];exact h.Dc hp dh he
theorem Ge{k:Kr}{p:Nat}{fd need:Int}(h:(bu k p fd need).2.2=0):∃s,s∈aT k.ps p/\s.has=true/\(bu k p fd need).1=(s.eT,s.cf)/\(bu k p fd need).2.1=lO k.ops s.eT:=by
 unfold bu at h⊢;split at h
 .rename_i h1;exact absurd h h1
 .rename_i h1;rw[if_neg h1];obtain⟨s,hs,hh,e⟩:=wE (aaB h1);exact⟨s,hs,hh,e,by show lO k.ops _=_;rw[e]⟩
theorem KI.bu{k:Kr}(h:KI k){p:Nat}{fd need:Int}(he:(Kn.bu k p fd need).2.2=0):∃(n:Nat)(o:bG)(j:Nat)(x:Obj),(Kn.bu k p fd need).1.1=n/\k.ops[n]? =some o/\(Kn.bu k p fd need).2.1=j/\o.bv=j/\k.l[j]? =some x/\x.ah≠0/\0<=(Kn.bu k p fd need).1.2/\(Kn.bu k p fd need).1.2<=4095:=by
 obtain⟨s,hs,hh,e,e2⟩:=Ge he;obtain⟨hr,n,o,h1,h2,j,x,h3,h4,h5⟩:=h.ew hs hh;refine⟨n,o,j,x,by rw[e];exact h1,h2,?_,h3,h4,h5,by rw[e];exact hr.1,by rw[e];exact hr.2⟩
 rw[e2,h1,lO,aaw,h2];exact h3
theorem HI{a b:Int}(h0:0<=a)(ha:a<=1000)(xO:0<=b)(hb:b<=5000000):AL a b=a+b:=by unfold AL;exact g9 om om
theorem KI.ox{k:Kr}(h:KI k)(z:Int):0<=ox k.ops z/\ox k.ops z<=64:=by
 unfold Kn.ox;cases ho:k.ops[z.toNat]? with
 |none=>exact⟨ab3 _,by show(0:Int)<=64;omega⟩
 |some o=>exact h.dm o (aag ho)
theorem NB{ah:Int}{d:List (List Dt)}{dm n:Int}(h:(jv ah d dm n).2=0):ah=1/\0<=dm/\0<=n/\(jv ah d dm n).1=Jd d dm.toNat n.toNat:=by
 unfold jv at h⊢;split at h
 .cases h
 rename_i h1;split at h
 .cases h
 rename_i h2;split at h
 .cases h
 rename_i h3;rw[if_neg h1,if_neg h2,if_neg h3];exact⟨om,om,om,rfl⟩
theorem P1(d:List (List Dt))(a n:Nat):(Jd d a n).length=fc n (d.length-fc a d.length):=by have h1:=nb a d.length;have h2:=nb n (d.length-fc a d.length);unfold Jd;rw[aa4,aaz];omega
theorem P2{o:Obj}{dm:Int}{b:List Int}(ho:o.sm)(hd:o.data.length<=60)(h:(eR o dm (fM b)).2=0):(eR o dm (fM b)).1.data.length<=60:=by
 obtain⟨_,_,h1,h2,h3,h4⟩:=wI ho h;rw[h4];obtain⟨d,DA⟩:=ho.t.1;show(pu o.data dm.toNat (fM b)).length<=60;rw[DA,FK,show ∀x:List Int,(fM x).length=x.length from fun x=>by simp[fM]]
 have lJ:d.length<=60:=by rw[DA]at hd;simpa[fM]using hd
 have:=HA d b dm.toNat om om;omega
theorem KI.bytes{k:Kr}(h:KI k){p:Nat}{c:Cl}(he:(fZ k p c).2.iL=0):KI (fZ k p c).1:=by
 unfold fZ jg at he⊢;split at he
 .rename_i h1;exact absurd he h1
 rename_i h1;rw[if_neg h1];obtain⟨n,op,j,x,e1,e2,e3,e4,e5,e6,_⟩:=h.bu (aaB h1);have Wl:=aag e5;have QP:nf k.l (Kn.bu k p c.fd (lP c.ah)).2.1=x:=by rw[e3,nf,aaw,e5];rfl
 rw[QP]at he⊢;have IA:=h.ox (Kn.bu k p c.fd (lP c.ah)).1.1;split at he
 .rename_i h4;rw[if_pos h4];unfold sW at he⊢;split at he
  .rename_i h5;exact absurd he h5
  rename_i h5;rw[if_neg h5];obtain⟨_,h6,_,h7⟩:=NB (aaB h5);refine h.Rz _ ?_;rw[h7,P1];have hd:=h.PR x Wl;have m1:=nb (Kn.ox k.ops (Kn.bu k p c.fd (lP c.ah)).1.1).toNat x.data.length;have m2:=nb c.n.toNat (x.data.length-fc (Kn.ox k.ops (Kn.bu k p c.fd (lP c.ah)).1.1).toNat x.data.length);have m3:fc (Kn.ox k.ops (Kn.bu k p c.fd (lP c.ah)).1.1).toNat x.data.length=(Kn.ox k.ops (Kn.bu k p c.fd (lP c.ah)).1.1).toNat\/fc (Kn.ox k.ops (Kn.bu k p c.fd (lP c.ah)).1.1).toNat x.data.length=x.data.length:=by unfold fc;split<;>simp
  rw[HI om om om om];omega
 rename_i h4;rw[if_neg h4];split at he
 .rename_i h5;rw[if_pos h5];unfold oA at he⊢;split at he
  .rename_i h6;exact absurd he h6
  rename_i h6;rw[if_neg h6];have h6:=aaB h6;obtain⟨w1,w2,w3,w4,w5,w6⟩:=wI (h.sm x Wl) h6;have w7:=P2 (h.sm x Wl) (h.PR x Wl) h6;have h2:KI (setObj k (Kn.bu k p c.fd (lP c.ah)).2.1 (eR x (Kn.ox k.ops (Kn.bu k p c.fd (lP c.ah)).1.1) (fM c.data)).1):=by
   rw[e3,setObj,aaw];exact h.JC e5 (by rw[w6];exact⟨rfl,rfl,rfl,rfl,rfl,rfl⟩) e6 w1 w7 (by rw[w6];exact h.qu x Wl)
  refine h2.Rz _ ?_;rw[HI om om om om];omega
 .rename_i h5;rw[if_neg h5];unfold pX at he⊢;split at he
  .cases he
  rename_i h6;rw[if_neg h6];exact h.Rz _ ⟨om,om⟩
theorem tf{l:List fH}{fd:Int}(h:(rC l fd).2=0):∃(i:Nat)(s:fH),fd=i/\l[i]? =some s/\s.has=true/\(rC l fd).1=(s.eT,s.cf)/\Tb.dt (l.map lh) fd=(⟨s.eT,s.cf⟩,0):=by
 unfold rC Tb.dt at h⊢;by_cases h0:0<=fd
 .rw[if_pos h0,aaf]at h⊢;cases hy:l[fd.toNat]? with
  |none=>rw[hy]at h;cases h
  |some t=>
   rw[hy]at h;simp only[aaC]at h⊢;cases hh:t.has with
   |false=>
    have:(lh t).has=false:=hh;rw[this]at h;cases h
   |true=>
    have h2:(lh t).has=true:=hh;refine⟨fd.toNat,t,om,hy,hh,?_,?_⟩
    .rw[h2];rfl
    .rw[h2];rfl
 .rw[if_neg h0]at h;cases h
theorem Dd{l:List fH}{c:Cl}(hl:l.length<=10)(h:(nz l c).2.2=0):(nz l c).1.length<=10/\∀s,s∈(nz l c).1->s.has=true->s∈l\/∃t,t∈l/\t.has=true/\s.eT=t.eT/\0<=s.cf/\s.cf<=4095:=by
 have Oe:∀s:fH,Pd (lh s)=s:=fun s=>rfl
 unfold nz at h⊢;split at h
 .rename_i h7;rw[if_pos h7];unfold wD Tb.m8 at h⊢;split at h
  .rename_i h1;simp only[if_pos h1];refine⟨by simp only[aad,aaz,aaE];omega,fun s hs hh=>?_⟩
   obtain⟨t,ht,rfl⟩:=aay.1 hs;rcases aaI (aa1 ht)with ht|rfl
   .obtain⟨u,hu,rfl⟩:=aay.1 ht;exact .inl hu
   .cases hh
  .rename_i h1;exact absurd h h1
 rename_i h7;rw[if_neg h7];split at h
 .rename_i h8;rw[if_pos h8];unfold M1 Tb.uv at h⊢;split at h
  .rename_i h1;obtain⟨i,t,_,h3,h4,h5,h6⟩:=tf (l:=l) (fd:=c.fd) h1;have e:(Tb.dt (l.map lh) c.fd).1=⟨t.eT,t.cf⟩:=by rw[h6]
   rw[e]at h;simp only[if_pos h1,e];obtain⟨a1,_,a3⟩:=ng (l:=l) (o:=t.eT) (r:=t.cf) h;refine⟨rG (l:=l) (o:=t.eT) (r:=t.cf) hl,fun s hs hh=>?_⟩
   rcases a3 s hs with hs|rfl
   .exact .inl hs
   .exact .inr ⟨t,aag h3,h4,rfl,tc.1 a1⟩
  .rename_i h1;exact absurd h h1
 .rename_i h8;rw[if_neg h8];unfold M2 Tb.Ap at h⊢;split at h
  .rename_i h1;obtain⟨i,t,_,h3,h4,h5,h6⟩:=tf (l:=l) (fd:=c.fd) h1;split at h
   .cases h
   rename_i h2;split at h
   .cases h
   rename_i h9;simp only[if_pos h1,if_neg h2,if_neg h9];have hr:Tb.eQ c.a8=true:=by cases hx:Tb.eQ c.a8 with|true=>rfl|false=>exact absurd hx h2
   refine⟨by simp only[aad,aaE];omega,fun s hs hh=>?_⟩
   obtain⟨u,hu,rfl⟩:=aay.1 hs;rcases aaI hu with hu|rfl
   .obtain⟨v,hv,rfl⟩:=aay.1 hu;exact .inl hv
   .refine .inr ⟨t,aag h3,h4,?_,tc.1 hr⟩;show(Tb.dt (l.map lh) c.fd).1.eT=_;rw[h6]
  .rename_i h1;exact absurd h h1
theorem KI.ZZ{k:Kr}(h:KI k){p:Nat}{x:bi}(hp:k.ps[p]? =some x)(dh:x.aV=true){c:Cl}(he:(oB k p c).2.iL=0):KI (oB k p c).1:=by
 have DJ:aT k.ps p=x.aU:=by rw[aT,hp]
 have he:(nz (aT k.ps p) c).2.2=0:=he;have hx:=h.Rh (aag hp);show KI (fY k p (nz (aT k.ps p) c).1 (nz (aT k.ps p) c).2.2);rw[fY,if_pos he];rw[DJ]at he⊢;obtain⟨h1,h2⟩:=Dd hx.sl he;refine h.dM hp dh h1 fun s hs hh=>?_
 rcases h2 s hs hh with hs|⟨t,ht,hth,e,r⟩
 .exact hx.cap s hs hh
 .obtain⟨_,n,o,a1,a2,a3⟩:=hx.cap t ht hth;exact⟨r,n,o,e.trans a1,a2,a3⟩
theorem KI.name{k:Kr}(h:KI k){p:Nat}{c:Cl}(he:(iE k p c).2.iL=0):KI (iE k p c).1:=by
 have he:(ic k c (Kn.bu k p c.fd (rF c))).2=0:=he;show KI (ic k c (Kn.bu k p c.fd (rF c))).1;unfold ic at he⊢;split at he
 .rename_i h1;exact absurd he h1
 rename_i h1;rw[if_neg h1];split at he
 .rename_i h2;exact absurd he h2.2
 rename_i h2;rw[if_neg h2];unfold nA at he⊢;split at he
 .rename_i h3;exact absurd he h3
 rename_i h3;rw[if_neg h3];split at he
 .cases he
 rename_i h4;rw[if_neg h4];split at he
 .rename_i h5;rw[if_pos h5];split at he
  .cases he
  rename_i h6;rw[if_neg h6];have he:(FS k (iD k (Kn.bu k p c.fd (rF c)).2.1 c.cA true false)).2.2=0:=he;show KI (cQ k _ _);rw[cQ,if_pos he];exact h.F6 he
 rename_i h5;rw[if_neg h5];split at he
 .cases he
 rename_i h6;rw[if_neg h6];split at he
 .rename_i h7;rw[if_pos h7];exact(h.Gd (P0 _) he).1
 .rename_i h7;rw[if_neg h7];exact(h.Gd S1 he).1
theorem KI.lQ{k:Kr}(h:KI k){p:Nat}{x:bi}(hp:k.ps[p]? =some x)(dh:x.aV=true)(he:(lQ k p).2.iL=0):KI (lQ k p).1:=by
 unfold Kn.lQ zf at he⊢;split at he
 .rename_i h1;exact absurd he h1
 rename_i h1;rw[if_neg h1];obtain⟨g1,g2,g3⟩:=h.Ny (aaB h1);unfold ue at he⊢;split at he
 .rename_i h2;exact absurd he h2
 rename_i h2;rw[if_neg h2];have h2:=aaB h2;have o1:=g1.k8 (p:=p) hp dh g2 h2;split at he
 .rename_i h3;exact absurd he h3
 rename_i h3;rw[if_neg h3];have e:=te h2;refine o1.k8 (p:=p) (x:=⟨x.aV,x.fenced,x.code,(fL (aT k.ps p) (cY k.ops) 896).1⟩) (by rw[e.1];exact wV hp _) dh (by rw[e.2.1];exact g3) (aaB h3)
theorem KI.k6{k:Kr}(h:KI k){p:Nat}{c:Cl}(he:(k6 k p c).2.iL=0):KI (k6 k p c).1:=by
 have key:∀r:List Obj×Int,(nB k c r).2.iL=0->r.2=0:=fun r hr=>by
  unfold nB at hr;by_cases h1:r.2=0
  .exact h1
  .rw[if_pos h1]at hr;exact absurd hr h1
 have fS:∀(bv:Int)(m:bw),m.Kk->(m.has=true->fy k m.eT m.cf)->(nB k c (fe k.l bv m)).2.iL=0->KI (nB k c (fe k.l bv m)).1:=fun bv m ht hc hr=>by have h1:=key _ hr;show KI (cQ k _ _);rw[cQ,if_pos h1];exact h.send ht hc h1
 unfold Kn.k6 wN at he⊢;split at he
 .rename_i h1;exact absurd he h1
 rename_i h1;rw[if_neg h1];unfold wM at he⊢;split at he
 .rename_i h2;rw[if_pos h2];split at he
  .rename_i h3;exact absurd he h3
  rename_i h3;rw[if_neg h3];obtain⟨i,s,_,a2,a3,a4,_⟩:=tf (aaB h3);refine fS _ _ ⟨c.data,rfl⟩ (fun _=>?_) he
  show fy k (rC (aT k.ps p) c.gA).1.1 (rC (aT k.ps p) c.gA).1.2;rw[a4];exact h.ew (aag a2) a3
 .rename_i h2;rw[if_neg h2];exact fS _ _ ⟨c.data,rfl⟩ (fun hh=>by cases hh) he
theorem KI.k7{k:Kr}(h:KI k){p:Nat}{x:bi}(hp:k.ps[p]? =some x)(dh:x.aV=true){c:Cl}(he:(k7 k p c).2.iL=0):KI (k7 k p c).1:=by
 unfold Kn.k7 wO at he⊢;split at he
 .rename_i h1;exact absurd he h1
 rename_i h1;rw[if_neg h1];unfold ze at he⊢;split at he
 .rename_i h2;exact absurd he h2
 rename_i h2;rw[if_neg h2];obtain⟨g1,g2⟩:=h.recv (aaB h2);have DJ:aT k.ps p=x.aU:=by rw[aT,hp]
 split at he
 .rename_i h3;rw[if_pos h3];split at he
  .rename_i h4;exact absurd he h4
  rename_i h4;rw[if_neg h4];show KI (cQ (fY k p _ 0) _ 0);rw[cQ,if_pos rfl,fY,if_pos rfl];have h4:=aaB h4;rw[DJ]at h4⊢;obtain⟨a1,_,a3⟩:=ng h4;have hx:=h.Rh (aag hp);refine g1.dM (p:=p) hp dh (rG hx.sl) fun s hs hh=>?_
  rcases a3 s hs with hs|rfl
  .exact g1.cap x (aag hp) s hs hh
  .have hq:fy ⟨(fw k.l (Kn.bu k p c.fd 512).2.1).1,k.ops,k.ps⟩ (fw k.l (Kn.bu k p c.fd 512).2.1).2.1.eT (fw k.l (Kn.bu k p c.fd 512).2.1).2.1.cf:=by
    obtain⟨r,n,o,b1,b2,b3⟩:=g2 h3;refine⟨r,n,o,b1,b2,b3.mono fun j y hy Nv=>?_⟩
    obtain⟨n',o',_,_,_,c2,c3,_,c5,_⟩:=wU (aaB h2);rw[c5];by_cases ej:j=n'
    .subst ej;rw[c2]at hy;cases hy;exact⟨_,aal (aac.1 c2).1,Nv⟩
    .exact⟨y,by rw[aas (fun e=>ej e.symm)];exact hy,Nv⟩
   exact hq
 .rename_i h3;rw[if_neg h3];show KI (cQ k _ 0);rw[cQ,if_pos rfl];exact g1
theorem KI.Wm{k:Kr}(h:KI k){p:Nat}{x:bi}(hp:k.ps[p]? =some x)(dh:x.aV=true){c:Cl}(he:(eS k p c).2.iL=0):KI (eS k p c).1:=by
 have ex:∀e:Kr×Int,(e.2=0->KI e.1)->KI (iF k e).1:=fun e hE=>by
  unfold iF;split
  .rename_i h1;exact hE h1
  .exact h
 unfold eS at he⊢;split at he
 .rename_i h1;rw[if_pos h1];exact h.V9 p
 rename_i h1;rw[if_neg h1];split at he
 .rename_i h2;rw[if_pos h2];exact h
 rename_i h2;rw[if_neg h2];split at he
 .rename_i h3;rw[if_pos h3];unfold nC at he⊢;split at he
  .rename_i h4;exact absurd he h4
  .rename_i h4;rw[if_neg h4];exact h.PY hp dh (aaB h4)
 rename_i h3;rw[if_neg h3];split at he
 .rename_i h4;rw[if_pos h4];exact ex _ fun e=>h.exit e
 .rename_i h4;rw[if_neg h4];generalize Kn.bu k p c.fd (if c.ah=20 then 2048 else 1024)=w
  unfold jG;split
  .exact h
  .unfold s7;split
   .exact h
   .split
    .split<;>exact h
    .exact ex _ fun e=>h.exit e
theorem KI.op{k:Kr}(h:KI k){p:Nat}{x:bi}(hp:k.ps[p]? =some x)(dh:x.aV=true){c:Cl}(he:(gP k p c).2.iL=0):KI (gP k p c).1:=by
 unfold gP at he⊢;split at he
 .rename_i a;rw[if_pos a];exact h.Wk hp dh he
 rename_i a;rw[if_neg a];split at he
 .rename_i a;rw[if_pos a];exact h.bytes he
 rename_i a;rw[if_neg a];split at he
 .rename_i a;rw[if_pos a];exact h.ZZ hp dh he
 rename_i a;rw[if_neg a];split at he
 .rename_i a;rw[if_pos a];exact h
 rename_i a;rw[if_neg a];split at he
 .rename_i a;rw[if_pos a];exact h.name he
 rename_i a;rw[if_neg a];split at he
 .rename_i a;rw[if_pos a];exact h.lQ hp dh he
 rename_i a;rw[if_neg a];split at he
 .rename_i a;rw[if_pos a];exact h.k6 he
 rename_i a;rw[if_neg a];split at he
 .rename_i a;rw[if_pos a];exact h.k7 hp dh he
 rename_i a;rw[if_neg a];exact h.Wm hp dh he
theorem KI.do_{k:Kr}(h:KI k)(prog:List dB)(c:Cl):KI (jj prog k c).1:=by
 unfold jj;split
 .exact h
 rename_i h1;have h1:ek k.ps c.aL=true:=by cases hx:ek k.ps c.aL with|true=>rfl|false=>exact absurd hx h1
 obtain⟨p,hc,hp,dh⟩:=oo h1;split
 .exact h
 split
 .exact h
 rw[hc,aaw];unfold Om;split
 .exact h
 .rename_i he;exact(h.op (aab hp) dh (aaB he)).Rg
theorem KI.Z0{k:Kr}(h:KI k){p:Nat}(hp:p<k.ps.length)(dh:k.ps[p].aV=true)(c:Cl):Np k p c:=by
 have hpx:=aab hp;refine⟨h.kw hp,fun ax aA=>⟨fun he=>?_,fun he=>?_⟩,⟨fun he=>(h.Ny he).1.kr,fun he mO=>?_⟩,h.pr,fun he=>(h.op hpx dh he).kr⟩
 .rcases h.SZ ax c.cA aA true he with e|⟨j,y,e,hj,_⟩
  .rw[e];omega
  .have:=(aac.1 hj).1;rw[e];omega
 .obtain⟨g1,⟨j,y,g2,g3,_⟩,g4⟩:=h.cC (h.SZ ax c.cA aA true) he;exact⟨g1.kr,by rw[g4];exact hp,j,g2,(aac.1 g3).1⟩
 .obtain⟨g1,g2,_⟩:=h.Ny he;have:=g1.k8 (p:=p) hpx dh g2 mO;exact⟨this.kr,by rw[(te mO).1,JW];exact hp⟩
theorem NC(prog:List dB)(k:Kr)(h:KI k)(c:Cl)(hd:c.data.length<=4194304){m:Mem}{K:CV->Mem->Prop}(hK:K (V8 (jj prog k c)) m):
  ar Tryz.prog 21 [rH prog,dJ k.l k.ops k.ps,c.cv] m K:=
 Wa prog k c (fun _ hp _ dh=>h.Z0 hp dh c) hd hK
end Kn
def c19:LF:= ⟨7,[.cell true 2 3],(.seq (.ai [qu 3 (.alloc [(qd 0),(qd 0)])]) (.seq (.ai [qm 4 0,ql 5 1,qu 6 (.build [(qd 0),(qd 0)] [(0,1,4),(1,1,5)]),qw (.store 2 3 6)]) .ret))⟩
def c52:LF:= ⟨9,[.tmp 4],(.seq (.ai [qu 4 (.aD (qb false))]) (.seq (.ai [qm 5 0,qm 6 1,qu 7 (qc 90 [5,6]),qu 8 (.aF .geq 7 (qi 0)),qm 4 8]) .ret))⟩
def c53:LF:= ⟨9,[.tmp 3],(.seq (.ai [qu 2 (.box 0),qu 3 (.aD (qb false))]) (.seq (.ai [qf 4 0 2,ql 5 4,qf 6 0 1,ql 7 6,qu 8 (.aF .eql 5 7),qm 3 8]) .ret))⟩
def c54:LF:= ⟨9,[.tmp 4],(.seq (.ai [qu 4 (.aD (qb false))]) (.seq (.ai [qm 5 0,qm 6 1,qu 7 (qc 91 [5,6]),qu 8 (.aF .geq 7 (qi 0)),qm 4 8]) .ret))⟩
def c55:LF:= ⟨21,[.tmp 2],(.seq (.ai [qu 1 (.box 0),qu 2 (.aD (qb false))]) (.seq (.ai [qf 3 0 1,ql 4 3,qu 5 (.aF .lss 4 (qi 1)),qm 6 5,qg 7 (.bg 0 1) 6 false,qg 8 (.load false 1 7) 6 false,qg 9 (.aF .geq 8 (qi 6)) 6 false,qu 10 (.pick 6 (qb true) 9),qm 11 10,qg 12 (.bg 1 1) 11 false,qg 13 (.load false 1 12) 11 false,qg 14 (.aF .lss 13 (qi 1)) 11 false,qu 15 (.pick 11 (qb true) 14),qm 16 15,qg 17 (.bg 1 1) 16 false,qg 18 (.load false 1 17) 16 false,qg 19 (.aF .geq 18 (qi 2147483648)) 16 false,qu 20 (.pick 16 (qb true) 19),qm 2 20]) .ret))⟩
def c90:LF:= ⟨19,[.tmp 4],(.seq (.ai [qu 4 (.aD (qi 0))]) (.seq (.seq (.ai [qm 6 0,qu 7 (.len 1 6),qu 8 (.aD (qi 0))]) (.block 0 (.loop (.seq (.ai [qu 9 (.aF .lss 8 7)]) (.seq (.cond 9 .skip (.exit 0)) (.seq (.block 1 (.seq (.ai [qm 10 8,qm 5 10]) (.seq (.ai [qm 11 1,qm 12 0,qm 13 5,qu 14 (.bO 2 12 13),qL 15 2 14,qu 16 (.call 11 [15])]) (.cond 16 (.seq (.ai [qm 17 5,qm 4 17]) .ret) .skip)))) (.ai [qu 18 (.aF .add 8 (qi 1)),qm 8 18]))))))) (.seq (.ai [qu 4 (.aD (qi (-1)))]) .ret)))⟩
def c91:LF:= ⟨19,[.tmp 4],(.seq (.ai [qu 4 (.aD (qi 0))]) (.seq (.seq (.ai [qm 6 0,qu 7 (.len 1 6),qu 8 (.aD (qi 0))]) (.block 0 (.loop (.seq (.ai [qu 9 (.aF .lss 8 7)]) (.seq (.cond 9 .skip (.exit 0)) (.seq (.block 1 (.seq (.ai [qm 10 8,qm 5 10]) (.seq (.ai [qm 11 1,qm 12 0,qm 13 5,qu 14 (.bO 2 12 13),qL 15 2 14,qu 16 (.call 11 [15])]) (.cond 16 (.seq (.ai [qm 17 5,qm 4 17]) .ret) .skip)))) (.ai [qu 18 (.aF .add 8 (qi 1)),qm 8 18]))))))) (.seq (.ai [qu 4 (.aD (qi (-1)))]) .ret)))⟩
structure gl where
 w:Int
 bits:Int
def gl.enc(m:gl):List Dt:=[.val (.int .i64 m.w),.val (.int .i64 m.bits)]
def gl.cv(m:gl):CV:= .rv (.agg (m.enc.map .aa))
structure bU where
 call:Int
 aN:List gl
def bU.enc(p:bU):List Dt:=[.val (.int .i64 p.call),.sl 2 (p.aN.map gl.enc)]
def bU.cv(p:bU):CV:= .rv (.agg (p.enc.map .aa))
def HK(l:List gl):CV:= .rv (.one (.aa (.sl 2 (l.map gl.enc))))
def cS(l:List bU):CV:= .rv (.one (.aa (.sl 2 (l.map bU.enc))))
def Gf:CV:= .rv (.one (.ptr 0 0))
theorem l52:bs Tryz.prog Tryz.f52=some c52:=by kernel_rfl
theorem l53:bs Tryz.prog Tryz.f53=some c53:=by kernel_rfl
theorem l54:bs Tryz.prog Tryz.f54=some c54:=by kernel_rfl
theorem l55:bs Tryz.prog Tryz.f55=some c55:=by kernel_rfl
theorem l19:bs Tryz.prog Tryz.f19=some c19:=by kernel_rfl
theorem l90:bs Tryz.prog Tryz.f90=some c90:=by kernel_rfl
theorem l91:bs Tryz.prog Tryz.f91=some c91:=by kernel_rfl
theorem De(l:List bU)(hb:l.length<=4194304)(F:Nat)(cs:List Dt)(q:bU->Bool)(hF:∀s,s∈l->∀K:CV->Mem->Prop,K (ay (q s)) [.var (cs.map .aa)]->ar Tryz.prog F [s.cv,Gf] [.var (cs.map .aa)] K):body Tryz.prog c90 [cS l,(.rv (.one (.fn F [0])))] [.var (cs.map .aa)] (fun r m=>r=an .i64 (nJ q l)/\∃ex,m= .var (cs.map .aa)::ex):=by
 refine aO (fun k=>k<=l.length/\∀(j:Nat)s,j<k->l[j]? =some s->q s=false) [0,1,7] (fun k=>[(8,an .i64 (k:Nat))]) (fun _=>[.var (cs.map .aa)]) (fun k=>l.length-k) 0 ⟨aao _,fun j s h=>absurd h (aaL j)⟩ ?_ (fun k hk=>?_)
 .refine View.o1 1 [0] [] ?_
  .exact .put (by simp[bq]) rfl (.fK rfl) (.nil _)
 .refine aB (fun h=>?_) (fun h=>?_)
  .have aC:k<l.length:=by have h:(k:Int)<((l.map bU.enc).length:Int):=h;rw[aad]at h;omega
   have hg:cy (l.map bU.enc) (k:Nat)=some (l[k].enc):=by rw[bl,aaf,aab aC];rfl
   refine ag hg ?_;refine hF l[k] (aau aC) _ ?_;refine aE (fun h=>?_) (fun h=>?_)
   .rw[kP aC h hk.2];exact⟨rfl,[],rfl⟩
   .refine⟨k+1,⟨aC,fun j s hj hs=>?_⟩,(show l.length-(k+1)<l.length-k by omega),View.o 1 [0] [] ?_ ?_⟩
    .rcases aaq j k with h5|h5
     .exact hk.2 j s h5 hs
     .have:j=k:=om;subst this;rw[aab aC]at hs;cases hs;exact h
    .repeat(first|exact .nil|refine .ap ?_|refine .put (.aQ (aq om).symm) ?_|refine .eq rfl ?_)
    .exact .put (by simp[bq]) rfl (.fK rfl) (.nil _)
  .have ei:¬(k:Int)<((l.map bU.enc).length:Int):=h;rw[aad]at ei;rw[mC fun j s hs=>hk.2 j s (by have:=(aac.1 hs).1;omega) hs]
   exact⟨rfl,[],rfl⟩
theorem JX(l:List bU)(hb:l.length<=4194304)(F:Nat)(cs:List Dt)(q:bU->Bool)(hF:∀s,s∈l->∀K:CV->Mem->Prop,K (ay (q s)) [.var (cs.map .aa)]->ar Tryz.prog F [s.cv,Gf] [.var (cs.map .aa)] K){K:CV->Mem->Prop}(h:K (an .i64 (nJ q l)) [.var (cs.map .aa)]):ar Tryz.prog 90 [cS l,(.rv (.one (.fn F [0])))] [.var (cs.map .aa)] K:=
 eJ rfl (aZ Tryz.func90 l90 (De l hb F cs q hF)) h
theorem JY(l:List bU)(hb:l.length<=4194304)(F:Nat)(cs:List Dt)(q:bU->Bool)(hF:∀s,s∈l->∀K:CV->Mem->Prop,K (ay (q s)) [.var (cs.map .aa)]->ar Tryz.prog F [s.cv,Gf] [.var (cs.map .aa)] K)(K:CV->Mem->Prop)(h:K (ay (l.any q)) [.var (cs.map .aa)]):ar Tryz.prog 52 [cS l,(.rv (.one (.fn F [0])))] [.var (cs.map .aa)] K:=by
 refine eJ rfl (aZ Tryz.func52 l52 (show body Tryz.prog c52 [cS l,(.rv (.one (.fn F [0])))] [.var (cs.map .aa)] (fun r m=>r=ay (l.any q)/\∃ex,m= .var (cs.map .aa)::ex)from ?_)) h
 refine JX l hb F cs q hF ?_;rw[<-rh];exact⟨rfl,[],rfl⟩
theorem AT(l:List gl)(hb:l.length<=4194304)(F:Nat)(q:gl->Bool)(hF:∀s,s∈l->∀K:CV->Mem->Prop,K (ay (q s)) []->ar Tryz.prog F [s.cv] [] K):body Tryz.prog c91 [HK l,(.rv (.one (.fn F [])))] [] (fun r m=>r=an .i64 (nJ q l)):=by
 refine aO (fun k=>k<=l.length/\∀(j:Nat)s,j<k->l[j]? =some s->q s=false) [0,1,7] (fun k=>[(8,an .i64 (k:Nat))]) (fun _=>[]) (fun k=>l.length-k) 0 ⟨aao _,fun j s h=>absurd h (aaL j)⟩ ?_ (fun k hk=>?_)
 .refine View.o1 0 [] [] ?_
  .exact .nil _
 .refine aB (fun h=>?_) (fun h=>?_)
  .have aC:k<l.length:=by have h:(k:Int)<((l.map gl.enc).length:Int):=h;rw[aad]at h;omega
   have hg:cy (l.map gl.enc) (k:Nat)=some (l[k].enc):=by rw[bl,aaf,aab aC];rfl
   refine ag hg ?_;refine hF l[k] (aau aC) _ ?_;refine aE (fun h=>?_) (fun h=>?_)
   .rw[kP aC h hk.2];exact rfl
   .refine⟨k+1,⟨aC,fun j s hj hs=>?_⟩,(show l.length-(k+1)<l.length-k by omega),View.o 0 [] [] ?_ ?_⟩
    .rcases aaq j k with h5|h5
     .exact hk.2 j s h5 hs
     .have:j=k:=om;subst this;rw[aab aC]at hs;cases hs;exact h
    .repeat(first|exact .nil|refine .ap ?_|refine .put (.aQ (aq om).symm) ?_|refine .eq rfl ?_)
    .exact .nil _
  .have ei:¬(k:Int)<((l.map gl.enc).length:Int):=h;rw[aad]at ei;rw[mC fun j s hs=>hk.2 j s (by have:=(aac.1 hs).1;omega) hs]
   exact rfl
theorem Gg(l:List gl)(hb:l.length<=4194304)(F:Nat)(q:gl->Bool)(hF:∀s,s∈l->∀K:CV->Mem->Prop,K (ay (q s)) []->ar Tryz.prog F [s.cv] [] K){m:Mem}{K:CV->Mem->Prop}(h:K (an .i64 (nJ q l)) m):ar Tryz.prog 91 [HK l,(.rv (.one (.fn F [])))] m K:=
 bm Tryz.func91 l91 rfl (aak rfl) (AT l hb F q hF) rfl rfl h
theorem JZ(l:List gl)(hb:l.length<=4194304)(F:Nat)(q:gl->Bool)(hF:∀s,s∈l->∀K:CV->Mem->Prop,K (ay (q s)) []->ar Tryz.prog F [s.cv] [] K){m:Mem}{K:CV->Mem->Prop}(h:K (ay (l.any q)) m):ar Tryz.prog 54 [HK l,(.rv (.one (.fn F [])))] m K:=by
 refine bm Tryz.func54 l54 rfl (aak rfl) (show body Tryz.prog c54 [HK l,(.rv (.one (.fn F [])))] [] (fun r m=>r=ay (l.any q))from ?_) rfl rfl h
 refine Gg l hb F q hF ?_;rw[<-rh];exact rfl
def jI(m:gl):Bool:=decide (m.w<1)||decide (m.w>=6)||decide (m.bits<1)||decide (m.bits>=2147483648)
theorem Wn(p s:bU)(K:CV->Mem->Prop)(h:K (ay (s.call==p.call)) [.var (p.enc.map .aa)]):ar Tryz.prog 53 [s.cv,Gf] [.var (p.enc.map .aa)] K:=
 eJ rfl (aZ Tryz.func53 l53 (show body Tryz.prog c53 [s.cv,Gf] [.var (p.enc.map .aa)] (fun r m=>r=ay (s.call==p.call)/\∃ex,m= .var (p.enc.map .aa)::ex)from⟨rfl,_,rfl⟩)) h
theorem S2(s:gl):body Tryz.prog c55 [s.cv] [] (fun r m=>r=ay (jI s)):=by
 refine aE (fun h=>?_) (fun h=>?_)
 .rw[jI,h];exact rfl
 refine aE (fun h2=>?_) (fun h2=>?_)
 .rw[jI,h,h2];exact rfl
 refine aE (fun h3=>?_) (fun h3=>?_)
 .rw[jI,h,h2,h3];exact rfl
 .rw[jI,h,h2,h3];exact rfl
theorem Wo(s:gl)(K:CV->Mem->Prop)(h:K (ay (jI s)) []):ar Tryz.prog 55 [s.cv] [] K:=
 bm Tryz.func55 l55 rfl (aak rfl) (S2 s) rfl rfl h
theorem Wp(e k:Int)(K:CV->Mem->Prop)(h:K (nL (e,k)) [.var ([Dt.val (.int .i64 k)].map .aa)]):ar Tryz.prog 19 [an .i64 e,Gf] [.var ([Dt.val (.int .i64 k)].map .aa)] K:=
 eJ rfl (aZ Tryz.func19 l19 (show body Tryz.prog c19 [an .i64 e,Gf] [.var ([Dt.val (.int .i64 k)].map .aa)] (fun r m=>r=nL (e,k)/\∃ex,m= .var ([Dt.val (.int .i64 k)].map .aa)::ex)from⟨rfl,_,rfl⟩)) h
def DN(r:oC)(m:gl):Bool:=Nl (r.get m.w.toNat) m.bits !=0
end Go.Proofs.YtojhmadmlnfpcaaGreatDoor
