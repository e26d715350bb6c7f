/- Part 46 of 43: what the law stands on. -/
import Derived.Test.YtojhmadmlnfpcaaGreatDoorK16
import Derived.Test.YtojhmadmlnfpcaaGreatDoorK44
set_option linter.unusedVariables false
set_option linter.unusedSimpArgs false
set_option linter.unnecessarySimpa false
set_option maxRecDepth 100000
set_option maxHeartbeats 64000000
namespace Go.Proofs.YtojhmadmlnfpcaaGreatDoor
open Go.AM Go.ChangeShapes Go.WideShapes Go.ChangeAt Go.RowKit
namespace Kn
def Kt(k:Kr):Prop:=i9 k=k
theorem KI.Mb{k:Kr}(h:KI k):Kt (i9 k):=by obtain⟨a,c,h1,h2,h3⟩:=(hC h.kr).ex;obtain⟨b,hb⟩:=h2.left;obtain⟨a2,c2,g1,g2,g3⟩:=(hC h.Rg.kr).ex;exact h3.Mb hb g1 g2 g3
theorem HV{k:Kr}(h:KI k):∃(y:Kr)(en:Bool),cU k.l k.ops k.ps y.l y.ops y.ps en:=by
 obtain⟨a,c,h1,h2,h3⟩:=(hC h.kr).ex;rcases Ag h1 with rfl|⟨x,hx,_⟩
 .exact⟨c,_,h2⟩
 .exact⟨x,_,hx⟩
theorem Kt.left{k:Kr}(hs:Kt k)(h:KI k):∃b,Left k b:=by obtain⟨a,c,h1,h2,h3⟩:=(hC h.kr).ex;unfold Kt at hs;rw[hs]at h3;obtain⟨b,hb⟩:=h2.left;obtain⟨y,en,hy⟩:=HV h;obtain⟨e1,e2,e3,rfl⟩:=h3.IW hb hy;rw[e1,e2,e3]at hy;exact hy.left
theorem KI.WA{x:Kr}(h:KI x)(hm:∀b,gq x.l x.ops x.ps b->(∀(i:Nat)o,x.l[i]? =some o->o.ah≠0->dv b.O i)/\(∀(i:Nat)o,x.ops[i]? =some o->¬dv b.P i->o=⟨-1,0⟩))(he:∀(t:Nat)y,x.ps[t]? =some y->ik x.l t y=false):i9 x=O9 x:=by
 obtain⟨y,en,hy⟩:=HV h;have hid:y.l=x.l/\y.ops=x.ops/\y.ps=x.ps/\en=false:=by
  obtain⟨bd,O5,YP,Bs⟩:=hy.ex;obtain⟨m1,m2⟩:=hm bd O5;have kT:∀i,eK bd x.l i=false:=fun i=>by
   unfold eK;cases hi:x.l[i]? with
   |none=>rfl
   |some o=>
    by_cases hk:o.ah=0
    .simp[hk]
    .have:bd.O[i]? =some true:=m1 i o hi hk;simp[this]
  have hL:y.l=x.l:=YP.id fun t o _=>by
   unfold cu;rw[kT t];have:lM bd x.l x.l.length o.aJ=false:=by unfold lM;rw[kT];simp
   rw[this];simp
  have uu:=hy.pr;have pk:=hy.en;rw[hL]at uu pk;refine⟨hL,Bs.id fun t o ho=>?_,uu.id fun t o ho=>?_,?_⟩
  .unfold Br;split
   .rename_i hh;have hn:¬dv bd.P t:=by intro L9;have L9:bd.P[t]? =some true:=L9;simp[L9]at hh
    exact(m2 t o ho hn).symm
   .rfl
  .simp[xI,he t o ho]
  .rw[pk];cases mO:iP x.l x.ps x.ps.length with
   |false=>rfl
   |true=>
    unfold iP at mO;rw[aaM]at mO;obtain⟨t,ht,Ae⟩:=mO;have Oj:t<x.ps.length:=by simpa using ht
    rw[aab Oj]at Ae;have Ae:ik x.l t x.ps[t]=true:=Ae;rw[he t _ (aab Oj)]at Ae;cases Ae
 obtain⟨e1,e2,e3,rfl⟩:=hid;rw[e1,e2,e3]at hy;exact IX.zM (hC h.kr) ⟨x,x,.refl,hy,E4 x⟩
theorem NX{x:Kr}{t:Nat}{y:bi}(hy:x.ps[t]? =some y)(hl:y.aV=true):(O9 x).ps[t]? =some y:=by
 obtain⟨n1,n2,n3,P,t1,t2,hP,t3,e⟩:=(E4 x).ex;rw[e];have yY:P[t]? =some y:=by rw[hP.2 t y hy];unfold rS qZ;simp[hl]
 show(P.take n3)[t]? =some y;rcases aaq t n3 with a|a
 .rw[abj a];exact yY
 .have:=t3.t.dr t y a yY;unfold qR at this;simp[hl]at this
structure Ext(k x:Kr):Prop where
 o:∀(i:Nat)o,k.l[i]? =some o->o.ah≠0->∃o':Obj,x.l[i]? =some o'/\o'.ah=o.ah/\o'.aL=o.aL/\(∀z,sE o z->sE o' z)/\(∀z,sQ o z->sQ o' z)
 p:∀(c:Nat)o,k.ops[c]? =some o->0<=o.bv->∃o':bG,x.ops[c]? =some o'/\o'.bv=o.bv
 s:∀(t:Nat)y,k.ps[t]? =some y->y.aV=true->∃y':bi,x.ps[t]? =some y'/\y'.aV=true/\∀s,s∈y.aU->s.has=true->s∈y'.aU
theorem Ext.vO{k x:Kr}(e:Ext k x){z:Int}{n:Nat}(h:_root_.Go.Proofs.YtojhmadmlnfpcaaGreatDoor.vO k.l z n):_root_.Go.Proofs.YtojhmadmlnfpcaaGreatDoor.vO x.l z n:=by
 obtain⟨rfl,o,ho,hk⟩:=h;obtain⟨o',h1,h2,-⟩:=e.o n o ho hk;exact⟨rfl,o',h1,by rw[h2];exact hk⟩
theorem Ext.Ma{k x:Kr}(e:Ext k x)(hk:KI k){b b2:Mk}(hb:gq k.l k.ops k.ps b)(hx:gq x.l x.ops x.ps b2):
  (∀i,dv b.O i->dv b2.O i)/\∀(c:Nat),dv b.P c->∀o,k.ops[c]? =some o->0<=o.bv->dv b2.P c:=by
 have hvP:∀(c:Nat)o,k.ops[c]? =some o->0<=o.bv->∀z:Int,z=c->vP x.ops z c:=fun c o ho h0 z hz=>by obtain⟨o',h1,_⟩:=e.p c o ho h0;exact⟨hz,(aac.1 h1).1⟩
 have iV:=hb.nw (fun i=>dv b2.O i) (fun c=>∀o,k.ops[c]? =some o->0<=o.bv->dv b2.P c) ⟨fun i o hi ho z n hz hv=>?_,fun i o hi ho z c hz hv o1 Te h0=>?_,fun c o hc ho n hv=>?_⟩
  ⟨fun n hv=>hx.nv.1 n (e.vO hv),fun p pr hp dh s hs hh c hv o1 Te h0=>?_⟩
 .exact⟨iV.1,iV.2⟩
 .have h0:o.ah≠0:=fun h0=>by rw[hk.z o (aag ho) h0]at hz;obtain⟨nm,N9⟩:=hz;simp[gH]at N9
  obtain⟨o',h1,-,-,h4,-⟩:=e.o i o ho h0;exact hx.cl.e i o' hi h1 z n (h4 z hz) (e.vO hv)
 .have G1:o.ah≠0:=fun h0=>by rw[hk.z o (aag ho) h0]at hz;obtain⟨q,hq,-⟩:=hz;simp[gH]at hq
  obtain⟨o',h1,-,-,-,h5⟩:=e.o i o ho G1;exact hx.cl.q i o' hi h1 z c (h5 z hz) (hvP c o1 Te h0 z hv.1)
 .have h0:0<=o.bv:=by have:=hv.1;omega
  obtain⟨o',h1,h2⟩:=e.p c o ho h0;exact hx.cl.p c o' (hc o ho h0) h1 n (by rw[h2];exact e.vO hv)
 .obtain⟨y',h1,h2,h3⟩:=e.s p pr hp dh;exact hx.nv.2 p y' h1 h2 s (h3 s hs hh) hh c (hvP c o1 Te h0 _ hv.1)
theorem NY{l:List fH}{o r:Int}(h:(fL l o r).2.2=0):(⟨true,o,r⟩:fH)∈(fL l o r).1/\∀s,s∈l->s.has=true->s∈(fL l o r).1:=by
 unfold fL at h⊢;simp only[]at h⊢;unfold Tb.iz at h⊢;split at h
 .cases h
 rename_i h1;rw[if_neg h1];split
 .rename_i k hk;obtain⟨a1,a2,a3⟩:=aaN.1 hk;refine⟨aay.2 ⟨⟨true,⟨o,r⟩⟩,List.mem_set a1 _,rfl⟩,fun s hs hh=>?_⟩
  refine aay.2 ⟨lh s,?_,rfl⟩;obtain⟨i,hi⟩:=aam (acA (f:=lh) hs);refine aag (i:=i) ?_;rw[aas fun e=>?_]
  .exact hi
  .subst e;rw[aab a1]at hi;rw[abo hi]at a2;simp[lh,hh]at a2
 .rename_i hk;rw[hk]at h;simp only[]at h;split at h
  .cases h
  rename_i h2;rw[if_neg h2];refine⟨aay.2 ⟨⟨true,⟨o,r⟩⟩,aG,rfl⟩,fun s hs hh=>aay.2 ⟨lh s,?_,rfl⟩⟩
  exact List.mem_append_left _ (acA hs)
structure WB(k:Kr)(p:Nat)(x:bi)(bv cf:Int)(R:Kr)(i:Nat)(S:List fH):Prop where
 l:R.l=k.l
 o:∀m:Nat,R.ops[m]? =if m=i then some ⟨bv,0⟩else k.ops[m]?
 KJ:∀o,k.ops[i]? =some o->o.bv<0
 ps:R.ps=dM k.ps p S
 new:(⟨true,i,cf⟩:fH)∈S
 old:∀s,s∈x.aU->s.has=true->s∈S
 all:∀s,s∈S->s∈x.aU\/s=⟨true,i,cf⟩
theorem Ba{k:Kr}{p:Nat}{x:bi}(hp:k.ps[p]? =some x){bv cf:Int}(he:(aM k p bv cf).2.2=0):∃i S,WB k p x bv cf (aM k p bv cf).1 i S:=by
 have DJ:aT k.ps p=x.aU:=by rw[aT,hp]
 unfold aM at he⊢;split at he
 .cases he
 rename_i h1;rw[if_neg h1];split at he
 .rename_i h2;exact absurd he h2
 rename_i h2;rw[if_neg h2];have h2:(fL (aT k.ps p) (cY k.ops) cf).2.2=0:=aaB h2;rw[DJ]at h2⊢;obtain⟨c1,c2,c3⟩:=ng h2;obtain⟨d1,d2⟩:=NY h2;refine⟨cY k.ops,(fL x.aU (cY k.ops) cf).1,rfl,fun n=>?_,fun o hx=>?_,rfl,d1,d2,c3⟩
 .show(iR k.ops (cY k.ops) ⟨bv,0⟩)[n]? =_;unfold iR;split
  .rename_i e;rw[e];by_cases hn:n=k.ops.length
   .subst hn;rw[if_pos rfl,aan (aaj _)];simp
   .rw[if_neg hn];rcases aaq n k.ops.length with a|a
    .exact aar a
    .rw[aan a,aaG a];cases e2:n-k.ops.length with
     |zero=>omega
     |succ m=>rfl
  .rename_i e;have hi:cY k.ops<k.ops.length\/cY k.ops=k.ops.length:=by
    unfold cY;cases hf:DI k.ops with
    |none=>exact .inr rfl
    |some i=>exact .inl (Ao hf)
   have aC:cY k.ops<k.ops.length:=om;by_cases hn:n=cY k.ops
   .subst hn;rw[if_pos rfl,aal aC]
   .rw[if_neg hn,aas (fun a=>hn a.symm)]
 .unfold cY at hx;cases hf:DI k.ops with
  |none=>
   rw[hf]at hx;rw[show(none:Option Nat).getD k.ops.length=k.ops.length from rfl,aaG (aaj _)]at hx;cases hx
  |some i=>
   rw[hf]at hx;obtain⟨a1,a2,_⟩:=aaN.1 hf;rw[show(some i).getD k.ops.length=i from rfl,aab a1]at hx;cases hx;simpa using a2
theorem xw{ps:List bi}{p t:Nat}(h:t≠p)(l:List fH):(dM ps p l)[t]? =ps[t]? :=by
 unfold dM;split
 .exact aas fun e=>h e.symm
 .rfl
theorem KI.WC{k:Kr}(h:KI k){b:Mk}(hb:gq k.l k.ops k.ps b){c:Nat}(hc:dv b.P c){o:bG}(ho:k.ops[c]? =some o):0<=o.bv:=by
 have cap:∀(z r:Int),fy k z r->∀c,vP k.ops z c->∀o,k.ops[c]? =some o->0<=o.bv:=fun z r hz c hv o ho=>by obtain⟨-,n,o',rfl,h1,j,x,h2,-⟩:=hz;have e:(n:Int)=c:=hv.1;have:n=c:=om;subst this;rw[h1]at ho;cases ho;omega
 have iV:=hb.nw (fun _=>True) (fun c=>∀o,k.ops[c]? =some o->0<=o.bv) ⟨fun _ _ _ _ _ _ _ _=>trivial,fun i o _ ho z c hz hv=>?_,fun _ _ _ _ _ _=>trivial⟩ ⟨fun _ _=>trivial,fun p pr hp dh s hs hh c hv=>?_⟩
 .exact iV.2 c hc o ho
 .obtain⟨q,hq,hh,rfl⟩:=hz;exact cap _ _ (h.qu o (aag ho) q hq hh) c hv
 .exact cap _ _ (h.cap pr (aag hp) s hs hh) c hv
theorem Gy{k:Kr}(h:KI k)(hs:Kt k){p:Nat}{x:bi}(hp:k.ps[p]? =some x)(dh:x.aV=true)(he:(gL k p).2.2.2=0):
  ∃c:Nat,(gL k p).2.1=c/\c≠p/\(i9 (gL k p).1).ps[c]? =some ⟨true,x.fenced,0,x.aU⟩:=by
 have hK:=h.PY hp dh he;obtain⟨c,C⟩:=p5 hp dh he;obtain⟨g1,g2,g3,g4⟩:=td hp C.le;obtain⟨j,j1,j2,j3,j4,-,-⟩:=gd C.em h.ll;have N8:(fU k.ps p c)[p]? =some x:=by rw[g3 p C.ne];exact hp
 obtain⟨i,S,O⟩:=Ba (k:=⟨(aK k.l (cP c)).1,k.ops,fU k.ps p c⟩) N8 C.eo;have kT:∀y,k.ps[c]? =some y->y.aV=false:=fun y hy=>by have:=C.bh (aac.1 hy).1;unfold po at this;rw[hy]at this;have this:(!y.aV&& !(k.l.any (dL (c:Nat))))=true:=this;rw[aap]at this;simpa using this.1
 rw[C.R]at hK;rw[C.R];refine⟨c,rfl,C.ne.symm,?_⟩;generalize (aM ⟨(aK k.l (cP c)).1,k.ops,fU k.ps p c⟩ p (aK k.l (cP c)).2.1 3200).1=R at O hK;have hK:KI R:=hK;have el:R.l=(aK k.l (cP c)).1:=O.l;have eo:∀m:Nat,R.ops[m]? =if m=i then some ⟨(aK k.l (cP c)).2.1,0⟩else k.ops[m]? :=O.o
 have ep:R.ps=dM (fU k.ps p c) p S:=O.ps;have hRc:R.ps[c]? =some ⟨true,x.fenced,0,x.aU⟩:=by rw[ep,xw C.ne.symm];exact g2
 have hRp:R.ps[p]? =some {x with aU:=S}:=by rw[ep];exact wV N8 S
 have hRt:∀t:Nat,t≠c->t≠p->R.ps[t]? =k.ps[t]? :=fun t h1 h2=>by rw[ep,xw h2,g3 t h1]
 have TB:∀(i:Nat)(o:Obj),k.l[i]? =some o->o.ah≠0->R.l[i]? =some o:=fun i o ho hk=>by
  rw[el,j3 i fun e=>?_]
  .exact ho
  .subst e;exact hk (j4 o ho)
 have E:Ext k R:=by
  refine⟨fun i o ho hk=>⟨o,TB i o ho hk,rfl,rfl,fun _ h=>h,fun _ h=>h⟩,fun m o ho h0=>?_,fun t y hy hl=>?_⟩
  .refine⟨o,?_,rfl⟩;rw[eo,if_neg fun e=>?_]
   .exact ho
   .subst e;have:=O.KJ o ho;omega
  .by_cases e:t=p
   .subst e;rw[hp]at hy;cases hy;exact⟨_,hRp,hl,O.old⟩
   .refine⟨y,?_,hl,fun s hs _=>hs⟩
    rw[hRt t (fun e2=>?_) e]
    .exact hy
    .subst e2;rw[kT y hy]at hl;cases hl
 obtain⟨b,hb⟩:=hs.left h;have yp:=hK.WA (fun b2 jD=>?_) (fun t y hy=>?_)
 .rw[yp];exact NX hRc rfl
 .obtain⟨m1,m2⟩:=E.Ma h hb.ok jD;have hi:dv b2.P i:=jD.nv.2 p _ hRp dh ⟨true,i,3200⟩ O.new rfl i ⟨rfl,by have:=eo i;rw[if_pos rfl]at this;exact(aac.1 this).1⟩
  have hj:dv b2.O j:=jD.cl.p i ⟨(aK k.l (cP c)).2.1,0⟩ hi (by rw[eo,if_pos rfl]) j ⟨j1,cP c,by rw[el];exact j2,by simp[cP]⟩
  refine⟨fun n o ho hk=>?_,fun n o ho hn=>?_⟩
  .by_cases e:n=j
   .subst e;exact hj
   .rw[el,j3 n e]at ho;exact m1 n (hb.all n o ho hk)
  .have e:n≠i:=fun e=>hn (e▸hi)
   rw[eo,if_neg e]at ho;by_cases Qs:dv b.P n
   .exact absurd (m2 n Qs o ho (h.WC hb.ok Qs ho)) hn
   .exact hb.ops n o ho Qs
 .cases Xe:y.aV with
  |false=>simp[ik,Xe]
  |true=>
   by_cases h0:t=0
   .subst h0;simp[ik]
   have held:∃o,o∈R.l/\dL (t:Int) o=true:=by
    by_cases e:t=c
    .subst e;exact⟨cP t,aag (by rw[el];exact j2),by simp[dL,cP]⟩
    .have El:∃y',k.ps[t]? =some y'/\y'.aV=true:=by
      by_cases e2:t=p
      .subst e2;exact⟨x,hp,dh⟩
      .rw[hRt t e e2]at hy;exact⟨y,hy,Xe⟩
     obtain⟨y',SV,Ei⟩:=El;have:=hb.prs t y' SV;unfold ik at this;simp only[Ei,ack,abW,decide_eq_false_iff_not,Bool.not_eq_false',aaM]at this;rcases this with h3|⟨o,ho,hh⟩
     .omega
     .obtain⟨n,hn⟩:=aam ho;exact⟨o,aag (TB n o hn (v7 hh)),hh⟩
   have ha:(R.l.any (dL (t:Int)))=true:=by rw[aaM];exact held
   unfold ik;rw[ha];simp
end Kn
namespace Kn
def PE(a b:List bi):Prop:=∀(t:Nat)y,b[t]? =some y->∃x,a[t]? =some x/\x.aV=y.aV/\x.fenced=y.fenced
def PF(a b:List bi):Prop:=∀(t:Nat)x y,a[t]? =some x->b[t]? =some y->x.aV=true->x.fenced=true->y.aV=true->y.fenced=true
theorem PE.refl(a:List bi):PE a a:=fun _ y h=>⟨y,h,rfl,rfl⟩
theorem PE.nil(a:List bi):PE a []:=fun _ y h=>by simp at h
theorem PE.trans{a b c:List bi}(h:PE a b)(g:PE b c):PE a c:=fun t z hz=>by obtain⟨y,hy,e1,e2⟩:=g t z hz;obtain⟨x,hx,f1,f2⟩:=h t y hy;exact⟨x,hx,f1.trans e1,f2.trans e2⟩
theorem PE.pf{a b:List bi}(h:PE a b):PF a b:=fun t x y hx hy _ hf _=>by obtain⟨x',rQ,_,e⟩:=h t y hy;rw[hx]at rQ;cases rQ;rw[<-e];exact hf
theorem PE.dM(ps:List bi)(p:Nat)(l:List fH):PE ps (Go.Proofs.YtojhmadmlnfpcaaGreatDoor.dM ps p l):=fun t y hy=>by
 by_cases e:t=p
 .subst e;cases hx:ps[t]? with
  |none=>unfold Go.Proofs.YtojhmadmlnfpcaaGreatDoor.dM at hy;rw[hx]at hy;rw[show ps[t]? =some y from hy]at hx;cases hx
  |some x=>rw[wV hx]at hy;cases hy;exact⟨x,rfl,rfl,rfl⟩
 .rw[xw e]at hy;exact⟨y,hy,rfl,rfl⟩
theorem PE.k8(k:Kr)(p:Nat)(o r:Int):PE k.ps (aM k p o r).1.ps:=by
 unfold aM;split
 .exact .nil _
 split
 .exact .nil _
 .exact .dM _ _ _
theorem PE.fY(k:Kr)(p:Nat)(l:List fH)(e:Int):PE k.ps (Kn.fY k p l e).ps:=by
 unfold Kn.fY;split
 .exact .dM _ _ _
 .exact .refl _
theorem tv(k:Kr)(l:List Obj)(e:Int):(cQ k l e).ps=k.ps:=by unfold cQ;split<;>rfl
theorem tw(k:Kr)(f:R4)(o:Obj):(cI k f o).1.ps=k.ps:=by
 unfold cI;split
 .rfl
 .exact tv _ _ _
theorem Kc(k:Kr)(c:Cl)(f:R4):(cC k c f).1.ps=k.ps:=by
 unfold cC;split
 .rfl
 split
 .split
  .rfl
  .exact tw _ _ _
 split
 .rfl
 .rfl
theorem PE.Dc(k:Kr)(p:Nat)(c:Cl)(ax:Int)(aA:Bool):PE k.ps (gV k p c ax aA).1.ps:=by
 unfold gV;have e:=Kc k c (iD k ax c.cA aA true);generalize cC k c (iD k ax c.cA aA true)=x at e;unfold je;rw[<-e];split
 .exact .refl _
 split
 .exact .refl _
 .split
  .exact .k8 _ _ _ _
  .exact .k8 _ _ _ _
theorem PE.WD(k:Kr)(p:Nat)(c:Cl):PE k.ps (gN k p c).1.ps:=by
 unfold gN;split
 .exact .refl _
 split
 .exact .Dc _ _ _ _ _
 split
 .exact .refl _
 .exact .Dc _ _ _ _ _
theorem NZ(k:Kr)(p:Nat)(c:Cl):(fZ k p c).1.ps=k.ps:=by
 unfold fZ jg;split
 .rfl
 split
 .unfold sW;split<;>rfl
 split
 .unfold oA;split<;>rfl
 .unfold pX;split<;>rfl
theorem Qd(k:Kr)(p:Nat)(c:Cl):(iE k p c).1.ps=k.ps:=by
 unfold iE JH ic;simp only[];split
 .rfl
 split
 .rfl
 unfold nA;split
 .rfl
 split
 .rfl
 split
 .split
  .rfl
  .exact tv _ _ _
 split
 .rfl
 split
 .exact tw _ _ _
 .exact tw _ _ _
theorem PE.Ny(k:Kr)(p:Nat):PE k.ps (lQ k p).1.ps:=by
 unfold lQ zf;split
 .exact .refl _
 unfold ue;split
 .exact .refl _
 split
 .exact .refl _
 .exact(PE.k8 ⟨(fp k.l).1,k.ops,k.ps⟩ p _ _).trans (.k8 _ _ _ _)
theorem Qe(k:Kr)(p:Nat)(c:Cl):(k6 k p c).1.ps=k.ps:=by
 unfold k6 wN;split
 .rfl
 unfold wM;split
 .split
  .rfl
  .exact tv _ _ _
 .exact tv _ _ _
theorem PE.recv(k:Kr)(p:Nat)(c:Cl):PE k.ps (k7 k p c).1.ps:=by
 unfold k7 wO;split
 .exact .refl _
 unfold ze;split
 .exact .refl _
 split
 .split
  .exact .refl _
  .unfold ud;rw[tv];exact .fY _ _ _ _
 .unfold ud;rw[tv];exact .refl _
theorem PF.exit(k:Kr)(z n:Int):PF k.ps (gJ k z n).1.ps:=by
 unfold gJ;split
 .exact(PE.nil _).pf
 split
 .exact(PE.nil _).pf
 .intro t x y hx hy hl hf RZ;have hy:(k.ps.set z.toNat ⟨false,(match k.ps[z.toNat]? with|some x=>x.fenced|none=>false),n,[]⟩)[t]? =some y:=hy
  rw[aaQ]at hy;split at hy
  .split at hy
   .cases hy;cases RZ
   .cases hy
  .rw[hx]at hy;cases hy;exact hf
theorem PF.iF(k:Kr)(z n:Int):PF k.ps (Kn.iF k (gJ k z n)).1.ps:=by
 unfold Kn.iF;split
 .exact .exit _ _ _
 .exact(PE.refl _).pf
theorem PF.V9(ps:List bi)(p:Nat):PF ps (ma ps p):=by
 intro t x y hx hy hl hf RZ;unfold ma at hy;split at hy
 .rw[aaQ]at hy;split at hy
  .split at hy
   .cases hy;rfl
   .cases hy
  .rw[hx]at hy;cases hy;exact hf
 .rw[hx]at hy;cases hy;exact hf
theorem PF.PY{k:Kr}{p:Nat}{x:bi}(hp:k.ps[p]? =some x)(dh:x.aV=true):PF k.ps (nC k (gL k p)).1.ps:=by
 unfold nC;split
 .exact(PE.refl _).pf
 rename_i he;obtain⟨c,C⟩:=p5 hp dh (Decidable.of_not_not he);obtain⟨g1,g2,g3,g4⟩:=td hp C.le;rw[C.R];intro t a y ha hy hl hf RZ;obtain⟨z,hz,e1,e2⟩:=PE.k8 ⟨(aK k.l (cP c)).1,k.ops,fU k.ps p c⟩ p (aK k.l (cP c)).2.1 3200 t y hy;have hz:(fU k.ps p c)[t]? =some z:=hz;by_cases e:t=c
 .subst e;have:=C.bh (aac.1 ha).1;unfold po at this;rw[ha]at this;have this:(!a.aV&& !(k.l.any (dL (t:Nat))))=true:=this;rw[hl]at this;cases this
 .rw[g3 t e,ha]at hz;cases hz;rw[<-e2];exact hf
theorem PF.op{k:Kr}{p:Nat}{x:bi}(hp:k.ps[p]? =some x)(dh:x.aV=true)(c:Cl):PF k.ps (gP k p c).1.ps:=by
 unfold gP;split
 .exact(PE.WD _ _ _).pf
 split
 .rw[NZ];exact(PE.refl _).pf
 split
 .exact(PE.fY _ _ _ _).pf
 split
 .exact(PE.refl _).pf
 split
 .rw[Qd];exact(PE.refl _).pf
 split
 .exact(PE.Ny _ _).pf
 split
 .rw[Qe];exact(PE.refl _).pf
 split
 .exact(PE.recv _ _ _).pf
 unfold eS;split
 .exact .V9 _ _
 split
 .exact(PE.refl _).pf
 split
 .exact .PY hp dh
 split
 .exact .iF _ _ _
 generalize bu k p c.fd (if c.ah=20 then 2048 else 1024)=w
 unfold jG;split
 .exact(PE.refl _).pf
 unfold s7;split
 .exact(PE.refl _).pf
 split
 .split<;>exact(PE.refl _).pf
 .exact .iF _ _ _
theorem Dz{k:Kr}(h:KI k):iy k.ps (i9 k).ps:=by obtain⟨a,c,h1,h2,h3⟩:=(hC h.kr).ex;exact(EZ h.kr h1 h2 h3).2.1
theorem PF.jj(prog:List dB){k:Kr}(h:KI k)(c:Cl):PF k.ps (Kn.jj prog k c).1.ps:=by
 by_cases he:(Kn.jj prog k c).2.iL=0
 .obtain⟨p,hc,hp,hl,-,-,ho,e⟩:=A8 he;rw[e];intro t x y hx hy hlx hfx hly;have vY:=h.op (aab hp) hl (c:=c) ho;have:=(Dz vY).2 t y hy hly;exact PF.op (aab hp) hl c t x y hx this hlx hfx hly
 .obtain⟨e,h2⟩:=A0 he;rw[h2];exact(PE.refl _).pf
theorem Qf{prog:List dB}{k:Kr}(h:KI k)(hs:Kt k)(c:Cl):Kt (jj prog k c).1:=by
 by_cases he:(jj prog k c).2.iL=0
 .obtain⟨p,hc,hp,hl,-,-,ho,e⟩:=A8 he;rw[e];exact(h.op (aab hp) hl (c:=c) ho).Mb
 .obtain⟨e,h2⟩:=A0 he;rw[h2];exact hs
theorem N0:Kt bt:=by unfold Kt;kernel_rfl
theorem N1(prog:List dB):∀(cs:List Cl){k:Kr},KI k->Kt k->Kt (kS prog k cs)
 | [],_,_,h=>h
 |c::r,_,h,hs=>N1 prog r (h.do_ prog c) (Qf h hs c)
theorem Gz{prog:List dB}{k:Kr}{c:Cl}(hl:ek k.ps c.aL=true)(hf:fE k.ps c.aL.toNat=true)(hk:c.ah=2):jj prog k c=(k,An.no 9):=by
 unfold jj;rw[if_neg (by rw[hl];simp),if_neg om,if_pos ⟨hf,.inr hk⟩]
theorem GA{prog:List dB}{k:Kr}(h:KI k)(hs:Kt k){c:Cl}(hk:c.ah=18)(he:(jj prog k c).2.iL=0){p:Nat}(hc:c.aL=p){x:bi}(hp:k.ps[p]? =some x)(hf:x.fenced=true):
  ∃(n:Nat)(y:bi),(jj prog k c).2.n=n/\(jj prog k c).1.ps[n]? =some y/\y.fenced=true:=by
 obtain⟨q,hq,Bq,hl,-,-,ho,e⟩:=A8 he;have:q=p:=om;subst this;have dH:gP k q c=nC k (gL k q):=by unfold gP eS;simp (config:={decide:=true}) only[hk,if_false,if_true,or_self]
 have hx:k.ps[q]? =some k.ps[q]:=aab Bq;rw[hx]at hp;cases hp;rw[dH]at ho e;unfold nC at ho e;split at ho
 .rename_i h2;exact absurd ho h2
 rename_i h2;rw[if_neg h2]at e;obtain⟨n,hn,-,hy⟩:=Gy h hs hx hl (Decidable.of_not_not h2);rw[e];exact⟨n,_,hn,hy,hf⟩
end Kn
def c5:LF:= ⟨176,[.tmp 4],(.seq (.ai [qu 4 (.aD (qb false))]) (.seq (.seq (.ai [qu 13 (qc 8 []),qu 14 (.un .not 13)]) (.cond 14 (.seq (.ai [qu 4 (.aD (qb false))]) .ret) .skip)) (.seq (.seq (.ai [qm 15 0,qu 16 (qc 9 [15]),qu 17 (.On false 0 1 16),qu 18 (.aF .neq 17 (qi 0))]) (.cond 18 (.seq (.ai [qu 4 (.aD (qb true))]) .ret) .skip)) (.seq (.ai [qm 20 0,qm 21 1,qu 22 (qc 10 [20,21]),qm 19 22,qu 23 (.ext 19 0),qu 24 (.ext 19 1),qm 5 23,qm 6 24]) (.seq (.seq (.ai [qm 25 1,qu 26 (.len 1 25),qu 27 (.aD (qi 0))]) (.block 0 (.loop (.seq (.ai [qu 28 (.aF .lss 27 26)]) (.seq (.cond 28 .skip (.exit 0)) (.seq (.block 1 (.seq (.ai [qm 29 27,qu 30 (.bO 9 25 27),qL 31 9 30,qu 8 (.alloc [(qd 0),(qd 0),(qd 0),(qd 0),(qd 0),(qd 0),(qd 0),(.aa (.val (.string ⟨#[]⟩))),.aI]),qm 7 29,qw (.store 9 8 31)]) (.seq (.bQ [qm 32 5,qm 33 7,qu 34 (.bO 3 32 33),qL 35 3 34,qm 36 5,qm 37 7,qu 38 (.aF .add 37 (qi 1)),qu 39 (.bO 3 36 38),qL 40 3 39,qu 9 (.alloc [.aI,.aI,.aI]),qu 10 (.alloc [.aI,.aI,.aI]),qw (.store 3 9 35),qw (.store 3 10 40)] [(.cons 0 none (.cons 1 none (.cons 2 none (.cons 3 none (.cons 4 none (.cons 5 none (.cons 6 none (.cons 7 none (.cons 8 none (.xK (.cons 9 (some [8,7,3,2]) (.cons 10 (some [8,7,3,2]) (.cons 11 (some [8,7]) (.cons 12 (some []) .nil)))) (.cons 10 (some [8,7,3,2]) (.cons 9 (some [8,7,3,2]) (.cons 11 (some [8,7]) (.cons 12 (some []) .nil))))))))))))))]) (.cO (.seq (.seq (.ai [qf 41 2 9,ql 42 41,qu 43 (.len 1 42),qu 44 (.aD (qi 0))]) (.block 2 (.loop (.seq (.ai [qu 45 (.aF .lss 44 43)]) (.seq (.cond 45 .skip (.exit 2)) (.seq (.block 3 (.seq (.ai [qm 46 44,qm 11 46]) (.seq (.ai [qf 47 2 9,ql 48 47,qm 49 11,qu 50 (.bO 4 48 49),qf 51 0 50,ql 52 51,qm 53 52,qg 54 (.bg 2 9) 53 true,qg 55 (.load false 1 54) 53 true,qg 56 (.aD 11) 53 true,qg 57 (.bO 4 55 56) 53 true,qg 58 (.bg 1 57) 53 true,qg 59 (.load false 1 58) 53 true,qu 60 (.pick 53 59 (qb false)),qm 61 60,qg 62 (.aD 11) 61 true,qg 63 (.bg 2 10) 61 true,qg 64 (.load false 1 63) 61 true,qg 65 (.len 1 64) 61 true,qg 66 (.aF .lss 62 65) 61 true,qu 67 (.pick 61 66 (qb false)),qm 68 67,qg 69 (.bg 2 10) 68 true,qg 70 (.load false 1 69) 68 true,qg 71 (.aD 11) 68 true,qg 72 (.bO 4 70 71) 68 true,qg 73 (.bg 0 72) 68 true,qg 74 (.load false 1 73) 68 true,qu 75 (.pick 68 74 (qb false)),qm 76 75,qg 77 (.bg 2 10) 76 true,qg 78 (.load false 1 77) 76 true,qg 79 (.aD 11) 76 true,qg 80 (.bO 4 78 79) 76 true,qg 81 (.bg 1 80) 76 true,qg 82 (.load false 1 81) 76 true,qg 83 (.un .not 82) 76 true,qu 84 (.pick 76 83 (qb false))]) (.cond 84 (.seq (.ai [qu 4 (.aD (qb false))]) .ret) .skip)))) (.ai [qu 85 (.aF .add 44 (qi 1)),qm 44 85]))))))) (.seq (.ai [qf 86 0 8,ql 87 86,qu 88 (.aF .geq 87 (qi 0)),qm 89 88,qg 90 (.bg 0 8) 89 true,qg 91 (.load false 1 90) 89 true,qg 92 (.bg 2 9) 89 true,qg 93 (.load false 1 92) 89 true,qg 94 (.len 1 93) 89 true,qg 95 (.aF .lss 91 94) 89 true,qu 96 (.pick 89 95 (qb false)),qm 97 96,qg 98 (.bg 2 9) 97 true,qg 99 (.load false 1 98) 97 true,qg 100 (.bg 0 8) 97 true,qg 101 (.load false 1 100) 97 true,qg 102 (.bO 4 99 101) 97 true,qg 103 (.bg 0 102) 97 true,qg 104 (.load false 1 103) 97 true,qu 105 (.pick 97 104 (qb false)),qm 106 105,qg 107 (.bg 2 9) 106 true,qg 108 (.load false 1 107) 106 true,qg 109 (.bg 0 8) 106 true,qg 110 (.load false 1 109) 106 true,qg 111 (.bO 4 108 110) 106 true,qg 112 (.bg 1 111) 106 true,qg 113 (.load false 1 112) 106 true,qu 114 (.pick 106 113 (qb false)),qm 12 114]) (.seq (.seq (.ai [qm 115 12,qm 116 115,qg 117 (.bg 1 8) 116 true,qg 118 (.load false 1 117) 116 true,qg 119 (.aF .eql 118 (qi 2)) 116 true,qu 120 (.pick 116 119 (qb false)),qm 121 120,qg 122 (.aD 6) 121 true,qg 123 (.aD 7) 121 true,qg 124 (.bO 4 122 123) 121 true,qg 125 (.bg 0 124) 121 true,qg 126 (.load false 1 125) 121 true,qg 127 (.aF .neq 126 (qi 9)) 121 true,qu 128 (.pick 121 127 (qb false))]) (.cond 128 (.seq (.ai [qu 4 (.aD (qb false))]) .ret) .skip)) (.seq (.bQ [qm 129 12,qm 130 129,qg 131 (.bg 1 8) 130 true,qg 132 (.load false 1 131) 130 true,qg 133 (.aF .eql 132 (qi 18)) 130 true,qu 134 (.pick 130 133 (qb false)),qm 135 134,qg 136 (.aD 6) 135 true,qg 137 (.aD 7) 135 true,qg 138 (.bO 4 136 137) 135 true,qg 139 (.bg 0 138) 135 true,qg 140 (.load false 1 139) 135 true,qg 141 (.aF .eql 140 (qi 0)) 135 true,qu 142 (.pick 135 141 (qb false)),qm 143 142,qg 144 (.aD 6) 143 true,qg 145 (.aD 7) 143 true,qg 146 (.bO 4 144 145) 143 true,qg 147 (.bg 1 146) 143 true,qg 148 (.load false 1 147) 143 true,qg 149 (.bg 2 10) 143 true,qg 150 (.load false 1 149) 143 true,qg 151 (.len 1 150) 143 true,qg 152 (.aF .geq 148 151) 143 true,qg 153 (.aD 152) 143 true,qg 154 (.aD 6) 153 false,qg 155 (.aD 7) 153 false,qg 156 (.bO 4 154 155) 153 false,qg 157 (.bg 1 156) 153 false,qg 158 (.load false 1 157) 153 false,qg 159 (.aF .lss 158 (qi 0)) 153 false,qg 160 (.pick 153 (qb true) 159) 143 true,qg 161 (.aD 160) 143 true,qg 162 (.bg 2 10) 161 false,qg 163 (.load false 1 162) 161 false,qg 164 (.aD 6) 161 false,qg 165 (.aD 7) 161 false,qg 166 (.bO 4 164 165) 161 false,qg 167 (.bg 1 166) 161 false,qg 168 (.load false 1 167) 161 false,qg 169 (.bO 4 163 168) 161 false,qg 170 (.bg 1 169) 161 false,qg 171 (.load false 1 170) 161 false,qg 172 (.un .not 171) 161 false,qg 173 (.pick 161 (qb true) 172) 143 true,qu 174 (.pick 143 173 (qb false))] [(.cons 0 none (.cons 1 none (.cons 2 none (.cons 3 none (.cons 4 none (.cons 5 none (.cons 6 none (.cons 7 none (.cons 8 none (.cons 9 none (.cons 10 none (.cons 11 none (.cons 12 none (.cons 13 none (.cons 14 none (.cons 15 none (.cons 16 none (.cons 17 none (.cons 18 none (.cons 19 none (.cons 20 none (.cons 21 none (.cons 22 none (.cons 23 none (.cons 24 none (.cons 25 none (.cons 26 none (.cons 27 none (.cons 28 none (.cons 29 none (.cons 30 none (.cons 31 none (.cons 32 none (.cons 33 none (.cons 34 none (.cons 35 none (.cons 36 none (.cons 37 none (.cons 38 none (.cons 39 none (.cons 40 none (.cons 41 none (.cons 42 none (.cons 43 none (.cons 44 none (.cons 45 none .nil))))))))))))))))))))))))))))))))))))))))))))))]) (.cond 174 (.seq (.ai [qu 4 (.aD (qb false))]) .ret) .skip))))))))) (.ai [qu 175 (.aF .add 27 (qi 1)),qm 27 175]))))))) (.seq (.ai [qu 4 (.aD (qb true))]) .ret))))))⟩
namespace Kn
theorem Qg(prog:List dB)(cs:List Cl){i:Nat}(h:i<cs.length)(hl:cs.length<=1048576):cy ((DO prog bt cs).map kE) (IntKind.i64.wrap ((i:Int)+1))=some (kE (jj prog (kS prog bt (cs.take i)) cs[i]).1):=by have:=jN (n:=i+1) om;rw[show IntKind.i64.wrap ((i:Int)+1)=(i:Int)+1 from this];exact HR prog cs h
theorem l7k:bs Tryz.prog Tryz.f5=some c5.er:=by kernel_rfl
theorem GB(l:List bU)(cs:List Cl)(dG:rL cs):body Tryz.prog c5 [cS l,p7 cs] [] (fun r m=>r=ay true):=by
 refine nj ?_;refine oX l ?_;refine br (fun hw=>?_) (fun hw=>?_)
 .exact rfl
 have hw:(bX l).1=0:=hw;refine s9 l hw cs dG fun l' hp hr=>?_
 generalize dy l'=prog;refine aO (fun i=>i<=cs.length) [5,6,25,26] (fun i=>[(27,an .i64 (i:Nat))]) (fun i=>[]) (fun i=>cs.length-i) 0 (aao _) ?_ (fun i hi=>?_)
 .refine View.o 0 [] [] ?_ (.nil _);repeat(first|exact .nil|refine .ap ?_|refine .eq rfl ?_)
 have hi:i<=cs.length:=hi;have gZ:=dG.l;refine aB (fun h=>?_) (fun h=>?_)
 rotate_left
 .exact rfl
 have aC:i<cs.length:=by have h:(i:Int)<((cs.map Cl.enc).length:Int):=h;rw[aad]at h;omega
 refine ag (xd aC) ?_;have vY:=KI.kS (prog:=prog) (cs.take i) ni;have Kh:=N1 prog (cs.take i) ni N0;have k1:=xe prog cs (acu aC);have k2:=Qg prog cs aC gZ;have ha:=AZ prog cs aC;have uV:=PF.jj prog vY cs[i];have dH:= @Gz prog (kS prog bt (cs.take i)) cs[i];have IB:= @GA prog _ vY Kh cs[i];generalize jj prog (kS prog bt (cs.take i)) cs[i]=D at ha k2 uV dH IB;generalize kS prog bt (cs.take i)=k at k1 vY Kh uV dH IB;generalize cs[i]=c at dH IB;obtain⟨x,a⟩:=D;refine ag k1 ?_;refine ag k2 ?_;refine⟨⟨⟨rfl,ag k2 rfl,rfl,ag k1 rfl,trivial⟩,⟨rfl,ag k2 rfl,rfl,ag k1 rfl,trivial⟩,⟨rfl,ag k2 rfl,trivial⟩,trivial,
   fa [5,6,7,8,25,26,27] [(9,.rv (.one (.ptr 1 0))),(10,.rv (.one (.ptr 2 0)))] [cB c,kB k,kB x] (View.o 3 [0,1,2] [] ?e1 ?m1) ?fS⟩,
  ⟨⟨rfl,ag k2 rfl,rfl,ag k1 rfl,trivial⟩,⟨rfl,ag k2 rfl,rfl,ag k1 rfl,trivial⟩,⟨rfl,ag k2 rfl,trivial⟩,trivial,
   fa [5,6,7,8,25,26,27] [(9,.rv (.one (.ptr 1 0))),(10,.rv (.one (.ptr 2 0)))] [cB c,kB k,kB x] (View.o 3 [0,2,1] [] ?e2 ?m2) ?fS⟩⟩
 case e1=>repeat(first|exact .nil|refine .ap ?_|refine .eq rfl ?_)
 case e2=>repeat(first|exact .nil|refine .ap ?_|refine .eq rfl ?_)
 case m1=>exact .pt rfl rfl (.eq rfl (b7 _)) (.pt rfl rfl (.eq rfl (cR _)) (.pt rfl rfl (.eq rfl (cR _)) (.nil _)))
 case m2=>exact .pt rfl rfl (.eq rfl (b7 _)) (.pt rfl rfl (.eq rfl (cR _)) (.pt rfl rfl (.eq rfl (cR _)) (.nil _)))
 case fS=>
  have WK:=vY.lp;refine aO (fun p=>p<=k.ps.length) [5,6,7,8,9,10,25,26,27,43] (fun p=>[(44,an .i64 (p:Nat))]) (fun _=>[cB c,kB k,kB x]) (fun p=>k.ps.length-p) 0 (aao _) ?_ (fun p hp=>?_)
  .refine View.o1 3 [0,1,2] [] ?_
   .exact .pt rfl rfl (.eq rfl (b7 _)) (.pt rfl rfl (.eq rfl (cR _)) (.pt rfl rfl (.eq rfl (cR _)) (.nil _)))
  have hp:p<=k.ps.length:=hp;refine aB (fun h1=>?_) (fun h1=>?_)
  .have gE:p<k.ps.length:=by have h1:(p:Int)<((k.ps.map bi.enc).length:Int):=h1;rw[aad]at h1;omega
   have hq:cy (k.ps.map bi.enc) (p:Nat)=some k.ps[p].enc:=by rw[bl,aaf,aab gE];rfl
   refine ag hq ?_;have uV:=fun y=>uV p k.ps[p] y (aab gE)
   generalize k.ps[p]=q at hq uV;obtain⟨lv,fn,cd,sl⟩:=q;cases lv with
   |false=>
    refine⟨p+1,gE,(show k.ps.length-(p+1)<k.ps.length-p by omega),View.o 3 [0,1,2] [] ?_ ?_⟩
    .repeat(first|exact .nil|refine .ap ?_|refine .put (.aQ (aq om).symm) ?_|refine .eq rfl ?_)
    .exact .pt rfl rfl (.eq rfl (b7 _)) (.pt rfl rfl (.eq rfl (cR _)) (.pt rfl rfl (.eq rfl (cR _)) (.nil _)))
   |true=>
    refine ag hq ?_;cases fn with
    |false=>
     refine⟨p+1,gE,(show k.ps.length-(p+1)<k.ps.length-p by omega),View.o 3 [0,1,2] [] ?_ ?_⟩
     .repeat(first|exact .nil|refine .ap ?_|refine .put (.aQ (aq om).symm) ?_|refine .eq rfl ?_)
     .exact .pt rfl rfl (.eq rfl (b7 _)) (.pt rfl rfl (.eq rfl (cR _)) (.pt rfl rfl (.eq rfl (cR _)) (.nil _)))
    |true=>
     refine aB (fun h2=>?_) (fun h2=>?_)
     .have hxl:p<x.ps.length:=by have h2:(p:Int)<((x.ps.map bi.enc).length:Int):=h2;rw[aad]at h2;omega
      have hx:cy (x.ps.map bi.enc) (p:Nat)=some x.ps[p].enc:=by rw[bl,aaf,aab hxl];rfl
      refine ag hx ?_;have uV:=uV x.ps[p] (aab hxl) rfl rfl;generalize x.ps[p]=y at hx uV;obtain⟨lv2,fn2,cd2,sl2⟩:=y;cases lv2 with
      |false=>
       refine⟨p+1,gE,(show k.ps.length-(p+1)<k.ps.length-p by omega),View.o 3 [0,1,2] [] ?_ ?_⟩
       .repeat(first|exact .nil|refine .ap ?_|refine .put (.aQ (aq om).symm) ?_|refine .eq rfl ?_)
       .exact .pt rfl rfl (.eq rfl (b7 _)) (.pt rfl rfl (.eq rfl (cR _)) (.pt rfl rfl (.eq rfl (cR _)) (.nil _)))
      |true=>
       refine ag hx ?_;have uV:fn2=true:=uV rfl;subst uV;refine⟨p+1,gE,(show k.ps.length-(p+1)<k.ps.length-p by omega),View.o 3 [0,1,2] [] ?_ ?_⟩
       .repeat(first|exact .nil|refine .ap ?_|refine .put (.aQ (aq om).symm) ?_|refine .eq rfl ?_)
       .exact .pt rfl rfl (.eq rfl (b7 _)) (.pt rfl rfl (.eq rfl (cR _)) (.pt rfl rfl (.eq rfl (cR _)) (.nil _)))
     .refine⟨p+1,gE,(show k.ps.length-(p+1)<k.ps.length-p by omega),View.o 3 [0,1,2] [] ?_ ?_⟩
      .repeat(first|exact .nil|refine .ap ?_|refine .put (.aQ (aq om).symm) ?_|refine .eq rfl ?_)
      .exact .pt rfl rfl (.eq rfl (b7 _)) (.pt rfl rfl (.eq rfl (cR _)) (.pt rfl rfl (.eq rfl (cR _)) (.nil _)))
  .refine aB (fun g1=>?_) (fun g1=>?_)
   rotate_left
   .refine⟨i+1,aC,(show cs.length-(i+1)<cs.length-i by omega),View.o 3 [] [] ?_ (.nil _)⟩
    repeat(first|exact .nil|refine .ap ?_|refine .put (.aQ (aq om).symm) ?_|refine .eq rfl ?_)
   obtain⟨q,hc⟩:∃n:Nat,c.aL=n:=⟨c.aL.toNat,by have g1:c.aL>=0:=g1;omega⟩
   refine aB (fun g2=>?_) (fun g2=>?_)
   rotate_left
   .refine⟨i+1,aC,(show cs.length-(i+1)<cs.length-i by omega),View.o 3 [] [] ?_ (.nil _)⟩
    repeat(first|exact .nil|refine .ap ?_|refine .put (.aQ (aq om).symm) ?_|refine .eq rfl ?_)
   have Bq:q<k.ps.length:=by have g2:c.aL<((k.ps.map bi.enc).length:Int):=g2;rw[aad]at g2;omega
   have hq:cy (k.ps.map bi.enc) c.aL=some k.ps[q].enc:=by rw[hc,bl,aaf,aab Bq];rfl
   refine ag hq ?_;have dh:ek k.ps c.aL=k.ps[q].aV:=by rw[hc];simp[ek,Bq]
   have Ir:fE k.ps c.aL.toNat=k.ps[q].fenced:=by rw[hc,aaw];simp[fE,aab Bq]
   rw[dh,Ir]at dH;have IB:=fun h e=>IB h e hc (aab Bq)
   generalize k.ps[q]=y at hq dH IB;obtain⟨lv,fn,cd,sl⟩:=y;cases lv with
   |false=>
    refine⟨i+1,aC,(show cs.length-(i+1)<cs.length-i by omega),View.o 3 [] [] ?_ (.nil _)⟩
    repeat(first|exact .nil|refine .ap ?_|refine .put (.aQ (aq om).symm) ?_|refine .eq rfl ?_)
   |true=>
    refine ag hq ?_;cases fn with
    |false=>
     refine⟨i+1,aC,(show cs.length-(i+1)<cs.length-i by omega),View.o 3 [] [] ?_ (.nil _)⟩
     repeat(first|exact .nil|refine .ap ?_|refine .put (.aQ (aq om).symm) ?_|refine .eq rfl ?_)
    |true=>
     refine aE (fun g3=>?_) (fun g3=>?_)
     .have g3:c.ah=2:=by simpa using g3
      have e:=dH rfl rfl g3;cases e;refine ag ha ?_;refine aE (fun g4=>?_) (fun g4=>?_)
      .have g4:c.ah=18:=by simpa using g4
       omega
      .refine⟨i+1,aC,(show cs.length-(i+1)<cs.length-i by omega),View.o 3 [] [] ?_ (.nil _)⟩
       repeat(first|exact .nil|refine .ap ?_|refine .put (.aQ (aq om).symm) ?_|refine .eq rfl ?_)
     .refine aE (fun g4=>?_) (fun g4=>?_)
      rotate_left
      .refine⟨i+1,aC,(show cs.length-(i+1)<cs.length-i by omega),View.o 3 [] [] ?_ (.nil _)⟩
       repeat(first|exact .nil|refine .ap ?_|refine .put (.aQ (aq om).symm) ?_|refine .eq rfl ?_)
      have g4:c.ah=18:=by simpa using g4
      refine ag ha ?_;refine aE (fun g5=>?_) (fun g5=>?_)
      rotate_left
      .refine⟨i+1,aC,(show cs.length-(i+1)<cs.length-i by omega),View.o 3 [] [] ?_ (.nil _)⟩
       repeat(first|exact .nil|refine .ap ?_|refine .put (.aQ (aq om).symm) ?_|refine .eq rfl ?_)
      have g5:a.iL=0:=by simpa using g5
      obtain⟨n,y,hn,hy,hyf⟩:=IB g4 g5 rfl;have hn:a.n=n:=hn;have hy:x.ps[n]? =some y:=hy;have kM:=(aac.1 hy).1;refine ag ha ?_;refine aB (fun g6=>?_) (fun g6=>?_)
      .have g6:a.n>=((x.ps.map bi.enc).length:Int):=g6;rw[aad]at g6;omega
      refine ag ha ?_;refine aB (fun g7=>?_) (fun g7=>?_)
      .have g7:a.n<0:=g7;omega
      refine ag ha ?_;have hyz:cy (x.ps.map bi.enc) a.n=some y.enc:=by rw[hn,bl,aaf,hy];rfl
      refine ag hyz ?_;obtain⟨lv,fn,cd,sl⟩:=y;have hyf:fn=true:=hyf;subst hyf;refine⟨i+1,aC,(show cs.length-(i+1)<cs.length-i by omega),View.o 3 [] [] ?_ (.nil _)⟩
      repeat(first|exact .nil|refine .ap ?_|refine .put (.aQ (aq om).symm) ?_|refine .eq rfl ?_)
theorem N2(l:List bU)(cs:List Cl)(dG:rL cs):ar Tryz.prog 5 [cS l,p7 cs] [] (fun r _=>r=ay true):=
 js Tryz.func5 l7k rfl (aak rfl) (GB l cs dG) rfl rfl rfl
end Kn
end Go.Proofs.YtojhmadmlnfpcaaGreatDoor
