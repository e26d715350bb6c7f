/- Part 37 of 39: what the law stands on. -/
import Derived.Test.YtodckkkbiidffaaGreatDoorT16
import Derived.Test.YtodckkkbiidffaaGreatDoorT34
import Derived.Test.YtodckkkbiidffaaGreatDoorT36
set_option linter.unusedVariables false
set_option linter.unusedSimpArgs false
set_option linter.unnecessarySimpa false
set_option maxRecDepth 100000
set_option maxHeartbeats 64000000
namespace Go.Proofs.YtodckkkbiidffaaGreatDoor
open Go.AM Go.ChangeShapes Go.WideShapes Go.ChangeAt Go.RowKit
namespace Kn
structure Tn(k:Kr)(x:bj):Prop where
 sl:x.bd.length<=10
 aO:x.a7=false->x.bd=[]
 cap:∀s,s∈x.bd->s.has=true->fh k s.eE s.cn
theorem KI.N4{k:Kr}(h:KI k){x:bj}(hx:x∈k.ps):Tn k x:=⟨h.sl x hx,h.aO x hx,h.cap x hx⟩
theorem KI.EY{k:Kr}(h:KI k){oO:List bj}(hl:oO.length<=8)(eu:k.ps.length<=oO.length)(hx:∀x,x∈oO->Tn k x):KI ⟨k.l,k.ops,oO⟩:=
 ⟨h.ll,h.lo,hl,h.sm,fun x h=>(hx x h).sl,fun e=>h.ne (Wg (by have:oO=[]:=e;rw[this]at eu;simpa using eu)),fun x h=>(hx x h).aO,fun x h=>(hx x h).cap,
  h.qu,fun o ho h5=>let⟨n,a,b⟩:=h.pr o ho h5;⟨n,a,aad b eu⟩,h.en,h.z,h.pe,h.cT,h.MA,h.pU⟩
theorem KI.To{k:Kr}(h:KI k){Kp:List bD}(hl:Kp.length<=60)(hm:∀(n:Nat)o,k.ops[n]? =some o->ft k.l o.br->∃o',Kp[n]? =some o'/\ft k.l o'.br)(ha:∀o,o∈Kp->0<=o.cT/\o.cT<=64):KI ⟨k.l,Kp,k.ps⟩:=by
 have dJ:∀z r,fh k z r->fh ⟨k.l,Kp,k.ps⟩ z r:=fun z r hc=>hc.mono hm
 exact⟨h.ll,hl,h.lp,h.sm,h.sl,h.ne,h.aO,fun x hx s hs hh=>dJ _ _ (h.cap x hx s hs hh),fun o ho q hq hh=>dJ _ _ (h.qu o ho q hq hh),h.pr,h.en,h.z,h.pe,ha,h.MA,h.pU⟩
theorem KI.Oq{k:Kr}(h:KI k)(z:Int){a:Int}(ha:0<=a/\a<=64):KI (sb k z a):=by
 unfold sb;cases ho:k.ops[z.toNat]? with
 |none=>exact h
 |some o=>
  have hz:=(Gf.1 ho).1;refine h.To (by rw[Yy];exact h.lo) (fun n x hx hi=>?_) fun x hx=>?_
  .by_cases e:n=z.toNat
   .subst e;rw[ho]at hx;cases hx;exact⟨_,Pr hz,hi⟩
   .exact⟨x,by rw[Wf (fun x=>e x.symm)];exact hx,hi⟩
  .rcases aac hx with hx|rfl
   .exact h.cT x hx
   .exact ha
theorem KI.eV{k:Kr}(h:KI k){p:Nat}{x:bj}(hp:k.ps[p]? =some x)(dD:x.a7=true){l:List fq}(hl:l.length<=10)(hc:∀s,s∈l->s.has=true->fh k s.eE s.cn):KI ⟨k.l,k.ops,eV k.ps p l⟩:=by
 have e:Go.Proofs.YtodckkkbiidffaaGreatDoor.eV k.ps p l=k.ps.set p {x with bd:=l}:=by unfold Go.Proofs.YtodckkkbiidffaaGreatDoor.eV;rw[hp]
 rw[e];refine h.EY (by rw[Yy];exact h.lp) (by rw[Yy];exact Pq _) fun y hy=>?_
 rcases aac hy with hy|rfl
 .exact h.N4 hy
 .exact⟨hl,fun hd=>(by rw[dD]at hd;cases hd),hc⟩
theorem oL{l:List fq}{o r:Int}(h:(fU l o r).2.2=0):Tb.dN r=true/\0<=o/\∀s,s∈(fU l o r).1->s∈l\/s=⟨true,o,r⟩:=by
 have KV:∀s:fq,LY (oz s)=s:=fun s=>rfl
 unfold fU at h⊢;simp only[]at h⊢;unfold Tb.gP at h⊢;split at h
 .cases h
 .rename_i h1;have hr:Tb.dN r=true:=by
   cases hx:Tb.dN r with
   |true=>rfl
   |false=>exact absurd (.inl hx) h1
  have ho:0<=o:=Int.not_lt.1 fun hx=>h1 (.inr hx)
  refine⟨hr,ho,fun s hs=>?_⟩
  rw[if_neg h1]at hs;split at hs
  .obtain⟨t,ht,rfl⟩:=Z5.1 hs;rcases aac ht with ht|rfl
   .obtain⟨u,hu,rfl⟩:=Z5.1 ht;exact .inl hu
   .exact .inr rfl
  .split at hs
   .cases hs
   .obtain⟨t,ht,rfl⟩:=Z5.1 hs;rcases aaN.1 ht with ht|ht
    .obtain⟨u,hu,rfl⟩:=Z5.1 ht;exact .inl hu
    .simp at ht;subst ht;exact .inr rfl
theorem re{n:Int}:Tb.dN n=true↔0<=n/\n<=4095:=by unfold Tb.dN;rw[SD,decide_eq_true_eq,decide_eq_true_eq]
theorem KI.uP{k:Kr}(h:KI k){p:Nat}{x:bj}(hp:k.ps[p]? =some x)(dD:x.a7=true){br cn:Int}(ho:ft k.l br)(he:(aK k p br cn).2.2=0):KI (aK k p br cn).1:=by
 have EE:aW k.ps p=x.bd:=by rw[aW,hp]
 unfold aK at he⊢;split at he
 .cases he
 rename_i h1;rw[if_neg h1];split at he
 .rename_i h2;exact absurd he h2
 rename_i h2;rw[if_neg h2];have h2:(fU (aW k.ps p) (dH k.ops) cn).2.2=0:=Yh h2;rw[EE]at h2⊢;obtain⟨c1,c2,c3⟩:=oL h2;have hi:dH k.ops<k.ops.length\/dH k.ops=k.ops.length/\k.ops.length<60:=by
  unfold dH;cases hf:EC k.ops with
  |none=>exact .inr ⟨rfl,Nat.not_le.1 fun a=>h1 ⟨hf,a⟩⟩
  |some i=>exact .inl (Cw hf)
 have Is:∀o,k.ops[dH k.ops]? =some o->o.br<0:=fun o hx=>by
  unfold dH at hx;cases hf:EC k.ops with
  |none=>
   rw[hf]at hx;rw[show(none:Option Nat).getD k.ops.length=k.ops.length from rfl,aae (Pq _)]at hx;cases hx
  |some i=>
   rw[hf]at hx;have:=aam.1 hf;obtain⟨a1,a2,_⟩:=this;rw[show(some i).getD k.ops.length=i from rfl,sA a1]at hx;cases hx;simpa using a2
 have iZ:∀n:Nat,(iR k.ops (dH k.ops) ⟨br,0⟩)[n]? =if n=dH k.ops then some ⟨br,0⟩else k.ops[n]? :=fun n=>by
  unfold iR;split
  .rename_i e;rw[e];by_cases hn:n=k.ops.length
   .subst hn;rw[if_pos rfl,SF (Pq _)];simp
   .rw[if_neg hn];rcases Wj n k.ops.length with a|a
    .exact Tz a
    .rw[SF a,aae a];cases e2:n-k.ops.length with
     |zero=>omega
     |succ m=>rfl
  .rename_i e;have aE:dH k.ops<k.ops.length:=om;by_cases hn:n=dH k.ops
   .subst hn;rw[if_pos rfl,Pr aE]
   .rw[if_neg hn,Wf (fun a=>hn a.symm)]
 have iP:KI ⟨k.l,iR k.ops (dH k.ops) ⟨br,0⟩,k.ps⟩:=by
  refine h.To ?_ (fun n o hx Yv=>?_) fun o hx=>?_
  .unfold iR;split
   .rw[aaH];simp;omega
   .rw[Yy];exact h.lo
  .rw[iZ];by_cases e:n=dH k.ops
   .subst e;have:=Is o hx;obtain⟨j,_,e2,_⟩:=Yv;omega
   .rw[if_neg e];exact⟨o,hx,Yv⟩
  .unfold iR at hx;split at hx
   .rcases aaN.1 hx with hx|hx
    .exact h.cT o hx
    .simp at hx;subst hx;exact⟨abK _,by show(0:Int)<=64;omega⟩
   .rcases aac hx with hx|rfl
    .exact h.cT o hx
    .exact⟨abK _,by show(0:Int)<=64;omega⟩
 refine iP.eV hp dD (pS (h.sl x (NQ hp))) fun s hs hh=>?_
 rcases c3 s hs with hs|rfl
 .exact iP.cap x (NQ hp) s hs hh
 .exact⟨re.1 c1,dH k.ops,⟨br,0⟩,rfl,by rw[iZ,if_pos rfl],ho⟩
theorem KI.exit{k:Kr}(h:KI k){p code:Int}(he:(gX k p code).2=0):KI (gX k p code).1:=by
 unfold gX at he⊢;split at he
 .cases he
 rename_i h1;rw[if_neg h1];split at he
 .cases he
 rename_i h2;rw[if_neg h2];refine h.EY (by rw[Yy];exact h.lp) (by rw[Yy];exact Pq _) fun y hy=>?_
 rcases aac hy with hy|rfl
 .exact h.N4 hy
 .exact⟨aI,fun _=>rfl,fun s hs=>by cases hs⟩
theorem KI.Te{k:Kr}(h:KI k)(p:Nat):KI ⟨k.l,k.ops,ng k.ps p⟩:=by
 unfold ng;cases hp:k.ps[p]? with
 |none=>exact h
 |some x=>
  refine h.EY (by rw[Yy];exact h.lp) (by rw[Yy];exact Pq _) fun y hy=>?_
  have:=h.N4 (NQ hp);rcases aac hy with hy|rfl
  .exact h.N4 hy
  .exact⟨this.sl,this.aO,this.cap⟩
theorem Dw{l:List Obj}{ps:List bj}(h:¬fJ l ps<0):∃c:Nat,fJ l ps=c/\c<=ps.length/\c<8/\(c<ps.length->r8 l ps c=true):=by obtain⟨c,hc⟩:∃c:Nat,fJ l ps=c:=⟨(fJ l ps).toNat,om⟩;obtain⟨h1,_,h3,h4⟩:=m4 l ps 8 0 c hc (Wi _);exact⟨c,hc,h1,om,h4⟩
theorem Kq{k:Kr}{c:Nat}(hc:c<k.ps.length):MG k (dI c):=⟨Ab _,by simp[dI],rfl,rfl,by simp[dI],rfl,rfl,fun h=>by simp[dI]at h,fun _=>⟨c,rfl,hc⟩⟩
theorem GZ{ps:List bj}{n c:Nat}{x:bj}(hn:ps[n]? =some x)(hc:c<=ps.length):(iC ps n c).length=(if c=ps.length then ps.length+1 else ps.length)/\(iC ps n c)[c]? =some ⟨true,x.fenced,0,x.bd⟩/\(∀i,i≠c->(iC ps n c)[i]? =ps[i]?)/\(∀y,y∈iC ps n c->y∈ps\/y=⟨true,x.fenced,0,x.bd⟩):=by
 unfold iC;rw[hn];simp only[];split
 .rename_i e;subst e;refine⟨aI,by rw[SF (Pq _)];simp,fun i hi=>?_,fun y hy=>by simpa using hy⟩
  rcases Wj i ps.length with a|a
  .exact Tz a
  .rw[SF a,aae a];cases e2:i-ps.length with
   |zero=>omega
   |succ m=>rfl
 .exact⟨aI,Pr om,fun i hi=>Wf (fun e=>hi e.symm),fun y hy=>aac hy⟩
structure Tp(k:Kr)(p:Nat)(x:bj)(c:Nat):Prop where
 le:c<=k.ps.length
 c8:c<8
 aO:c<k.ps.length->r8 k.l k.ps c=true
 ne:p≠c
 em:(aG k.l (dI c)).2.2=0
 eo:(aK ⟨(aG k.l (dI c)).1,k.ops,iC k.ps p c⟩ p (aG k.l (dI c)).2.1 3200).2.2=0
 R:iS k p=((aK ⟨(aG k.l (dI c)).1,k.ops,iC k.ps p c⟩ p (aG k.l (dI c)).2.1 3200).1,(c:Int),(aK ⟨(aG k.l (dI c)).1,k.ops,iC k.ps p c⟩ p (aG k.l (dI c)).2.1 3200).2.1,0)
theorem Dx{k:Kr}{p:Nat}{x:bj}(hp:k.ps[p]? =some x)(dD:x.a7=true)(he:(iS k p).2.2.2=0):∃c:Nat,Tp k p x c:=by
 have hl:eU k.ps p=true:=by have ix:=(Gf.1 hp).1;refine LX ix ?_;have:=sA ix;rw[hp]at this;cases this;exact dD
 unfold iS at he;rw[if_neg (by rw[hl];simp)]at he
 split at he
 .cases he
 rename_i hf;obtain⟨c,hc,c1,c2,c3⟩:=Dw hf;rw[hc,Wk,Wk]at he;have hR:iS k p=ud k.l k.ops (iC k.ps p c) p c:=by
  rw[iS,if_neg (by rw[hl];simp),if_neg hf,hc,Wk,Wk]
 unfold ud at he;split at he
 .rename_i h1;exact absurd he h1
 rename_i h1;split at he
 .rename_i h2;exact absurd he h2
 rename_i h2;refine⟨c,c1,c2,c3,fun e=>?_,Yh h1,Yh h2,?_⟩
 .subst e;have:=c3 (Gf.1 hp).1;rw[r8,hp]at this;simp only[dD]at this;cases this
 .rw[hR,ud,if_neg h1,if_neg h2]
theorem KI.Xa{k:Kr}(h:KI k){p:Nat}{x:bj}(hp:k.ps[p]? =some x)(dD:x.a7=true)(he:(iS k p).2.2.2=0):KI (iS k p).1:=by
 obtain⟨c,C⟩:=Dx hp dD he;obtain⟨g1,g2,g3,g4⟩:=GZ hp C.le;have hx:=h.N4 (NQ hp);have h1:KI ⟨k.l,k.ops,iC k.ps p c⟩:=by
  refine h.EY ?_ ?_ fun y hy=>?_
  .rw[g1];have:=C.c8;have:=h.lp;split<;>omega
  .rw[g1];split<;>omega
  .rcases g4 y hy with hy|rfl
   .exact h.N4 hy
   .exact⟨hx.sl,fun hd=>(by cases hd),hx.cap⟩
 have gT:c<(iC k.ps p c).length:=(Gf.1 g2).1;have h2:=h1.make (Kq gT) C.em;obtain⟨j,j1,j2,_⟩:=gg C.em h.ll;rw[C.R];refine h2.uP (p:=p) (x:=x) (by show(iC k.ps p c)[p]? =some x;rw[g3 p C.ne];exact hp) dD ⟨j,_,j1,j2,by simp[dI]⟩ C.eo
end Kn
namespace Kn
theorem Dy{b:Bool}{l:List Obj}{cD br:Int}{name:ByteArray}(u0:∀(p:Nat)q,br=p->l[p]? =some q->q.am=0)(h:(cO b l cD name br).2=0){z:Int}(hz:ft l z):ft (cO b l cD name br).1 z:=by
 obtain⟨n,p,o,q,rfl,rfl,hn,hp,GS,iQ,zs,_,_,_,hR⟩:=sf h;have Dn:n≠p:=fun e=>by subst e;rw[hn]at hp;cases hp;exact zs (u0 n _ rfl hn)
 obtain⟨g1,g2,g3,g4⟩:=wR hn hp Dn name;rw[hR];refine hz.mono fun j x hx hk=>?_
 by_cases e:j=n
 .subst e;rw[hn]at hx;cases hx;exact⟨_,g1,hk⟩
 .by_cases e2:j=p
  .subst e2;rw[hp]at hx;cases hx;exact⟨_,g2,hk⟩
  .exact⟨x,by rw[g3 j e e2];exact hx,hk⟩
theorem G0{t:bp.cQ}(h:bp.ff t=true):(bp.b7 t).size<=12:=by unfold bp.ff at h;simp only[SD,decide_eq_true_eq]at h;rw[bp.lq];exact h.1.1.1.2
structure G1(o:Obj):Prop where
 n:Mp o
 k:o.ah=1\/o.ah=2\/o.ah=3
 q:o.ak=[]
 d:o.data.length<=60
 l:o.am=0
 u:o.up=0
theorem G1.Tq{o:Obj}(h:G1 o)(k:Kr):MG k (fL o):=
 ⟨h.n.fL.sm,fun e=>(by have:o.ah=0:=e;have:=h.k;omega),h.n.en,h.q,h.d,h.l,h.u,fun e=>(by have:o.ah=4:=e;have:=h.k;omega),fun e=>(by have:o.ah=5:=e;have:=h.k;omega)⟩
theorem MI:G1 m9:=⟨wG,.inl rfl,rfl,by simp[m9],rfl,rfl⟩
theorem PV:G1 Db:=⟨yu _ _,.inr (.inl rfl),rfl,by simp[Db],rfl,rfl⟩
theorem MJ(d:List Int):G1 (uI d):=⟨yu _ _,.inr (.inr rfl),rfl,by simp[uI],rfl,rfl⟩
structure Xb(k:Kr)(f:R4)(o:Obj)(j:Nat):Prop where
 em:(aG k.l (fL o)).2.2=0
 ej:(aG k.l (fL o)).2.1=j
 ee:(yo (aG k.l (fL o)).1 f j).2=0
 R:cJ k f o=(⟨(yo (aG k.l (fL o)).1 f j).1,k.ops,k.ps⟩,(j:Int),0)
theorem yz{k:Kr}(hl:k.l.length<=40){f:R4}{o:Obj}(he:(cJ k f o).2.2=0):∃j:Nat,Xb k f o j:=by
 unfold cJ at he;by_cases h1:(aG k.l (fL o)).2.2=0
 .rw[if_neg (by simp[h1])]at he
  obtain⟨j,e1,_⟩:=gg h1 hl;have he:(yo (aG k.l (fL o)).1 f (aG k.l (fL o)).2.1).2=0:=he;rw[e1]at he;refine⟨j,h1,e1,he,?_⟩;rw[cJ,if_neg (by simp[h1]),e1,he,cV,if_pos rfl]
 .rw[if_pos h1]at he;exact absurd he h1
theorem KI.Dz{k:Kr}(h:KI k){f:R4}{o:Obj}(ho:G1 o)(he:(cJ k f o).2.2=0):KI (cJ k f o).1/\ft (cJ k f o).1.l (cJ k f o).2.1/\(cJ k f o).1.ps=k.ps:=by
 obtain⟨j,C⟩:=yz h.ll he;have h1:=h.make (ho.Tq k) C.em;obtain⟨j',e1,a2,_⟩:=gg C.em h.ll;have:j'=j:=by have:=C.ej;omega
 subst this;have u0:∀(p:Nat)q,((j':Nat):Int)=p->(aG k.l (fL o)).1[p]? =some q->q.am=0:=fun p q e hq=>by have:p=j':=om;subst this;rw[a2]at hq;cases hq;exact ho.l
 rw[C.R];exact⟨h1.enter (fun hb=>G0 hb) u0 C.ee,Dy u0 C.ee ⟨j',_,rfl,a2,(ho.Tq k).kd⟩,rfl⟩
theorem KI.bR{k:Kr}(h:KI k){c:Cl}{f:R4}(hf:f.f4=0->f.br= -1\/ft k.l f.br)(he:(bR k c f).2.2=0):KI (bR k c f).1/\ft (bR k c f).1.l (bR k c f).2.1/\(bR k c f).1.ps=k.ps:=by
 unfold Kn.bR at he⊢;split at he
 .rename_i h1;exact absurd he h1
 rename_i h1;rw[if_neg h1];have hf:=hf (Yh h1);split at he
 .rename_i h2;rw[if_pos h2];split at he
  .cases he
  .rename_i h3;rw[if_neg h3];exact h.Dz MI he
 .rename_i h2;rw[if_neg h2];split at he
  .cases he
  .rename_i h3;rw[if_neg h3];refine⟨h,hf.elim (fun e=>absurd (by show f.br<0;omega) h2) id,rfl⟩
theorem rf{k:Kr}{p:Nat}{br cn:Int}(he:(aK k p br cn).2.2=0):(aK k p br cn).1.ps=eV k.ps p (fU (aW k.ps p) (dH k.ops) cn).1/\(aK k p br cn).1.l=k.l/\(fU (aW k.ps p) (dH k.ops) cn).2.2=0/\(aK k p br cn).1.ops=iR k.ops (dH k.ops) ⟨br,0⟩/\(aK k p br cn).2.1=(fU (aW k.ps p) (dH k.ops) cn).2.1:=by
 unfold aK at he⊢;split at he
 .cases he
 rename_i h1;rw[if_neg h1];split at he
 .rename_i h2;exact absurd he h2
 rename_i h2;rw[if_neg h2];exact⟨rfl,rfl,Yh h2,rfl,rfl⟩
theorem G2(ps:List bj)(p:Nat)(l:List fq):(eV ps p l).length=ps.length:=by
 unfold eV;split
 .rw[Yy]
 .rfl
theorem Ks{ps:List bj}{p:Nat}{x:bj}(hp:ps[p]? =some x)(l:List fq):(eV ps p l)[p]? =some {x with bd:=l}:=by unfold eV;rw[hp];exact Pr (Gf.1 hp).1
theorem KI.Tr{k:Kr}(h:KI k){z:Int}(hz:ft k.l z):KI ⟨na k.l z,k.ops,k.ps⟩:=by obtain⟨j,o,rfl,hj,hk⟩:=hz;have hs:=h.sm o (NQ hj);rw[na,Wk,hj];exact h.GG hj ⟨rfl,rfl,rfl,rfl,rfl,rfl⟩ hk ⟨⟨⟨[],rfl⟩,hs.t.2.1,hs.t.2.2⟩,aI,hs.e,hs.q,hs.qd⟩ aI (h.qu o (NQ hj))
theorem KI.N5{k:Kr}(h:KI k){p:Nat}{x:bj}(hp:k.ps[p]? =some x)(dD:x.a7=true){c:Cl}{au:Int}{ax:Bool}(he:(ip k p c au ax).2.f4=0):KI (ip k p c au ax).1:=by
 unfold ip eI at he⊢;split at he
 .rename_i h1;exact absurd he h1
 rename_i h1;rw[if_neg h1];obtain⟨g1,g2,g3⟩:=h.bR (h.PS au c.bm ax true) (Yh h1);split at he
 .rename_i h2;exact absurd he h2
 rename_i h2;rw[if_neg h2];have h2:=Yh h2;have h3:=g1.uP (by rw[g3];exact hp) dD g2 h2
 split
 .exact h3.Tr (by rw[(rf h2).2.1];exact g2)
 .exact h3
theorem KI.Ts{k:Kr}(h:KI k){p:Nat}{x:bj}(hp:k.ps[p]? =some x)(dD:x.a7=true){c:Cl}(he:(gY k p c).2.f4=0):KI (gY k p c).1:=by
 unfold gY at he⊢;split at he
 .cases he
 rename_i h1;rw[if_neg h1];split at he
 .rename_i h2;rw[if_pos h2];exact h.N5 hp dD he
 rename_i h2;rw[if_neg h2];split at he
 .rename_i h3;exact absurd he h3
 .rename_i h3;rw[if_neg h3];exact h.N5 hp dD he
theorem DA{k:Kr}{p:Nat}{fd need:Int}(h:(bv k p fd need).2.2=0):∃s,s∈aW k.ps p/\s.has=true/\(bv k p fd need).1=(s.eE,s.cn)/\(bv k p fd need).2.1=kq k.ops s.eE:=by
 unfold bv at h⊢;split at h
 .rename_i h1;exact absurd h h1
 .rename_i h1;rw[if_neg h1];obtain⟨s,hs,hh,e⟩:=uC (Yh h1);exact⟨s,hs,hh,e,by show kq k.ops _=_;rw[e]⟩
theorem KI.bv{k:Kr}(h:KI k){p:Nat}{fd need:Int}(he:(Kn.bv k p fd need).2.2=0):∃(n:Nat)(o:bD)(j:Nat)(x:Obj),(Kn.bv k p fd need).1.1=n/\k.ops[n]? =some o/\(Kn.bv k p fd need).2.1=j/\o.br=j/\k.l[j]? =some x/\x.ah≠0/\0<=(Kn.bv k p fd need).1.2/\(Kn.bv k p fd need).1.2<=4095:=by
 obtain⟨s,hs,hh,e,e2⟩:=DA he;obtain⟨hr,n,o,h1,h2,j,x,h3,h4,h5⟩:=h.dJ hs hh;refine⟨n,o,j,x,by rw[e];exact h1,h2,?_,h3,h4,h5,by rw[e];exact hr.1,by rw[e];exact hr.2⟩
 rw[e2,h1,kq,Wk,h2];exact h3
theorem EZ{a b:Int}(h0:0<=a)(ha:a<=1000)(va:0<=b)(hb:b<=5000000):yq a b=a+b:=by unfold yq;exact gk om om
theorem KI.m8{k:Kr}(h:KI k)(z:Int):0<=m8 k.ops z/\m8 k.ops z<=64:=by
 unfold Kn.m8;cases ho:k.ops[z.toNat]? with
 |none=>exact⟨abK _,by show(0:Int)<=64;omega⟩
 |some o=>exact h.cT o (NQ ho)
theorem Kt{ah:Int}{d:List (List Dt)}{cT n:Int}(h:(gm ah d cT n).2=0):ah=1/\0<=cT/\0<=n/\(gm ah d cT n).1=CI d cT.toNat n.toNat:=by
 unfold gm at h⊢;split at h
 .cases h
 rename_i h1;split at h
 .cases h
 rename_i h2;split at h
 .cases h
 rename_i h3;rw[if_neg h1,if_neg h2,if_neg h3];exact⟨om,om,om,rfl⟩
theorem MK(d:List (List Dt))(a n:Nat):(CI d a n).length=df n (d.length-df a d.length):=by have h1:=lU a d.length;have h2:=lU n (d.length-df a d.length);unfold CI;rw[aaC,Z3];omega
theorem ML{o:Obj}{cT:Int}{b:List Int}(ho:o.sm)(hd:o.data.length<=60)(h:(eh o cT (fB b)).2=0):(eh o cT (fB b)).1.data.length<=60:=by
 obtain⟨_,_,h1,h2,h3,h4⟩:=uG ho h;rw[h4];obtain⟨d,A5⟩:=ho.t.1;show(nW o.data cT.toNat (fB b)).length<=60;rw[A5,C4,show ∀x:List Int,(fB x).length=x.length from fun x=>by simp[fB]]
 have kj:d.length<=60:=by rw[A5]at hd;simpa[fB]using hd
 have:=EQ d b cT.toNat om om;omega
theorem KI.bytes{k:Kr}(h:KI k){p:Nat}{c:Cl}(he:(iM k p c).2.f4=0):KI (iM k p c).1:=by
 unfold iM lX at he⊢;split at he
 .rename_i h1;exact absurd he h1
 rename_i h1;rw[if_neg h1];obtain⟨n,op,j,x,e1,e2,e3,e4,e5,e6,_⟩:=h.bv (Yh h1);have Tt:=NQ e5;have NA:lW k.l (Kn.bv k p c.fd (nb c.ah)).2.1=x:=by rw[e3,lW,Wk,e5];rfl
 rw[NA]at he⊢;have FI:=h.m8 (Kn.bv k p c.fd (nb c.ah)).1.1;split at he
 .rename_i h4;rw[if_pos h4];unfold oF at he⊢;split at he
  .rename_i h5;exact absurd he h5
  rename_i h5;rw[if_neg h5];obtain⟨_,h6,_,h7⟩:=Kt (Yh h5);refine h.Oq _ ?_;rw[h7,MK];have hd:=h.MA x Tt;have m1:=lU (Kn.m8 k.ops (Kn.bv k p c.fd (nb c.ah)).1.1).toNat x.data.length;have m2:=lU c.n.toNat (x.data.length-df (Kn.m8 k.ops (Kn.bv k p c.fd (nb c.ah)).1.1).toNat x.data.length);have m3:df (Kn.m8 k.ops (Kn.bv k p c.fd (nb c.ah)).1.1).toNat x.data.length=(Kn.m8 k.ops (Kn.bv k p c.fd (nb c.ah)).1.1).toNat\/df (Kn.m8 k.ops (Kn.bv k p c.fd (nb c.ah)).1.1).toNat x.data.length=x.data.length:=by unfold df;split<;>simp
  rw[EZ om om om om];omega
 rename_i h4;rw[if_neg h4];split at he
 .rename_i h5;rw[if_pos h5];unfold oG at he⊢;split at he
  .rename_i h6;exact absurd he h6
  rename_i h6;rw[if_neg h6];have h6:=Yh h6;obtain⟨w1,w2,w3,w4,w5,w6⟩:=uG (h.sm x Tt) h6;have w7:=ML (h.sm x Tt) (h.MA x Tt) h6;have h2:KI (setObj k (Kn.bv k p c.fd (nb c.ah)).2.1 (eh x (Kn.m8 k.ops (Kn.bv k p c.fd (nb c.ah)).1.1) (fB c.data)).1):=by
   rw[e3,setObj,Wk];exact h.GG e5 (by rw[w6];exact⟨rfl,rfl,rfl,rfl,rfl,rfl⟩) e6 w1 w7 (by rw[w6];exact h.qu x Tt)
  refine h2.Oq _ ?_;rw[EZ om om om om];omega
 .rename_i h5;rw[if_neg h5];unfold ra at he⊢;split at he
  .cases he
  rename_i h6;rw[if_neg h6];exact h.Oq _ ⟨om,om⟩
theorem rh{l:List fq}{fd:Int}(h:(pP l fd).2=0):∃(i:Nat)(s:fq),fd=i/\l[i]? =some s/\s.has=true/\(pP l fd).1=(s.eE,s.cn)/\Tb.d9 (l.map oz) fd=(⟨s.eE,s.cn⟩,0):=by
 unfold pP Tb.d9 at h⊢;by_cases h0:0<=fd
 .rw[if_pos h0,NO]at h⊢;cases hy:l[fd.toNat]? with
  |none=>rw[hy]at h;cases h
  |some t=>
   rw[hy]at h;simp only[Wn]at h⊢;cases hh:t.has with
   |false=>
    have:(oz t).has=false:=hh;rw[this]at h;cases h
   |true=>
    have h2:(oz t).has=true:=hh;refine⟨fd.toNat,t,om,hy,hh,?_,?_⟩
    .rw[h2];rfl
    .rw[h2];rfl
 .rw[if_neg h0]at h;cases h
theorem AQ{l:List fq}{c:Cl}(hl:l.length<=10)(h:(mg l c).2.2=0):(mg l c).1.length<=10/\∀s,s∈(mg l c).1->s.has=true->s∈l\/∃t,t∈l/\t.has=true/\s.eE=t.eE/\0<=s.cn/\s.cn<=4095:=by
 have KV:∀s:fq,LY (oz s)=s:=fun s=>rfl
 unfold mg at h⊢;split at h
 .rename_i h7;rw[if_pos h7];unfold uA Tb.lR at h⊢;split at h
  .rename_i h1;simp only[if_pos h1];refine⟨by simp only[KB,Z3,Yy];omega,fun s hs hh=>?_⟩
   obtain⟨t,ht,rfl⟩:=Z5.1 hs;rcases aac (aaw ht)with ht|rfl
   .obtain⟨u,hu,rfl⟩:=Z5.1 ht;exact .inl hu
   .cases hh
  .rename_i h1;exact absurd h h1
 rename_i h7;rw[if_neg h7];split at h
 .rename_i h8;rw[if_pos h8];unfold JT Tb.sy at h⊢;split at h
  .rename_i h1;obtain⟨i,t,_,h3,h4,h5,h6⟩:=rh (l:=l) (fd:=c.fd) h1;have e:(Tb.d9 (l.map oz) c.fd).1=⟨t.eE,t.cn⟩:=by rw[h6]
   rw[e]at h;simp only[if_pos h1,e];obtain⟨a1,_,a3⟩:=oL (l:=l) (o:=t.eE) (r:=t.cn) h;refine⟨pS (l:=l) (o:=t.eE) (r:=t.cn) hl,fun s hs hh=>?_⟩
   rcases a3 s hs with hs|rfl
   .exact .inl hs
   .exact .inr ⟨t,NQ h3,h4,rfl,re.1 a1⟩
  .rename_i h1;exact absurd h h1
 .rename_i h8;rw[if_neg h8];unfold JU Tb.xX at h⊢;split at h
  .rename_i h1;obtain⟨i,t,_,h3,h4,h5,h6⟩:=rh (l:=l) (fd:=c.fd) h1;split at h
   .cases h
   rename_i h2;split at h
   .cases h
   rename_i h9;simp only[if_pos h1,if_neg h2,if_neg h9];have hr:Tb.dN c.aR=true:=by cases hx:Tb.dN c.aR with|true=>rfl|false=>exact absurd hx h2
   refine⟨by simp only[KB,Yy];omega,fun s hs hh=>?_⟩
   obtain⟨u,hu,rfl⟩:=Z5.1 hs;rcases aac hu with hu|rfl
   .obtain⟨v,hv,rfl⟩:=Z5.1 hu;exact .inl hv
   .refine .inr ⟨t,NQ h3,h4,?_,re.1 hr⟩;show(Tb.d9 (l.map oz) c.fd).1.eE=_;rw[h6]
  .rename_i h1;exact absurd h h1
theorem KI.Xc{k:Kr}(h:KI k){p:Nat}{x:bj}(hp:k.ps[p]? =some x)(dD:x.a7=true){c:Cl}(he:(nc k p c).2.f4=0):KI (nc k p c).1:=by
 have EE:aW k.ps p=x.bd:=by rw[aW,hp]
 have he:(mg (aW k.ps p) c).2.2=0:=he;have hx:=h.N4 (NQ hp);show KI (iL k p (mg (aW k.ps p) c).1 (mg (aW k.ps p) c).2.2);rw[iL,if_pos he];rw[EE]at he⊢;obtain⟨h1,h2⟩:=AQ hx.sl he;refine h.eV hp dD h1 fun s hs hh=>?_
 rcases h2 s hs hh with hs|⟨t,ht,hth,e,r⟩
 .exact hx.cap s hs hh
 .obtain⟨_,n,o,a1,a2,a3⟩:=hx.cap t ht hth;exact⟨r,n,o,e.trans a1,a2,a3⟩
theorem KI.name{k:Kr}(h:KI k){p:Nat}{c:Cl}(he:(kz k p c).2.f4=0):KI (kz k p c).1:=by
 have he:(gZ k c (Kn.bv k p c.fd (wI c))).2=0:=he;show KI (gZ k c (Kn.bv k p c.fd (wI c))).1;unfold gZ at he⊢;split at he
 .rename_i h1;exact absurd he h1
 rename_i h1;rw[if_neg h1];split at he
 .rename_i h2;exact absurd he h2.2
 rename_i h2;rw[if_neg h2];unfold mi at he⊢;split at he
 .rename_i h3;exact absurd he h3
 rename_i h3;rw[if_neg h3];split at he
 .cases he
 rename_i h4;rw[if_neg h4];split at he
 .rename_i h5;rw[if_pos h5];split at he
  .cases he
  rename_i h6;rw[if_neg h6];have he:(Dc k (fW k (Kn.bv k p c.fd (wI c)).2.1 c.bm true false)).2.2=0:=he;show KI (cV k _ _);rw[cV,if_pos he];exact h.Dp he
 rename_i h5;rw[if_neg h5];split at he
 .cases he
 rename_i h6;rw[if_neg h6];split at he
 .rename_i h7;rw[if_pos h7];exact(h.Dz (MJ _) he).1
 .rename_i h7;rw[if_neg h7];exact(h.Dz PV he).1
theorem KI.mr{k:Kr}(h:KI k){p:Nat}{x:bj}(hp:k.ps[p]? =some x)(dD:x.a7=true)(he:(mr k p).2.f4=0):KI (mr k p).1:=by
 unfold Kn.mr AG at he⊢;split at he
 .rename_i h1;exact absurd he h1
 rename_i h1;rw[if_neg h1];obtain⟨g1,g2,g3⟩:=h.PU (Yh h1);unfold uJ at he⊢;split at he
 .rename_i h2;exact absurd he h2
 rename_i h2;rw[if_neg h2];have h2:=Yh h2;have o1:=g1.uP (p:=p) hp dD g2 h2;split at he
 .rename_i h3;exact absurd he h3
 rename_i h3;rw[if_neg h3];have e:=rf h2;refine o1.uP (p:=p) (x:=⟨x.a7,x.fenced,x.code,(fU (aW k.ps p) (dH k.ops) 896).1⟩) (by rw[e.1];exact Ks hp _) dD (by rw[e.2.1];exact g3) (Yh h3)
theorem KI.ml{k:Kr}(h:KI k){p:Nat}{c:Cl}(he:(ml k p c).2.f4=0):KI (ml k p c).1:=by
 have key:∀r:List Obj×Int,(mj k c r).2.f4=0->r.2=0:=fun r hr=>by
  unfold mj at hr;by_cases h1:r.2=0
  .exact h1
  .rw[if_pos h1]at hr;exact absurd hr h1
 have iu:∀(br:Int)(m:bo),m.Ny->(m.has=true->fh k m.eE m.cn)->(mj k c (eJ k.l br m)).2.f4=0->KI (mj k c (eJ k.l br m)).1:=fun br m ht hc hr=>by have h1:=key _ hr;show KI (cV k _ _);rw[cV,if_pos h1];exact h.send ht hc h1
 unfold Kn.ml AB at he⊢;split at he
 .rename_i h1;exact absurd he h1
 rename_i h1;rw[if_neg h1];unfold wK at he⊢;split at he
 .rename_i h2;rw[if_pos h2];split at he
  .rename_i h3;exact absurd he h3
  rename_i h3;rw[if_neg h3];obtain⟨i,s,_,a2,a3,a4,_⟩:=rh (Yh h3);refine iu _ _ ⟨c.data,rfl⟩ (fun _=>?_) he
  show fh k (pP (aW k.ps p) c.fM).1.1 (pP (aW k.ps p) c.fM).1.2;rw[a4];exact h.dJ (NQ a2) a3
 .rename_i h2;rw[if_neg h2];exact iu _ _ ⟨c.data,rfl⟩ (fun hh=>by cases hh) he
theorem KI.mq{k:Kr}(h:KI k){p:Nat}{x:bj}(hp:k.ps[p]? =some x)(dD:x.a7=true){c:Cl}(he:(mq k p c).2.f4=0):KI (mq k p c).1:=by
 unfold Kn.mq AE at he⊢;split at he
 .rename_i h1;exact absurd he h1
 rename_i h1;rw[if_neg h1];unfold AD at he⊢;split at he
 .rename_i h2;exact absurd he h2
 rename_i h2;rw[if_neg h2];obtain⟨g1,g2⟩:=h.recv (Yh h2);have EE:aW k.ps p=x.bd:=by rw[aW,hp]
 split at he
 .rename_i h3;rw[if_pos h3];split at he
  .rename_i h4;exact absurd he h4
  rename_i h4;rw[if_neg h4];show KI (cV (iL k p _ 0) _ 0);rw[cV,if_pos rfl,iL,if_pos rfl];have h4:=Yh h4;rw[EE]at h4⊢;obtain⟨a1,_,a3⟩:=oL h4;have hx:=h.N4 (NQ hp);refine g1.eV (p:=p) hp dD (pS hx.sl) fun s hs hh=>?_
  rcases a3 s hs with hs|rfl
  .exact g1.cap x (NQ hp) s hs hh
  .have hq:fh ⟨(e9 k.l (Kn.bv k p c.fd 512).2.1).1,k.ops,k.ps⟩ (e9 k.l (Kn.bv k p c.fd 512).2.1).2.1.eE (e9 k.l (Kn.bv k p c.fd 512).2.1).2.1.cn:=by
    obtain⟨r,n,o,b1,b2,b3⟩:=g2 h3;refine⟨r,n,o,b1,b2,b3.mono fun j y hy Kl=>?_⟩
    obtain⟨n',o',_,_,_,c2,c3,_,c5,_⟩:=uO (Yh h2);rw[c5];by_cases ej:j=n'
    .subst ej;rw[c2]at hy;cases hy;exact⟨_,Pr (Gf.1 c2).1,Kl⟩
    .exact⟨y,by rw[Wf (fun e=>ej e.symm)];exact hy,Kl⟩
   exact hq
 .rename_i h3;rw[if_neg h3];show KI (cV k _ 0);rw[cV,if_pos rfl];exact g1
theorem KI.Tu{k:Kr}(h:KI k){p:Nat}{x:bj}(hp:k.ps[p]? =some x)(dD:x.a7=true){c:Cl}(he:(fp k p c).2.f4=0):KI (fp k p c).1:=by
 have ex:∀e:Kr×Int,(e.2=0->KI e.1)->KI (kD k e).1:=fun e hE=>by
  unfold kD;split
  .rename_i h1;exact hE h1
  .exact h
 unfold fp at he⊢;split at he
 .rename_i h1;rw[if_pos h1];exact h.Te p
 rename_i h1;rw[if_neg h1];split at he
 .rename_i h2;rw[if_pos h2];exact h
 rename_i h2;rw[if_neg h2];split at he
 .rename_i h3;rw[if_pos h3];unfold se at he⊢;split at he
  .rename_i h4;exact absurd he h4
  .rename_i h4;rw[if_neg h4];exact h.Xa hp dD (Yh h4)
 rename_i h3;rw[if_neg h3];split at he
 .rename_i h4;rw[if_pos h4];exact ex _ fun e=>h.exit e
 .rename_i h4;rw[if_neg h4];generalize Kn.bv k p c.fd (if c.ah=20 then 2048 else 1024)=w
  unfold lY;split
  .exact h
  .unfold uK;split
   .exact h
   .split
    .split<;>exact h
    .exact ex _ fun e=>h.exit e
theorem KI.op{k:Kr}(h:KI k){p:Nat}{x:bj}(hp:k.ps[p]? =some x)(dD:x.a7=true){c:Cl}(he:(g9 k p c).2.f4=0):KI (g9 k p c).1:=by
 unfold g9 at he⊢;split at he
 .rename_i a;rw[if_pos a];exact h.Ts hp dD he
 rename_i a;rw[if_neg a];split at he
 .rename_i a;rw[if_pos a];exact h.bytes he
 rename_i a;rw[if_neg a];split at he
 .rename_i a;rw[if_pos a];exact h.Xc hp dD he
 rename_i a;rw[if_neg a];split at he
 .rename_i a;rw[if_pos a];exact h
 rename_i a;rw[if_neg a];split at he
 .rename_i a;rw[if_pos a];exact h.name he
 rename_i a;rw[if_neg a];split at he
 .rename_i a;rw[if_pos a];exact h.mr hp dD he
 rename_i a;rw[if_neg a];split at he
 .rename_i a;rw[if_pos a];exact h.ml he
 rename_i a;rw[if_neg a];split at he
 .rename_i a;rw[if_pos a];exact h.mq hp dD he
 rename_i a;rw[if_neg a];exact h.Tu hp dD he
theorem KI.do_{k:Kr}(h:KI k)(prog:List dS)(c:Cl):KI (nI prog k c).1:=by
 unfold nI;split
 .exact h
 rename_i h1;have h1:eU k.ps c.aM=true:=by cases hx:eU k.ps c.aM with|true=>rfl|false=>exact absurd hx h1
 obtain⟨p,hc,hp,dD⟩:=pH h1;split
 .exact h
 split
 .exact h
 rw[hc,Wk];unfold u4;split
 .exact h
 .rename_i he;exact(h.op (sA hp) dD (Yh he)).Tk
theorem KI.Xd{k:Kr}(h:KI k){p:Nat}(hp:p<k.ps.length)(dD:k.ps[p].a7=true)(c:Cl):Kf k p c:=by
 have Yw:=sA hp;refine⟨h.kw hp,fun au ax=>⟨fun he=>?_,fun he=>?_⟩,⟨fun he=>(h.PU he).1.kr,fun he pX=>?_⟩,h.pr,fun he=>(h.op Yw dD he).kr⟩
 .rcases h.PS au c.bm ax true he with e|⟨j,y,e,hj,_⟩
  .rw[e];omega
  .have:=(Gf.1 hj).1;rw[e];omega
 .obtain⟨g1,⟨j,y,g2,g3,_⟩,g4⟩:=h.bR (h.PS au c.bm ax true) he;exact⟨g1.kr,by rw[g4];exact hp,j,g2,(Gf.1 g3).1⟩
 .obtain⟨g1,g2,_⟩:=h.PU he;have:=g1.uP (p:=p) Yw dD g2 pX;exact⟨this.kr,by rw[(rf pX).1,G2];exact hp⟩
theorem PW(prog:List dS)(k:Kr)(h:KI k)(c:Cl)(hd:c.data.length<=4194304){m:Mem}{K:CV->Mem->Prop}(hK:K (Td (nI prog k c)) m):
  aq Tryz.prog 19 [pT prog,dR k.l k.ops k.ps,c.cv] m K:=
 Tf prog k c (fun _ hp _ dD=>h.Xd hp dD c) hd hK
end Kn
def c45:LF:= ⟨9,[.tmp 4],(.seq (.ai [qu 4 (.aF (qb false))]) (.seq (.ai [qm 5 0,qm 6 1,qu 7 (qc 83 [5,6]),qu 8 (.aH .geq 7 (qi 0)),qm 4 8]) .ret))⟩
def c46:LF:= ⟨9,[.tmp 3],(.seq (.ai [qu 2 (.box 0),qu 3 (.aF (qb false))]) (.seq (.ai [qf 4 0 2,ql 5 4,qf 6 0 1,ql 7 6,qu 8 (.aH .eql 5 7),qm 3 8]) .ret))⟩
def c47:LF:= ⟨9,[.tmp 4],(.seq (.ai [qu 4 (.aF (qb false))]) (.seq (.ai [qm 5 0,qm 6 1,qu 7 (qc 84 [5,6]),qu 8 (.aH .geq 7 (qi 0)),qm 4 8]) .ret))⟩
def c48:LF:= ⟨21,[.tmp 2],(.seq (.ai [qu 1 (.box 0),qu 2 (.aF (qb false))]) (.seq (.ai [qf 3 0 1,ql 4 3,qu 5 (.aH .lss 4 (qi 1)),qm 6 5,qg 7 (.bX 0 1) 6 false,qg 8 (.load false 1 7) 6 false,qg 9 (.aH .geq 8 (qi 6)) 6 false,qu 10 (.pick 6 (qb true) 9),qm 11 10,qg 12 (.bX 1 1) 11 false,qg 13 (.load false 1 12) 11 false,qg 14 (.aH .lss 13 (qi 1)) 11 false,qu 15 (.pick 11 (qb true) 14),qm 16 15,qg 17 (.bX 1 1) 16 false,qg 18 (.load false 1 17) 16 false,qg 19 (.aH .geq 18 (qi 2147483648)) 16 false,qu 20 (.pick 16 (qb true) 19),qm 2 20]) .ret))⟩
def c83:LF:= ⟨19,[.tmp 4],(.seq (.ai [qu 4 (.aF (qi 0))]) (.seq (.seq (.ai [qm 6 0,qu 7 (.len 1 6),qu 8 (.aF (qi 0))]) (.block 0 (.loop (.seq (.ai [qu 9 (.aH .lss 8 7)]) (.seq (.cond 9 .skip (.exit 0)) (.seq (.block 1 (.seq (.ai [qm 10 8,qm 5 10]) (.seq (.ai [qm 11 1,qm 12 0,qm 13 5,qu 14 (.cr 2 12 13),qL 15 2 14,qu 16 (.call 11 [15])]) (.cond 16 (.seq (.ai [qm 17 5,qm 4 17]) .ret) .skip)))) (.ai [qu 18 (.aH .add 8 (qi 1)),qm 8 18]))))))) (.seq (.ai [qu 4 (.aF (qi (-1)))]) .ret)))⟩
def c84:LF:= ⟨19,[.tmp 4],(.seq (.ai [qu 4 (.aF (qi 0))]) (.seq (.seq (.ai [qm 6 0,qu 7 (.len 1 6),qu 8 (.aF (qi 0))]) (.block 0 (.loop (.seq (.ai [qu 9 (.aH .lss 8 7)]) (.seq (.cond 9 .skip (.exit 0)) (.seq (.block 1 (.seq (.ai [qm 10 8,qm 5 10]) (.seq (.ai [qm 11 1,qm 12 0,qm 13 5,qu 14 (.cr 2 12 13),qL 15 2 14,qu 16 (.call 11 [15])]) (.cond 16 (.seq (.ai [qm 17 5,qm 4 17]) .ret) .skip)))) (.ai [qu 18 (.aH .add 8 (qi 1)),qm 8 18]))))))) (.seq (.ai [qu 4 (.aF (qi (-1)))]) .ret)))⟩
structure lB where
 w:Int
 bits:Int
def lB.enc(m:lB):List Dt:=[.val (.int .i64 m.w),.val (.int .i64 m.bits)]
def lB.cv(m:lB):CV:= .rv (.agg (m.enc.map .aa))
structure cY where
 call:Int
 bn:List lB
def cY.enc(p:cY):List Dt:=[.val (.int .i64 p.call),.sl 2 (p.bn.map lB.enc)]
def cY.cv(p:cY):CV:= .rv (.agg (p.enc.map .aa))
def E0(l:List lB):CV:= .rv (.one (.aa (.sl 2 (l.map lB.enc))))
def ec(l:List cY):CV:= .rv (.one (.aa (.sl 2 (l.map cY.enc))))
def Ku:CV:= .rv (.one (.ptr 0 0))
theorem l45:bs Tryz.prog Tryz.f45=some c45:=by kernel_rfl
theorem l46:bs Tryz.prog Tryz.f46=some c46:=by kernel_rfl
theorem l47:bs Tryz.prog Tryz.f47=some c47:=by kernel_rfl
theorem l48:bs Tryz.prog Tryz.f48=some c48:=by kernel_rfl
theorem l83:bs Tryz.prog Tryz.f83=some c83:=by kernel_rfl
theorem l84:bs Tryz.prog Tryz.f84=some c84:=by kernel_rfl
theorem AR(l:List cY)(hb:l.length<=4194304)(F:Nat)(cs:List Dt)(q:cY->Bool)(hF:∀s,s∈l->∀K:CV->Mem->Prop,K (ay (q s)) [.var (cs.map .aa)]->aq Tryz.prog F [s.cv,Ku] [.var (cs.map .aa)] K):body Tryz.prog c83 [ec l,(.rv (.one (.fn F [0])))] [.var (cs.map .aa)] (fun r m=>r=an .i64 (mA q l)/\∃ex,m= .var (cs.map .aa)::ex):=by
 refine ba (fun k=>k<=l.length/\∀(j:Nat)s,j<k->l[j]? =some s->q s=false) [0,1,7] (fun k=>[(8,an .i64 (k:Nat))]) (fun _=>[.var (cs.map .aa)]) (fun k=>l.length-k) 0 ⟨Wi _,fun j s h=>absurd h (aah j)⟩ ?_ (fun k hk=>?_)
 .refine View.o1 1 [0] [] ?_
  .exact .put (by simp[bz]) rfl (.km rfl) (.nil _)
 .refine aJ (fun h=>?_) (fun h=>?_)
  .have aE:k<l.length:=by have h:(k:Int)<((l.map cY.enc).length:Int):=h;rw[KB]at h;omega
   have hg:dg (l.map cY.enc) (k:Nat)=some (l[k].enc):=by rw[bI,NO,sA aE];rfl
   refine ag hg ?_;refine hF l[k] (Wl aE) _ ?_;refine aD (fun h=>?_) (fun h=>?_)
   .rw[jB aE h hk.2];exact⟨rfl,[],rfl⟩
   .refine⟨k+1,⟨aE,fun j s hj hs=>?_⟩,(show l.length-(k+1)<l.length-k by omega),View.o 1 [0] [] ?_ ?_⟩
    .rcases Wj j k with h5|h5
     .exact hk.2 j s h5 hs
     .have:j=k:=om;subst this;rw[sA aE]at hs;cases hs;exact h
    .repeat(first|exact .nil|refine .ar ?_|refine .put (.aQ (aL om).symm) ?_|refine .eq rfl ?_)
    .exact .put (by simp[bz]) rfl (.km rfl) (.nil _)
  .have eu:¬(k:Int)<((l.map cY.enc).length:Int):=h;rw[KB]at eu;rw[lh fun j s hs=>hk.2 j s (by have:=(Gf.1 hs).1;omega) hs]
   exact⟨rfl,[],rfl⟩
theorem G3(l:List cY)(hb:l.length<=4194304)(F:Nat)(cs:List Dt)(q:cY->Bool)(hF:∀s,s∈l->∀K:CV->Mem->Prop,K (ay (q s)) [.var (cs.map .aa)]->aq Tryz.prog F [s.cv,Ku] [.var (cs.map .aa)] K){K:CV->Mem->Prop}(h:K (an .i64 (mA q l)) [.var (cs.map .aa)]):aq Tryz.prog 83 [ec l,(.rv (.one (.fn F [0])))] [.var (cs.map .aa)] K:=
 eH rfl (aX Tryz.func83 l83 (AR l hb F cs q hF)) h
theorem G4(l:List cY)(hb:l.length<=4194304)(F:Nat)(cs:List Dt)(q:cY->Bool)(hF:∀s,s∈l->∀K:CV->Mem->Prop,K (ay (q s)) [.var (cs.map .aa)]->aq Tryz.prog F [s.cv,Ku] [.var (cs.map .aa)] K)(K:CV->Mem->Prop)(h:K (ay (l.any q)) [.var (cs.map .aa)]):aq Tryz.prog 45 [ec l,(.rv (.one (.fn F [0])))] [.var (cs.map .aa)] K:=by
 refine eH rfl (aX Tryz.func45 l45 (show body Tryz.prog c45 [ec l,(.rv (.one (.fn F [0])))] [.var (cs.map .aa)] (fun r m=>r=ay (l.any q)/\∃ex,m= .var (cs.map .aa)::ex)from ?_)) h
 refine G3 l hb F cs q hF ?_;rw[<-pz];exact⟨rfl,[],rfl⟩
theorem yA(l:List lB)(hb:l.length<=4194304)(F:Nat)(q:lB->Bool)(hF:∀s,s∈l->∀K:CV->Mem->Prop,K (ay (q s)) []->aq Tryz.prog F [s.cv] [] K):body Tryz.prog c84 [E0 l,(.rv (.one (.fn F [])))] [] (fun r m=>r=an .i64 (mA q l)):=by
 refine ba (fun k=>k<=l.length/\∀(j:Nat)s,j<k->l[j]? =some s->q s=false) [0,1,7] (fun k=>[(8,an .i64 (k:Nat))]) (fun _=>[]) (fun k=>l.length-k) 0 ⟨Wi _,fun j s h=>absurd h (aah j)⟩ ?_ (fun k hk=>?_)
 .refine View.o1 0 [] [] ?_
  .exact .nil _
 .refine aJ (fun h=>?_) (fun h=>?_)
  .have aE:k<l.length:=by have h:(k:Int)<((l.map lB.enc).length:Int):=h;rw[KB]at h;omega
   have hg:dg (l.map lB.enc) (k:Nat)=some (l[k].enc):=by rw[bI,NO,sA aE];rfl
   refine ag hg ?_;refine hF l[k] (Wl aE) _ ?_;refine aD (fun h=>?_) (fun h=>?_)
   .rw[jB aE h hk.2];exact rfl
   .refine⟨k+1,⟨aE,fun j s hj hs=>?_⟩,(show l.length-(k+1)<l.length-k by omega),View.o 0 [] [] ?_ ?_⟩
    .rcases Wj j k with h5|h5
     .exact hk.2 j s h5 hs
     .have:j=k:=om;subst this;rw[sA aE]at hs;cases hs;exact h
    .repeat(first|exact .nil|refine .ar ?_|refine .put (.aQ (aL om).symm) ?_|refine .eq rfl ?_)
    .exact .nil _
  .have eu:¬(k:Int)<((l.map lB.enc).length:Int):=h;rw[KB]at eu;rw[lh fun j s hs=>hk.2 j s (by have:=(Gf.1 hs).1;omega) hs]
   exact rfl
theorem DB(l:List lB)(hb:l.length<=4194304)(F:Nat)(q:lB->Bool)(hF:∀s,s∈l->∀K:CV->Mem->Prop,K (ay (q s)) []->aq Tryz.prog F [s.cv] [] K){m:Mem}{K:CV->Mem->Prop}(h:K (an .i64 (mA q l)) m):aq Tryz.prog 84 [E0 l,(.rv (.one (.fn F [])))] m K:=
 bu Tryz.func84 l84 rfl (V5 rfl) (yA l hb F q hF) rfl rfl h
theorem G5(l:List lB)(hb:l.length<=4194304)(F:Nat)(q:lB->Bool)(hF:∀s,s∈l->∀K:CV->Mem->Prop,K (ay (q s)) []->aq Tryz.prog F [s.cv] [] K){m:Mem}{K:CV->Mem->Prop}(h:K (ay (l.any q)) m):aq Tryz.prog 47 [E0 l,(.rv (.one (.fn F [])))] m K:=by
 refine bu Tryz.func47 l47 rfl (V5 rfl) (show body Tryz.prog c47 [E0 l,(.rv (.one (.fn F [])))] [] (fun r m=>r=ay (l.any q))from ?_) rfl rfl h
 refine DB l hb F q hF ?_;rw[<-pz];exact rfl
def ri(m:lB):Bool:=decide (m.w<1)||decide (m.w>=6)||decide (m.bits<1)||decide (m.bits>=2147483648)
theorem Tv(p s:cY)(K:CV->Mem->Prop)(h:K (ay (s.call==p.call)) [.var (p.enc.map .aa)]):aq Tryz.prog 46 [s.cv,Ku] [.var (p.enc.map .aa)] K:=
 eH rfl (aX Tryz.func46 l46 (show body Tryz.prog c46 [s.cv,Ku] [.var (p.enc.map .aa)] (fun r m=>r=ay (s.call==p.call)/\∃ex,m= .var (p.enc.map .aa)::ex)from⟨rfl,_,rfl⟩)) h
theorem PX(s:lB):body Tryz.prog c48 [s.cv] [] (fun r m=>r=ay (ri s)):=by
 refine aD (fun h=>?_) (fun h=>?_)
 .rw[ri,h];exact rfl
 refine aD (fun h2=>?_) (fun h2=>?_)
 .rw[ri,h,h2];exact rfl
 refine aD (fun h3=>?_) (fun h3=>?_)
 .rw[ri,h,h2,h3];exact rfl
 .rw[ri,h,h2,h3];exact rfl
theorem Tw(s:lB)(K:CV->Mem->Prop)(h:K (ay (ri s)) []):aq Tryz.prog 48 [s.cv] [] K:=
 bu Tryz.func48 l48 rfl (V5 rfl) (PX s) rfl rfl h
def c22:LF:= ⟨46,[.cell true 2 2],(.seq (.ai [qu 2 (.alloc [(qd 0),(qd 0)])]) (.seq (.seq (.ai [qm 5 0,qu 6 (.len 1 5),qu 7 (.aH .gtr 6 (qi 30))]) (.cond 7 (.seq (.ai [qu 8 (.build [(qd 0),(qd 0)] [(0,1,(qi 5))]),qw (.store 2 2 8)]) .ret) .skip)) (.seq (.seq (.ai [qm 9 0,qu 10 (.len 1 9),qu 11 (.aF (qi 0))]) (.block 0 (.loop (.seq (.ai [qu 12 (.aH .lss 11 10)]) (.seq (.cond 12 .skip (.exit 0)) (.seq (.block 1 (.seq (.ai [qm 13 11,qu 14 (.cr 2 9 11),qL 15 2 14,qu 4 (.alloc [(qd 0),.aB]),qm 3 13,qw (.store 2 4 15)]) (.seq (.seq (.ai [qf 16 0 4,ql 17 16,qu 18 (.aH .lss 17 (qi 0)),qm 19 18,qg 20 (.bX 0 4) 19 false,qg 21 (.load false 1 20) 19 false,qg 22 (.aH .geq 21 (qi 2147483648)) 19 false,qu 23 (.pick 19 (qb true) 22)]) (.cond 23 (.seq (.ai [qm 24 3,qu 25 (.build [(qd 0),(qd 0)] [(0,1,(qi 3)),(1,1,24)]),qw (.store 2 2 25)]) .ret) .skip)) (.seq (.seq (.ai [qm 26 0,qm 27 3,qu 28 (.mD 2 26 none (some 27) none),qu 29 (.fn 46 [4]),qu 30 (qc 45 [28,29])]) (.cond 30 (.seq (.ai [qm 31 3,qu 32 (.build [(qd 0),(qd 0)] [(0,1,(qi 7)),(1,1,31)]),qw (.store 2 2 32)]) .ret) .skip)) (.seq (.seq (.ai [qf 33 1 4,ql 34 33,qu 35 (.len 1 34),qu 36 (.aH .gtr 35 (qi 3))]) (.cond 36 (.seq (.ai [qm 37 3,qu 38 (.build [(qd 0),(qd 0)] [(0,1,(qi 5)),(1,1,37)]),qw (.store 2 2 38)]) .ret) .skip)) (.seq (.ai [qf 39 1 4,ql 40 39,qu 41 (qc 47 [40,(.c (.rv (.one (.fn 48 []))))])]) (.cond 41 (.seq (.ai [qm 42 3,qu 43 (.build [(qd 0),(qd 0)] [(0,1,(qi 3)),(1,1,42)]),qw (.store 2 2 43)]) .ret) .skip))))))) (.ai [qu 44 (.aH .add 11 (qi 1)),qm 11 44]))))))) (.seq (.ai [qu 45 (.build [(qd 0),(qd 0)] []),qw (.store 2 2 45)]) .ret))))⟩
def jN(pre:List cY)(p:cY):Int:=
 if p.call<0\/p.call>=2147483648 then 3 else if pre.any (fun q=>q.call==p.call)=true then 7 else if p.bn.length>3 then 5 else if p.bn.any ri=true then 3 else 0
def gK(l:List cY)(k:Nat):Int:=match l[k]? with|some p=>jN (l.take k) p|none=>0
def rk(f:Nat->Int):Nat->Nat->Int×Int
 |0,_=>(0,0)
 |n+1,k=>if f k=0 then rk f n (k+1)else(f k,(k:Int))
theorem wT{f:Nat->Int}:∀(n k:Nat),(∀j,k<=j->j<k+n->f j=0)->rk f n k=(0,0)
 |0,_,_=>rfl
 |n+1,k,h=>by rw[rk,if_pos (h k (Pq k) om)];exact wT n (k+1) fun j h1 h2=>h j om om
theorem oM{f:Nat->Int}:∀(n k j:Nat),k<=j->j<k+n->(∀i,k<=i->i<j->f i=0)->f j≠0->rk f n k=(f j,(j:Int))
 |0,_,_,_,_,_,_=>om
 |n+1,k,j,h1,h2,h3,h4=>by
  rw[rk];rcases Wj k j with h|h
  .rw[if_pos (h3 k (Pq k) h)];exact oM n (k+1) j om om (fun i a b=>h3 i om b) h4
  .have:k=j:=om;subst this;rw[if_neg h4]
def cX(l:List cY):Int×Int:=if l.length>30 then(5,0)else rk (gK l) l.length 0
theorem G6{l:List cY}{k:Nat}(h0:¬l.length>30)(hk:k<l.length)(hg:∀j,j<k->gK l j=0){e:Int}(h:jN (l.take k) l[k]=e)(he:e≠0):yv (e,(k:Int))=yv (cX l):=by
 have hw:gK l k=e:=by rw[gK,sA hk];exact h
 rw[cX,if_neg h0,oM l.length 0 k om om (fun i _ hi=>hg i hi) (by rw[hw];exact he),hw]
theorem DC{l:List cY}{k:Nat}(hk:k<l.length)(hg:∀j,j<k->gK l j=0)(h:jN (l.take k) l[k]=0):∀j,j<k+1->gK l j=0:=by
 intro j hj;rcases Wj j k with h1|h1
 .exact hg j h1
 .have:j=k:=om;subst this;rw[gK,sA hk];exact h
theorem l22:bs Tryz.prog Tryz.f22=some c22:=by kernel_rfl
theorem DD(l:List cY):body Tryz.prog c22 [ec l] [] (fun r m=>r=yv (cX l)):=by
 refine aJ (fun h=>?_) (fun h0=>?_)
 .have h:l.length>30:=by have h:(((l.map cY.enc).length:Nat):Int)>30:=h;rw[KB]at h;omega
  rw[cX,if_pos h];exact rfl
 have h0:¬l.length>30:=by have h:¬(((l.map cY.enc).length:Nat):Int)>30:=h0;rw[KB]at h;omega
 refine ba (fun k=>k<=l.length/\∀(j:Nat),j<k->gK l j=0) [0,2,9,10] (fun k=>[(11,an .i64 (k:Nat))]) (fun _=>[.var [.aa (.val (.int .i64 0)),.aa (.val (.int .i64 0))]]) (fun k=>l.length-k) 0 ⟨Wi _,fun j h=>absurd h (aah j)⟩ ?_ (fun k hk=>?_)
 .refine View.o1 1 [0] [] ?_
  .exact .put (by simp[bz]) rfl (.eq rfl aI) (.nil _)
 .refine aJ (fun h=>?_) (fun h=>?_)
  .have aE:k<l.length:=by have h:(k:Int)<((l.map cY.enc).length:Int):=h;rw[KB]at h;omega
   have bad:∀{e:Int},jN (l.take k) l[k]=e->e≠0->yv (e,(k:Int))=yv (cX l):=fun a b=>G6 h0 aE hk.2 a b
   have Tx:=DC aE hk.2;have hg:dg (l.map cY.enc) (k:Nat)=some [.val (.int .i64 l[k].call),.sl 2 (l[k].bn.map lB.enc)]:=by rw[bI,NO,sA aE];rfl
   generalize l[k]=p at bad Tx hg;obtain⟨call,bn⟩:=p;refine ag hg ?_;refine aJ (fun h=>?_) (fun h1=>?_)
   .exact bad (by rw[jN,if_pos (.inl h)]) (by decide)
   refine aJ (fun h=>?_) (fun h2=>?_)
   .exact bad (by rw[jN,if_pos (.inr h)]) (by decide)
   have n1:¬((⟨call,bn⟩:cY).call<0\/(⟨call,bn⟩:cY).call>=2147483648):=fun h=>h.elim h1 h2
   have rL:∀{m:Mem}{K:CV->Mem->Prop},cR m 1=some (.var ((⟨call,bn⟩:cY).enc.map .aa))->K (ay ((l.take k).any fun q=>q.call==(⟨call,bn⟩:cY).call)) m->aq Tryz.prog 45 [.rv (.one (.aa (.sl 2 (((l.map cY.enc).take k).drop 0)))),.rv (.one (.fn 46 [1]))] m K:=by
    intro m K hm hK;have e:((l.map cY.enc).take k).drop 0=(l.take k).map cY.enc:=aI;rw[e];exact fc 1 hm rfl rfl (G4 (l.take k) (by simp;omega) 46 (⟨call,bn⟩:cY).enc (fun q=>q.call==(⟨call,bn⟩:cY).call) fun s _ K hs=>Tv _ s K hs) hK
   refine cj (by simp[aak];omega) ?_
   refine rL rfl ?_;refine aD (fun h=>?_) (fun h3=>?_)
   .exact bad (by rw[jN,if_neg n1,if_pos h]) (by decide)
   have n2:¬((l.take k).any fun q=>q.call==(⟨call,bn⟩:cY).call)=true:=by rw[h3];simp
   refine aJ (fun h=>?_) (fun h4=>?_)
   .have h:(⟨call,bn⟩:cY).bn.length>3:=by have h:(((bn.map lB.enc).length:Nat):Int)>3:=h;rw[KB]at h;show bn.length>3;omega
    exact bad (by rw[jN,if_neg n1,if_neg n2,if_pos h]) (by decide)
   have n3:¬(⟨call,bn⟩:cY).bn.length>3:=by have h:¬(((bn.map lB.enc).length:Nat):Int)>3:=h4;rw[KB]at h;show ¬bn.length>3;omega
   refine G5 bn (by have:¬bn.length>3:=n3;omega) 48 ri (fun s _ K hs=>Tw s K hs) ?_
   refine aD (fun h=>?_) (fun h5=>?_)
   .exact bad (by rw[jN,if_neg n1,if_neg n2,if_neg n3,if_pos h]) (by decide)
   have n4:¬(⟨call,bn⟩:cY).bn.any ri=true:=by show ¬bn.any ri=true;rw[h5];simp
   refine⟨k+1,⟨aE,Tx (by rw[jN,if_neg n1,if_neg n2,if_neg n3,if_neg n4])⟩,(show l.length-(k+1)<l.length-k by omega),View.o 2 [0] [] ?_ ?_⟩
   .repeat(first|exact .nil|refine .ar ?_|refine .put (.aQ (aL om).symm) ?_|refine .eq rfl ?_)
   .exact .put (by simp[bz]) rfl (.eq rfl aI) (.nil _)
  .have eu:¬(k:Int)<((l.map cY.enc).length:Int):=h;rw[KB]at eu;rw[cX,if_neg h0,wT l.length 0 fun j _ hj=>hk.2 j om]
   exact rfl
theorem Kv(l:List cY){m:Mem}{K:CV->Mem->Prop}(h:K (yv (cX l)) m):aq Tryz.prog 22 [ec l] m K:=
 bu Tryz.func22 l22 rfl (V5 rfl) (DD l) rfl rfl h
end Go.Proofs.YtodckkkbiidffaaGreatDoor
