/- Part 30 of 35. -/
import Derived.Test.YtllkfpggoigbaaaGreatDoorS15
import Derived.Test.YtllkfpggoigbaaaGreatDoorS16
import Derived.Test.YtllkfpggoigbaaaGreatDoorS26
import Derived.Test.YtllkfpggoigbaaaGreatDoorS29
import Derived.Shelf.SlSortCmp.WholeK
import Derived.Shelf.SlicesG.Cmp
import Derived.WalkKit
import Derived.OwnWalkIn
set_option linter.unusedVariables false
set_option linter.unusedSimpArgs false
set_option linter.unnecessarySimpa false
set_option maxRecDepth 100000
set_option maxHeartbeats 0
namespace Go.Proofs.YtllkfpggoigbaaaGreatDoor
open Proofs.Tryz
open Go.AM Go.ChangeShapes Go.WideShapes Go.ChangeAt Go.RowKit
namespace Kn
theorem H6{b:Bool}{l:List Obj}{dir obj:Int}{name:ByteArray}(tZ:∀(p:Nat)q,obj=p->l[p]? =some q->q.ak=0)(h:(cr b l dir name obj).2=0){z:Int}(hz:gJ l z):gJ (cr b l dir name obj).1 z:=by
 obtain⟨n,p,o,q,rfl,rfl,hn,hp,FC,km,i7,_,_,_,hR⟩:=m7 h;have t8:n≠p:=λe=>by subst e;rw[hn]at hp;cases hp;exact i7 (tZ n _ rfl hn)
 obtain⟨g1,g2,g3,g4⟩:=qK hn hp t8 name;rw[hR];refine hz.mono λj x hx hk=>?_
 by_cases e:j=n
 .subst e;rw[hn]at hx;cases hx;exact⟨_,g1,hk⟩
 .by_cases e2:j=p
  .subst e2;rw[hp]at hx;cases hx;exact⟨_,g2,hk⟩
  .exact⟨x,by rw[g3 j e e2];exact hx,hk⟩
theorem Ms{t:bT.dP}(h:bT.gn t=true):(bT.cU t).size<=12:=by unfold bT.gn at h;simp only[aaL,decide_eq_true_eq]at h;rw[bT.nT];exact h.1.1.1.2
structure H7(o:Obj):Prop where
 n:SX o
 k:o.ah=1\/o.ah=2\/o.ah=3
 q:o.aj=[]
 d:o.data.length<=60
 l:o.ak=0
 u:o.up=0
theorem H7.Xo{o:Obj}(h:H7 o)(k:Kr):P7 k (ic o):=
 ⟨h.n.ic.sm,λe=>(by have:o.ah=0:=e;have:=h.k;omega),h.n.en,h.q,h.d,h.l,h.u,λe=>(by have:o.ah=4:=e;have:=h.k;omega),λe=>(by have:o.ah=5:=e;have:=h.k;omega)⟩
theorem CO:H7 pY:=⟨A7,.inl rfl,rfl,by simp[pY],rfl,rfl⟩
theorem Qm:H7 HD:=⟨CG _ _,.inr (.inl rfl),rfl,by simp[HD],rfl,rfl⟩
theorem JX(d:List Int):H7 (yS d):=⟨CG _ _,.inr (.inr rfl),rfl,by simp[yS],rfl,rfl⟩
structure afr(k:Kr)(f:R4)(o:Obj)(j:Nat):Prop where
 em:(aM k.l (ic o)).2.2=0
 ej:(aM k.l (ic o)).2.1=j
 ee:(nN (aM k.l (ic o)).1 f j).2=0
 R:cQ k f o=(⟨(nN (aM k.l (ic o)).1 f j).1,k.ops,k.ps⟩,(j:Int),0)
theorem tT{k:Kr}(hl:k.l.length<=40){f:R4}{o:Obj}(he:(cQ k f o).2.2=0):∃j:Nat,afr k f o j:=by
 unfold cQ at he;by_cases h1:(aM k.l (ic o)).2.2=0
 .rw[if_neg (by simp[h1])]at he
  obtain⟨j,e1,_⟩:=gq h1 hl;have he:(nN (aM k.l (ic o)).1 f (aM k.l (ic o)).2.1).2=0:=he;rw[e1]at he;refine⟨j,h1,e1,he,?_⟩;rw[cQ,if_neg (by simp[h1]),e1,he,cu,if_pos rfl]
 .rw[if_pos h1]at he;exact absurd he h1
theorem KI.p8{k:Kr}(h:KI k){f:R4}{o:Obj}(ho:H7 o)(he:(cQ k f o).2.2=0):KI (cQ k f o).1/\gJ (cQ k f o).1.l (cQ k f o).2.1/\(cQ k f o).1.ps=k.ps:=by
 obtain⟨j,C⟩:=tT h.ll he;have h1:=h.make (ho.Xo k) C.em;obtain⟨j',e1,a2,_⟩:=gq C.em h.ll;have:j'=j:=by have:=C.ej;omega
 subst this;have tZ:∀(p:Nat)q,((j':Nat):Int)=p->(aM k.l (ic o)).1[p]? =some q->q.ak=0:=λp q e hq=>by have:p=j':=om;subst this;rw[a2]at hq;cases hq;exact ho.l
 rw[C.R];exact⟨h1.enter (λhb=>Ms hb) tZ C.ee,H6 tZ C.ee ⟨j',_,rfl,a2,(ho.Xo k).kd⟩,rfl⟩
theorem KI.cz{k:Kr}(h:KI k){c:Cl}{f:R4}(hf:f.gz=0->f.obj= -1\/gJ k.l f.obj)(he:(cz k c f).2.2=0):KI (cz k c f).1/\gJ (cz k c f).1.l (cz k c f).2.1/\(cz k c f).1.ps=k.ps:=by
 unfold Kn.cz at he|-;split at he
 .rename_i h1;exact absurd he h1
 rename_i h1;rw[if_neg h1];have hf:=hf (aah h1);split at he
 .rename_i h2;rw[if_pos h2];split at he
  .cases he
  .rename_i h3;rw[if_neg h3];exact h.p8 CO he
 .rename_i h2;rw[if_neg h2];split at he
  .cases he
  .rename_i h3;rw[if_neg h3];refine⟨h,hf.elim (λe=>absurd (by show f.obj<0;omega) h2) id,rfl⟩
theorem uW{k:Kr}{p:Nat}{obj rts:Int}(he:(aI k p obj rts).2.2=0):(aI k p obj rts).1.ps=dI k.ps p (gx (aO k.ps p) (dm k.ops) rts).1/\(aI k p obj rts).1.l=k.l/\(gx (aO k.ps p) (dm k.ops) rts).2.2=0/\(aI k p obj rts).1.ops=jL k.ops (dm k.ops) ⟨obj,0⟩/\(aI k p obj rts).2.1=(gx (aO k.ps p) (dm k.ops) rts).2.1:=by
 unfold aI at he|-;split at he
 .cases he
 rename_i h1;rw[if_neg h1];split at he
 .rename_i h2;exact absurd he h2
 rename_i h2;rw[if_neg h2];exact⟨rfl,rfl,aah h2,rfl,rfl⟩
theorem Mt(ps:List aL)(p:Nat)(l:List dJ):(dI ps p l).length=ps.length:=by
 unfold dI;split
 .rw[abt]
 .rfl
theorem tU{ps:List aL}{p:Nat}{x:aL}(hp:ps[p]? =some x)(l:List dJ):(dI ps p l)[p]? =some {x with an:=l}:=by unfold dI;rw[hp];exact aaj (Lw.1 hp).1
theorem KI.aa6{k:Kr}(h:KI k){z:Int}(hz:gJ k.l z):KI ⟨nj k.l z,k.ops,k.ps⟩:=by obtain⟨j,o,rfl,hj,hk⟩:=hz;have hs:=h.sm o (Vm hj);rw[nj,aal,hj];exact h.Hw hj ⟨rfl,rfl,rfl,rfl,rfl,rfl⟩ hk ⟨⟨⟨[],rfl⟩,hs.t.2.1,hs.t.2.2⟩,aD,hs.e,hs.q,hs.qd⟩ aD (h.qu o (Vm hj))
theorem KI.ze{k:Kr}(h:KI k){p:Nat}{x:aL}(hp:k.ps[p]? =some x)(bO:x.aF=true){c:Cl}{aB:Int}{aC:Bool}(he:(gD k p c aB aC).2.gz=0):KI (gD k p c aB aC).1:=by
 unfold gD js at he|-;split at he
 .rename_i h1;exact absurd he h1
 rename_i h1;rw[if_neg h1];obtain⟨g1,g2,g3⟩:=h.cz (h.Tc aB c.cG aC true) (aah h1);split at he
 .rename_i h2;exact absurd he h2
 rename_i h2;rw[if_neg h2];have h2:=aah h2;have h3:=g1.iu (by rw[g3];exact hp) bO g2 h2
 split
 .exact h3.aa6 (by rw[(uW h2).2.1];exact g2)
 .exact h3
theorem KI.aa7{k:Kr}(h:KI k){p:Nat}{x:aL}(hp:k.ps[p]? =some x)(bO:x.aF=true){c:Cl}(he:(gX k p c).2.gz=0):KI (gX k p c).1:=by
 unfold gX at he|-;split at he
 .cases he
 rename_i h1;rw[if_neg h1];split at he
 .rename_i h2;rw[if_pos h2];exact h.ze hp bO he
 rename_i h2;rw[if_neg h2];split at he
 .rename_i h3;exact absurd he h3
 .rename_i h3;rw[if_neg h3];exact h.ze hp bO he
theorem H8{k:Kr}{p:Nat}{fd need:Int}(h:(bC k p fd need).2.2=0):∃s,s∈aO k.ps p/\s.has=true/\(bC k p fd need).1=(s.b8,s.rts)/\(bC k p fd need).2.1=li k.ops s.b8:=by
 unfold bC at h|-;split at h
 .rename_i h1;exact absurd h h1
 .rename_i h1;rw[if_neg h1];obtain⟨s,hs,hh,e⟩:=yM (aah h1);exact⟨s,hs,hh,e,by show li k.ops _=_;rw[e]⟩
theorem KI.bC{k:Kr}(h:KI k){p:Nat}{fd need:Int}(he:(Kn.bC k p fd need).2.2=0):∃(n:Nat)(o:aT)(j:Nat)(x:Obj),(Kn.bC k p fd need).1.1=n/\k.ops[n]? =some o/\(Kn.bC k p fd need).2.1=j/\o.obj=j/\k.l[j]? =some x/\x.ah≠0/\0<=(Kn.bC k p fd need).1.2/\(Kn.bC k p fd need).1.2<=4095:=by
 obtain⟨s,hs,hh,e,e2⟩:=H8 he;obtain⟨hr,n,o,h1,h2,j,x,h3,h4,h5⟩:=h.eG hs hh;refine⟨n,o,j,x,by rw[e];exact h1,h2,?_,h3,h4,h5,by rw[e];exact hr.1,by rw[e];exact hr.2⟩
 rw[e2,h1,li,aal,h2];exact h3
theorem JY{a b:Int}(h0:0<=a)(ha:a<=1000)(vg:0<=b)(hb:b<=5000000):CE a b=a+b:=by unfold CE;exact iR om om
theorem KI.pW{k:Kr}(h:KI k)(z:Int):0<=pW k.ops z/\pW k.ops z<=64:=by
 unfold Kn.pW;cases ho:k.ops[z.toNat]? with
 |none=>exact⟨aew _,by show(0:Int)<=64;omega⟩
 |some o=>exact h.di o (Vm ho)
theorem Qn{ah:Int}{d:List (List Dt)}{di n:Int}(h:(kL ah d di n).2=0):ah=1/\0<=di/\0<=n/\(kL ah d di n).1=Lz d di.toNat n.toNat:=by
 unfold kL at h|-;split at h
 .cases h
 rename_i h1;split at h
 .cases h
 rename_i h2;split at h
 .cases h
 rename_i h3;rw[if_neg h1,if_neg h2,if_neg h3];exact⟨om,om,om,rfl⟩
theorem Tq(d:List (List Dt))(a n:Nat):(Lz d a n).length=fD n (d.length-fD a d.length):=by have h1:=oP a d.length;have h2:=oP n (d.length-fD a d.length);unfold Lz;rw[abZ,aa8];omega
theorem Tr{o:Obj}{di:Int}{b:List Int}(ho:o.sm)(hd:o.data.length<=60)(h:(fo o di (eX b)).2=0):(fo o di (eX b)).1.data.length<=60:=by
 obtain⟨_,_,h1,h2,h3,h4⟩:=tH ho h;rw[h4];obtain⟨d,Fp⟩:=ho.t.1;show(rk o.data di.toNat (eX b)).length<=60;rw[Fp,Hv,show ∀x:List Int,(eX x).length=x.length from λx=>by simp[eX]]
 have lH:d.length<=60:=by rw[Fp]at hd;simpa[eX]using hd
 have:=JG d b di.toNat om om;omega
theorem KI.bytes{k:Kr}(h:KI k){p:Nat}{c:Cl}(he:(gY k p c).2.gz=0):KI (gY k p c).1:=by
 unfold gY mi at he|-;split at he
 .rename_i h1;exact absurd he h1
 rename_i h1;rw[if_neg h1];obtain⟨n,op,j,x,e1,e2,e3,e4,e5,e6,_⟩:=h.bC (aah h1);have hxm:=Vm e5;have pK:j9 k.l (Kn.bC k p c.fd (o7 c.ah)).2.1=x:=by rw[e3,j9,aal,e5];rfl
 rw[pK]at he|-;have vK:=h.pW (Kn.bC k p c.fd (o7 c.ah)).1.1;split at he
 .rename_i h4;rw[if_pos h4];unfold rV at he|-;split at he
  .rename_i h5;exact absurd he h5
  rename_i h5;rw[if_neg h5];obtain⟨_,h6,_,h7⟩:=Qn (aah h5);refine h.ND _ ?_;rw[h7,Tq];have hd:=h.P2 x hxm;have m1:=oP (Kn.pW k.ops (Kn.bC k p c.fd (o7 c.ah)).1.1).toNat x.data.length;have m2:=oP c.n.toNat (x.data.length-fD (Kn.pW k.ops (Kn.bC k p c.fd (o7 c.ah)).1.1).toNat x.data.length);have m3:fD (Kn.pW k.ops (Kn.bC k p c.fd (o7 c.ah)).1.1).toNat x.data.length=(Kn.pW k.ops (Kn.bC k p c.fd (o7 c.ah)).1.1).toNat\/fD (Kn.pW k.ops (Kn.bC k p c.fd (o7 c.ah)).1.1).toNat x.data.length=x.data.length:=by unfold fD;split<;>simp
  rw[JY om om om om];omega
 rename_i h4;rw[if_neg h4];split at he
 .rename_i h5;rw[if_pos h5];unfold oR at he|-;split at he
  .rename_i h6;exact absurd he h6
  rename_i h6;rw[if_neg h6];have h6:=aah h6;obtain⟨w1,w2,w3,w4,w5,w6⟩:=tH (h.sm x hxm) h6;have w7:=Tr (h.sm x hxm) (h.P2 x hxm) h6;have h2:KI (setObj k (Kn.bC k p c.fd (o7 c.ah)).2.1 (fo x (Kn.pW k.ops (Kn.bC k p c.fd (o7 c.ah)).1.1) (eX c.data)).1):=by
   rw[e3,setObj,aal];exact h.Hw e5 (by rw[w6];exact⟨rfl,rfl,rfl,rfl,rfl,rfl⟩) e6 w1 w7 (by rw[w6];exact h.qu x hxm)
  refine h2.ND _ ?_;rw[JY om om om om];omega
 .rename_i h5;rw[if_neg h5];unfold pZ at he|-;split at he
  .cases he
  rename_i h6;rw[if_neg h6];exact h.ND _ ⟨om,om⟩
theorem qN{l:List dJ}{fd:Int}(h:(kT l fd).2=0):∃(i:Nat)(s:dJ),fd=i/\l[i]? =some s/\s.has=true/\(kT l fd).1=(s.b8,s.rts)/\Tb.fj (l.map pR) fd=(⟨s.b8,s.rts⟩,0):=by
 unfold kT Tb.fj at h|-;by_cases h0:0<=fd
 .rw[if_pos h0,Qu]at h|-;cases hy:l[fd.toNat]? with
  |none=>rw[hy]at h;cases h
  |some t=>
   rw[hy]at h;simp only[aa3]at h|-;cases hh:t.has with
   |false=>
    have:(pR t).has=false:=hh;rw[this]at h;cases h
   |true=>
    have h2:(pR t).has=true:=hh;refine⟨fd.toNat,t,om,hy,hh,?_,?_⟩
    .rw[h2];rfl
    .rw[h2];rfl
 .rw[if_neg h0]at h;cases h
theorem wa{l:List dJ}{c:Cl}(hl:l.length<=10)(h:(n8 l c).2.2=0):(n8 l c).1.length<=10/\∀s,s∈(n8 l c).1->s.has=true->s∈l\/∃t,t∈l/\t.has=true/\s.b8=t.b8/\0<=s.rts/\s.rts<=4095:=by
 have Ra:∀s:dJ,Sv (pR s)=s:=λs=>rfl
 unfold n8 at h|-;split at h
 .rename_i h7;rw[if_pos h7];unfold yK Tb.oN at h|-;split at h
  .rename_i h1;simp only[if_pos h1];refine⟨by simp only[O9,aa8,abt];omega,λs hs hh=>?_⟩
   obtain⟨t,ht,rfl⟩:=abl.1 hs;rcases abF (ab0 ht)with ht|rfl
   .obtain⟨u,hu,rfl⟩:=abl.1 ht;exact .inl hu
   .cases hh
  .rename_i h1;exact absurd h h1
 rename_i h7;rw[if_neg h7];split at h
 .rename_i h8;rw[if_pos h8];unfold PD Tb.ww at h|-;split at h
  .rename_i h1;obtain⟨i,t,_,h3,h4,h5,h6⟩:=qN (l:=l) (fd:=c.fd) h1;have e:(Tb.fj (l.map pR) c.fd).1=⟨t.b8,t.rts⟩:=by rw[h6]
   rw[e]at h;simp only[if_pos h1,e];obtain⟨a1,_,a3⟩:=mz (l:=l) (o:=t.b8) (r:=t.rts) h;refine⟨tJ (l:=l) (o:=t.b8) (r:=t.rts) hl,λs hs hh=>?_⟩
   rcases a3 s hs with hs|rfl
   .exact .inl hs
   .exact .inr ⟨t,Vm h3,h4,rfl,uU.1 a1⟩
  .rename_i h1;exact absurd h h1
 .rename_i h8;rw[if_neg h8];unfold PF Tb.Ck at h|-;split at h
  .rename_i h1;obtain⟨i,t,_,h3,h4,h5,h6⟩:=qN (l:=l) (fd:=c.fd) h1;split at h
   .cases h
   rename_i h2;split at h
   .cases h
   rename_i h9;simp only[if_pos h1,if_neg h2,if_neg h9];have hr:Tb.fm c.aZ=true:=by cases hx:Tb.fm c.aZ with|true=>rfl|false=>exact absurd hx h2
   refine⟨by simp only[O9,abt];omega,λs hs hh=>?_⟩
   obtain⟨u,hu,rfl⟩:=abl.1 hs;rcases abF hu with hu|rfl
   .obtain⟨v,hv,rfl⟩:=abl.1 hu;exact .inl hv
   .refine .inr ⟨t,Vm h3,h4,?_,uU.1 hr⟩;show(Tb.fj (l.map pR) c.fd).1.b8=_;rw[h6]
  .rename_i h1;exact absurd h h1
theorem KI.afs{k:Kr}(h:KI k){p:Nat}{x:aL}(hp:k.ps[p]? =some x)(bO:x.aF=true){c:Cl}(he:(n9 k p c).2.gz=0):KI (n9 k p c).1:=by
 have Fz:aO k.ps p=x.an:=by rw[aO,hp]
 have he:(n8 (aO k.ps p) c).2.2=0:=he;have hx:=h.Bl (Vm hp);show KI (fR k p (n8 (aO k.ps p) c).1 (n8 (aO k.ps p) c).2.2);rw[fR,if_pos he];rw[Fz]at he|-;obtain⟨h1,h2⟩:=wa hx.sl he;refine h.dI hp bO h1 λs hs hh=>?_
 rcases h2 s hs hh with hs|⟨t,ht,hth,e,r⟩
 .exact hx.cap s hs hh
 .obtain⟨_,n,o,a1,a2,a3⟩:=hx.cap t ht hth;exact⟨r,n,o,e.trans a1,a2,a3⟩
theorem KI.name{k:Kr}(h:KI k){p:Nat}{c:Cl}(he:(jM k p c).2.gz=0):KI (jM k p c).1:=by
 have he:(iX k c (Kn.bC k p c.fd (vY c))).2=0:=he;show KI (iX k c (Kn.bC k p c.fd (vY c))).1;unfold iX at he|-;split at he
 .rename_i h1;exact absurd he h1
 rename_i h1;rw[if_neg h1];split at he
 .rename_i h2;exact absurd he h2.2
 rename_i h2;rw[if_neg h2];unfold oc at he|-;split at he
 .rename_i h3;exact absurd he h3
 rename_i h3;rw[if_neg h3];split at he
 .cases he
 rename_i h4;rw[if_neg h4];split at he
 .rename_i h5;rw[if_pos h5];split at he
  .cases he
  rename_i h6;rw[if_neg h6];have he:(EJ k (fb k (Kn.bC k p c.fd (vY c)).2.1 c.cG true false)).2.2=0:=he;show KI (cu k _ _);rw[cu,if_pos he];exact h.y0 he
 rename_i h5;rw[if_neg h5];split at he
 .cases he
 rename_i h6;rw[if_neg h6];split at he
 .rename_i h7;rw[if_pos h7];exact(h.p8 (JX _) he).1
 .rename_i h7;rw[if_neg h7];exact(h.p8 Qm he).1
theorem KI.jx{k:Kr}(h:KI k){p:Nat}{x:aL}(hp:k.ps[p]? =some x)(bO:x.aF=true)(he:(jx k p).2.gz=0):KI (jx k p).1:=by
 unfold Kn.jx yW at he|-;split at he
 .rename_i h1;exact absurd he h1
 rename_i h1;rw[if_neg h1];obtain⟨g1,g2,g3⟩:=h.ES (aah h1);unfold tK at he|-;split at he
 .rename_i h2;exact absurd he h2
 rename_i h2;rw[if_neg h2];have h2:=aah h2;have o1:=g1.iu (p:=p) hp bO g2 h2;split at he
 .rename_i h3;exact absurd he h3
 rename_i h3;rw[if_neg h3];have e:=uW h2;refine o1.iu (p:=p) (x:=⟨x.aF,x.fenced,x.code,(gx (aO k.ps p) (dm k.ops) 896).1⟩) (by rw[e.1];exact tU hp _) bO (by rw[e.2.1];exact g3) (aah h3)
theorem KI.jv{k:Kr}(h:KI k){p:Nat}{c:Cl}(he:(jv k p c).2.gz=0):KI (jv k p c).1:=by
 have key:∀r:List Obj×Int,(lj k c r).2.gz=0->r.2=0:=λr hr=>by
  unfold lj at hr;by_cases h1:r.2=0
  .exact h1
  .rw[if_pos h1]at hr;exact absurd hr h1
 have gu:∀(obj:Int)(m:cy),m.M1->(m.has=true->fS k m.b8 m.rts)->(lj k c (eW k.l obj m)).2.gz=0->KI (lj k c (eW k.l obj m)).1:=λobj m ht hc hr=>by have h1:=key _ hr;show KI (cu k _ _);rw[cu,if_pos h1];exact h.send ht hc h1
 unfold Kn.jv yT at he|-;split at he
 .rename_i h1;exact absurd he h1
 rename_i h1;rw[if_neg h1];unfold vZ at he|-;split at he
 .rename_i h2;rw[if_pos h2];split at he
  .rename_i h3;exact absurd he h3
  rename_i h3;rw[if_neg h3];obtain⟨i,s,_,a2,a3,a4,_⟩:=qN (aah h3);refine gu _ _ ⟨c.data,rfl⟩ (λ_=>?_) he
  show fS k (kT (aO k.ps p) c.iy).1.1 (kT (aO k.ps p) c.iy).1.2;rw[a4];exact h.eG (Vm a2) a3
 .rename_i h2;rw[if_neg h2];exact gu _ _ ⟨c.data,rfl⟩ (λhh=>by cases hh) he
theorem KI.jw{k:Kr}(h:KI k){p:Nat}{x:aL}(hp:k.ps[p]? =some x)(bO:x.aF=true){c:Cl}(he:(jw k p c).2.gz=0):KI (jw k p c).1:=by
 unfold Kn.jw yV at he|-;split at he
 .rename_i h1;exact absurd he h1
 rename_i h1;rw[if_neg h1];unfold yU at he|-;split at he
 .rename_i h2;exact absurd he h2
 rename_i h2;rw[if_neg h2];obtain⟨g1,g2⟩:=h.recv (aah h2);have Fz:aO k.ps p=x.an:=by rw[aO,hp]
 split at he
 .rename_i h3;rw[if_pos h3];split at he
  .rename_i h4;exact absurd he h4
  rename_i h4;rw[if_neg h4];show KI (cu (fR k p _ 0) _ 0);rw[cu,if_pos rfl,fR,if_pos rfl];have h4:=aah h4;rw[Fz]at h4|-;obtain⟨a1,_,a3⟩:=mz h4;have hx:=h.Bl (Vm hp);refine g1.dI (p:=p) hp bO (tJ hx.sl) λs hs hh=>?_
  rcases a3 s hs with hs|rfl
  .exact g1.cap x (Vm hp) s hs hh
  .have hq:fS ⟨(fH k.l (Kn.bC k p c.fd 512).2.1).1,k.ops,k.ps⟩ (fH k.l (Kn.bC k p c.fd 512).2.1).2.1.b8 (fH k.l (Kn.bC k p c.fd 512).2.1).2.1.rts:=by
    obtain⟨r,n,o,b1,b2,b3⟩:=g2 h3;refine⟨r,n,o,b1,b2,b3.mono λj y hy Mm=>?_⟩
    obtain⟨n',o',_,_,_,c2,c3,_,c5,_⟩:=r9 (aah h2);rw[c5];by_cases ej:j=n'
    .subst ej;rw[c2]at hy;cases hy;exact⟨_,aaj (Lw.1 c2).1,Mm⟩
    .exact⟨y,by rw[aam (λe=>ej e.symm)];exact hy,Mm⟩
   exact hq
 .rename_i h3;rw[if_neg h3];show KI (cu k _ 0);rw[cu,if_pos rfl];exact g1
theorem KI.aa9{k:Kr}(h:KI k){p:Nat}{x:aL}(hp:k.ps[p]? =some x)(bO:x.aF=true){c:Cl}(he:(fc k p c).2.gz=0):KI (fc k p c).1:=by
 have ex:∀e:Kr×Int,(e.2=0->KI e.1)->KI (gI k e).1:=λe hE=>by
  unfold gI;split
  .rename_i h1;exact hE h1
  .exact h
 unfold fc at he|-;split at he
 .rename_i h1;rw[if_pos h1];exact h.fen p
 rename_i h1;rw[if_neg h1];split at he
 .rename_i h2;rw[if_pos h2];exact h
 rename_i h2;rw[if_neg h2];split at he
 .rename_i h3;rw[if_pos h3];unfold rq at he|-;split at he
  .rename_i h4;exact absurd he h4
  .rename_i h4;rw[if_neg h4];exact h.afq hp bO (aah h4)
 rename_i h3;rw[if_neg h3];split at he
 .rename_i h4;rw[if_pos h4];exact ex _ λe=>h.exit e
 .rename_i h4;rw[if_neg h4];generalize Kn.bC k p c.fd (if c.ah=20 then 2048 else 1024)=w
  unfold mq;split
  .exact h
  .unfold rY;split
   .exact h
   .split
    .split<;>exact h
    .exact ex _ λe=>h.exit e
theorem KI.op{k:Kr}(h:KI k){p:Nat}{x:aL}(hp:k.ps[p]? =some x)(bO:x.aF=true){c:Cl}(he:(gM k p c).2.gz=0):KI (gM k p c).1:=by
 unfold gM at he|-;split at he
 .rename_i a;rw[if_pos a];exact h.aa7 hp bO he
 rename_i a;rw[if_neg a];split at he
 .rename_i a;rw[if_pos a];exact h.bytes he
 rename_i a;rw[if_neg a];split at he
 .rename_i a;rw[if_pos a];exact h.afs hp bO he
 rename_i a;rw[if_neg a];split at he
 .rename_i a;rw[if_pos a];exact h
 rename_i a;rw[if_neg a];split at he
 .rename_i a;rw[if_pos a];exact h.name he
 rename_i a;rw[if_neg a];split at he
 .rename_i a;rw[if_pos a];exact h.jx hp bO he
 rename_i a;rw[if_neg a];split at he
 .rename_i a;rw[if_pos a];exact h.jv he
 rename_i a;rw[if_neg a];split at he
 .rename_i a;rw[if_pos a];exact h.jw hp bO he
 rename_i a;rw[if_neg a];exact h.aa9 hp bO he
theorem KI.do_{k:Kr}(h:KI k)(prog:List eQ)(c:Cl):KI (np prog k c).1:=by
 unfold np;split
 .exact h
 rename_i h1;have h1:fa k.ps c.aQ=true:=by cases hx:fa k.ps c.aQ with|true=>rfl|false=>exact absurd hx h1
 obtain⟨p,hc,hp,bO⟩:=pP h1;split
 .exact h
 split
 .exact h
 rw[hc,aal];unfold Rl;split
 .exact h
 .rename_i he;exact(h.op (wy hp) bO (aah he)).tM
theorem KI.afv{k:Kr}(h:KI k){p:Nat}(hp:p<k.ps.length)(bO:k.ps[p].aF=true)(c:Cl):P0 k p c:=by
 have hpx:=wy hp;refine⟨h.kw hp,λaB aC=>⟨λhe=>?_,λhe=>?_⟩,⟨λhe=>(h.ES he).1.kr,λhe pb=>?_⟩,h.pr,λhe=>(h.op hpx bO he).kr⟩
 .rcases h.Tc aB c.cG aC true he with e|⟨j,y,e,hj,_⟩
  .rw[e];omega
  .have:=(Lw.1 hj).1;rw[e];omega
 .obtain⟨g1,⟨j,y,g2,g3,_⟩,g4⟩:=h.cz (h.Tc aB c.cG aC true) he;exact⟨g1.kr,by rw[g4];exact hp,j,g2,(Lw.1 g3).1⟩
 .obtain⟨g1,g2,_⟩:=h.ES he;have:=g1.iu (p:=p) hpx bO g2 pb;exact⟨this.kr,by rw[(uW pb).1,Mt];exact hp⟩
theorem Xp(prog:List eQ)(k:Kr)(h:KI k)(c:Cl)(hd:c.data.length<=4194304){m:Mem}{K:CV->Mem->Prop}(hK:K (doR (np prog k c)) m):
  ap Tryz.prog 12 [tL prog,cA k.l k.ops k.ps,c.cv] m K:=
 aaT prog k c (λ_ hp _ bO=>h.afv hp bO c) hd hK
end Kn
def c49:LF:=Cq prog Tryz.f49 [] []
def c50:LF:=Cq prog Tryz.f50 [] []
def c51:LF:=Cq prog f51 [] []
def c52:LF:=Cq prog f52 [] []
def c93:LF:=Cq prog f93 [] []
def c94:LF:=Cq prog f94 [] []
structure oo where
 w:Int
 bits:Int
def oo.enc(m:oo):List Dt:=[.val (.int .i64 m.w),.val (.int .i64 m.bits)]
def oo.cv(m:oo):CV:= .rv (.agg (m.enc.map .ai))
structure dC where
 call:Int
 bI:List oo
def dC.enc(p:dC):List Dt:=[.val (.int .i64 p.call),.sl 2 (p.bI.map oo.enc)]
def dC.cv(p:dC):CV:= .rv (.agg (p.enc.map .ai))
def JZ(l:List oo):CV:= .rv (.one (.ai (.sl 2 (l.map oo.enc))))
def gh(l:List dC):CV:= .rv (.one (.ai (.sl 2 (l.map dC.enc))))
def Qo:CV:= .rv (.one (.ptr 0 0))
theorem l49:bs prog Tryz.f49=some c49:=by kernel_rfl
theorem l50:bs prog Tryz.f50=some c50:=by kernel_rfl
theorem l51:bs prog f51=some c51:=by kernel_rfl
theorem l52:bs prog f52=some c52:=by kernel_rfl
theorem l93:bs prog f93=some c93:=by kernel_rfl
theorem l94:bs prog f94=some c94:=by kernel_rfl
theorem E4(l:List dC)(hb:l.length<=4194304)(F:Nat)(cs:List Dt)(q:dC->Bool)(hF:∀s,s∈l->∀K:CV->Mem->Prop,K (aq (q s)) [.var (cs.map .ai)]->ap prog F [s.cv,Qo] [.var (cs.map .ai)] K):body prog c93 [gh l,(.rv (.one (.fn F [0])))] [.var (cs.map .ai)] (λr m=>r=al .i64 (pg q l)/\∃ex,m= .var (cs.map .ai)::ex):=by
 refine ar (λk=>k<=l.length/\∀(j:Nat)s,j<k->l[j]? =some s->q s=false) [0,1,7] (λk=>[(8,al .i64 (k:Nat))]) (λ_=>[.var (cs.map .ai)]) (λk=>l.length-k) 0 ⟨WG _,λj s h=>absurd h (abE j)⟩ ?_ (λk hk=>?_)
 .refine View.o1 1 [0] [] ?_
  .exact .put (by simp[bc]) rfl (.k9 rfl) (.nil _)
 .refine am (λh=>?_) (λh=>?_)
  .have ax:k<l.length:=by have h:(k:Int)<((l.map dC.enc).length:Int):=h;rw[O9]at h;omega
   have hg:cm (l.map dC.enc) (k:Nat)=some (l[k].enc):=by rw[aU,Qu,wy ax];rfl
   refine af hg ?_;refine hF l[k] (aaR ax) _ ?_;refine aA (λh=>?_) (λh=>?_)
   .rw[lX ax h hk.2];exact⟨rfl,[],rfl⟩
   .refine⟨k+1,⟨ax,λj s hj hs=>?_⟩,(show l.length-(k+1)<l.length-k by omega),View.o 1 [0] [] ?_ ?_⟩
    .rcases aax j k with h5|h5
     .exact hk.2 j s h5 hs
     .have:j=k:=om;subst this;rw[wy ax]at hs;cases hs;exact h
    .repeat(first|exact .nil|refine .aH ?_|refine .put (.aN (br om).symm) ?_|refine .eq rfl ?_)
    .exact .put (by simp[bc]) rfl (.k9 rfl) (.nil _)
  .have ef:¬(k:Int)<((l.map dC.enc).length:Int):=h;rw[O9]at ef;rw[nJ λj s hs=>hk.2 j s (by have:=(Lw.1 hs).1;omega) hs]
   exact⟨rfl,[],rfl⟩
theorem Mu(l:List dC)(hb:l.length<=4194304)(F:Nat)(cs:List Dt)(q:dC->Bool)(hF:∀s,s∈l->∀K:CV->Mem->Prop,K (aq (q s)) [.var (cs.map .ai)]->ap prog F [s.cv,Qo] [.var (cs.map .ai)] K){K:CV->Mem->Prop}(h:K (al .i64 (pg q l)) [.var (cs.map .ai)]):ap prog 93 [gh l,(.rv (.one (.fn F [0])))] [.var (cs.map .ai)] K:=
 fB rfl (aP func93 l93 (E4 l hb F cs q hF)) h
theorem Mv(l:List dC)(hb:l.length<=4194304)(F:Nat)(cs:List Dt)(q:dC->Bool)(hF:∀s,s∈l->∀K:CV->Mem->Prop,K (aq (q s)) [.var (cs.map .ai)]->ap prog F [s.cv,Qo] [.var (cs.map .ai)] K)(K:CV->Mem->Prop)(h:K (aq (l.any q)) [.var (cs.map .ai)]):ap prog 49 [gh l,(.rv (.one (.fn F [0])))] [.var (cs.map .ai)] K:=by
 refine fB rfl (aP func49 l49 (show body prog c49 [gh l,(.rv (.one (.fn F [0])))] [.var (cs.map .ai)] (λr m=>r=aq (l.any q)/\∃ex,m= .var (cs.map .ai)::ex)from ?_)) h
 refine Mu l hb F cs q hF ?_;rw[<-te];exact⟨rfl,[],rfl⟩
theorem CP(l:List oo)(hb:l.length<=4194304)(F:Nat)(q:oo->Bool)(hF:∀s,s∈l->∀K:CV->Mem->Prop,K (aq (q s)) []->ap prog F [s.cv] [] K):body prog c94 [JZ l,(.rv (.one (.fn F [])))] [] (λr m=>r=al .i64 (pg q l)):=by
 refine ar (λk=>k<=l.length/\∀(j:Nat)s,j<k->l[j]? =some s->q s=false) [0,1,7] (λk=>[(8,al .i64 (k:Nat))]) (λ_=>[]) (λk=>l.length-k) 0 ⟨WG _,λj s h=>absurd h (abE j)⟩ ?_ (λk hk=>?_)
 .refine View.o1 0 [] [] ?_
  .exact .nil _
 .refine am (λh=>?_) (λh=>?_)
  .have ax:k<l.length:=by have h:(k:Int)<((l.map oo.enc).length:Int):=h;rw[O9]at h;omega
   have hg:cm (l.map oo.enc) (k:Nat)=some (l[k].enc):=by rw[aU,Qu,wy ax];rfl
   refine af hg ?_;refine hF l[k] (aaR ax) _ ?_;refine aA (λh=>?_) (λh=>?_)
   .rw[lX ax h hk.2];exact rfl
   .refine⟨k+1,⟨ax,λj s hj hs=>?_⟩,(show l.length-(k+1)<l.length-k by omega),View.o 0 [] [] ?_ ?_⟩
    .rcases aax j k with h5|h5
     .exact hk.2 j s h5 hs
     .have:j=k:=om;subst this;rw[wy ax]at hs;cases hs;exact h
    .repeat(first|exact .nil|refine .aH ?_|refine .put (.aN (br om).symm) ?_|refine .eq rfl ?_)
    .exact .nil _
  .have ef:¬(k:Int)<((l.map oo.enc).length:Int):=h;rw[O9]at ef;rw[nJ λj s hs=>hk.2 j s (by have:=(Lw.1 hs).1;omega) hs]
   exact rfl
theorem H9(l:List oo)(hb:l.length<=4194304)(F:Nat)(q:oo->Bool)(hF:∀s,s∈l->∀K:CV->Mem->Prop,K (aq (q s)) []->ap prog F [s.cv] [] K){m:Mem}{K:CV->Mem->Prop}(h:K (al .i64 (pg q l)) m):ap prog 94 [JZ l,(.rv (.one (.fn F [])))] m K:=
 bu func94 l94 rfl (aav rfl) (CP l hb F q hF) rfl rfl h
theorem Mw(l:List oo)(hb:l.length<=4194304)(F:Nat)(q:oo->Bool)(hF:∀s,s∈l->∀K:CV->Mem->Prop,K (aq (q s)) []->ap prog F [s.cv] [] K){m:Mem}{K:CV->Mem->Prop}(h:K (aq (l.any q)) m):ap prog 51 [JZ l,(.rv (.one (.fn F [])))] m K:=by
 refine bu func51 l51 rfl (aav rfl) (show body prog c51 [JZ l,(.rv (.one (.fn F [])))] [] (λr m=>r=aq (l.any q))from ?_) rfl rfl h
 refine H9 l hb F q hF ?_;rw[<-te];exact rfl
def uX(m:oo):Bool:=decide (m.w<1)||decide (m.w>=6)||decide (m.bits<1)||decide (m.bits>=2147483648)
theorem aba(p s:dC)(K:CV->Mem->Prop)(h:K (aq (s.call==p.call)) [.var (p.enc.map .ai)]):ap prog 50 [s.cv,Qo] [.var (p.enc.map .ai)] K:=
 fB rfl (aP func50 l50 (show body prog c50 [s.cv,Qo] [.var (p.enc.map .ai)] (λr m=>r=aq (s.call==p.call)/\∃ex,m= .var (p.enc.map .ai)::ex)from⟨rfl,_,rfl⟩)) h
theorem Xq(s:oo):body prog c52 [s.cv] [] (λr m=>r=aq (uX s)):=by
 refine aA (λh=>?_) (λh=>?_)
 .rw[uX,h];exact rfl
 refine aA (λh2=>?_) (λh2=>?_)
 .rw[uX,h,h2];exact rfl
 refine aA (λh3=>?_) (λh3=>?_)
 .rw[uX,h,h2,h3];exact rfl
 .rw[uX,h,h2,h3];exact rfl
theorem abb(s:oo)(K:CV->Mem->Prop)(h:K (aq (uX s)) []):ap prog 52 [s.cv] [] K:=
 bu func52 l52 rfl (aav rfl) (Xq s) rfl rfl h
def c17:LF:=Cq prog f17 [] []
def mA(pre:List dC)(p:dC):Int:=
 if p.call<0\/p.call>=2147483648 then 3 else if pre.any (λq=>q.call==p.call)=true then 7 else if p.bI.length>3 then 5 else if p.bI.any uX=true then 3 else 0
def jz(l:List dC)(k:Nat):Int:=match l[k]? with|some p=>mA (l.take k) p|none=>0
def uY(f:Nat->Int):Nat->Nat->Int×Int
 |0,_=>(0,0)
 |n+1,k=>if f k=0 then uY f n (k+1)else(f k,(k:Int))
theorem Bm{f:Nat->Int}:∀(n k:Nat),(∀j,k<=j->j<k+n->f j=0)->uY f n k=(0,0)
 |0,_,_=>rfl
 |n+1,k,h=>by rw[uY,if_pos (h k (aai k) om)];exact Bm n (k+1) λj h1 h2=>h j om om
theorem se{f:Nat->Int}:∀(n k j:Nat),k<=j->j<k+n->(∀i,k<=i->i<j->f i=0)->f j≠0->uY f n k=(f j,(j:Int))
 |0,_,_,_,_,_,_=>om
 |n+1,k,j,h1,h2,h3,h4=>by
  rw[uY];rcases aax k j with h|h
  .rw[if_pos (h3 k (aai k) h)];exact se n (k+1) j om om (λi a b=>h3 i om b) h4
  .have:k=j:=om;subst this;rw[if_neg h4]
def fF(l:List dC):Int×Int:=if l.length>30 then(5,0)else uY (jz l) l.length 0
theorem Mx{l:List dC}{k:Nat}(h0:¬l.length>30)(hk:k<l.length)(hg:∀j,j<k->jz l j=0){e:Int}(h:mA (l.take k) l[k]=e)(he:e≠0):CH (e,(k:Int))=CH (fF l):=by
 have hw:jz l k=e:=by rw[jz,wy hk];exact h
 rw[fF,if_neg h0,se l.length 0 k om om (λi _ hi=>hg i hi) (by rw[hw];exact he),hw]
theorem Ia{l:List dC}{k:Nat}(hk:k<l.length)(hg:∀j,j<k->jz l j=0)(h:mA (l.take k) l[k]=0):∀j,j<k+1->jz l j=0:=by
 intro j hj;rcases aax j k with h1|h1
 .exact hg j h1
 .have:j=k:=om;subst this;rw[jz,wy hk];exact h
theorem l17:bs prog f17=some c17:=by kernel_rfl
theorem Ib(l:List dC):body prog c17 [gh l] [] (λr m=>r=CH (fF l)):=by
 refine am (λh=>?_) (λh0=>?_)
 .have h:l.length>30:=by have h:(((l.map dC.enc).length:Nat):Int)>30:=h;rw[O9]at h;omega
  rw[fF,if_pos h];exact rfl
 have h0:¬l.length>30:=by have h:¬(((l.map dC.enc).length:Nat):Int)>30:=h0;rw[O9]at h;omega
 refine ar (λk=>k<=l.length/\∀(j:Nat),j<k->jz l j=0) [0,2,9,10] (λk=>[(11,al .i64 (k:Nat))]) (λ_=>[.var [.ai (.val (.int .i64 0)),.ai (.val (.int .i64 0))]]) (λk=>l.length-k) 0 ⟨WG _,λj h=>absurd h (abE j)⟩ ?_ (λk hk=>?_)
 .refine View.o1 1 [0] [] ?_
  .exact .put (by simp[bc]) rfl (.eq rfl aD) (.nil _)
 .refine am (λh=>?_) (λh=>?_)
  .have ax:k<l.length:=by have h:(k:Int)<((l.map dC.enc).length:Int):=h;rw[O9]at h;omega
   have bad:∀{e:Int},mA (l.take k) l[k]=e->e≠0->CH (e,(k:Int))=CH (fF l):=λa b=>Mx h0 ax hk.2 a b
   have abc:=Ia ax hk.2;have hg:cm (l.map dC.enc) (k:Nat)=some [.val (.int .i64 l[k].call),.sl 2 (l[k].bI.map oo.enc)]:=by rw[aU,Qu,wy ax];rfl
   generalize l[k]=p at bad abc hg;obtain⟨call,bI⟩:=p;refine af hg ?_;refine am (λh=>?_) (λh1=>?_)
   .exact bad (by rw[mA,if_pos (.inl h)]) (by decide)
   refine am (λh=>?_) (λh2=>?_)
   .exact bad (by rw[mA,if_pos (.inr h)]) (by decide)
   have n1:¬((⟨call,bI⟩:dC).call<0\/(⟨call,bI⟩:dC).call>=2147483648):=λh=>h.elim h1 h2
   have vC:∀{m:Mem}{K:CV->Mem->Prop},dh m 1=some (.var ((⟨call,bI⟩:dC).enc.map .ai))->K (aq ((l.take k).any λq=>q.call==(⟨call,bI⟩:dC).call)) m->ap prog 49 [.rv (.one (.ai (.sl 2 (((l.map dC.enc).take k).drop 0)))),.rv (.one (.fn 50 [1]))] m K:=by
    intro m K hm hK;have e:((l.map dC.enc).take k).drop 0=(l.take k).map dC.enc:=aD;rw[e];exact gk 1 hm rfl rfl (Mv (l.take k) (by simp;omega) 50 (⟨call,bI⟩:dC).enc (λq=>q.call==(⟨call,bI⟩:dC).call) λs _ K hs=>aba _ s K hs) hK
   refine bV (by simp[abR];omega) ?_
   refine vC rfl ?_;refine aA (λh=>?_) (λh3=>?_)
   .exact bad (by rw[mA,if_neg n1,if_pos h]) (by decide)
   have n2:¬((l.take k).any λq=>q.call==(⟨call,bI⟩:dC).call)=true:=by rw[h3];simp
   refine am (λh=>?_) (λh4=>?_)
   .have h:(⟨call,bI⟩:dC).bI.length>3:=by have h:(((bI.map oo.enc).length:Nat):Int)>3:=h;rw[O9]at h;show bI.length>3;omega
    exact bad (by rw[mA,if_neg n1,if_neg n2,if_pos h]) (by decide)
   have n3:¬(⟨call,bI⟩:dC).bI.length>3:=by have h:¬(((bI.map oo.enc).length:Nat):Int)>3:=h4;rw[O9]at h;show ¬bI.length>3;omega
   refine Mw bI (by have:¬bI.length>3:=n3;omega) 52 uX (λs _ K hs=>abb s K hs) ?_
   refine aA (λh=>?_) (λh5=>?_)
   .exact bad (by rw[mA,if_neg n1,if_neg n2,if_neg n3,if_pos h]) (by decide)
   have n4:¬(⟨call,bI⟩:dC).bI.any uX=true:=by show ¬bI.any uX=true;rw[h5];simp
   refine⟨k+1,⟨ax,abc (by rw[mA,if_neg n1,if_neg n2,if_neg n3,if_neg n4])⟩,(show l.length-(k+1)<l.length-k by omega),View.o2 2 [0] [] ?_⟩
   .exact .put (by simp[bc]) rfl (.eq rfl aD) (.nil _)
  .have ef:¬(k:Int)<((l.map dC.enc).length:Int):=h;rw[O9]at ef;rw[fF,if_neg h0,Bm l.length 0 λj _ hj=>hk.2 j om]
   exact rfl
theorem Qp(l:List dC){m:Mem}{K:CV->Mem->Prop}(h:K (CH (fF l)) m):ap prog 17 [gh l] m K:=
 bu func17 l17 rfl (aav rfl) (Ib l) rfl rfl h
def p9:List oo->List eQ
 | []=>[⟨6,0,0,1⟩,⟨6,0,0,0⟩]
 |m::r=>⟨1,0,0,m.w⟩:: ⟨4,((2*r.length+1:Nat):Int),0,m.bits⟩::p9 r
def gi(p:dC):List eQ:=⟨2,0,((2*p.bI.length+1:Nat):Int),p.call⟩::p9 p.bI
def Ts(l:List dC):Int:=match l[l.length/2]? with|some p=>p.call|none=>0
def iF:Nat->List dC->List eQ
 |0,_=>[⟨6,0,0,0⟩]
 |_+1,[]=>[⟨6,0,0,0⟩]
 |_+1,[p]=>gi p
 |n+1,p::q::r=>⟨3,0,1,Ts (p::q::r)⟩:: ⟨5,0,0,(iF n ((p::q::r).take ((p::q::r).length/2))).length⟩::
   (iF n ((p::q::r).take ((p::q::r).length/2))++iF n ((p::q::r).drop ((p::q::r).length/2)))
theorem Bo{n:Nat}{l:List dC}(h:2<=l.length):iF (n+1) l=⟨3,0,1,Ts l⟩:: ⟨5,0,0,(iF n (l.take (l.length/2))).length⟩::(iF n (l.take (l.length/2))++iF n (l.drop (l.length/2))):=by
 match l,h with
 |p::q::r,_=>rfl
theorem uZ:∀ms:List oo,(p9 ms).length=2*ms.length+2
 | []=>rfl
 |m::r=>by simp[p9,uZ r];omega
theorem zf:∀ms:List oo,(p9 ms)[2*ms.length+1]? =some ⟨6,0,0,0⟩
 | []=>rfl
 |m::r=>by
  have:=zf r;rw[aa2,show 2*(r.length+1)+1=2*r.length+1+1+1 by omega]
  simpa[p9]using this
def At(P:List eQ)(a:Nat)(c:List eQ):Prop:=∀(j:Nat)i,c[j]? =some i->P[a+j]? =some i
theorem At.head{P:List eQ}{a:Nat}{x:eQ}{c:List eQ}(h:At P a (x::c)):P[a]? =some x:=h 0 x rfl
theorem At.tail{P:List eQ}{a:Nat}{x:eQ}{c:List eQ}(h:At P a (x::c)):At P (a+1) c:=λj i hi=>by
 have:=h (j+1) i (by simpa using hi)
 rwa [show a+(j+1)=a+1+j by omega]at this
theorem At.right{P:List eQ}{a:Nat}{c d:List eQ}(h:At P a (c++d)):At P (a+c.length) d:=λj i hi=>by
 have:=h (c.length+j) i (by rw[aaS om];simpa using hi)
 rwa [show a+(c.length+j)=a+c.length+j by omega]at this
def zg(l:List dC):Prop:=l.Pairwise λa b=>a.call<b.call
theorem zg.lo{l:List dC}(h:zg l){k:Nat}{q:dC}(hk:l[k]? =some q):∀p,p∈l.take k->p.call<q.call:=by
 intro p hp;obtain⟨i,hi⟩:=aak hp;rw[abK]at hi;split at hi
 .rename_i hik;obtain⟨h1,rfl⟩:=Lw.1 hi;obtain⟨h2,rfl⟩:=Lw.1 hk;exact acw.1 h i k h1 h2 hik
 .cases hi
def Xr(c:List eQ)(a:Nat)(s:Int):Prop:=∀(j:Nat)i,c[j]? =some i->i4 i ((a+j:Nat):Int) s=0
theorem Xr.cons{x:eQ}{c:List eQ}{a:Nat}{s:Int}(hx:i4 x (a:Int) s=0)(h:Xr c (a+1) s):Xr (x::c) a s:=λj i hi=>by
 cases j with
 |zero=>simp at hi;subst hi;exact hx
 |succ j=>
  have:=h j i (by simpa using hi)
  rwa [show a+1+j=a+(j+1) by omega]at this
def abd(m:oo):Prop:=1<=m.w/\m.w<6/\1<=m.bits/\m.bits<2147483648
def Vk(p:dC):Prop:=0<=p.call/\p.call<2147483648/\p.bI.length<=3/\∀m,m∈p.bI->abd m
theorem u0:∀(n:Nat)(l:List dC),(∀p,p∈l->p.bI.length<=3)->l.length<=n->(l=[]->(iF n l).length=1)/\(l≠[]->(iF n l).length+2<=11*l.length)
 |0,l,_,hl=>by have:l=[]:=aaX om;subst this;simp[iF]
 |n+1,l,h,hl=>by
  rcases aax l.length 2 with h2|h2
  .match l,h2 with
   | [],_=>simp[iF]
   | [p],_=>
    have:=h p aD;simp[iF,gi,uZ];omega
  .refine⟨λe=>by subst e;simp at h2,λ_=>?_⟩
   have i1:=(u0 n (l.take (l.length/2)) (λp hp=>h p (ab0 hp)) (by rw[aa8];omega)).2 (λe=>by have:=congrArg List.length e;rw[aa8,abO]at this;omega)
   have i2:=(u0 n (l.drop (l.length/2)) (λp hp=>h p (acB hp)) (by rw[abZ];omega)).2 (λe=>by have:=congrArg List.length e;rw[abZ,abO]at this;omega)
   rw[Bo h2];simp only[aa2,abT];rw[aa8]at i1;rw[abZ]at i2;omega
def E5(l:List dC):List eQ:=⟨1,0,0,0⟩::iF l.length l
def qj(l:List dC):Prop:=l.Pairwise λa b=>a.call≠b.call
theorem z6{l l':List dC}(h:l'.Perm l)(hd:qj l):qj l':=(h.pairwise_iff (λh=>Ne.symm h)).2 hd
theorem E6{l:List dC}(h:(fF l).1=0):l.length<=30/\(∀p,p∈l->Vk p)/\qj l:=by
 unfold fF at h;split at h
 .simp at h
 .rename_i h0;have gj:∀j,j<l.length->jz l j=0:=by
   intro j
   induction j using Nat.strongRecOn with
   |_ j ih=>
    intro hj;by_cases hw:jz l j=0
    .exact hw
    .rw[se l.length 0 j om om (λi _ hi=>ih i hi om) hw]at h
     exact absurd h hw
  have fact:∀(j:Nat)p,l[j]? =some p->Vk p/\∀q,q∈l.take j->q.call≠p.call:=by
   intro j p hj;have hw:=gj j (Lw.1 hj).1;rw[jz,hj]at hw;simp only[mA]at hw;split at hw
   .simp at hw
   .rename_i c1;split at hw
    .simp at hw
    .rename_i c2;split at hw
     .simp at hw
     .rename_i c3;split at hw
      .simp at hw
      .rename_i c4;refine⟨⟨om,om,om,λm hm=>?_⟩,λq hq e=>?_⟩
       .have c4:p.bI.any uX=false:=by simpa using c4
        rw[aeD]at c4;have hb:uX m=false:=by simpa using c4 m hm
        simp only[uX,aej,decide_eq_false_iff_not]at hb;refine⟨om,om,om,om⟩
       .refine c2 (abP.2 ⟨q,hq,by simp[e]⟩)
  refine⟨om,λp hp=>?_,?_⟩
  .obtain⟨j,hj⟩:=aak hp;exact(fact j p hj).1
  .rw[qj,acw];intro i j hi hj sM;refine(fact j l[j] (wy hj)).2 l[i] ?_;exact Vm (i:=i) (by rw[abK,if_pos sM,wy hi])
theorem My{l:List dC}(h:l.Pairwise λa b=>¬b.call<a.call)(hd:qj l):zg l:=by have:=List.Pairwise.and h hd;exact this.imp λ⟨a,b⟩=>om
def c22:LF:=Cq prog Tryz.f22 [[3]] [[(d9 3 0 (d9 3 4 (.cons 3 (some [6]) (.cons 7 (some []) (.cons 8 none (.cons 9 none .nil))))))]]
def c56:LF:=Cq prog f56 [] []
theorem rx(a b:List (List Dt)):aa (a++b)=aa a++aa b:=by simp[aa]
theorem l56:bs prog f56=some c56:=by kernel_rfl
theorem l22:bs prog Tryz.f22=some c22.er:=by kernel_rfl
theorem E7:∀(ms:List oo)(k:Nat)(m:oo),ms[k]? =some m->(p9 ms)[2*k]? =some ⟨1,0,0,m.w⟩/\(p9 ms)[2*k+1]? =some ⟨4,((2*(ms.length-k-1)+1:Nat):Int),0,m.bits⟩
 | [],k,m,h=>by simp at h
 |x::r,0,m,h=>by
  simp at h;subst h;refine⟨rfl,?_⟩;show some _=some _;rw[aa2,show r.length+1-0-1=r.length by omega]
 |x::r,k+1,m,h=>by
  have:=E7 r k m (by simpa using h)
  rw[show 2*(k+1)=2*k+1+1 by omega,aa2,show r.length+1-(k+1)-1=r.length-k-1 by omega]
  simpa[p9]using this
theorem Bp:∀ms:List oo,(p9 ms)[2*ms.length]? =some ⟨6,0,0,1⟩
 | []=>rfl
 |m::r=>by
  have:=Bp r;rw[aa2,show 2*(r.length+1)=2*r.length+1+1 by omega]
  simpa[p9]using this
theorem Mz{p:dC}{k:Nat}{m:oo}(h:p.bI[k]? =some m):(gi p).take (2*(k+1)+1)=(gi p).take (2*k+1)++ [⟨1,0,0,m.w⟩,⟨4,((2*(p.bI.length-k-1)+1:Nat):Int),0,m.bits⟩]:=by
 obtain⟨h1,h2⟩:=E7 p.bI k m h;have e1:(gi p)[2*k+1]? =some ⟨1,0,0,m.w⟩:=by simpa[gi]using h1
 have e2:(gi p)[2*k+1+1]? =some ⟨4,((2*(p.bI.length-k-1)+1:Nat):Int),0,m.bits⟩:=by simpa[gi]using h2
 rw[show 2*(k+1)+1=2*k+1+1+1 by omega,acb,e2,acb,e1]
 simp
theorem Qq(p:dC):gi p=(gi p).take (2*p.bI.length+1)++ [⟨6,0,0,1⟩,⟨6,0,0,0⟩]:=by
 have h1:=Bp p.bI;have h2:=zf p.bI;have e1:(gi p)[2*p.bI.length+1]? =some ⟨6,0,0,1⟩:=by simpa[gi]using h1
 have e2:(gi p)[2*p.bI.length+1+1]? =some ⟨6,0,0,0⟩:=by simpa[gi]using h2
 have hl:(gi p).length=2*p.bI.length+1+1+1:=by simp[gi,uZ]
 have h3:(gi p).take (2*p.bI.length+1+1+1)=gi p:=ach om;rw[acb,e2,acb,e1,acC]at h3;exact h3.symm
theorem Ic(p:dC)(hm:p.bI.length<=1000):body prog c56 [p.cv] [] (λr m=>cH m r (tL (gi p))):=by
 have hn:IntKind.i64.wrap (IntKind.i64.wrap (2*(((p.bI.map oo.enc).length:Nat):Int))+1)=((2*p.bI.length+1:Nat):Int):=by rw[O9,iR (n:=2*(p.bI.length:Int)) om om,iR om om];omega
 refine ar (λk=>k<=p.bI.length) [1,19] (λk=>[(4,.rv (.one (.row 1 4 0 none))),(20,al .i64 (p.bI.length:Nat)),(21,al .i64 (k:Nat))]) (λk=>[.var (p.enc.map .ai),.row 4 (aa (((gi p).take (2*k+1)).map eQ.enc))])
  (λk=>p.bI.length-k) 0 (WG _) ?_ (λk hk=>?_)
 .refine View.o 2 [0,1] [] ?_ ?_
  .repeat(first|exact .nil|refine .aH ?_|refine .eq rfl ?_|refine .put (.aN (by rw[O9];rfl)) ?_)
  .refine .pe rfl rfl rfl (.pt rfl rfl (.bn ?_) (.nil _));show [[CC.ai (.val (.int .i64 2)),.ai (.val (.int .i64 0)),.ai (.val (.int .i64 (IntKind.i64.wrap (IntKind.i64.wrap (2*(((p.bI.map oo.enc).length:Nat):Int))+1)))),.ai (.val (.int .i64 p.call))]]=_;rw[hn];rfl
 have hk:k<=p.bI.length:=hk;refine am (λh=>?_) (λh=>?_)
 .have ax:k<p.bI.length:=by have h:(k:Int)<(p.bI.length:Int):=h;omega
  have hi:=wy ax;have hT:=Mz hi;have hg:cm (p.bI.map oo.enc) (k:Nat)=some [.val (.int .i64 p.bI[k].w),.val (.int .i64 p.bI[k].bits)]:=by rw[aU,Qu,hi];rfl
  generalize p.bI[k]=mk at hT hg;refine af hg ?_;have hw:IntKind.i64.wrap (IntKind.i64.wrap (2*IntKind.i64.wrap (IntKind.i64.wrap ((((p.bI.map oo.enc).length:Nat):Int)-(k:Int))-1))+1)=((2*(p.bI.length-k-1)+1:Nat):Int):=by rw[O9,iR (n:=(p.bI.length:Int)-k) om om,iR (n:=(p.bI.length:Int)-k-1) om om,iR (n:=2*((p.bI.length:Int)-k-1)) om om,iR om om];omega
  refine⟨?_,?_⟩
  .show((aa (((gi p).take (2*k+1)).map eQ.enc)).length+2)*32<=_;simp[aa];omega
  refine⟨k+1,ax,(show p.bI.length-(k+1)<p.bI.length-k by omega),View.o2 5 [0,4] [] ?_⟩
  .refine .pe rfl rfl rfl (.pt rfl rfl (.bn ?_) (.nil _));show aa (((gi p).take (2*k+1)).map eQ.enc)++ [[CC.ai (.val (.int .i64 1)),.ai (.val (.int .i64 0)),.ai (.val (.int .i64 0)),.ai (.val (.int .i64 mk.w))],[.ai (.val (.int .i64 4)),.ai (.val (.int .i64 (IntKind.i64.wrap (IntKind.i64.wrap (2*IntKind.i64.wrap (IntKind.i64.wrap ((((p.bI.map oo.enc).length:Nat):Int)-(k:Int))-1))+1)))),.ai (.val (.int .i64 0)),.ai (.val (.int .i64 mk.bits))]]=_;rw[hw,hT,abM,rx];rfl
 .have nn:k=p.bI.length:=by have h:¬(k:Int)<(p.bI.length:Int):=h;omega
  subst nn;refine⟨?_,?_⟩
  .show((aa (((gi p).take (2*p.bI.length+1)).map eQ.enc)).length+2)*32<=_;simp[aa];omega
  have eE:some (Bk.row 4 (aa (((gi p).take (2*p.bI.length+1)).map eQ.enc)++ [[CC.ai (.val (.int .i64 6)),.ai (.val (.int .i64 0)),.ai (.val (.int .i64 0)),.ai (.val (.int .i64 1))],[.ai (.val (.int .i64 6)),.ai (.val (.int .i64 0)),.ai (.val (.int .i64 0)),.ai (.val (.int .i64 0))]]))=some (Bk.row 4 (aa ((gi p).map eQ.enc))):=by
   conv=>rhs;rw[Qq p,abM,rx]
   rfl
  exact .rv (.one (d7.da eE 0 none))
theorem Qr(p:dC)(hm:p.bI.length<=1000){m:Mem}{K:CV->Mem->Prop}(h:K (tL (gi p)) m):ap prog 56 [p.cv] m K:=
 aR (aP func56 l56 (Ic p hm)) (by simp[dC.cv,CV.cW,CC.cW,RV.cW]) λr m1 hf=>⟨_,hf,h⟩
theorem sf{n:Nat}{l:List dC}(hg:∀p,p∈l->p.bI.length<=3)(hl:l.length<=30)(hn:l.length<=n):(iF n l).length<=330:=by
 have h2:=u0 n l hg hn;by_cases e:l=[]
 .have:=h2.1 e;omega
 .have:=h2.2 e;omega
theorem J0:∀(n:Nat)(l:List dC),l.length<=n->l.length<=30->(∀p,p∈l->p.bI.length<=3)->∀{m:Mem}{K:CV->Mem->Prop},K (tL (iF n l)) m->ap prog 22 [gh l] m K:=by
 intro n
 induction n with
 |zero=>
  intro l hl _ _ m K h;have:l=[]:=aaX om;subst this;refine aR (K0:=λr m=>cH m r (tL (iF 0 []))) (cE func22 l22 ?_) (by simp[gh,CV.cW,CC.cW]) λr m1 hf=>⟨_,hf,h⟩
  exact .rv (.one (d7.da rfl 0 none))
 |succ n ih=>
  intro l hl aj3 hg m K h;refine aR (K0:=λr m=>cH m r (tL (iF (n+1) l))) (cE func22 l22 ?_) (by simp[gh,CV.cW,CC.cW]) λr m1 hf=>⟨_,hf,h⟩
  refine ba (λh0=>?_) (λh0=>?_)
  .have h0:l=[]:=by have h0:(((l.map dC.enc).length:Nat):Int)=0:=h0;rw[O9]at h0;exact aaX om
   subst h0;exact .rv (.one (d7.da rfl 0 none))
  have h0:l.length≠0:=by have h0:(((l.map dC.enc).length:Nat):Int)≠0:=h0;rw[O9]at h0;omega
  refine ba (λh1=>?_) (λh1=>?_)
  .have h1:l.length=1:=by have h1:(((l.map dC.enc).length:Nat):Int)=1:=h1;rw[O9]at h1;omega
   match l,h1 with
   | [p],_=>
    refine Qr p (by have:=hg p (by simp);omega) ?_
    exact cH.self rfl
  have h2:2<=l.length:=by have h1:(((l.map dC.enc).length:Nat):Int)≠1:=h1;rw[O9]at h1;omega
  have hq:IntKind.i64.wrap ((((l.map dC.enc).length:Nat):Int).tdiv 2)=((l.length/2:Nat):Int):=by rw[O9,show(2:Int)=((2:Nat):Int)from rfl,<-Int.ofNat_tdiv,iR om om]
  refine cj [0] [(3,al .i64 ((l.length/2:Nat):Int))] [] (View.o 0 [] [] ?_ (.nil _)) ?_
  .repeat(first|exact .nil|refine .aH ?_|refine .eq rfl ?_|refine .put (.aN (congrArg (al .i64) hq).symm) ?_)
  have hk:l.length/2<l.length:=om;have b1:(Nat.ble 0 (l.length/2)&&Nat.ble (l.length/2) (l.map dC.enc).length)=true:=by rw[aaL,abR,abR,O9];omega
  have b2:(Nat.ble (l.length/2) (l.map dC.enc).length&&Nat.ble (l.map dC.enc).length (l.map dC.enc).length)=true:=by rw[aaL,abR,abR,O9];omega
  have e1:((l.map dC.enc).take (l.length/2)).drop 0=(l.take (l.length/2)).map dC.enc:=by rw[aev,ac7]
  have e2:((l.map dC.enc).take (l.map dC.enc).length).drop (l.length/2)=(l.drop (l.length/2)).map dC.enc:=by rw[abD,ad5]
  refine bV b1 ?_;refine bV b2 ?_;show ap prog 22 [.rv (.one (.ai (.sl 2 (((l.map dC.enc).take (l.length/2)).drop 0))))] _ _;rw[e1];refine ih (l.take (l.length/2)) (by rw[aa8];omega) (by rw[aa8];omega) (λp hp=>hg p (ab0 hp)) ?_
  refine⟨⟨bV b2 rfl,trivial⟩,?_⟩;show ap prog 22 [.rv (.one (.ai (.sl 2 (((l.map dC.enc).take (l.map dC.enc).length).drop (l.length/2)))))] _ _;rw[e2];refine ih (l.drop (l.length/2)) (by rw[abZ];omega) (by rw[abZ];omega) (λp hp=>hg p (acB hp)) ?_
  refine⟨trivial,?_⟩;have Q9:cm (l.map dC.enc) ((l.length/2:Nat):Int)=some (l[l.length/2].enc):=by rw[aU,Qu,wy hk];rfl
  have Wc:Ts l=(l[l.length/2]).call:=by rw[Ts,wy hk]
  refine af Q9 ?_;have t1:=sf (n:=n) (l:=l.take (l.length/2)) (λp hp=>hg p (ab0 hp)) (by rw[aa8];omega) (by rw[aa8];omega)
  have t2:=sf (n:=n) (l:=l.drop (l.length/2)) (λp hp=>hg p (acB hp)) (by rw[abZ];omega) (by rw[abZ];omega)
  have N3:=Bo (n:=n) h2;generalize iF n (l.take (l.length/2))=lo at t1 N3;generalize iF n (l.drop (l.length/2))=hi at t2 N3;refine⟨?_,?_⟩
  .show(2+((lo.map eQ.enc).map λds=>ds.map CC.ai).length)*32<=_
   simp;omega
  refine⟨?_,?_⟩
  .show(([[CC.ai (.val (.int .i64 3)),.ai (.val (.int .i64 0)),.ai (.val (.int .i64 1)),.ai (.val (.int .i64 (l[l.length/2]).call))],[.ai (.val (.int .i64 5)),.ai (.val (.int .i64 0)),.ai (.val (.int .i64 0)),.ai (.val (.int .i64 (((lo.map eQ.enc).length:Nat):Int)))]]++((lo.map eQ.enc).map λds=>ds.map CC.ai)).length+((hi.map eQ.enc).map λds=>ds.map CC.ai).length)*32<=_
   simp;omega
  have eE:some (Bk.row 4 (([[CC.ai (.val (.int .i64 3)),.ai (.val (.int .i64 0)),.ai (.val (.int .i64 1)),.ai (.val (.int .i64 (l[l.length/2]).call))],[.ai (.val (.int .i64 5)),.ai (.val (.int .i64 0)),.ai (.val (.int .i64 0)),.ai (.val (.int .i64 (((lo.map eQ.enc).length:Nat):Int)))]]++((lo.map eQ.enc).map λds=>ds.map CC.ai))++((hi.map eQ.enc).map λds=>ds.map CC.ai)))=some (Bk.row 4 (((iF (n+1) l).map eQ.enc).map λds=>ds.map CC.ai)):=by rw[N3,O9,Wc];simp[eQ.enc]
  exact .rv (.one (d7.da eE 0 none))
def Tryz.E8:Go.Shelf.Ren:=⟨λ|6=>19|15=>54|14=>53|28=>103|29=>104|20=>95|21=>96|22=>97|23=>98|24=>99|25=>100|26=>101|27=>102|46=>132|47=>133|48=>134|49=>135|50=>136|57=>154|n=>n,λ|22=>31|24=>76|25=>79|3=>3|39=>130|0=>0|53=>188|55=>190|4=>4|46=>181|45=>180|50=>185|5=>5|9=>9|66=>227|70=>231|76=>243|77=>112|n=>n,λ|n=>n⟩
theorem Tryz.Tt:Go.Proofs.SlLaysF0.n6 prog Tryz.E8:={
 mixed:=by kernel_rfl,
 f6:=⟨ "slices.SortFunc[[]ringfence/api.Policy,ringfence/api.Policy]",by decide,func19.trans (congrArg some (by kernel_rfl))⟩,
 f14:=⟨ "slices.pdqsortCmpFunc[ringfence/api.Policy]",by decide,func53.trans (congrArg some (by kernel_rfl))⟩,
 f15:=func54.trans (congrArg some (by kernel_rfl)),
 f20:=⟨ "slices.insertionSortCmpFunc[ringfence/api.Policy]",by decide,func95.trans (congrArg some (by kernel_rfl))⟩,
 f21:=⟨ "slices.heapSortCmpFunc[ringfence/api.Policy]",by decide,func96.trans (congrArg some (by kernel_rfl))⟩,
 f22:=⟨ "slices.breakPatternsCmpFunc[ringfence/api.Policy]",by decide,func97.trans (congrArg some (by kernel_rfl))⟩,
 f23:=⟨ "slices.choosePivotCmpFunc[ringfence/api.Policy]",by decide,func98.trans (congrArg some (by kernel_rfl))⟩,
 f24:=⟨ "slices.reverseRangeCmpFunc[ringfence/api.Policy]",by decide,func99.trans (congrArg some (by kernel_rfl))⟩,
 f25:=⟨ "slices.partialInsertionSortCmpFunc[ringfence/api.Policy]",by decide,func100.trans (congrArg some (by kernel_rfl))⟩,
 f26:=⟨ "slices.partitionEqualCmpFunc[ringfence/api.Policy]",by decide,func101.trans (congrArg some (by kernel_rfl))⟩,
 f27:=⟨ "slices.partitionCmpFunc[ringfence/api.Policy]",by decide,func102.trans (congrArg some (by kernel_rfl))⟩,
 f28:=func103.trans (congrArg some (by kernel_rfl)),
 f29:=func104.trans (congrArg some (by kernel_rfl)),
 f46:=⟨ "slices.siftDownCmpFunc[ringfence/api.Policy]",by decide,func132.trans (congrArg some (by kernel_rfl))⟩,
 f47:=func133.trans (congrArg some (by kernel_rfl)),
 f48:=func134.trans (congrArg some (by kernel_rfl)),
 f49:=⟨ "slices.medianAdjacentCmpFunc[ringfence/api.Policy]",by decide,func135.trans (congrArg some (by kernel_rfl))⟩,
 f50:=⟨ "slices.medianCmpFunc[ringfence/api.Policy]",by decide,func136.trans (congrArg some (by kernel_rfl))⟩,
 f57:=⟨ "slices.order2CmpFunc[ringfence/api.Policy]",by decide,func154.trans (congrArg some (by kernel_rfl))⟩,
 t0:=underlying0,
 a0:=isAgg0,
 z0:=sizeOf0,
 v0:=zeroValue0,
 t3:=underlying3,
 a3:=isAgg3,
 z3:=sizeOf3,
 v3:=zeroValue3,
 t4:=underlying4,
 a4:=isAgg4,
 z4:=sizeOf4,
 v4:=zeroValue4,
 t5:=underlying5,
 a5:=isAgg5,
 z5:=sizeOf5,
 v5:=zeroValue5,
 t9:=underlying9,
 a9:=isAgg9,
 z9:=sizeOf9,
 v9:=zeroValue9,
 t22:=underlying31,
 a22:=isAgg31,
 z22:=sizeOf31,
 v22:=zeroValue31,
 t25:=underlying79,
 a25:=isAgg79,
 z25:=sizeOf79,
 v25:=zeroValue79,
 t39:=underlying130,
 a39:=isAgg130,
 z39:=sizeOf130,
 v39:=zeroValue130,
 t45:=underlying180,
 a45:=isAgg180,
 z45:=sizeOf180,
 v45:=zeroValue180,
 t46:=underlying181,
 a46:=isAgg181,
 z46:=sizeOf181,
 v46:=zeroValue181,
 t50:=underlying185,
 a50:=isAgg185,
 z50:=sizeOf185,
 v50:=zeroValue185,
 t53:=underlying188,
 a53:=isAgg188,
 z53:=sizeOf188,
 v53:=zeroValue188,
 t55:=underlying190,
 a55:=isAgg190,
 z55:=sizeOf190,
 v55:=zeroValue190,
 t66:=underlying227,
 a66:=isAgg227,
 z66:=sizeOf227,
 v66:=zeroValue227,
 t70:=underlying231,
 a70:=isAgg231,
 z70:=sizeOf231,
 v70:=zeroValue231,
 t76:=underlying243,
 a76:=isAgg243,
 z76:=sizeOf243,
 v76:=zeroValue243,
 t77:=underlying112,
 a77:=isAgg112,
 z77:=sizeOf112,
 v77:=zeroValue112}
def Tryz.Ie:Go.Shelf.Ren:=⟨λ|5=>21|7=>55|n=>n,λ|22=>3|3=>3|4=>4|n=>n,λ|n=>n⟩
theorem Tryz.Xs:Go.Proofs.SlLaysC2.n5 prog Tryz.Ie:={
 mixed:=by kernel_rfl,
 f5:=⟨ "cmp.Compare[int]",by decide,func21.trans (congrArg some (by kernel_rfl))⟩,
 f7:=⟨ "cmp.isNaN[int]",by decide,func55.trans (congrArg some (by kernel_rfl))⟩,
 t3:=underlying3,
 a3:=isAgg3,
 z3:=sizeOf3,
 v3:=zeroValue3,
 t4:=underlying4,
 a4:=isAgg4,
 z4:=sizeOf4,
 v4:=zeroValue4,
 t22:=underlying3,
 a22:=isAgg3,
 z22:=sizeOf3,
 v22:=zeroValue3}
open Go.Shelf Go.Lib Go.Sort in
def pvE(x:dC×(Option Addr×Nat×Nat)):List Value:=[.int .i64 x.1.call,.slice x.2.1 x.2.2.1 x.2.2.2]
instance acy:Inhabited dC:=⟨⟨0,[]⟩⟩
open Go.Shelf Go.Lib Go.Sort in
theorem Qs(a b:Int)(s1 s2:Option Addr)(n1 n2 k1 k2:Nat)(W:World):Calls prog 20 #[.agg #[.int .i64 a,.slice s1 n1 k1],.agg #[.int .i64 b,.slice s2 n2 k2]] W λe w'=>e= .returned (.int .i64 (Lib.compareInt a b))/\∃q os',w'=Sort.grow (W.drewN q) os':=by
 have hcon:=λW'=>AnyG.cmp_Compare_int Tryz.Xs a b W'
 change ∀W',Calls prog 21 _ _ _ at hcon;generalize Lib.compareInt a b=r at hcon|-
 go_enter func20,ntmps20
 go_wp2_with (go_at_call 21;refine(hcon _).mono ?_;rintro e w' ⟨rfl,rfl⟩)
 go_ret
 exact⟨rfl,0,_,by rw[Sort.alloc_eq_grow,Sort.alloc_eq_grow,Sort.grow_grow];rfl⟩
open Go.Shelf Go.Lib Go.Sort in
theorem Tu(x y:dC×(Option Addr×Nat×Nat)):ltOf (λx y:dC×(Option Addr×Nat×Nat)=>Lib.compareInt x.1.call y.1.call) x y=decide (x.1.call<y.1.call):=by
 unfold ltOf Lib.compareInt;by_cases h1:x.1.call<y.1.call
 .simp[h1]
 .by_cases h2:y.1.call<x.1.call<;>simp[h1,h2]
open Go.Shelf Go.Lib Go.Sort in
theorem afw:SWO (ltOf λx y:dC×(Option Addr×Nat×Nat)=>Lib.compareInt x.1.call y.1.call) where
 irrefl x:=by rw[Tu];simp
 trans x y z h1 h2:=by rw[Tu]at*;simp at*;omega
 ntrans x y z h1 h2:=by rw[Tu]at*;simp at*;omega
open Go.Shelf Go.Lib Go.Sort in
theorem Qt(l:List dC)(hne:l≠[])(hl:l.length<=4194304){m:Mem}{id:Nat}(hb:dh m id=some (.row 2 (aa (l.map dC.enc)))){K:CV->Mem->Prop}(h:∀l':List dC,l'.Perm l->l'.Pairwise (λa b=>¬b.call<a.call)->K (.bG []) (aX m id (.row 2 (aa (l'.map dC.enc))))):ap prog 19 [.rv (.one (.row id 2 0 none)),.rv (.one (.fn 20 []))] m K:=by
 refine⟨⟨f19,func19,rfl,by decide⟩,λρ w vs hM hvl hd=>?_⟩
 obtain⟨v0,h0,d0⟩:=hd 0 _ rfl;obtain⟨v1,h1,d1⟩:=hd 1 _ rfl;have hvs:vs=[v0,v1]:=by
  match vs,hvl with
  | [a,b],_=>simp at h0 h1;rw[h0,h1]
 rw[aW]at hb;obtain⟨hid,_,_,hlc,hcm,a,hv0,ha⟩:=(show bH ρ w none (.row id 2 0 none) v0 from d0);obtain⟨_,hv1⟩:=(show bH ρ w none (.fn 20 []) v1 from d1);obtain⟨hln,_,_,dQ,hcu⟩:=hM.bk id _ hb;have hlen:(ρ.aV (.ay id)).len=l.length:=by rw[<-hln];simp[aa]
 have hpos:0<l.length:=aet.2 hne;have hcap:0<(ρ.aV (.ay id)).cap:=om;obtain⟨cur,hcur,hcsz,hcells⟩:=hcu hcap;have ha:=ha hcap;have hel:∀i(hi:i<l.length),∃x:Option Addr×Nat×Nat,cur[(ρ.aV (.ay id)).aB+i*2+0]? =some (.int .i64 l[i].call)/\cur[(ρ.aV (.ay id)).aB+i*2+1]? =some (.slice x.1 x.2.1 x.2.2)/\
   dx ρ.S w (.sl 2 (l[i].bI.map oo.enc)) (.slice x.1 x.2.1 x.2.2):=by
  intro i hi;have hri:(aa (l.map dC.enc))[i]? =some (l[i].enc.map .ai):=by simp[aa,hi]
  obtain⟨u,hu,hdu⟩:=hcells i _ 0 _ hri rfl;obtain⟨u1,hu1,hdu1⟩:=hcells i _ 1 _ hri rfl;have e0:u= .int .i64 l[i].call:=by
   have hdu:dx ρ.S w (.val (.int .i64 l[i].call)) u:=hdu;cases hdu with
   |val _ _=>rfl
  have hdu1:dx ρ.S w (.sl 2 (l[i].bI.map oo.enc)) u1:=hdu1;obtain⟨b,n,c,e1⟩:∃b n c,u1=Value.slice b n c:=by
   generalize l[i].bI.map oo.enc=E at hdu1;cases hdu1 with
   |nil _ b c _=>exact⟨_,_,_,rfl⟩
   |sl _ _ b off c u _ _ _ _ _ _=>exact⟨_,_,_,rfl⟩
  subst e0 e1;exact⟨(b,n,c),hu,hu1,hdu1⟩
 obtain⟨X,hX⟩:∃X:Nat->Option Addr×Nat×Nat,∀i(hi:i<l.length),cur[(ρ.aV (.ay id)).aB+i*2+0]? =some (.int .i64 l[i].call)/\cur[(ρ.aV (.ay id)).aB+i*2+1]? =some (.slice (X i).1 (X i).2.1 (X i).2.2)/\
   dx ρ.S w (.sl 2 (l[i].bI.map oo.enc)) (.slice (X i).1 (X i).2.1 (X i).2.2):=
  ⟨λi=>if hi:i<l.length then Classical.choose (hel i hi)else(none,0,0),λi hi=>by have:=Classical.choose_spec (hel i hi);simp only[dif_pos hi];exact this⟩
 obtain⟨d,hdd⟩:∃d:Array (dC×(Option Addr×Nat×Nat)),d=(l.zipIdx.map λp=>(p.1,X p.2)).toArray:=⟨_,rfl⟩
 have hds:d.size=l.length:=by simp[hdd]
 have hdg:∀i(hi:i<l.length),d[i]! =(l[i],X i):=by intro i hi;rw[getElem!_pos d i om];simp[hdd]
 have hdl:d.toList.map Prod.fst=l:=by rw[hdd,List.toList_toArray,acf];exact List.zipIdx_map_fst 0 l
 have hH:HoldsK pvE 2 w (ρ.aV (.ay id)).b (ρ.aV (.ay id)).aB d:=by
  intro j hj;rw[size_flatK,hds]at hj;have hi:j/2<l.length:=om;obtain⟨g0,g1,_⟩:=hX (j/2) hi;have hc:l.length*2<=(ρ.aV (.ay id)).cap*2:=om;rw[hcur.cell,get_flatK _ _ _ _ (by rw[hds];exact hj),hdg _ hi]
  refine⟨?_,hcur.ry om⟩;rcases Nat.mod_two_eq_zero_or_one j with e|e
  .rw[e,show(ρ.aV (.ay id)).aB+j=(ρ.aV (.ay id)).aB+j/2*2+0 by omega,g0];rfl
  .rw[e,show(ρ.aV (.ay id)).aB+j=(ρ.aV (.ay id)).aB+j/2*2+1 by omega,g1];rfl
 have eg:∀args w,(callFunc 20 args).run prog w= .ok (.enter 20 args) w:=enters_of func20 (by kernel_rfl) rfl
 have hblk:(ρ.aV (.ay id)).b<w.heap.size:=hcur.lt;have hcon:=AnyQ.slices_SortFunc Tryz.Tt 2 isAgg76 sizeOf76 pvE (λ_=>rfl) (λx v hv=>by simp[pvE]at hv;rcases hv with rfl|rfl<;>rfl) (λx y=>Lib.compareInt x.1.call y.1.call) afw 20 #[] (ρ.aV (.ay id)).b (ρ.aV (.ay id)).aB (ρ.aV (.ay id)).cap d w eg
  (λ_ _ _ _ x y=>Qs x.1.call y.1.call x.2.1 y.2.1 x.2.2.1 y.2.2.1 x.2.2.2 y.2.2.2 _) hH hblk om
 change Calls prog 19 _ _ _ at hcon;have hargs:vs.toArray= #[.slice (some ⟨(ρ.aV (.ay id)).b,(ρ.aV (.ay id)).aB,none⟩) d.size (ρ.aV (.ay id)).cap,.func (.func 20) #[] #[]]:=by rw[hvs,hv0,hv1,ha,hds,<-hlen];simp
 rw[hargs];refine hcon.mono ?_;rintro e w' ⟨rfl,d',n,os,hp,hs,rfl⟩;obtain⟨hp1,_,hp2⟩:=hp;have hp2:d'.toList.Perm d.toList:=by
  have e1:d'.extract 0 d.size=d':=by rw[<-hp1];simp
  have e2:d.extract 0 d.size=d:=aD;rw[e1,e2]at hp2;exact hp2
 have hperm:(d'.toList.map Prod.fst).Perm l:=by have:=hp2.map Prod.fst;rwa [hdl]at this
 have hll:(d'.toList.map Prod.fst).length=l.length:=hperm.length_eq;have hsort:(d'.toList.map Prod.fst).Pairwise (λa b=>¬b.call<a.call):=by
  rw[acw];intro i j hi hj hij;have hj2:j<d'.size:=by simpa using hj
  have:=hs i j (WG _) hij om;rw[Tu,getElem!_pos d' i om,getElem!_pos d' j hj2]at this;simpa using this
 have hmem:∀i,i<d'.size->∃k,∃hk:k<l.length,d'[i]! =(l[k],X k):=by
  intro i hi;have:d'[i]! ∈d.toList:=by rw[<-hp2.mem_iff,getElem!_pos d' i hi];exact aee.2 (Array.getElem_mem hi)
  obtain⟨k,hk⟩:=aak this;obtain⟨hk1,hk2⟩:=Lw.1 hk;have hk1:k<d.size:=by simpa using hk1
  refine⟨k,om,?_⟩;rw[<-hdg k om,getElem!_pos d k hk1,<-hk2];simp
 have hb2:=hb;obtain⟨hM',hX'⟩:=K3 (mQ:=aa ((d'.toList.map Prod.fst).map dC.enc)) (F:=flatK pvE 2 d') hM hb (by simpa[aa]using hpos) (by simp[aa];omega) (λcs hcs=>by
   simp only[aa,abl]at hcs;obtain⟨x,⟨p,_,rfl⟩,rfl⟩:=hcs;rfl) (by rw[size_flatK];simp[aa];omega) (λcs hcs c hc=>by
   simp only[aa,abl]at hcs;obtain⟨x,_,rfl⟩:=hcs;obtain⟨d,_,rfl⟩:=abl.1 hc;exact⟨d,rfl⟩) (λi cs j c hi hj=>by
   simp only[aa,Qu]at hi;cases ho:d'.toList[i]? with
   |none=>rw[ho]at hi;simp at hi
   |some y=>
    rw[ho]at hi;simp only[aa3,abe]at hi;subst hi;have hid':i<d'.size:=by have:=(Lw.1 ho).1;simpa using this
    have hy:d'[i]! =y:=by rw[getElem!_pos d' i hid'];have:=(Lw.1 ho).2;simpa using this
    obtain⟨k,hk,hyk⟩:=hmem i hid';rw[hy]at hyk;subst hyk;have hj2:j<2:=by have:=(Lw.1 hj).1;simpa[dC.enc]using this
    rw[get_flatK _ _ _ _ om,show(i*2+j)/2=i by omega,show(i*2+j)%2=j by omega,hy]
    match j,hj2,hj with
    |0,_,hj=>cases hj;exact dx.val _ rfl
    |1,_,hj=>cases hj;exact(hX k hk).2.2) n os
 rw[<-bh]at hM' hX';exact⟨_,.bG [],_,ρ,rfl,h _ hperm hsort,hM',⟨[],rfl,rfl,aD⟩,hX'⟩
end Go.Proofs.YtllkfpggoigbaaaGreatDoor
