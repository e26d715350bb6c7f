/- Part 18 of 18. -/
import Derived.Test.YtojhmadmlnfpcaaGreatDoorS10
import Derived.Test.YtojhmadmlnfpcaaGreatDoorS12
import Derived.Test.YtojhmadmlnfpcaaGreatDoorS17
set_option linter.unusedVariables false
set_option linter.unusedSimpArgs false
set_option linter.unnecessarySimpa false
set_option maxRecDepth 100000
set_option maxHeartbeats 0
namespace Go.Proofs.YtojhmadmlnfpcaaGreatDoor
open Go.AM Go.ChangeShapes Go.WideShapes Go.ChangeAt Go.RowKit
def E21(k:Kx):List CV:=bb (bb (gh [cP k.l k.ops k.ps] (fT 283 .undef)) 1 (p0 0)) 2 (p0 1)
theorem Qi(k:Kx)(hk:AF k)(K:Ex->St->Prop)(hK:∀b,CZ k b->AF b->aa5 b K):
  aw Tryz.prog 0 G21 K ⟨E21 k,[kB k.l k.ops k.ps,fm]⟩:=by
 refine aK (fun a:StO=>AF a.k/\(a.bO=true->TI k a.k)/\(a.bO=false->CZ k a.k)) [1,2] (fun a=>[(3,ax a.bO)]) hdM (fun a=>if a.bO then gV a.k.ps+1 else 0) ⟨k,true⟩ ⟨hk,fun _=>.refl,fun h=>by cases h⟩ ?_ (fun a hJ=>?_)
 .refine View.o1 2 [0,1] [] ?_
  .exact .pt rfl rfl (.eq rfl (by simp[kB])) (.pt rfl rfl (.eq rfl (by simp[fm])) (.nil _))
 obtain⟨a,bO⟩:=a;obtain⟨hz,hT,hF⟩:=hJ;cases bO with
 |false=>
  refine hK a (hF rfl) hz _ _ (View.o1 5 [0,1,2,3,4] [] ?_)
  .exact .pt rfl rfl (.eq rfl (by simp[rM])) (.pt rfl rfl (.eq rfl (by simp[fm])) (.pr rfl rfl rfl (.pr rfl rfl rfl (.pn rfl rfl rfl))))
 |true=>
  have hT:=hT rfl;refine aa3 a hz _ fun L hL Q hQ e m hv=>?_
  generalize hb:(⟨pj L a.l,oK Q a.ops,xD (pj L a.l) a.ps⟩:Kx)=b;have hs:∀x,x=A0 (pj L a.l) a.ps a.ps.length->rN a b x:=fun x hx=>by subst hb;exact⟨⟨L,Q,hL,hQ,rfl,rfl⟩,rfl,hx⟩
  cases hm:A0 (pj L a.l) a.ps a.ps.length with
  |false=>
   rw[hm]at hv;have s:=hs false hm.symm;refine⟨⟨b,false⟩,⟨s.sz hz,(fun h=>by cases h),fun _=>⟨a,hT,s⟩⟩,(show 0<gV a.ps+1 by omega),?_⟩
   subst hb;exact hv
  |true=>
   rw[hm]at hv;have s:=hs true hm.symm;refine⟨⟨b,true⟩,⟨s.sz hz,fun _=>.step hT s,fun h=>by cases h⟩,(show gV b.ps+1<gV a.ps+1 by have:=s.Xo;omega),?_⟩
   subst hb;refine View.trans hv (View.o 5 [0,1] [2,3,4] ?_ (aa4 ⟨pj L a.l,oK Q a.ops,xD (pj L a.l) a.ps⟩));repeat(first|exact .nil|refine .aq ?_|refine .eq rfl ?_)
theorem C0(k:Kx)(hk:AF k):body Tryz.prog c12 [cP k.l k.ops k.ps] [] (fun r m=>∃c,(∃b,CZ k b/\AF b/\c=Un b)/\cJ m r c):=
 Qi k hk _ fun b hf hz e m hv=>⟨_,hv,abf b hz (fun c=>∃b,CZ k b/\AF b/\c=Un b) ⟨b,hf,hz,rfl⟩⟩
theorem JN(k:Kx)(hk:AF k){m:Mem}{K:CV->Mem->Prop}(h:∀b,CZ k b->AF b->K (Un b) m):au Tryz.prog 12 [cP k.l k.ops k.ps] m K:=by
 refine be (K0:=fun r m=>∃c,(∃b,CZ k b/\AF b/\c=Un b)/\cJ m r c) (cg Tryz.func12 l12 (C0 k hk)) (by simp[cP,cU,d5,ff,CV.dm,CC.dm,RV.dm]) fun r m1 hr=>?_
 obtain⟨c,⟨b,hf,hz,rfl⟩,hc⟩:=hr;exact⟨_,hc,h b hf hz⟩
theorem C1{l:List Obj}{ops:List bi}{ps:List aT}{b:Mk}{L:List Nat}(hm:fO l ops ps b)(hr:gk l ops ps L){n:Nat}(h:n∈L):dx b.O n:=
 hr.NB.kR _ _ hm.cl hm.oe n h
theorem Hr{ops:List bi}{c:Nat}{o:bi}(h:ops[c]? =some o):gU ops (c:Nat)=o.bD:=by
 rw[gU,if_pos om,show((c:Nat):Int).toNat=c from by omega,h]
theorem Hs{l:List Obj}{ops:List bi}{ps:List aT}{b:Mk}{L:List Nat}(hm:fO l ops ps b)(hr:gk l ops ps L):Lv (fun n=>n∈L) (fun c=>T2 l ps L l.length 0 (c:Nat)) b:=by
 refine hm.kR _ _ ⟨fun i o hi ho z n hz hn=>hr.ce i o hi ho z hz n hn,fun i o hi ho z c hz hc=>?_,fun c o hc ho n hn=>?_⟩ ⟨hr.NB.ar,fun p pr hp hl s hs hh c hc=>?_⟩
 .obtain⟨q,hq,hh,rfl⟩:=hz;obtain⟨k,hk⟩:=List.mem_iff_getElem?.1 hq;have eC:=(Mh.1 ho).1;exact .inr ⟨i,o,k,q,hi,ho,hk,hh,.inl eC,hc.1.symm⟩
 .rcases hc with⟨i,pr,k,s,h1,h2,h3,h4,_,h6⟩|⟨i,o2,k,q,h1,h2,h3,h4,_,h6⟩
  .exact hr.cp i pr h1 h2 s (Rq h3) h4 n (by rw[<-h6,Hr ho];exact hn)
  .exact hr.cq i o2 h1 h2 q (Rq h3) h4 n (by rw[<-h6,Hr ho];exact hn)
 .obtain⟨k,hk⟩:=List.mem_iff_getElem?.1 hs;have G4:=(Mh.1 hp).1;exact .inl ⟨p,pr,k,s,hp,hl,hk,hh,.inl G4,hc.1.symm⟩
theorem NQ{l:List Obj}{ops:List bi}{ps:List aT}{b:Mk}{L:List Nat}(hm:fO l ops ps b)(hr:gk l ops ps L)(n:Nat):n∈L↔dx b.O n:=
 ⟨C1 hm hr,(Hs hm hr).1 n⟩
theorem NR{l:List Obj}{ops:List bi}{ps:List aT}{b:Mk}{L:List Nat}{Q:List Int}(hm:fO l ops ps b)(hr:gk l ops ps L)(hQ:uL l ps L Q){c:Nat}(hc:c<ops.length):Dh Q (c:Nat)=true↔dx b.P c:=by
 rw[hQ (c:Nat)];constructor
 .rintro(⟨i,pr,k,s,h1,h2,h3,h4,_,h6⟩|⟨i,o2,k,q,h1,h2,h3,h4,_,h6⟩)
  .exact hm.oe.2 i pr h1 h2 s (Rq h3) h4 c ⟨h6.symm,hc⟩
  .exact hm.cl.q i o2 (C1 hm hr h1) h2 q.dk c ⟨q,Rq h3,h4,rfl⟩ ⟨h6.symm,hc⟩
 .exact(Hs hm hr).2 c
structure Qj(l:List Obj):Prop where
 z:∀o,o∈l->o.ah=0->o=eQ
 p:∀o,o∈l->o.ah=4->o.aD= -1\/∃(i:Nat)(x:Obj),o.aD=(i:Int)/\l[i]? =some x/\x.ah≠0
theorem jd{L:List Bool}{i:Nat}:(L[i]? ==some true)=true↔dx L i:=by
 unfold dx;cases L[i]? with
 |none=>simp
 |some x=>cases x<;>simp
theorem AH{L:List Bool}{i:Nat}(h:¬dx L i):(!(L[i]? ==some true))=true:=by
 cases hb:(L[i]? ==some true)with
 |false=>rfl
 |true=>exact absurd (jd.1 hb) h
theorem JO{l:List Obj}{ops:List bi}{ps:List aT}{b:Mk}{L:List Nat}(hm:fO l ops ps b)(hr:gk l ops ps L)(hk:Qj l){i:Nat}{o:Obj}(ho:l[i]? =some o):cy b l l.length i o=yZ L i o:=by
 have hi:=(Mh.1 ho).1;have TN:=NQ hm hr;by_cases hL:i∈L
 .have gL:sO L (i:Nat)=true:=ix.2 hL;have hb:(b.O[i]? ==some true)=true:=jd.2 ((TN i).1 hL);have hd:dB b l i=false:=by rw[dB,ho];simp[hb]
  rw[yZ,gL,cy,hd];simp only[Bool.false_and,abV,if_false];by_cases h4:o.ah=4
  .rcases hk.p o (Rq ho) h4 with hp|⟨j,x,hp,hx,WX⟩
   .have e:({o with aD:= -1}:Obj)=o:=by rw[<-hp]
    rw[e];simp
   .have hj:=(Mh.1 hx).1;have hz:jK b l l.length o.aD= !(sO L o.aD):=by
     rw[hp,jK];have e1:decide (0<=(j:Int)/\(j:Int).toNat<l.length)=true:=decide_eq_true ⟨om,om⟩;rw[e1,show(j:Int).toNat=j from by omega,dB,hx,acm]
     have e2:(x.ah !=0)=true:=by simpa using WX
     show(!(b.O[j]? ==some true)&&x.ah !=0)=_;rw[e2,ada];cases T3:sO L (j:Nat)with
     |true=>rw[jd.2 ((TN j).1 (ix.1 T3))]
     |false=>
      rw[AH fun h=>by rw[ix.2 ((TN j).2 h)]at T3;cases T3]
      rfl
    rw[hz];cases hq:sO L o.aD<;>simp[h4]
  .simp[h4]
 .have gL:sO L (i:Nat)=false:=by
   cases h:sO L (i:Nat)with
   |false=>rfl
   |true=>exact absurd (ix.1 h) hL
  have hb:(!(b.O[i]? ==some true))=true:=AH fun h=>hL ((TN i).2 h)
  rw[yZ,gL,if_pos rfl,cy];by_cases h0:o.ah=0
  .have hz:=hk.z o (Rq ho) h0;have hd:dB b l i=false:=by rw[dB,ho];simp[h0]
   rw[hd,hz];simp[eQ]
  .have hd:dB b l i=true:=by rw[dB,ho];show(!(b.O[i]? ==some true)&&o.ah !=0)=true;rw[hb];simpa using h0
   rw[hd,decide_eq_true hi];rfl
theorem Qj.round{l:List Obj}{ops:List bi}{ps:List aT}{L:List Nat}(hk:Qj l)(hr:gk l ops ps L):Qj (pj L l):=by
 refine⟨fun o ho h0=>?_,fun o ho h4=>?_⟩
 .obtain⟨i,x,hx,rfl⟩:=k7 ho;unfold yZ at h0⊢;split at h0
  .rw[if_pos (by assumption)]
  .rename_i gL;have gL:i∈L:=ix.1 (by simpa using gL)
   obtain⟨_,o2,h2,h3⟩:=hr.NB.val i gL;rw[hx]at h2;cases h2;split at h0<;>exact absurd h0 h3
 .obtain⟨i,x,hx,rfl⟩:=k7 ho;unfold yZ at h4⊢;split at h4
  .cases h4
  .rename_i gL;rw[if_neg gL];split at h4
   .rename_i hc;rw[if_pos hc];exact .inl rfl
   .rename_i hc;rw[if_neg hc];rcases hk.p x (Rq hx) h4 with hp|⟨j,y,hp,hy,Jm⟩
    .exact .inl hp
    .have hj:sO L (j:Nat)=true:=by
      cases h:sO L (j:Nat)with
      |true=>rfl
      |false=>exact absurd ⟨h4,by rw[hp];exact h⟩ hc
     refine .inr ⟨j,yZ L j y,hp,by rw[pj,abD,hy];rfl,?_⟩
     unfold yZ;rw[hj,if_neg aG];split<;>exact Jm
theorem y2(l':List Obj)(ps:List aT):∀k,g9 l' ps k=A0 l' ps k
 |0=>rfl
 |k+1=>by have ih:=y2 l' ps k;rw[A0,<-ih];unfold g9;rw[adr,List.any_append,acv,List.any_nil,Bool.or_false,Bool.or_comm];rfl
theorem iY{α:Type}{l L:List α}{f:Nat->α->α}(h:Pt l L f):L=l.mapIdx f:=by
 refine abF fun i=>?_
 rw[abD];cases hx:l[i]? with
 |none=>exact ab0.2 (by rw[h.1];exact ab0.1 hx)
 |some x=>rw[h.2 i x hx];rfl
theorem pb{α β:Type}{f g:Nat->α->β}{l:List α}(h:∀(i:Nat)x,l[i]? =some x->f i x=g i x):l.mapIdx f=l.mapIdx g:=by
 refine abF fun i=>?_
 rw[abD,abD];cases hx:l[i]? with
 |none=>rfl
 |some x=>rw[aaG,aaG,h i x hx]
theorem nf{l:List Obj}{ops:List bi}{ps:List aT}{O:List Obj}{O2:List bi}{O3:List aT}{en:Bool}(h:cL l ops ps O O2 O3 en)(hk:Qj l){b:Kx}{bO:Bool}(s:rN ⟨l,ops,ps⟩ b bO):
  O=b.l/\O2=b.ops/\O3=b.ps/\en=bO/\Qj b.l:=by
 obtain⟨⟨mk,hm,hO,hO2⟩,hO3,mX⟩:=h;obtain⟨⟨L,Q,hr,hQ,e1,e2⟩,e3,e4⟩:=s;have hr:gk l ops ps L:=hr;have hQ:uL l ps L Q:=hQ;have e1:b.l=pj L l:=e1;have e2:b.ops=oK Q ops:=e2;have a1:O=b.l:=by rw[iY hO,e1,pj];exact pb fun i o ho=>JO hm hr hk ho
 have a2:O2=b.ops:=by
  rw[iY hO2,e2,oK];refine pb fun i o ho=>?_
  have hi:=(Mh.1 ho).1;have TN:=NR hm hr hQ hi;rw[zL,FS,decide_eq_true hi,acm];cases hq:Dh Q (i:Nat)with
  |true=>rw[jd.2 (TN.1 hq)];rfl
  |false=>
   rw[AH fun h=>by rw[TN.2 h]at hq;cases hq]
   rfl
 have a3:O3=b.ps:=by
  rw[iY hO3,e3,a1,xD];refine pb fun i o ho=>?_
  have hi:=(Mh.1 ho).1;rw[vK,NM,decide_eq_true hi,acm];rfl
 refine⟨a1,a2,a3,?_,by rw[e1];exact hk.round hr⟩
 rw[mX,e4,a1];exact y2 b.l ps ps.length
theorem oM{α:Type}{q:Nat->α->Bool}{mn:Nat}{L:List α}{a b:Nat}(ha:iG q mn L a)(hb:iG q mn L b):a=b:=by
 have key:∀{a b:Nat},iG q mn L a->iG q mn L b->¬a<b:=fun{a b}ha hb aB=>by
  have h1:=ha.t.mn;have h2:=hb.t.le;rcases hb.e with h3|⟨o,ho,hq⟩
  .omega
  .have:=ha.t.dr (b-1) o om ho;rw[hq]at this;cases this
 have h1:=key ha hb;have h2:=key hb ha;omega
structure NS{α:Type}(g:Nat->α->Bool)(n0:Nat)(L:List α)(k N:Nat):Prop where
 lo:n0<=N
 hi:N<=n0\/N<=k
 dr:∀t x,N<=t->t<k->L[t]? =some x->g t x=false
 ls:N=n0\/∃x,L[N-1]? =some x/\g (N-1) x=true/\0<N
theorem oh{α:Type}{f:Nat->Nat->α->Nat}{g:Nat->α->Bool}{n0:Nat}{L:List α}(h0:∀t x,t<n0->g t x=false)(hf:∀n i x,n0<=n->(n<=n0\/n<=i)->f n i x=if g i x=true then i+1 else n):∀k,k<=L.length->NS g n0 L k (fA f n0 L k)
 |0,_=>⟨SS _,.inl (SS _),fun t x _ h=>absurd h (abb t),.inl rfl⟩
 |k+1,hk=>by
  have ih:=oh (f:=f) (g:=g) (L:=L) h0 hf k om;have aB:k<L.length:=hk;rw[pa aB,hf _ k _ ih.lo ih.hi];cases hg:g k L[k]with
  |true=>
   have hn:n0<=k:=by
    rcases ZX k n0 with h|h
    .rw[h0 k _ h]at hg;cases hg
    .exact h
   rw[if_pos rfl];exact⟨om,.inr (SS _),fun t x h1 h2=>om,.inr ⟨L[k],IE aB,hg,om⟩⟩
  |false=>
   rw[if_neg aG];refine⟨ih.lo,by have:=ih.hi;omega,fun t x h1 h2 hx=>?_,ih.ls⟩
   by_cases ht:t=k
   .subst ht;rw[IE aB]at hx;cases hx;exact hg
   .exact ih.dr t x h1 om hx
theorem NS.tru{α:Type}{g q:Nat->α->Bool}{n0:Nat}{L:List α}{N:Nat}(h:NS g n0 L L.length N)(h0:∀t x,t<n0->g t x=false)(hq:∀t x,n0<=t->q t x= !(g t x)):iG q n0 L (dy N L.length):=by
 have HW:dy N L.length=N\/(L.length<N/\dy N L.length=L.length):=by
  unfold dy;split
  .exact .inr ⟨om,rfl⟩
  .exact .inl rfl
 have ic:=h.lo;have hle:=tf N L.length;refine⟨⟨hle,by rcases HW with e|⟨_,e⟩<;>omega,fun t x ht hx=>?_⟩,?_⟩
 .have J2:=(Mh.1 hx).1;have hN:N<=t:=by rcases HW with e|⟨_,e⟩<;>omega
  rw[hq t x om,h.dr t x hN J2 hx];rfl
 .rcases h.ls with e|⟨x,hx,hg,hp⟩
  .left;rcases HW with e2|⟨_,e2⟩<;>omega
  .right;have hxl:=(Mh.1 hx).1;have e:dy N L.length=N:=by rcases HW with e|⟨_,e⟩<;>omega
   rw[e];refine⟨x,hx,?_⟩;have:n0<=N-1:=by
    rcases ZX (N-1) n0 with h1|h1
    .rw[h0 _ x h1]at hg;cases hg
    .exact h1
   rw[hq _ x this,hg];rfl
theorem abi(l:List Obj):iG qO 1 l (dy (fA nF 1 l l.length) l.length):=by
 have h0:∀t(x:Obj),t<1->(fun(i:Nat)(o:Obj)=>decide (1<=i)&&o.ah !=0) t x=false:=fun t x h=>by have:t=0:=om;subst this;rfl
 refine(oh (g:=fun i o=>decide (1<=i)&&o.ah !=0) h0 (fun n i x h1 h2=>?_) l.length (SS _)).tru h0 fun t x ht=>?_
 .unfold nF;by_cases hk:x.ah=0
  .simp[hk]
  .by_cases hi:1<=i
   .rw[if_pos ⟨hk,om⟩,if_pos (by simp[hi,hk])]
   .rw[if_neg (fun h=>by have:=h.2;omega),if_neg (by simp[hi])]
 .simp[qO,ht,bne]
theorem abj(ops:List bi):iG qP 0 ops (fA oF 0 ops ops.length):=by
 have h:=(oh (f:=oF) (g:=fun(_:Nat)(o:bi)=>decide (0<=o.bD)) (n0:=0) (L:=ops) (fun t x h=>absurd h (abb t)) (fun n i x h1 h2=>by unfold oF;by_cases h:0<=x.bD<;>simp[h]) ops.length (SS _)).tru (q:=qP) (fun t x h=>absurd h (abb t)) fun t x ht=>by
  unfold qP;by_cases h:0<=x.bD
  .simp[h]
  .simp[h];omega
 have e:dy (fA oF 0 ops ops.length) ops.length=fA oF 0 ops ops.length:=by have:=AG ops ops.length;unfold dy;rw[if_neg om]
 rw[e]at h;exact h
theorem abk(l:List Obj)(ps:List aT):iG (qR l) 1 ps (dy (fA (pF l) 1 ps ps.length) ps.length):=by
 have h0:∀t(x:aT),t<1->N9 l t x=false:=fun t x h=>by have:t=0:=om;subst this;rfl
 refine(oh (g:=N9 l) h0 (fun n i x h1 h2=>rfl) ps.length (SS _)).tru h0 fun t x ht=>?_
 unfold qR N9;rw[decide_eq_true (by omega:0<t),acm,Bool.not_or]
theorem JP{l:List Obj}{n:Nat}(h:iG qO 1 l n)(p:Int):(l.take n).any (cH p)=l.any (cH p):=by
 cases hb:l.any (cH p)with
 |false=>
  rw[adf]at hb⊢;exact fun x hx=>hb x (abC hx)
 |true=>
  rw[abt]at hb⊢;obtain⟨x,hx,hh⟩:=hb;obtain⟨t,ht⟩:=List.mem_iff_getElem?.1 hx;refine⟨x,?_,hh⟩;rcases ZX t n with h2|h2
  .exact Rq (by rw[ab1 h2];exact ht)
  .have:=h.t.dr t x h2 ht;unfold qO at this;unfold cH at hh;have h3:x.ah=0:=by simpa using this
   rw[h3]at hh;cases hh
theorem JQ{k a:Kr}(h:gQ k a):a=k\/∃x,cL k.l k.ops k.ps x.l x.ops x.ps true/\gQ x a:=by
 induction h with
 |refl=>exact .inl rfl
 | @step a b h s ih=>
  rcases ih with rfl|⟨x,hx,OU⟩
  .exact .inr ⟨b,s,.refl⟩
  .exact .inr ⟨x,hx,.step OU s⟩
theorem C2{k a:Kx}(h:TI k a):a=k\/∃x,rN k x true/\TI x a:=by
 induction h with
 |refl=>exact .inl rfl
 | @step a b h s ih=>
  rcases ih with rfl|⟨x,hx,OU⟩
  .exact .inr ⟨b,s,.refl⟩
  .exact .inr ⟨x,hx,.step OU s⟩
theorem C3:∀(n:Nat)(l:List Obj)(ops:List bi)(ps:List aT),gV ps=n->Qj l->∀(a c:Kr),gQ ⟨l,ops,ps⟩ a->cL a.l a.ops a.ps c.l c.ops c.ps false->∀b,CZ ⟨l,ops,ps⟩ b->c.l=b.l/\c.ops=b.ops/\c.ps=b.ps:=by
 intro n
 induction n using Nat.strongRecOn with
 |_ n ih=>
  intro l ops ps hn hk a c ha hc b ⟨a',X1,hb⟩;rcases JQ ha with rfl|⟨x,hx,OU⟩
  .rcases C2 X1 with rfl|⟨y,hy,hya⟩
   .obtain⟨h1,h2,h3,_,_⟩:=nf hc hk hb;exact⟨h1,h2,h3⟩
   .have:=(nf hc hk hy).2.2.2.1;cases this
  .rcases C2 X1 with rfl|⟨y,hy,hya⟩
   .have:=(nf hx hk hb).2.2.2.1;cases this
   .obtain⟨h1,h2,h3,_,pd⟩:=nf hx hk hy;have Xu:=hy.Xo;obtain⟨xl,xo,xp⟩:=x;obtain⟨yl,yo,yp⟩:=y;cases h1;cases h2;cases h3;exact ih (gV xp) (by rw[<-hn];exact Xu) xl xo xp rfl pd a c OU hc b ⟨a',hya,hb⟩
theorem C4{k a c d:Kr}(hk:Qj k.l)(ha:gQ k a)(hc:cL a.l a.ops a.ps c.l c.ops c.ps false)(hd:gl c d){b:Kx}(hb:CZ ⟨k.l,k.ops,k.ps⟩ b):cP d.l d.ops d.ps=Un b:=by
 obtain⟨e1,e2,e3⟩:=C3 _ k.l k.ops k.ps rfl hk a c ha hc b hb;obtain⟨n1,n2,n3,P,h1,h2,hP,h3,rfl⟩:=hd;obtain⟨cl,co,cp⟩:=c;obtain⟨bl,bo,bp⟩:=b;cases e1;cases e2;cases e3;have h1:iG qO 1 cl n1:=h1;have h2:iG qP 0 co n2:=h2;have hP:Pt cp P (ru (cl.take n1) cp.length):=hP;have h3:iG (qR (cl.take n1)) 1 P n3:=h3;have hh:=JP h1;have hPe:P=cp.mapIdx (Oa cl):=by
  rw[iY hP];refine pb fun i x hx=>?_
  have hi:=(Mh.1 hx).1;rw[ru,Oa,decide_eq_true hi,acm,qZ,hh,Rt]
 have hqR:qR (cl.take n1)=qR cl:=by funext t o;rw[qR,qR,hh]
 rw[hqR]at h3;subst hPe;have t1:=oM h1 (abi cl);have t2:=oM h2 (abj co);have t3:=oM h3 (abk cl (cp.mapIdx (Oa cl)));subst t1 t2 t3;rfl
def c4:LF:= ⟨33,[.tmp 4],(.seq (.ai [qu 4 (.aH (qb false))]) (.seq (.seq (.ai [qu 9 (qc 8 []),qu 10 (.un .not 9)]) (.cond 10 (.seq (.ai [qu 4 (.aH (qb false))]) .ret) .skip)) (.seq (.seq (.ai [qm 11 0,qu 12 (qc 9 [11]),qu 13 (.Ru false 0 1 12),qu 14 (.aF .neq 13 (qi 0))]) (.cond 14 (.seq (.ai [qu 4 (.aH (qb true))]) .ret) .skip)) (.seq (.ai [qm 16 0,qm 17 1,qu 18 (qc 10 [16,17]),qm 15 18,qu 19 (.ext 15 0),qu 20 (.ext 15 1),qm 5 19,qm 6 20]) (.seq (.seq (.ai [qm 21 5,qu 22 (.len 1 21),qu 23 (.aH (qi 0))]) (.block 0 (.loop (.seq (.ai [qu 24 (.aF .lss 23 22)]) (.seq (.cond 24 .skip (.exit 0)) (.seq (.block 1 (.seq (.ai [qu 25 (.bW 3 21 23),qL 26 3 25,qu 8 (.alloc [.aI,.aI,.aI]),qw (.store 3 8 26)]) (.seq (.bX [qL 27 3 8,qu 28 (qc 12 [27]),qL 29 3 8,qu 30 (qc 11 [28,29]),qu 31 (.un .not 30)] [(.cons 0 none (.cons 2 none (.cons 1 (some [2]) (.cons 3 (some []) (.cons 4 none .nil)))))]) (.cond 31 (.seq (.ai [qu 4 (.aH (qb false))]) .ret) .skip)))) (.ai [qu 32 (.aF .add 23 (qi 1)),qm 23 32]))))))) (.seq (.ai [qu 4 (.aH (qb true))]) .ret))))))⟩
namespace Kn
theorem KI.kpe{k:Kr}(h:KI k):Qj k.l:=by
 refine⟨h.z,fun o ho hk=>?_⟩
 obtain⟨i,hi⟩:=Xf ho;rcases h.pe i o hi hk with e|⟨j,x,e,hx,hx4,-⟩
 .exact .inl e
 .exact .inr ⟨j,x,e,hx,om⟩
theorem TO(k:Kr)(h:KI k)(hs:PZ k){m:Mem}{K:CV->Mem->Prop}(hK:K (cP k.l k.ops k.ps) m):au Tryz.prog 12 [cP k.l k.ops k.ps] m K:=by
 obtain⟨a,c,h1,h2,h3⟩:=(iZ h.kr).ex;unfold PZ at hs;rw[hs]at h3;refine JN ⟨k.l,k.ops,k.ps⟩ ?_ fun b hb _=>?_
 .exact⟨h.sm,by have:=h.ll;show k.l.length<=4194304;omega,by have:=h.lo;show k.ops.length<=4194304;omega,by have:=h.lp;show k.ps.length<=4194304;omega,fun p hp=>by have:=h.sl p hp;omega⟩
 .rw[<-C4 h.kpe h1 h2 h3 hb];exact hK
theorem l6k:bx Tryz.prog Tryz.f4=some c4.er:=by kernel_rfl
theorem FV(l:List cO)(cs:List Cl)(eJ:Ny cs):body Tryz.prog c4 [dD l,AD cs] [] (fun r m=>r=ax true):=by
 refine FK ?_;refine Jv l ?_;refine bG (fun hw=>?_) (fun hw=>?_)
 .exact rfl
 have hw:(cF l).1=0:=hw;refine Fq l hw cs eJ fun l' hp hr=>?_
 generalize gm l'=prog;have fU:=eJ.l;have hlen:=AB prog bR cs;refine aK (fun i=>i<=cs.length+1) [21,22] (fun i=>[(23,an .i64 (i:Nat))]) (fun i=>[]) (fun i=>cs.length+1-i) 0 (Wi _) ?_ (fun i hi=>?_)
 .refine View.o 0 [] [] ?_ (.nil _);repeat(first|exact .nil|refine .aq ?_|refine .eq rfl ?_)
 have hi:i<=cs.length+1:=hi;refine ay (fun h=>?_) (fun h=>?_)
 rotate_left
 .exact rfl
 have aB:i<=cs.length:=by have h:(i:Int)<(((Hf prog bR cs).map kE).length:Int):=h;rw[Nq,hlen]at h;omega
 refine ag (Tx prog cs aB) ?_;have Db:=KI.kS (prog:=prog) (cs.take i) uK;have JV:=NA prog (cs.take i) uK Nz;generalize kS prog bR (cs.take i)=k at Db JV;refine TO k Db JV ?_;refine⟨⟨rfl,trivial⟩,?_⟩;refine LV k Db.kr ?_;refine⟨trivial,i+1,(show i+1<=cs.length+1 by omega),(show cs.length+1-(i+1)<cs.length+1-i by omega),View.o 1 [] [] ?_ (.nil _)⟩
 repeat(first|exact .nil|refine .aq ?_|refine .put (.aO (ap om).symm) ?_|refine .eq rfl ?_)
theorem NT(l:List cO)(cs:List Cl)(eJ:Ny cs):au Tryz.prog 4 [dD l,AD cs] [] (fun r _=>r=ax true):=
 tM Tryz.func4 l6k rfl (X5 rfl) (FV l cs eJ) rfl rfl rfl
end Kn
end Go.Proofs.YtojhmadmlnfpcaaGreatDoor
