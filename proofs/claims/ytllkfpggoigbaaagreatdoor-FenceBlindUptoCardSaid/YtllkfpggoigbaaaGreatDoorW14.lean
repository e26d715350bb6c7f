/- Part 14 of 23. -/
import Derived.Test.YtllkfpggoigbaaaGreatDoorW11
import Derived.Test.YtllkfpggoigbaaaGreatDoorW12
import Derived.Test.YtllkfpggoigbaaaGreatDoorW13
import Derived.Test.YtllkfpggoigbaaaGreatDoorRows
import Derived.Shelf.Strings.Search3
import Derived.Shelf.Strings.OnBuilder
set_option linter.unusedVariables false
set_option linter.unusedSimpArgs false
set_option maxRecDepth 100000
set_option maxHeartbeats 0
namespace Go.Proofs.YtllkfpggoigbaaaGreatDoor
open Proofs.Tryz
open Go.AM Go.ChangeShapes Go.WideShapes Go.ChangeAt Go.RowKit
def k8(l L:List Obj):Prop:=L.length<=l.length/\∀(i:Nat)o,L[i]? =some o->o.ah≠0->∃o':Obj,l[i]? =some o'/\o={o' with aI:=o.aI}
def jP(p P:List aM):Prop:=P.length<=p.length/\∀(i:Nat)x,P[i]? =some x->x.aF=true->p[i]? =some x
theorem k8.refl(l:List Obj):k8 l l:=⟨aah _,λi o h _=>⟨o,h,rfl⟩⟩
theorem k8.trans{a b c:List Obj}(h1:k8 a b)(h2:k8 b c):k8 a c:=by
 refine⟨abK h2.1 h1.1,λi o ho hk=>?_⟩
 obtain⟨o',eH,e⟩:=h2.2 i o ho hk;have jd:o'.ah≠0:=by rw[e]at hk;exact hk
 obtain⟨o2,pH,e2⟩:=h1.2 i o' eH jd;refine⟨o2,pH,?_⟩;rw[e,e2]
theorem jP.refl(l:List aM):jP l l:=⟨aah _,λi o h _=>h⟩
theorem jP.trans{a b c:List aM}(h1:jP a b)(h2:jP b c):jP a c:=
 ⟨abK h2.1 h1.1,λi x hx hl=>h1.2 i x (h2.2 i x hx hl) hl⟩
theorem Pt.get{α:Type}{l L:List α}{f:Nat->α->α}(h:Pt l L f){i:Nat}{x:α}(hx:L[i]? =some x):∃o,l[i]? =some o/\x=f i o:=by
 have ay:i<l.length:=by have:=(Mp.1 hx).1;rw[h.1]at this;exact this
 have:=h.2 i l[i] (xm ay);rw[hx]at this;cases this;exact⟨_,xm ay,rfl⟩
theorem cI.eX{l:List Obj}{ops:List aV}{ps:List aM}{L:List Obj}{L2:List aV}{L3:List aM}{en:Bool}(h:cI l ops ps L L2 L3 en):k8 l L/\jP ps L3:=by
 obtain⟨b,hb,hP,Bw⟩:=h.ex;refine⟨⟨by rw[hP.1];exact aah _,λi o ho hk=>?_⟩,by rw[h.pr.1];exact aah _,λi x hx hl=>?_⟩
 .obtain⟨o',eH,e⟩:=hP.get ho;refine⟨o',eH,?_⟩;unfold cg at e;split at e
  .rw[e]at hk;exact absurd rfl hk
  .split at e
   .rw[e]
   .rw[e]
 .obtain⟨y,hy,e⟩:=h.pr.get hx;unfold vn at e;split at e
  .rw[e]at hl;simp[fI]at hl
  .rw[e];exact hy
theorem ig.eX{k a:Kr}(h:ig k a):k8 k.l a.l/\jP k.ps a.ps:=by
 induction h with
 |refl=>exact⟨.refl _,.refl _⟩
 |step h ho ih=>exact⟨ih.1.trans ho.eX.1,ih.2.trans ho.eX.2⟩
theorem ig.kr{k a:Kr}(h:ig k a)(hk:dY k.l k.ops k.ps):dY a.l a.ops a.ps:=by
 induction h with
 |refl=>exact hk
 |step h ho ih=>exact ho.kr ih
theorem gX.eX{c d:Kr}(h:gX c d):k8 c.l d.l/\jP c.ps d.ps:=by
 obtain⟨n1,n2,n3,P,h1,h2,hP,h3,rfl⟩:=h.ex;refine⟨⟨by simp[abg];omega,λi o ho _=>?_⟩,by simp[abg];have:=hP.1;omega,λi x hx hl=>?_⟩
 .have ho:(c.l.take n1)[i]? =some o:=ho;rw[abI]at ho;split at ho
  .exact⟨o,ho,rfl⟩
  .cases ho
 .have hx:(P.take n3)[i]? =some x:=hx;rw[abI]at hx;split at hx
  .obtain⟨y,hy,e⟩:=hP.get hx;unfold gq at e;split at e
   .rw[e]at hl;simp[fI]at hl
   .rw[e];exact hy
  .cases hx
theorem gX.one{c d:Kr}(h:gX c d)(hc:c.ps≠[]):1<=d.ps.length:=by obtain⟨n1,n2,n3,P,h1,h2,hP,h3,rfl⟩:=h.ex;have hl:0<c.ps.length:=afe.2 hc;have:=h3.t.mn;rw[hP.1]at this;have h4:=h3.t.le;show 1<=(P.take n3).length;rw[abg];omega
theorem yX{k a c d:Kr}(hk:dY k.l k.ops k.ps)(h1:ig k a)(h2:cI a.l a.ops a.ps c.l c.ops c.ps false)(h3:gX c d):k8 k.l d.l/\jP k.ps d.ps/\1<=d.ps.length:=
 ⟨(h1.eX.1.trans h2.eX.1).trans h3.eX.1,(h1.eX.2.trans h2.eX.2).trans h3.eX.2,h3.one (h2.kr (h1.kr hk)).ne⟩
theorem fZ.ah{l:List Obj}{ops:List aV}{ps:List aM}{b:Mk}(h:fZ l ops ps b){i:Nat}(hi:dF b.O i):∃o,l[i]? =some o/\o.ah≠0:=by refine(h.iO (λi=>∃o,l[i]? =some o/\o.ah≠0) (λc=>c<ops.length) ⟨λi o _ _ z n _ hv=>hv.2,λi o _ _ z c _ hv=>hv.2,λc o _ _ n hv=>hv.2⟩ ⟨λn hv=>hv.2,λp pr _ _ s _ _ c hv=>hv.2⟩).1 i hi
theorem gX.kr{c d:Kr}(h:gX c d)(k:dY c.l c.ops c.ps):dY d.l d.ops d.ps:=by
 have h1:=h.one k.ne;obtain⟨n1,n2,n3,P,t1,t2,hP,t3,rfl⟩:=h.ex;refine⟨λo ho=>k.sm o (acQ ho),?_,?_,?_,λp hp=>?_,λe=>?_⟩
 .show(c.l.take n1).length<=_;rw[abg];have:=k.ll;omega
 .show(c.ops.take n2).length<=_;rw[abg];have:=k.lo;omega
 .show(P.take n3).length<=_;rw[abg,hP.1];have:=k.lp;omega
 .refine hP.all (Q:=λp=>p.ap.length<=10) (λt o ho=>?_) p (acQ hp)
  unfold gq;split
  .simp[fI]
  .exact k.sl o (Wm ho)
 .have h1:1<=(P.take n3).length:=h1;have e:P.take n3=[]:=e;rw[e]at h1;simp at h1
theorem ER.XB{α:Type}{q:Nat->α->Bool}{mn n n':Nat}{L:List α}(h:jO q mn L n)(h':jO q mn (L.take n) n'):n'=(L.take n).length:=by
 have hn:=h.t.le;have e:(L.take n).length=n:=i5 hn;have R7:=h'.t.le;have SN:=h'.t.mn;rw[e]at R7 SN|-;rcases aaD n' n with ay|eO
 .exfalso;rcases h.e with h1|⟨o,ho,hq⟩
  .omega
  .have h2:(L.take n)[n-1]? =some o:=by rw[adq om];exact ho
   have:=h'.t.dr (n-1) o om h2;rw[hq]at this;cases this
 .omega
theorem ES{L:List Obj}{ps:List aM}(h:false=ix L ps ps.length){t:Nat}{x:aM}(hx:ps[t]? =some x):jN L t x=false:=by
 cases he:jN L t x with
 |false=>rfl
 |true=>
  have:ix L ps ps.length=true:=by
   unfold ix;rw[acf];exact⟨t,by simpa using(Mp.1 hx).1,by rw[hx];exact he⟩
  rw[this]at h;cases h
theorem Pt.id{α:Type}{l L:List α}{f:Nat->α->α}(h:Pt l L f)(hf:∀(t:Nat)o,l[t]? =some o->f t o=o):L=l:=by
 apply acq;intro t;cases ht:l[t]? with
 |some o=>rw[h.2 t o ht,hf t o ht]
 |none=>
  have:l.length<=t:=by simpa using ht
  simp[h.1,this]
theorem Hw{p:Int}{o:Obj}(h:cD p o=true):o.ah≠0:=by intro h0;simp[cD,h0]at h
structure Left(c:Kr)(b:Mk):Prop where
 ok:fZ c.l c.ops c.ps b
 all:∀(i:Nat)o,c.l[i]? =some o->o.ah≠0->dF b.O i
 ops:∀(i:Nat)o,c.ops[i]? =some o->¬dF b.P i->o=⟨-1,0⟩
 prs:∀(t:Nat)x,c.ps[t]? =some x->jN c.l t x=false
theorem cI.left{a c:Kr}(h:cI a.l a.ops a.ps c.l c.ops c.ps false):∃b,Left c b:=by
 obtain⟨b,hb,hP,Bw⟩:=h.ex;have jB:c.ps=a.ps:=h.pr.id λt o ho=>by have:=ES h.en ho;simp[vn,this]
 have hlen:=hP.1;have wo:=Bw.1;have JX:∀(i:Nat)o',a.l[i]? =some o'->dF b.O i->∃o,c.l[i]? =some o/\o.ah=o'.ah/\o.ag=o'.ag/\o.aj=o'.aj:=λi o' eH hi=>by
  refine⟨_,hP.2 i o' eH,?_⟩;have hd:dD b a.l i=false:=by unfold dD;rw[eH];have:b.O[i]? =some true:=hi;simp[this]
  unfold cg;rw[hd];simp only[Bool.false_and,adz,if_false];split<;>exact⟨rfl,rfl,rfl⟩
 have VX:∀(i:Nat)o,c.l[i]? =some o->o.ah≠0->dF b.O i/\∃o',a.l[i]? =some o'/\o.ah=o'.ah/\o.ag=o'.ag/\o.aj=o'.aj:=λi o ho hk=>by
  obtain⟨o',eH,e⟩:=hP.get ho;have NL:i<a.l.length:=(Mp.1 eH).1;unfold cg at e;split at e
  .rw[e]at hk;exact absurd rfl hk
  .rename_i s9;have hko:o.ah=o'.ah:=by split at e<;>rw[e]
   refine⟨?_,o',eH,hko,by split at e<;>rw[e],by split at e<;>rw[e]⟩
   have hd:dD b a.l i=false:=by
    cases OB:dD b a.l i with
    |false=>rfl
    |true=>exact absurd (by rw[OB];simpa using NL) s9
   unfold dD at hd;rw[eH]at hd;have jd:(o'.ah !=0)=true:=by rw[<-hko];simpa using hk
   simp only[jd,afm]at hd;simpa[dF]using hd
 have hvc:∀z n,vO c.l z n->dF b.O n/\vO a.l z n:=λz n hv=>by
  obtain⟨hz,o,ho,hk⟩:=hv;obtain⟨h1,o',eH,jd,_⟩:=VX n o ho hk;exact⟨h1,hz,o',eH,by rw[<-jd];exact hk⟩
 have hva:∀z n,vO a.l z n->dF b.O n->vO c.l z n:=λz n hv hn=>by
  obtain⟨hz,o',eH,hk⟩:=hv;obtain⟨o,ho,jd,_⟩:=JX n o' eH hn;exact⟨hz,o,ho,by rw[jd];exact hk⟩
 have hvp:∀z n,vP c.ops z n↔vP a.ops z n:=λz n=>by unfold vP;rw[wo]
 have akH:∀(i:Nat)o,c.ops[i]? =some o->dF b.P i->a.ops[i]? =some o:=λi o ho hi=>by obtain⟨o',eH,e⟩:=Bw.get ho;have:b.P[i]? =some true:=hi;rw[e];simpa[AA,this]using eH
 refine⟨b,⟨⟨by rw[hlen];exact hb.len.1,by rw[wo];exact hb.len.2⟩,⟨λn hv=>(hvc 0 n hv).1,λp pr hp hl s hs hh cc hv=>?_⟩,⟨λi o hi ho z n hz hv=>(hvc z n hv).1,λi o hi ho z cc hz hv=>?_,λcc o hc ho n hv=>(hvc _ n hv).1⟩,λRO RP ia hr=>?_⟩,λi o ho hk=>(VX i o ho hk).1,λi o ho hn=>?_,λt x hx=>?_⟩
 .rw[jB]at hp;exact hb.nA.2 p pr hp hl s hs hh cc ((hvp _ _).1 hv)
 .obtain⟨o',eH,e⟩:=hP.get ho;obtain⟨o2,pH,_,_,hq⟩:=JX i o' eH hi;rw[ho]at pH;cases pH;obtain⟨q,Gh,Sm,hq3⟩:=hz;exact hb.cl.q i o' hi eH z cc ⟨q,by rw[<-hq];exact Gh,Sm,hq3⟩ ((hvp _ _).1 hv)
 ·
  have iF:=hb.iO (λi=>RO i/\dF b.O i) (λcc=>RP cc/\dF b.P cc) ⟨λi o' hi eH z n hz hv=>?_,λi o' hi eH z cc hz hv=>?_,λcc o' hc eH n hv=>?_⟩ ⟨λn hv=>?_,λp pr hp hl s hs hh cc hv=>?_⟩
  .exact⟨λi hi=>(iF.1 i hi).1,λi hi=>(iF.2 i hi).1⟩
  .have hn:=hb.cl.e i o' hi.2 eH z n hz hv;obtain⟨o,ho,_,he,_⟩:=JX i o' eH hi.2;obtain⟨nm,hm⟩:=hz;exact⟨ia.e i o hi.1 ho z n ⟨nm,by rw[he];exact hm⟩ (hva z n hv hn),hn⟩
  .have hn:=hb.cl.q i o' hi.2 eH z cc hz hv;obtain⟨o,ho,_,_,hq⟩:=JX i o' eH hi.2;obtain⟨q,Gh,Sm,hq3⟩:=hz;exact⟨ia.q i o hi.1 ho z cc ⟨q,by rw[hq];exact Gh,Sm,hq3⟩ ((hvp _ _).2 hv),hn⟩
  .have hn:=hb.cl.p cc o' hc.2 eH n hv;have hco:c.ops[cc]? =some o':=by have:=Bw.2 cc o' eH;have PD:b.P[cc]? =some true:=hc.2;simpa[AA,PD]using this
   exact⟨ia.p cc o' hc.1 hco n (hva _ n hv hn),hn⟩
  .have hn:=hb.nA.1 n hv;exact⟨hr.1 n (hva 0 n hv hn),hn⟩
  .exact⟨hr.2 p pr (by rw[jB];exact hp) hl s hs hh cc ((hvp _ _).2 hv),hb.nA.2 p pr hp hl s hs hh cc hv⟩
 .obtain⟨o',eH,e⟩:=Bw.get ho;have ay:i<a.ops.length:=(Mp.1 eH).1;have hn:(b.P[i]? ==some true)=false:=by simpa[dF]using hn
  rw[e];simp[AA,hn,ay]
 .rw[jB]at hx;exact ES h.en hx
theorem gX.abp{c d:Kr}{b bd:Mk}(hl:Left c b)(hf:gX c d)(hd:fZ d.l d.ops d.ps bd):(∀(i:Nat)o,d.l[i]? =some o->o.ah≠0->dF bd.O i)/\(∀(i:Nat)o,d.ops[i]? =some o->¬dF bd.P i->o=⟨-1,0⟩):=by
 obtain⟨n1,n2,n3,P,t1,t2,hP,t3,rfl⟩:=hf.ex;have hd:fZ (c.l.take n1) (c.ops.take n2) (P.take n3) bd:=hd;have h1:∀(i:Nat)o,c.l[i]? =some o->o.ah≠0->(c.l.take n1)[i]? =some o:=λi o ho hk=>by
  rcases aaD i n1 with h|h
  .rw[adq h];exact ho
  .have:=t1.t.dr i o h ho;simp[qO]at this;exact absurd this hk
 have hvO:∀z n,vO c.l z n->vO (c.l.take n1) z n:=λz n⟨hz,o,ho,hk⟩=>⟨hz,o,h1 n o ho hk,hk⟩
 have iF:=hl.ok.iO (λi=>dF bd.O i) (λcc=>dF bd.P cc\/n2<=cc) ⟨λi o hi ho z n hz hv=>?_,λi o hi ho z cc hz hv=>?_,λcc o hc ho n hv=>?_⟩ ⟨λn hv=>?_,λp pr hp bR s hs hh cc hv=>?_⟩
 .refine⟨λi o ho hk=>?_,λi o ho hn=>?_⟩
  .have ho:(c.l.take n1)[i]? =some o:=ho;rw[abI]at ho;split at ho
   .exact iF.1 i (hl.all i o ho hk)
   .cases ho
  .have ho:(c.ops.take n2)[i]? =some o:=ho;rw[abI]at ho;split at ho
   .rename_i ay;refine hl.ops i o ho λhb=>?_
    rcases iF.2 i hb with h|h
    .exact hn h
    .omega
   .cases ho
 .obtain⟨o',eH,hk⟩:=hd.ah hi;have:(c.l.take n1)[i]? =some o:=by
   rw[abI]at eH|-;split at eH
   .rename_i ay;rw[if_pos ay];exact ho
   .cases eH
  exact hd.cl.e i o hi this z n hz (hvO z n hv)
 .obtain⟨o',eH,hk⟩:=hd.ah hi;have:(c.l.take n1)[i]? =some o:=by
   rw[abI]at eH|-;split at eH
   .rename_i ay;rw[if_pos ay];exact ho
   .cases eH
  rcases aaD cc n2 with h|h
  .exact .inl (hd.cl.q i o hi this z cc hz ⟨hv.1,by have:=hv.2;rw[abg];omega⟩)
  .exact .inr h
 .rcases hc with hc|hc
  .have ay:cc<n2:=by have h2:=(Mp.1 hc).1;rw[hd.len.2,abg]at h2;omega
   exact hd.cl.p cc o hc (by rw[adq ay];exact ho) n (hvO _ n hv)
  .have:=t2.t.dr cc o hc ho;simp[qP]at this;have:=hv.1;omega
 .exact hd.nA.1 n (hvO 0 n hv)
 .rcases aaD cc n2 with h|h
  .refine .inl (hd.nA.2 p pr ?_ bR s hs hh cc ⟨hv.1,by have:=hv.2;rw[abg];omega⟩)
   have hnz:gq (c.l.take n1) c.ps.length p pr=pr:=by unfold gq qZ;simp[bR]
   have Md:=hP.2 p pr hp;rw[hnz]at Md;rcases aaD p n3 with h3|h3
   .rw[adq h3];exact Md
   .have:=t3.t.dr p pr h3 Md;simp[qR,bR]at this
  .exact .inr h
theorem gX.AB{c d:Kr}{b:Mk}(hl:Left c b)(hf:gX c d){L:List Obj}{L2:List aV}{L3:List aM}{en:Bool}(h:cI d.l d.ops d.ps L L2 L3 en):L=d.l/\L2=d.ops/\L3=d.ps/\en=false:=by
 obtain⟨bd,hbd,hP1,Bw⟩:=h.ex;obtain⟨m1,m2⟩:=hf.abp hl hbd;have lT:∀i,dD bd d.l i=false:=λi=>by
  unfold dD;cases hi:d.l[i]? with
  |none=>rfl
  |some o=>
   by_cases hk:o.ah=0
   .simp[hk]
   .have:bd.O[i]? =some true:=m1 i o hi hk;simp[this]
 have SV:∀(t:Nat)x,d.ps[t]? =some x->jN d.l t x=false:=λt x hx=>by
  obtain⟨n1,n2,n3,P,t1,t2,hP,t3,rfl⟩:=hf.ex;have hx:(P.take n3)[t]? =some x:=hx;rw[abI]at hx;split at hx
  .obtain⟨y,hy,e⟩:=hP.get hx;cases bR:x.aF with
   |false=>simp[jN,bR]
   |true=>
    have OO:x=y:=by
     unfold gq at e;split at e
     .rw[e]at bR;simp[fI]at bR
     .exact e
    subst OO;have he:=hl.prs t x hy;cases h0:jN (c.l.take n1) t x with
    |false=>rfl
    |true=>
     unfold jN at he h0;simp[bR]at he h0;obtain⟨o,ho,hh⟩:=he h0.1;obtain⟨i,hi⟩:=aag ho;have hk:=Hw hh;have lE:o∈c.l.take n1:=by
      rcases aaD i n1 with h|h
      .exact Wm (by rw[adq h];exact hi)
      .have:=t1.t.dr i o h hi;simp[qO]at this;exact absurd this hk
     have:=h0.2 o lE;rw[hh]at this;cases this
  .cases hx
 have hL:L=d.l:=hP1.id λt o _=>by
  unfold cg;rw[lT t];have:lq bd d.l d.l.length o.aI=false:=by unfold lq;rw[lT];simp
  rw[this];simp
 have oD:=h.pr;have mJ:=h.en;rw[hL]at oD mJ;refine⟨hL,Bw.id λt o ho=>?_,oD.id λt o ho=>?_,?_⟩
 .unfold AA;split
  .rename_i hh;have hn:¬dF bd.P t:=by intro PD;have PD:bd.P[t]? =some true:=PD;simp[PD]at hh
   exact(m2 t o ho hn).symm
  .rfl
 .simp[vn,SV t o ho]
 .rw[mJ];cases he:ix d.l d.ps d.ps.length with
  |false=>rfl
  |true=>
   unfold ix at he;rw[acf]at he;obtain⟨t,ht,CL⟩:=he;have JW:t<d.ps.length:=by simpa using ht
   rw[xm JW]at CL;have CL:jN d.l t d.ps[t]=true:=CL;rw[SV t _ (xm JW)]at CL;cases CL
theorem gX.JY{c d a2 c2 d2:Kr}{b:Mk}(hl:Left c b)(hf:gX c d)(h1:ig d a2)(h2:cI a2.l a2.ops a2.ps c2.l c2.ops c2.ps false)(h3:gX c2 d2):d2=d:=by
 have ha:a2=d:=by
  clear h2 h3
  induction h1 with
  |refl=>rfl
  |step h ho ih=>
   subst ih;exact absurd (hf.AB hl ho).2.2.2 aG
 subst ha;obtain⟨e1,e2,e3,_⟩:=hf.AB hl h2;obtain⟨n1,n2,n3,P,t1,t2,hP,t3,he⟩:=hf.ex;obtain⟨m1,m2,m3,P',s1,s2,ZB,s3,rfl⟩:=h3.ex;rw[e1]at s1 ZB s3|-;rw[e2]at s2|-;rw[e3]at ZB;obtain⟨dl,wY,dps⟩:=a2;cases he;have k1:=ER.XB t1 s1;have k2:=ER.XB t2 s2;have q1:(c.l.take n1).take m1=c.l.take n1:=by rw[k1,abo]
 have q2:(c.ops.take n2).take m2=c.ops.take n2:=by rw[k2,abo]
 have hid:P'=P.take n3:=by
  have ZB:Pt (P.take n3) P' (gq ((c.l.take n1).take m1) (P.take n3).length):=ZB;rw[q1]at ZB;refine ZB.id λt x hx=>?_
  rw[abI]at hx;split at hx
  .obtain⟨y,hy,e⟩:=hP.get hx;have hyl:t<c.ps.length:=(Mp.1 hy).1;by_cases hq:qZ (c.l.take n1) t y=true
   .have:x=fI:=by rw[e];simp[gq,hq,hyl]
    subst this;unfold gq;split<;>rfl
   .have OO:x=y:=by rw[e];simp[gq,hq]
    subst OO;simp[gq,hq]
  .cases hx
 subst hid;have s3:jO (qR ((c.l.take n1).take m1)) 1 (P.take n3) m3:=s3;rw[q1]at s3;have k3:=ER.XB t3 s3;show Kr.mk ((c.l.take n1).take m1) ((c.ops.take n2).take m2) ((P.take n3).take m3)=Kr.mk (c.l.take n1) (c.ops.take n2) (P.take n3);rw[q1,q2,k3,abo]
namespace Kn
structure Hx(k d:Kr):Prop where
 ex:∃a c,ig k a/\cI a.l a.ops a.ps c.l c.ops c.ps false/\gX c d
theorem kQ{α:Type}{l L:List α}{f:Nat->α->α}(h:Pt l L f):L=l.mapIdx f:=by
 refine acq λi=>?_
 rw[acJ];cases hx:l[i]? with
 |none=>exact adC.2 (by rw[h.1];exact adC.1 hx)
 |some x=>rw[h.2 i x hx];rfl
theorem CM{α:Type}(l:List α)(f:Nat->α->α):Pt l (l.mapIdx f) f:=
 ⟨ado,λt o ho=>by rw[acJ,ho];rfl⟩
theorem PF{A B:List Bool}(hl:A.length=B.length)(h:∀i,dF A i↔dF B i):A=B:=by
 refine List.ext_getElem hl λi h1 h2=>?_
 have S6:=h i;unfold dF at S6;rw[xm h1,xm h2]at S6;simp only[abi]at S6;cases ha:A[i]<;>cases hb:B[i]<;>simp[ha,hb]at S6|-
theorem Me{l:List Obj}{ops:List aV}{ps:List aM}{b b':Mk}(h:fZ l ops ps b)(h':fZ l ops ps b'):b=b':=by
 have h1:=h.iO _ _ h'.cl h'.nA;have h2:=h'.iO _ _ h.cl h.nA;obtain⟨O,P⟩:=b;obtain⟨O',P'⟩:=b';have e1:O=O':=PF (h.len.1.trans h'.len.1.symm) λi=>⟨h1.1 i,h2.1 i⟩
 have e2:P=P':=PF (h.len.2.trans h'.len.2.symm) λi=>⟨h1.2 i,h2.2 i⟩
 rw[e1,e2]
theorem vp{k c c':Kr}{e e':Bool}(h:cI k.l k.ops k.ps c.l c.ops c.ps e)(h':cI k.l k.ops k.ps c'.l c'.ops c'.ps e'):c=c'/\e=e':=by
 obtain⟨b,hb,h1,h2⟩:=h.ex;obtain⟨b',uY,S6,VK⟩:=h'.ex;have:=Me hb uY;subst this;have e1:c.l=c'.l:=(kQ h1).trans (kQ S6).symm;have e2:c.ops=c'.ops:=(kQ h2).trans (kQ VK).symm;have p:=h.pr;rw[e1]at p;have e3:c.ps=c'.ps:=(kQ p).trans (kQ h'.pr).symm;refine⟨?_,?_⟩
 .obtain⟨x,y,z⟩:=c;obtain⟨x',y',z'⟩:=c';simp only at e1 e2 e3;rw[e1,e2,e3]
 .rw[h.en,h'.en,e1]
theorem CN{k a:Kr}(h:ig k a):a=k\/∃x,cI k.l k.ops k.ps x.l x.ops x.ps true/\ig x a:=by
 induction h with
 |refl=>exact .inl rfl
 | @step a b h s ih=>
  rcases ih with rfl|⟨x,hx,Tm⟩
  .exact .inr ⟨b,s,.refl⟩
  .exact .inr ⟨x,hx,.step Tm s⟩
theorem Tn{k a b:Kr}(h1:ig k a)(h2:ig k b):ig a b\/ig b a:=by
 induction h2 with
 |refl=>exact .inr h1
 | @step b c h s ih=>
  rcases ih with h|h
  .exact .inl (.step h s)
  .rcases CN h with rfl|⟨x,hx,Tm⟩
   .exact .inl (.step .refl s)
   .have:=(vp hx s).1;subst this;exact .inr Tm
theorem To{k a b c d:Kr}(h1:ig k a)(h2:ig k b)(o1:cI a.l a.ops a.ps c.l c.ops c.ps false)(o2:cI b.l b.ops b.ps d.l d.ops d.ps false):a=b:=by
 have key:∀{a b c:Kr},ig a b->cI a.l a.ops a.ps c.l c.ops c.ps false->b=a:=λh o=>by
  rcases CN h with h|⟨x,hx,_⟩
  .exact h
  .have:=(vp hx o).2;cases this
 rcases Tn h1 h2 with h|h
 .exact(key h o1).symm
 .exact key h o2
theorem yY{α:Type}{q:Nat->α->Bool}{mn:Nat}{L:List α}{a b:Nat}(ha:jO q mn L a)(hb:jO q mn L b):a=b:=by
 have key:∀{a b:Nat},jO q mn L a->jO q mn L b->¬a<b:=λ{a b}ha hb ay=>by
  have h1:=ha.t.mn;have h2:=hb.t.le;rcases hb.e with h3|⟨o,ho,hq⟩
  .omega
  .have:=ha.t.dr (b-1) o om ho;rw[hq]at this;cases this
 have h1:=key ha hb;have h2:=key hb ha;omega
theorem PG{c d d':Kr}(h:gX c d)(h':gX c d'):d=d':=by obtain⟨n1,n2,n3,P,a1,a2,a3,a4,rfl⟩:=h.ex;obtain⟨m1,m2,m3,P',b1,b2,b3,b4,rfl⟩:=h'.ex;have:=yY a1 b1;subst this;have:=yY a2 b2;subst this;have:=(kQ a3).trans (kQ b3).symm;subst this;have:=yY a4 b4;subst this;rfl
theorem Hx.Aq{k d d':Kr}(h:Hx k d)(h':Hx k d'):d=d':=by obtain⟨a,c,h1,h2,h3⟩:=h.ex;obtain⟨a',c',S6,VK,h3'⟩:=h'.ex;have:=To h1 S6 h2 VK;subst this;have:=(vp h2 VK).1;subst this;exact PG h3 h3'
def nzB(l:List Obj)(i:Nat):Bool:=match l[i]? with|some o=>o.ah !=0|none=>false
def toB(l:List Obj)(O:List Bool)(i:Nat):Bool:=(l.zip O).any λy=>y.2&&y.1.ag.any λe=>(kN e).2==(i:Int)
def opB(ops:List aV)(P:List Bool)(i:Nat):Bool:=(ops.zip P).any λy=>y.2&&y.1.obj==(i:Int)
def quB(l:List Obj)(O:List Bool)(c:Nat):Bool:=(l.zip O).any λy=>y.2&&y.1.aj.any λq=>q.has&&q.ct==(c:Int)
def Gi(l:List Obj)(ops:List aV)(b:Mk):Mk:=
 ⟨b.O.mapIdx λi x=>x||(nzB l i&&(toB l b.O i||opB ops b.P i)),b.P.mapIdx λc x=>x||quB l b.O c⟩
def Mf(l:List Obj)(ops:List aV)(ps:List aM):Mk:=
 ⟨l.mapIdx λi o=>decide (i=0)&&o.ah !=0,ops.mapIdx λc _=>ps.any λp=>p.aF&&p.ap.any λs=>s.has&&s.ct==(c:Int)⟩
def XC{α:Type}(f:α->α):Nat->α->α
 |0,a=>a
 |n+1,a=>XC f n (f a)
def qJ(l:List Obj)(ops:List aV)(ps:List aM):Mk:=XC (Gi l ops) (l.length+ops.length) (Mf l ops ps)
theorem vq:∀(a b:List Bool),b.length=a.length->(∀i,dF a i->dF b i)->a≠b->eY b<eY a
 | [],[],_,_,h=>absurd rfl h
 | [],_::_,h,_,_=>by simp at h
 |_::_,[],h,_,_=>by simp at h
 |x::a,y::b,h,hm,gj=>by
  have hl:b.length=a.length:=by simpa using h
  have SN:∀i,dF a i->dF b i:=λi hi=>by have:=hm (i+1);unfold dF at this hi|-;simp only[adF]at this;exact this hi
  have h0:x=true->y=true:=λhx=>by have:=hm 0;unfold dF at this;simp only[List.getElem?_cons_zero,abi]at this;exact this hx
  have hle:=mj a b hl SN;by_cases CO:a=b
  .subst CO;cases x<;>cases y
   .exact absurd rfl gj
   .simp[eY]
   .exact absurd (h0 rfl) aG
   .exact absurd rfl gj
  .have ih:=vq a b hl SN CO;cases x<;>cases y
   .simp only[eY]at ih|-;simpa using ih
   .simp only[eY]at ih|-;simp;omega
   .exact absurd (h0 rfl) aG
   .simp only[eY]at ih|-;simpa using ih
theorem yZ:∀a:List Bool,eY a<=a.length:=λa=>by unfold eY;exact adt _ _
theorem vr{A:List Bool}{f:Nat->Bool->Bool}{i:Nat}:dF (A.mapIdx f) i↔∃x,A[i]? =some x/\f i x=true:=by
 unfold dF;rw[acJ];cases A[i]? <;>simp
theorem vu{l:List Obj}{ops:List aV}(b:Mk):(∀i,dF b.O i->dF (Gi l ops b).O i)/\∀c,dF b.P c->dF (Gi l ops b).P c:=
 ⟨λi h=>vr.2 ⟨true,h,aG⟩,λc h=>vr.2 ⟨true,h,aG⟩⟩
theorem pf{l:List Obj}{ops:List aV}(b:Mk):(Gi l ops b).O.length=b.O.length/\(Gi l ops b).P.length=b.P.length:=
 ⟨ado,ado⟩
theorem PH{l:List Obj}{ops:List aV}(b:Mk):Gi l ops b=b\/(Gi l ops b).mu<b.mu:=by
 have h1:=mj b.O _ (pf b).1 (vu (l:=l) (ops:=ops) b).1;have h2:=mj b.P _ (pf b).2 (vu (l:=l) (ops:=ops) b).2;by_cases e1:b.O=(Gi l ops b).O
 .by_cases e2:b.P=(Gi l ops b).P
  .refine .inl ?_;cases hb:b with
   |mk O P=>
    rw[hb]at e1 e2;generalize hm:Gi l ops ⟨O,P⟩=m at e1 e2;cases m;simp only at e1 e2;rw[e1,e2]
  .have:=vq b.P _ (pf b).2 (vu (l:=l) (ops:=ops) b).2 e2;unfold Mk.mu;omega
 .have:=vq b.O _ (pf b).1 (vu (l:=l) (ops:=ops) b).1 e1;unfold Mk.mu;omega
theorem JZ{l:List Obj}{ops:List aV}:∀(n:Nat)(b:Mk),b.mu<=n->Gi l ops (XC (Gi l ops) n b)=XC (Gi l ops) n b
 |0,b,h=>by
  rcases PH (l:=l) (ops:=ops) b with h1|h1
  .exact h1
  .omega
 |n+1,b,h=>by
  rcases PH (l:=l) (ops:=ops) b with h1|h1
  .have:∀n,XC (Gi l ops) n b=b:=λn=>by
    induction n with
    |zero=>rfl
    |succ n ih=>show XC _ n (Gi l ops b)=b;rw[h1,ih]
   rw[this,h1]
  .exact JZ n _ om
theorem xG{α:Type}{f:α->α}{Q:α->Prop}(hf:∀a,Q a->Q (f a)):∀(n:Nat)(a:α),Q a->Q (XC f n a)
 |0,_,h=>h
 |n+1,a,h=>xG hf n (f a) (hf a h)
theorem CP{α:Type}{l:List α}{O:List Bool}{g:α->Bool}:(l.zip O).any (λy=>y.2&&g y.1)=true↔∃(i:Nat)(o:α),l[i]? =some o/\dF O i/\g o=true:=by
 rw[acf];constructor
 .rintro⟨⟨o,x⟩,hm,h⟩;obtain⟨i,hi⟩:=aag hm;rw[List.getElem?_zip_eq_some]at hi;simp only[aaJ]at h;exact⟨i,o,hi.1,by unfold dF;rw[hi.2,h.1],h.2⟩
 .rintro⟨i,o,h1,h2,h3⟩;refine⟨(o,true),Wm (i:=i) (List.getElem?_zip_eq_some.2 ⟨h1,h2⟩),by simp[h3]⟩
theorem J0{l:List Obj}{O:List Bool}{n:Nat}:toB l O n=true↔∃(i:Nat)(o:Obj),l[i]? =some o/\dF O i/\(o.ag.any λe=>(kN e).2==(n:Int))=true:=CP (g:=λo:Obj=>o.ag.any λe=>(kN e).2==(n:Int))
theorem J1{ops:List aV}{P:List Bool}{n:Nat}:opB ops P n=true↔∃(i:Nat)(o:aV),ops[i]? =some o/\dF P i/\(o.obj==(n:Int))=true:=CP (g:=λo:aV=>o.obj==(n:Int))
theorem J2{l:List Obj}{O:List Bool}{n:Nat}:quB l O n=true↔∃(i:Nat)(o:Obj),l[i]? =some o/\dF O i/\(o.aj.any λq=>q.has&&q.ct==(n:Int))=true:=CP (g:=λo:Obj=>o.aj.any λq=>q.has&&q.ct==(n:Int))
theorem J3{l:List Obj}{i:Nat}:nzB l i=true↔∃o,l[i]? =some o/\o.ah≠0:=by
 unfold nzB;cases l[i]? <;>simp
theorem Hy{l:List Obj}{ops:List aV}{ps:List aM}(ht:∀o,o∈l->o.Sj){RO RP:Nat->Prop}(hc:Cl l ops RO RP)(hr:tZ l ops ps RO RP):Pu RO RP (qJ l ops ps):=by
 refine(xG (Q:=λb=>Pu RO RP b/\b.P.length=ops.length) (λb⟨h,OT⟩=>⟨⟨λi hi=>?_,λc hi=>?_⟩,(pf b).2.trans OT⟩) _ _ ⟨⟨λi hi=>?_,λc hi=>?_⟩,ado⟩).1
 .obtain⟨x,h1,h2⟩:=vr.1 hi;cases x with
  |true=>exact h.1 i h1
  |false=>
   rw[adK,aaJ,adB]at h2;have hn:=J3.1 h2.1;rcases h2.2 with h2|h2
   .obtain⟨j,o,hj,ho,hg⟩:=J0.1 h2;obtain⟨e,he,hei⟩:=acf.1 hg;obtain⟨es,oR⟩:=(ht o (Wm hj)).2.1;rw[oR]at he;obtain⟨⟨nm,z⟩,hx,rfl⟩:=abm.1 he;have hz:z=(i:Int):=by simpa[bT,kN]using hei
    refine hc.e j o (h.1 j ho) hj z i ⟨nm,?_⟩ ⟨hz,hn⟩;rw[oR];exact abm.2 ⟨_,hx,rfl⟩
   .obtain⟨c,o,hj,ho,hg⟩:=J1.1 h2;exact hc.p c o (h.2 c ho) hj i ⟨by simpa using hg,hn⟩
 .obtain⟨x,h1,h2⟩:=vr.1 hi;cases x with
  |true=>exact h.2 c h1
  |false=>
   rw[adK]at h2;obtain⟨j,o,hj,ho,hg⟩:=J2.1 h2;obtain⟨q,hq,As⟩:=acf.1 hg;rw[aaJ]at As;exact hc.q j o (h.1 j ho) hj q.ct c ⟨q,hq,As.1,rfl⟩ ⟨by simpa using As.2,OT▸(Mp.1 h1).1⟩
 .unfold dF Mf at hi;simp only[acJ]at hi;cases ho:l[i]? with
  |none=>rw[ho]at hi;cases hi
  |some o=>
   rw[ho]at hi;simp only[aaS,abi,aaJ,decide_eq_true_eq]at hi;obtain⟨rfl,hk⟩:=hi;exact hr.1 0 ⟨rfl,o,ho,by simpa using hk⟩
 .unfold dF Mf at hi;simp only[acJ]at hi;cases ho:ops[c]? with
  |none=>rw[ho]at hi;cases hi
  |some o=>
   rw[ho]at hi;simp only[aaS,abi]at hi;obtain⟨pr,hp,hi⟩:=acf.1 hi;rw[aaJ]at hi;obtain⟨s,hs,fh⟩:=acf.1 hi.2;rw[aaJ]at fh;obtain⟨p,hp⟩:=aag hp;exact hr.2 p pr hp hi.1 s hs fh.1 c ⟨by simpa using fh.2,(Mp.1 ho).1⟩
theorem Tp(l:List Obj)(ops:List aV)(ps:List aM)(ht:∀o,o∈l->o.Sj):fZ l ops ps (qJ l ops ps):=by
 have hl:Az l ops (qJ l ops ps):=xG (Q:=Az l ops) (λb h=>⟨(pf b).1.trans h.1,(pf b).2.trans h.2⟩) _ _ ⟨ado,ado⟩
 have XD:Gi l ops (qJ l ops ps)=qJ l ops ps:=by refine JZ _ _ ?_;unfold Mk.mu;have h1:=yZ (Mf l ops ps).O;have h2:=yZ (Mf l ops ps).P;have h3:(Mf l ops ps).O.length=l.length:=ado;have h4:(Mf l ops ps).P.length=ops.length:=ado;omega
 have hle:= @Hy l ops ps ht;have rJ:(∀i,dF (Mf l ops ps).O i->dF (qJ l ops ps).O i)/\∀c,dF (Mf l ops ps).P c->dF (qJ l ops ps).P c:=
  xG (Q:=λb=>(∀i,dF (Mf l ops ps).O i->dF b.O i)/\∀c,dF (Mf l ops ps).P c->dF b.P c) (λb h=>⟨λi hi=>(vu b).1 i (h.1 i hi),λc hc=>(vu b).2 c (h.2 c hc)⟩) _ _ ⟨λ_ h=>h,λ_ h=>h⟩
 generalize qJ l ops ps=b at hl XD hle rJ|-;have hO:∀n:Nat,(∃o,l[n]? =some o/\o.ah≠0)->(toB l b.O n=true\/opB ops b.P n=true)->dF b.O n:=λn hn hx=>by
  rw[<-XD];have:n<b.O.length:=by obtain⟨o,ho,_⟩:=hn;rw[hl.1];exact(Mp.1 ho).1
  refine vr.2 ⟨b.O[n],xm this,?_⟩;rw[J3.2 hn];rcases hx with hx|hx<;>rw[hx]<;>simp
 have ia:Cl l ops (dF b.O) (dF b.P):=by
  refine⟨λi o hi ho z n hs hv=>?_,λi o hi ho z c hs hv=>?_,λc o hc ho n hv=>?_⟩
  .obtain⟨rfl,hn⟩:=hv;obtain⟨nm,hs⟩:=hs;refine hO n hn (.inl (J0.2 ⟨i,o,ho,hi,acf.2 ⟨_,hs,?_⟩⟩));show((kN (bT (nm,(n:Int)))).2==(n:Int))=true;simp[bT,kN]
  .obtain⟨rfl,hn⟩:=hv;obtain⟨q,hq,h1,h2⟩:=hs;rw[<-XD];refine vr.2 ⟨b.P[c]'(by rw[hl.2];exact hn),xm _,?_⟩
   have:quB l b.O c=true:=J2.2 ⟨i,o,ho,hi,acf.2 ⟨q,hq,by simp[h1,h2]⟩⟩
   rw[this];simp
  .obtain⟨h1,hn⟩:=hv;exact hO n hn (.inr (J1.2 ⟨c,o,ho,hc,by simp[h1]⟩))
 refine⟨hl,⟨λn hv=>rJ.1 n ?_,λp pr hp bR s hs hh c hv=>rJ.2 c ?_⟩,ia,λRO RP hc hr=>?_⟩
 .obtain⟨h0,o,ho,hk⟩:=hv;have h0:n=0:=om;subst h0;unfold Mf dF;simp only[acJ,ho,aaS,abi];simp[hk]
 .obtain⟨h0,hn⟩:=hv;unfold Mf dF;simp only[acJ,xm hn,aaS,abi];exact acf.2 ⟨pr,Wm hp,by rw[bR,adJ];exact acf.2 ⟨s,hs,by simp[hh,h0]⟩⟩
 .exact hle hc hr
def pJ(k:Kr):Kr:=
 ⟨k.l.mapIdx (cg (qJ k.l k.ops k.ps) k.l k.l.length),k.ops.mapIdx (AA (qJ k.l k.ops k.ps) k.ops.length),k.ps.mapIdx (vn (k.l.mapIdx (cg (qJ k.l k.ops k.ps) k.l k.l.length)) k.ps.length)⟩
theorem PI(k:Kr)(ht:∀o,o∈k.l->o.Sj):cI k.l k.ops k.ps (pJ k).l (pJ k).ops (pJ k).ps (ix (pJ k).l k.ps k.ps.length):=
 ⟨⟨_,Tp k.l k.ops k.ps ht,CM _ _,CM _ _⟩,CM _ _,rfl⟩
def ET:Nat->Kr->Kr
 |0,k=>pJ k
 |n+1,k=>bif ix (pJ k).l k.ps k.ps.length then ET n (pJ k)else pJ k
theorem PJ:∀(n:Nat)(k:Kr),dY k.l k.ops k.ps->mM k.ps<=n->∃a,ig k a/\cI a.l a.ops a.ps (ET n k).l (ET n k).ops (ET n k).ps false
 |n,k,hk,hn=>by
  have h:=PI k λo ho=>(hk.sm o ho).t
  cases he:ix (pJ k).l k.ps k.ps.length with
  |false=>
   rw[he]at h;refine⟨k,.refl,?_⟩;have:ET n k=pJ k:=by
    cases n with
    |zero=>rfl
    |succ n=>show(bif _ then _ else _)=_;rw[he];rfl
   rw[this];exact h
  |true=>
   rw[he]at h;have ay:=h.mM;cases n with
   |zero=>omega
   |succ n=>
    obtain⟨a,h1,h2⟩:=PJ n (pJ k) (h.kr hk) om;have e:ET (n+1) k=ET n (pJ k):=by show(bif _ then _ else _)=_;rw[he];rfl
    rw[e];refine⟨a,?_,h2⟩;have:∀{x y:Kr},ig x y->cI k.l k.ops k.ps x.l x.ops x.ps true->ig k y:=λh3 h4=>by
     induction h3 with
     |refl=>exact .step .refl h4
     |step _ s ih=>exact .step ih s
    exact this h1 h
def nW{α:Type}(q:Nat->α->Bool):List α->Nat->Nat->Nat
 | [],_,b=>b
 |x::r,i,b=>nW q r (i+1) (bif q i x then b else i+1)
def EU{α:Type}(q:Nat->α->Bool)(mn:Nat)(L:List α):Nat:=min L.length (max mn (nW q L 0 0))
theorem CQ{α:Type}(q:Nat->α->Bool):∀(L:List α)(i b:Nat),b<=i->(nW q L i b=b/\(∀(t:Nat)o,L[t]? =some o->q (i+t) o=true))\/
  (i<nW q L i b/\nW q L i b<=i+L.length/\(∃o,L[nW q L i b-1-i]? =some o/\q (nW q L i b-1) o=false)/\∀(t:Nat)o,nW q L i b<=i+t->L[t]? =some o->q (i+t) o=true)
 | [],i,b,h=>.inl ⟨rfl,λt o h=>by simp at h⟩
 |x::r,i,b,h=>by
  cases hq:q i x with
  |true=>
   have e:nW q (x::r) i b=nW q r (i+1) b:=by show nW q r (i+1) (bif q i x then b else i+1)=_;rw[hq];rfl
   rw[e];rcases CQ q r (i+1) b om with⟨h1,h2⟩|⟨h1,h2,⟨o,h3,h4⟩,h5⟩
   .refine .inl ⟨h1,λt o ho=>?_⟩
    cases t with
    |zero=>simp at ho;subst ho;exact hq
    |succ t=>have:=h2 t o (by simpa using ho);rwa [show i+(t+1)=i+1+t by omega]
   .refine .inr ⟨om,by simp;omega,⟨o,?_,h4⟩,λt o ht ho=>?_⟩
    .rw[show nW q r (i+1) b-1-i=(nW q r (i+1) b-1-(i+1))+1 by omega];simpa using h3
    .cases t with
     |zero=>simp at ho;subst ho;exact hq
     |succ t=>have:=h5 t o om (by simpa using ho);rwa [show i+(t+1)=i+1+t by omega]
  |false=>
   have e:nW q (x::r) i b=nW q r (i+1) (i+1):=by show nW q r (i+1) (bif q i x then b else i+1)=_;rw[hq];rfl
   rw[e];rcases CQ q r (i+1) (i+1) (aah _)with⟨h1,h2⟩|⟨h1,h2,⟨o,h3,h4⟩,h5⟩
   .refine .inr ⟨om,by simp;omega,⟨x,by rw[h1];simp,by rw[h1];simpa using hq⟩,λt o ht ho=>?_⟩
    cases t with
    |zero=>omega
    |succ t=>have:=h2 t o (by simpa using ho);rwa [show i+(t+1)=i+1+t by omega]
   .refine .inr ⟨om,by simp;omega,⟨o,?_,h4⟩,λt o ht ho=>?_⟩
    .rw[show nW q r (i+1) (i+1)-1-i=(nW q r (i+1) (i+1)-1-(i+1))+1 by omega];simpa using h3
    .cases t with
     |zero=>omega
     |succ t=>have:=h5 t o om (by simpa using ho);rwa [show i+(t+1)=i+1+t by omega]
theorem qK{α:Type}(q:Nat->α->Bool)(mn:Nat)(L:List α):jO q mn L (EU q mn L):=by
 unfold EU;rcases CQ q L 0 0 (aah _)with⟨h1,h2⟩|⟨h1,h2,⟨o,h3,h4⟩,h5⟩
 .refine⟨⟨Nat.min_le_left _ _,om,λt o _ ho=>by have:=h2 t o ho;rwa [acA]at this⟩,.inl om⟩
 .refine⟨⟨Nat.min_le_left _ _,om,λt o ht ho=>?_⟩,?_⟩
  .have ay:=(Mp.1 ho).1;have:=h5 t o om ho;rwa [acA]at this
  .rcases aaD mn (nW q L 0 0)with hm|hm
   .refine .inr ⟨o,?_⟩;have e:min L.length (max mn (nW q L 0 0))=nW q L 0 0:=om;rw[e];exact⟨by simpa using h3,h4⟩
   .exact .inl om
def HA(c:Kr):Kr:=
 ⟨c.l.take (EU qO 1 c.l),c.ops.take (EU qP 0 c.ops),(c.ps.mapIdx (gq (c.l.take (EU qO 1 c.l)) c.ps.length)).take (EU (qR (c.l.take (EU qO 1 c.l))) 1 (c.ps.mapIdx (gq (c.l.take (EU qO 1 c.l)) c.ps.length)))⟩
theorem y0(c:Kr):gX c (HA c):=⟨⟨_,_,_,_,qK _ _ _,qK _ _ _,CM _ _,qK _ _ _,rfl⟩⟩
def dZ(k:Kr):Kr:=HA (ET k.ps.length k)
theorem eT{k:Kr}(hk:dY k.l k.ops k.ps):Hx k (dZ k):=by
 obtain⟨a,h1,h2⟩:=PJ k.ps.length k hk (by unfold mM;exact adt _ _)
 exact⟨a,_,h1,h2,y0 _⟩
theorem Bx{k a c d:Kr}(hk:dY k.l k.ops k.ps)(h1:ig k a)(h2:cI a.l a.ops a.ps c.l c.ops c.ps false)(h3:gX c d):d=dZ k:=
 Hx.Aq ⟨a,c,h1,h2,h3⟩ (eT hk)
theorem Mg(k:Kr)(hk:dY k.l k.ops k.ps){m:Mem}{K:CV->Mem->Prop}(h:K (cA (dZ k).l (dZ k).ops (dZ k).ps) m):aq prog 47 [cA k.l k.ops k.ps] m K:=
 PC k hk λa c d h1 h2 h3=>by rw[Bx hk h1 h2 h3];exact h
end Kn
theorem nC{l:List aV}{k:Nat}(h:k<l.length):cH (l.map aV.enc) (k:Nat)=some [.val (.int .i64 l[k].obj),.val (.int .i64 l[k].dq)]:=by rw[aY,Rn,xm h];rfl
inductive mN(m:Mem)(Z:Nat->Prop)(p:Option Nat):List CC->List Dt->Prop
 |nil:mN m Z p [] []
 |cons {c:CC} {d:Dt} {r:List CC} {r':List Dt} (h:cV m Z p c d) (hr:mN m Z p r r'):mN m Z p (c::r) (d::r')
theorem mN.len{m:Mem}{Z:Nat->Prop}{p:Option Nat}{a:List CC}{b:List Dt}(h:mN m Z p a b):a.length=b.length:=by induction h<;>simp[*]
theorem mN.get{m:Mem}{Z:Nat->Prop}{p:Option Nat}{a:List CC}{b:List Dt}(h:mN m Z p a b):∀(i:Nat)c d,a[i]? =some c->b[i]? =some d->cV m Z p c d:=by
 induction h with
 |nil=>intro i c d h;simp at h
 |cons h hr ih=>
  intro i c d h1 h2;cases i with
  |zero=>simp at h1 h2;subst h1 h2;exact h
  |succ i=>exact ih i c d (by simpa using h1) (by simpa using h2)
inductive jQ(m:Mem)(Z:Nat->Prop)(p:Option Nat):List (List CC)->List (List Dt)->Prop
 |nil:jQ m Z p [] []
 |cons {c:List CC} {d:List Dt} {r:List (List CC)} {r':List (List Dt)} (h:mN m Z p c d) (hr:jQ m Z p r r'):jQ m Z p (c::r) (d::r')
theorem jQ.len{m:Mem}{Z:Nat->Prop}{p:Option Nat}{a:List (List CC)}{b:List (List Dt)}(h:jQ m Z p a b):a.length=b.length:=by induction h<;>simp[*]
theorem jQ.get{m:Mem}{Z:Nat->Prop}{p:Option Nat}{a:List (List CC)}{b:List (List Dt)}(h:jQ m Z p a b):∀(i:Nat)c d,a[i]? =some c->b[i]? =some d->mN m Z p c d:=by
 induction h with
 |nil=>intro i c d h;simp at h
 |cons h hr ih=>
  intro i c d h1 h2;cases i with
  |zero=>simp at h1 h2;subst h1 h2;exact h
  |succ i=>exact ih i c d (by simpa using h1) (by simpa using h2)
theorem jQ.dO{m:Mem}{Z:Nat->Prop}{p:Option Nat}{id esz:Nat}{elems:List (List CC)}{ds:List (List Dt)}(h:jQ m Z (some id) elems ds)(hz:Z id)(hm:m[id]? =some (.row esz elems)):cV m Z p (.row id esz 0 none) (.sl esz ds):=
 cV.row id esz 0 none elems ds hz hm h.len (λi cs es h1 h2=>(h.get i cs es h1 h2).len) (λi cs es j c d h1 h2 h3 h4=>(h.get i cs es h1 h2).get j c d h3 h4)
def c63:LF:=Cq prog f63 [] []
def c70:LF:=Cq prog f70 [] []
def c82:LF:=Cq prog f82 [] []
def c85:LF:=Cq prog f85 [] []
def c126:LF:=Cq prog f126 [] []
def c127:LF:=Cq prog f127 [] []
namespace Tb
structure Cap where
 ct:Int
 rts:Int
 deriving DecidableEq
structure cK where
 has:Bool
 cap:Cap
 deriving DecidableEq
def cK.enc(s:cK):List Dt:=[.val (.bool s.has),.val (.int .i64 s.cap.ct),.val (.int .i64 s.cap.rts)]
def sJ(l:List cK):Dt:= .sl 3 (l.map cK.enc)
def fx(l:List cK):CV:= .rv (.one (.ai (sJ l)))
def Cap.rv(c:Cap):RV:= .agg [.ai (.val (.int .i64 c.ct)),.ai (.val (.int .i64 c.rts))]
def cR(n:Int):RV:= .one (.ai (.val (.int .i64 n)))
theorem l82:bA prog f82=some c82:=by kernel_rfl
def fG(l:List cK)(fd:Int):Cap×Int:=
 match (if 0<=fd then l[fd.toNat]? else none)with
 |some s=>if s.has then(s.cap,0)else(⟨0,0⟩,6)
 |none=>(⟨0,0⟩,6)
theorem PK(l:List cK)(fd:Int):body prog c82 [fx l,am .i64 fd] [] (λr m=>r= .bI [(fG l fd).1.rv,cR (fG l fd).2]):=by
 refine aC (λh=>?_) (λh=>?_)
 .have h:fd<0:=of_decide_eq_true h;show CV.bI _=CV.bI _;rw[fG,if_neg om];rfl
 .have h:¬fd<0:=of_decide_eq_false h;refine aC (λh2=>?_) (λh2=>?_)
  .have h2:fd>=((l.map cK.enc).length:Int):=of_decide_eq_true h2;simp at h2;show CV.bI _=CV.bI _;rw[fG,if_pos om,abk om];rfl
  .have h2:¬fd>=((l.map cK.enc).length:Int):=of_decide_eq_false h2;simp at h2;have ay:fd.toNat<l.length:=om;have hg:cH (l.map cK.enc) fd=some (l[fd.toNat].enc):=by rw[JE,if_pos om,Rn,xm ay];rfl
   have hs:fG l fd=if l[fd.toNat].has then(l[fd.toNat].cap,0)else(⟨0,0⟩,6):=by rw[fG,if_pos om,xm ay]
   refine af hg ?_;refine aC (λh3=>?_) (λh3=>?_)
   .have h3:l[fd.toNat].has=false:=by simpa using h3
    show CV.bI _=CV.bI _;rw[hs,h3];rfl
   .have h3:l[fd.toNat].has=true:=by simpa using h3
    refine af hg ?_;show CV.bI _=CV.bI _;rw[hs,h3];rfl
theorem y5(l:List cK)(fd:Int){m:Mem}{K:CV->Mem->Prop}(h:K (.bI [(fG l fd).1.rv,cR (fG l fd).2]) m):aq prog 82 [fx l,am .i64 fd] m K:=
 bH func82 l82 rfl (aat rfl) (PK l fd) rfl rfl h
theorem l110:bA prog f110=some c110:=by kernel_rfl
theorem l63:bA prog f63=some c63:=by kernel_rfl
theorem l126:bA prog f126=some c126:=by kernel_rfl
theorem l127:bA prog f127=some c127:=by kernel_rfl
def fL(n:Int):Bool:=decide (n>=0)&&decide (n<=4095)
theorem HB(n:Int):body prog c63 [am .i64 n] [] (λr m=>r=ar (fL n)):=by
 refine aC (λh=>?_) (λh=>?_)
 .show ar _=ar _;unfold fL;rw[h];rfl
 .show ar _=ar _;unfold fL;rw[h];rfl
theorem y6(n:Int){m:Mem}{K:CV->Mem->Prop}(h:K (ar (fL n)) m):aq prog 63 [am .i64 n] m K:=
 bH func63 l63 rfl (aat rfl) (HB n) rfl rfl h
def cK.cv(s:cK):CV:= .rv (.agg (s.enc.map .ai))
theorem vy(s:cK):body prog c127 [s.cv] [] (λr m=>r=ar (!s.has)):=by show ar _=ar _;rfl
theorem CR(s:cK){m:Mem}{K:CV->Mem->Prop}(h:K (ar (!s.has)) m):aq prog 127 [s.cv] m K:=
 bH func127 l127 rfl (aat rfl) (vy s) rfl rfl h
def wM{α:Type}(p:α->Bool)(l:List α):Int:=match l.findIdx? p with|some i=>(i:Int)|none=>-1
theorem sK(l:List cK)(hb:l.length<=2097152)(f:Nat)(p:cK->Bool)(hf:∀(s:cK)(m:Mem)(K:CV->Mem->Prop),K (ar (p s)) m->aq prog f [s.cv] m K):
  body prog c126 [fx l,.rv (.one (.fn f []))] [] (λr m=>r=am .i64 (wM p l)):=by
 refine OX (λk=>k<=l.length/\∀(i:Nat)s,i<k->l[i]? =some s->p s=false) (λk=>[(8,am .i64 (k:Nat)),(5,.aL),(9,.aL),(10,.aL),(11,.aL),(12,.aL),(13,.aL),(14,.aL),(15,.aL),(16,.aL),(17,.aL),(18,.aL)])
  (λ_=>[]) (λk=>l.length-k) 0 ⟨aad _,λi s h=>absurd h (abq i)⟩ (En (aad _) ?_) (λk hk=>?_)
 .repeat(first|exact .nil|refine .aL ?_|refine .eX ?_)
 .refine aC (λh=>?_) (λh=>?_)
  .have ay:k<l.length:=by have h:(k:Int)<((l.map cK.enc).length:Int):=of_decide_eq_true h;simp at h;omega
   have hg:cH (l.map cK.enc) (k:Nat)=some (l[k].enc):=by rw[aY,Rn,xm ay];rfl
   refine af hg ?_;refine hf l[k] _ _ ?_;refine aC (λh3=>?_) (λh3=>?_)
   .show am _ _=am _ _;have:l.findIdx? p=some k:=by
     rw[abw];refine⟨ay,h3,λj hj=>?_⟩
     have:=hk.2 j l[j] hj (xm om);simp[this]
    rw[wM,this]
   .refine⟨k+1,⟨ay,λi s hi hs=>?_⟩,?_,En (aad _) ?_⟩
    .rcases aaD i k with h5|h5
     .exact hk.2 i s h5 hs
     .have:i=k:=om;subst this;rw[xm ay]at hs;cases hs;exact h3
    .show l.length-(k+1)<l.length-k;omega
    .repeat(first|exact .nil|refine .aL ?_|refine .put (bC om) ?_|refine .eX ?_)
  .have eO:¬(k:Int)<((l.map cK.enc).length:Int):=of_decide_eq_false h;simp at eO;show am _ _=am _ _;have:l.findIdx? p=none:=by rw[ady];intro s hs;obtain⟨i,hi⟩:=aag hs;have:=(Mp.1 hi).1;simpa using hk.2 i s om hi
   rw[wM,this]
theorem y7(l:List cK)(hb:l.length<=2097152)(f:Nat)(p:cK->Bool)(hf:∀(s:cK)(m:Mem)(K:CV->Mem->Prop),K (ar (p s)) m->aq prog f [s.cv] m K){m:Mem}{K:CV->Mem->Prop}(h:K (am .i64 (wM p l)) m):aq prog 126 [fx l,.rv (.one (.fn f []))] m K:=
 bH func126 l126 rfl (aat rfl) (sK l hb f p hf) rfl rfl h
def cF(l:List cK):List (List CC):=(l.map cK.enc).map λds=>ds.map CC.ai
theorem EV(l:List cK)(hb:l.length<=2097152):body prog c110 [fx l] [] (λr m=>(l=[]/\r= .rv (.one .bv))\/(r= .rv (.one (.row 1 3 0 none))/\m[1]? =some (.row 3 ([]++cF l)))):=by
 have ns:((([]:List (List CC)).length+((l.map cK.enc).map λds=>ds.map CC.ai).length)*24)<=140737488355328:=by simp;omega
 refine aC (λh=>?_) (λh=>?_)
 .have hl:l=[]:=aaW (by simpa using aaX h)
  exact⟨.inl ⟨hl,rfl⟩,ns,.inr ⟨rfl,rfl⟩⟩
 .exact⟨ns,.inr ⟨rfl,rfl⟩⟩
theorem ry(l:List cK)(hb:l.length<=2097152){m:Mem}{K:CV->Mem->Prop}(h1:l=[]->K (.rv (.one .bv)) m)(h2:K (.rv (.one (.row m.length 3 0 none))) (m++ [.row 3 (cF l)])):
  aq prog 110 [fx l] m K:=by
 refine LM (aR func110 l110 (EV l hb)) (by simp[fx,CV.cY,CC.cY]) λr m1 hr=>?_
 rcases hr with⟨hl,rfl⟩|⟨rfl,hm⟩
 .exact .inl ⟨rfl,h1 hl⟩
 .refine .inr ⟨1,3,cF l,rfl,by simpa using hm,λcs fF c hc=>?_,λi cs j d hi hj=>?_,h2⟩
  .simp only[cF,abm]at fF;obtain⟨ds,⟨s,_,rfl⟩,rfl⟩:=fF;obtain⟨d,_,rfl⟩:=abm.1 hc;exact⟨d,rfl⟩
  .have fF:=Wm hi;simp only[cF,abm]at fF;obtain⟨ds,⟨s,_,rfl⟩,rfl⟩:=fF;have hd:=Wm hj;simp only[cK.enc,ac6,aeW,abH,CC.ai.injEq,adA,or_false]at hd;rcases hd with rfl|rfl|rfl<;>exact⟨_,rfl⟩
theorem l85:bA prog f85=some c85:=by kernel_rfl
def jR(l:List cK)(c:Cap):List cK×Int×Int:=
 if fL c.rts=false\/c.ct<0 then([],0,3)else
 match l.findIdx? (λs=>!s.has)with
 |some k=>(l.set k ⟨true,c⟩,k,0)
 |none=>if l.length>=10 then([],0,15)else(l++ [⟨true,c⟩],l.length,0)
def kR(l:List cK):RV:= .one (.ai (sJ l))
theorem kL{m:Mem}{a b:RV}{x y:Int}(h:dK m a b):cM m (.bI [a,cR x,cR y]) (.bI [b,cR x,cR y]):=by
 refine .bI rfl λi r r' h1 h2=>?_
 match i,h1,h2 with
 |0,h1,h2=>cases h1;cases h2;exact h
 |1,h1,h2=>cases h1;cases h2;exact dK.self rfl
 |2,h1,h2=>cases h1;cases h2;exact dK.self rfl
theorem J4{l:List cK}{c:Cap}{m:Mem}(h:fL c.rts=false\/c.ct<0):cM m (.bI [.one .bv,cR 0,cR 3]) (.bI [kR (jR l c).1,cR (jR l c).2.1,cR (jR l c).2.2]):=by rw[jR,if_pos h];exact kL (.one (.bv 3))
theorem PL{l:List cK}{c:Cap}{m:Mem}(h:¬(fL c.rts=false\/c.ct<0))(hk:l.findIdx? (λs=>!s.has)=none)(hl:l.length>=10):
  cM m (.bI [.one .bv,cR 0,cR 15]) (.bI [kR (jR l c).1,cR (jR l c).2.1,cR (jR l c).2.2]):=by
 rw[jR,if_neg h,hk];simp only;rw[if_pos hl];exact kL (.one (.bv 3))
theorem J5{l:List cK}{c:Cap}{m:Mem}{id:Nat}(h:¬(fL c.rts=false\/c.ct<0))(hk:l.findIdx? (λs=>!s.has)=none)(hl:¬l.length>=10)(hm:m[id]? =some (.row 3 (cF (l++ [⟨true,c⟩])))):
  cM m (.bI [.one (.row id 3 0 none),cR ((l.map cK.enc).length:Nat),cR 0]) (.bI [kR (jR l c).1,cR (jR l c).2.1,cR (jR l c).2.2]):=by
 rw[jR,if_neg h,hk,P2];simp only;rw[if_neg hl];exact kL (.one (eF.db hm 0 none))
theorem Tq{l:List cK}{c:Cap}{m:Mem}{id k:Nat}(h:¬(fL c.rts=false\/c.ct<0))(hk:l.findIdx? (λs=>!s.has)=some k)(hm:m[id]? =some (.row 3 (cF (l.set k ⟨true,c⟩)))):
  cM m (.bI [.one (.row id 3 0 none),cR k,cR 0]) (.bI [kR (jR l c).1,cR (jR l c).2.1,cR (jR l c).2.2]):=by
 rw[jR,if_neg h,hk];exact kL (.one (eF.db hm 0 none))
theorem PM(l:List cK)(hb:l.length<=2097152)(c:Cap):body prog c85 [fx l,.rv c.rv] [] (λr m=>cM m r (.bI [kR (jR l c).1,cR (jR l c).2.1,cR (jR l c).2.2])):=by
 refine y6 c.rts ?_;refine aC (λh=>?_) (λhr=>?_)
 .exact J4 (.inl (by simpa using h))
 .refine aC (λh=>?_) (λho=>?_)
  .exact J4 (.inr (of_decide_eq_true h))
  .have k7:¬(fL c.rts=false\/c.ct<0):=by have:=of_decide_eq_false ho;simp at hr;simp[hr];omega
   refine y7 l hb 127 (λs=>!s.has) (λs m K h=>CR s h) ?_
   cases hk:l.findIdx? (λs=>!s.has)with
   |none=>
    have hi:wM (λs:cK=>!s.has) l= -1:=by rw[wM,hk]
    rw[hi];refine aC (λh=>?_) (λh=>?_)
    .have eO:l.length>=10:=by have h:=of_decide_eq_true h;simp at h;omega
     exact PL k7 hk eO
    .have ay:¬l.length>=10:=by have h:=of_decide_eq_false h;simp at h;omega
     refine ry l hb (λhl=>?_) ?_
     .subst hl;refine⟨by decide,?_⟩
      exact J5 k7 hk ay rfl
     .refine bS (by simp[cF,lenOf]) ?_
      refine⟨by simp[cF,bt];omega,?_⟩
      have hlen:(cF l).length=l.length:=by simp[cF]
      refine af (bL (k:=(l.map cK.enc).length) (by simp[cF,lenOf,bt])) ?_
      refine af (x:=[CC.ai (.val (.bool false)),CC.ai (.val (.int .i64 0)),CC.ai (.val (.int .i64 0))]) (by simp[aX,cF,bt,gl]) ?_
      refine J5 (id:=3) k7 hk ay ?_;refine congrArg (λx=>some (Bk.row 3 x)) ?_
      show aZ (cF l++ [[CC.ai (.val (.bool false)),CC.ai (.val (.int .i64 0)),CC.ai (.val (.int .i64 0))]]) (l.map cK.enc).length [CC.ai (.val (.bool true)),CC.ai (.val (.int .i64 c.ct)),CC.ai (.val (.int .i64 c.rts))]=_;rw[br,P2,<-hlen,adT _ _ (aah _),aea];simp[cF,cK.enc]
   |some k=>
    have hi:wM (λs:cK=>!s.has) l=(k:Int):=by rw[wM,hk]
    have ef:k<l.length:=(abw.1 hk).1;rw[hi];refine ry l hb (λhl=>?_) ?_
    .subst hl;simp at ef
    .have hlen:(cF l).length=l.length:=by simp[cF]
     refine yx (by simp[hlen,lenOf];omega) ?_
     refine af (bL (k:=k) (by simp[hlen,lenOf];omega)) ?_
     refine af (x:=(l[k].enc).map .ai) (by simp[aX,cF,gl,ef]) ?_
     refine Tq (id:=1) k7 hk ?_;refine congrArg (λx=>some (Bk.row 3 x)) ?_
     show aZ (cF l) k [CC.ai (.val (.bool true)),CC.ai (.val (.int .i64 c.ct)),CC.ai (.val (.int .i64 c.rts))]=_;rw[br];simp[cF,cK.enc]
theorem PN(l:List cK)(hb:l.length<=2097152)(c:Cap){m:Mem}{K:CV->Mem->Prop}(h:K (.bI [kR (jR l c).1,cR (jR l c).2.1,cR (jR l c).2.2]) m):aq prog 85 [fx l,.rv c.rv] m K:=
 aT (aR func85 l85 (PM l hb c)) (by simp[fx,Cap.rv,CV.cY,CC.cY]) λr m1 hf=>⟨_,hf,h⟩
theorem l70:bA prog f70=some c70:=by kernel_rfl
def xk(l:List cK)(fd:Int):List cK×Int×Int:=if(fG l fd).2=0 then jR l (fG l fd).1 else([],0,(fG l fd).2)
theorem PQ(l:List cK)(hb:l.length<=2097152)(fd:Int):body prog c70 [fx l,am .i64 fd] [] (λr m=>cM m r (.bI [kR (xk l fd).1,cR (xk l fd).2.1,cR (xk l fd).2.2])):=by
 refine y5 l fd ?_;refine aC (λh=>?_) (λh=>?_)
 .have h:¬(fG l fd).2=0:=by simpa using h
  rw[xk,if_neg h];exact kL (.one (.bv 3))
 .have h:(fG l fd).2=0:=by simpa using h
  rw[xk,if_pos h];refine PN l hb (fG l fd).1 ?_;exact cM.self rfl
theorem XE(l:List cK)(hb:l.length<=2097152)(fd:Int){m:Mem}{K:CV->Mem->Prop}(h:K (.bI [kR (xk l fd).1,cR (xk l fd).2.1,cR (xk l fd).2.2]) m):aq prog 70 [fx l,am .i64 fd] m K:=
 aT (aR func70 l70 (PQ l hb fd)) (by simp[fx,am,CV.cY,CC.cY]) λr m1 hf=>⟨_,hf,h⟩
end Tb
def c69:LF:=Cq prog f69 [] []
def c106:LF:=Cq prog f106 [] []
def c111:LF:=Cq prog f111 [] []
namespace Tb
theorem l111:bA prog f111=some c111:=by kernel_rfl
def ji(a b:Int):Bool:=(IntKind.i64.wrap ((BitVec.ofInt 64 a&&& ~~~ BitVec.ofInt 64 b).toNat:Int))==0
theorem By(a b:Int){m:Mem}{K:CV->Mem->Prop}(h:K (ar (ji a b)) m):aq prog 111 [am .i64 a,am .i64 b] m K:=
 bH (r0:=ar (ji a b)) func111 l111 rfl (aat rfl) (show body prog c111 [am .i64 a,am .i64 b] [] (λr m=>r=ar (ji a b))from rfl) rfl rfl h
theorem l106:bA prog f106=some c106:=by kernel_rfl
def pM(l:List cK)(fd need:Int):Cap×Int:=
 if(fG l fd).2=0/\ji need (fG l fd).1.rts=false then(⟨0,0⟩,10)else fG l fd
theorem vz(l:List cK)(fd need:Int):body prog c106 [fx l,am .i64 fd,am .i64 need] [] (λr m=>r= .bI [(pM l fd need).1.rv,cR (pM l fd need).2]):=by
 refine y5 l fd ?_;refine aC (λh=>?_) (λh=>?_)
 .have h:(fG l fd).2=0:=by simpa using h
  refine By _ _ ?_;refine aC (λh2=>?_) (λh2=>?_)
  .have h2:ji need (fG l fd).1.rts=false:=by simpa using h2
   show CV.bI _=CV.bI _;rw[pM,if_pos ⟨h,h2⟩];rfl
  .have h2:ji need (fG l fd).1.rts=true:=by simpa using h2
   show CV.bI _=CV.bI _;rw[pM,if_neg (by simp[h2])];rfl
 .have h:¬(fG l fd).2=0:=by simpa using h
  show CV.bI _=CV.bI _;rw[pM,if_neg (by simp[h])];rfl
theorem ma(l:List cK)(fd need:Int){m:Mem}{K:CV->Mem->Prop}(h:K (.bI [(pM l fd need).1.rv,cR (pM l fd need).2]) m):aq prog 106 [fx l,am .i64 fd,am .i64 need] m K:=
 bH func106 l106 rfl (aat rfl) (vz l fd need) rfl rfl h
theorem l69:bA prog f69=some c69:=by kernel_rfl
def Bz:Nat->Nat->List cK->Nat
 |_,b,[]=>b
 |k,b,s::r=>Bz (k+1) (if s.has then k+1 else b) r
theorem HC(l:List cK)(k b i:Nat)(h:i<l.length):Bz k b (l.take (i+1))=if l[i].has then k+i+1 else Bz k b (l.take i):=by
 induction l generalizing k b i with
 |nil=>simp at h
 |cons s r ih=>
  cases i with
  |zero=>simp[Bz]
  |succ i=>
   simp at h;have:=ih (k+1) (if s.has then k+1 else b) i h
   rw[show k+1+i=k+(i+1) by omega]at this
   simp only[List.take_succ_cons,Bz,this,List.getElem_cons_succ]
def t8(l:List cK):Nat:=Bz 0 0 l
theorem HD(l:List cK)(i:Nat)(h:i<l.length):t8 (l.take (i+1))=if l[i].has then i+1 else t8 (l.take i):=by rw[t8,HC l 0 0 i h];simp[t8]
def vA:cK:=⟨false,⟨0,0⟩⟩
def pg(l:List cK)(fd:Int):List cK×Int:=
 if(fG l fd).2=0 then((l.set fd.toNat vA).take (t8 (l.set fd.toNat vA)),0)else([],(fG l fd).2)
theorem J6{l:List cK}{fd:Int}(h:(fG l fd).2=0):∃k:Nat,fd=k/\∃hk:k<l.length,l[k].has=true/\(fG l fd).1=l[k].cap:=by
 unfold fG at h;split at h
 .rename_i s hs;split at hs
  .refine⟨fd.toNat,om,(Mp.1 hs).1,?_⟩;have e:=(Mp.1 hs).2;split at h
   .rename_i h0 hh;rw[e];refine⟨hh,?_⟩;rw[fG,if_pos h0,hs];simp[hh]
   .simp at h
  .cases hs
 .simp at h
theorem ic{m:Mem}{a b:RV}{x:Int}(h:dK m a b):cM m (.bI [a,cR x]) (.bI [b,cR x]):=by
 refine .bI rfl λi r r' h1 h2=>?_
 match i,h1,h2 with
 |0,h1,h2=>cases h1;cases h2;exact h
 |1,h1,h2=>cases h1;cases h2;exact dK.self rfl
theorem EW{m:Mem}{id h:Nat}{l:List cK}(hm:m[id]? =some (.row 3 (aa (l.map cK.enc)))):eF m (.row id 3 0 (some h)) (.ai (sJ (l.take h))):=by
 have h1:eF m (.row id 3 0 (some h)) (.ai (.sl 3 (bt (l.map cK.enc) 0 (some h)))):=eF.db hm 0 (some h);have h2:bt (l.map cK.enc) 0 (some h)=(l.take h).map cK.enc:=by simp[bt,adQ]
 rw[h2]at h1;exact h1
theorem HE(l:List cK)(hb:l.length<=2097152)(fd:Int):body prog c69 [fx l,am .i64 fd] [] (λr m=>cM m r (.bI [kR (pg l fd).1,cR (pg l fd).2])):=by
 refine y5 l fd ?_;refine aC (λh=>?_) (λh=>?_)
 .have h:¬(fG l fd).2=0:=by simpa using h
  rw[pg,if_neg h];exact ic (.one (.bv 3))
 .have h:(fG l fd).2=0:=by simpa using h
  rw[pg,if_pos h];obtain⟨k,rfl,hk,abr,_⟩:=J6 h;refine ry l hb (λhl=>by subst hl;simp at hk) ?_
  refine af (bL (k:=k) (by simp[cF,lenOf];omega)) ?_
  refine af (x:=(l[k].enc).map .ai) (by simp[aX,cF,gl,hk]) ?_
  have j9:aZ (cF l) (gl 0 k) [CC.ai (.val (.bool false)),CC.ai (.val (.int .i64 0)),CC.ai (.val (.int .i64 0))]=aa ((l.set k vA).map cK.enc):=by rw[br];simp[cF,cK.enc,aa,gl,vA]
  have hlen:(l.set k vA).length=l.length:=aG;rw[show((k:Nat):Int).toNat=k from rfl];generalize l.set k vA=l2 at j9 hlen;refine yC (λh=>h<=l2.length/\t8 (l2.take h)=t8 l2) (λh=>[(8,.rv (.one (.row 1 3 0 (some h)))),(24,.aL),(25,.aL),(26,.aL),(27,.aL),(28,.aL),(29,.aL),(30,.aL),(31,.aL),(32,.aL),(33,.aL),(34,.aL),(35,.aL),(36,.aL),(37,.aL),(38,.aL),(39,.aL),(40,.aL),(41,.aL),(19,.aL),(20,.aL),(23,.aL)])
   (λh=>[.aE,.row 3 (aa (l2.map cK.enc))]) (λh=>h) l2.length ⟨aah _,by rw[abo]⟩ ?_ (λh hh=>?_)
  .refine View.o 2 [0,1] [] ?_ ?_
   .repeat(first|exact .nil|refine .aL ?_|refine .put (.hi rfl rfl ((congrArg List.length j9).trans (by simp[aa]))) ?_|refine .eq rfl ?_)
   .exact .aE (.put (by simp[bh]) rfl (.bg j9) (.nil _))
  .refine aC (λh2=>?_) (λh2=>?_)
   .have h2:0<h:=by have h2:((h:Nat):Int)>0:=of_decide_eq_true h2;omega
    obtain⟨j,rfl⟩:∃j,h=j+1:=⟨h-1,om⟩;have hj:j<l2.length:=om;have hi:(IntKind.i64.wrap (((j+1:Nat):Int)-1))=((j:Nat):Int):=by rw[<-mG (n:=j) om];congr 1;omega
    have m9:dW (IntKind.i64.wrap (((j+1:Nat):Int)-1)) (j+1)=some j:=by rw[hi];exact bL om
    refine af m9 ?_;refine af (x:=(l2[j].enc).map .ai) (by simp[aX,aa,gl,hj]) ?_
    have ht:=HD l2 j hj;refine aC (λh3=>?_) (λh3=>?_)
    .have h3:l2[j].has=false:=by simpa using h3
     refine af (x:=j) (by show pV (.rv (.one (.ai (.val (.int .i64 (IntKind.i64.wrap (((j+1:Nat):Int)-1)))))))=_;rw[hi];rfl) ?_
     refine bS (by simp[lenOf,ack,aa];try omega) ?_
     refine⟨j,⟨om,by rw[h3]at ht;simp at ht;rw[<-ht];exact hh.2⟩,adR j,View.o1 2 [0,1] [] ?_⟩
     .exact .aE (.put (by simp[bh]) rfl (.bg rfl) (.nil _))
    .have h3:l2[j].has=true:=by simpa using h3
     have:t8 l2=j+1:=by rw[<-hh.2,ht,if_pos h3]
     rw[this];exact ic (.one (EW rfl))
   .have h2:h=0:=by have h2:¬((h:Nat):Int)>0:=of_decide_eq_false h2;omega
    subst h2;have:t8 l2=0:=by rw[<-hh.2];rfl
    rw[this];exact ic (.one (EW rfl))
theorem PR(l:List cK)(hb:l.length<=2097152)(fd:Int){m:Mem}{K:CV->Mem->Prop}(h:K (.bI [kR (pg l fd).1,cR (pg l fd).2]) m):aq prog 69 [fx l,am .i64 fd] m K:=
 aT (aR func69 l69 (HE l hb fd)) (by simp[fx,am,CV.cY,CC.cY]) λr m1 hf=>⟨_,hf,h⟩
end Tb
def c35:LF:=Cq prog f35 [] []
def c123:LF:=Cq prog f123 [] []
def c124:LF:=Cq prog f124 [] []
def c128:LF:=Cq prog f128 [] [[eL 7 0 .nil],[eL 13 0 .nil]]
def c151:LF:=Cq prog f151 [] []
theorem l35:bA prog f35=some c35:=by kernel_rfl
def eG(ps:List aM)(p:Int):Bool:=decide (p>=0)&&(decide (p<ps.length)&&match ps[p.toNat]? with|some x=>x.aF|none=>false)
theorem HF(l:List Obj)(ops:List aV)(ps:List aM)(p:Int):body prog c35 [cA l ops ps,am .i64 p] [] (λr m=>r=ar (eG ps p)):=by
 refine an (λh0=>?_) (λh0=>?_)
 .obtain⟨n,rfl⟩:∃n:Nat,p=n:=⟨p.toNat,om⟩;refine an (λh=>?_) (λh=>?_)
  .have ay:n<ps.length:=by have h:(n:Int)<((ps.map aM.enc).length:Int):=h;rw[P2]at h;omega
   refine af (fk ay) ?_;have hS:eG ps (n:Int)=ps[n].aF:=by simp[eG,ay]
   show ar _=ar _;rw[hS]
  .have eO:¬n<ps.length:=by have h:¬(n:Int)<((ps.map aM.enc).length:Int):=h;rw[P2]at h;omega
   have hS:eG ps (n:Int)=false:=by simp[eG,eO]
   show ar _=ar _;rw[hS]
 .have hS:eG ps p=false:=by have:decide (p>=0)=false:=decide_eq_false h0;simp[eG,this]
  show ar _=ar _;rw[hS]
theorem qM(l:List Obj)(ops:List aV)(ps:List aM)(p:Int){m:Mem}{K:CV->Mem->Prop}(h:K (ar (eG ps p)) m):aq prog 35 [cA l ops ps,am .i64 p] m K:=
 bH func35 l35 rfl (aat rfl) (HF l ops ps p) (by simp[cA,cX,de,dM,am,CV.cY,CC.cY,RV.cY]) rfl h
theorem oG{ps:List aM}{p:Int}(h:eG ps p=true):∃n:Nat,p=n/\∃hn:n<ps.length,ps[n].aF=true:=by
 unfold eG at h;by_cases h0:p>=0
 .obtain⟨n,rfl⟩:∃n:Nat,p=n:=⟨p.toNat,om⟩;by_cases hn:n<ps.length
  .refine⟨n,rfl,hn,?_⟩;simpa[hn]using h
  .simp[hn]at h
 .simp[h0]at h
theorem Tr{ps:List aM}{n:Nat}(hn:n<ps.length)(h:ps[n].aF=true):eG ps (n:Int)=true:=by simp[eG,hn,h]
theorem l128:bA prog f128=some c128:=by kernel_rfl
theorem l151:bA prog f151=some c151:=by kernel_rfl
theorem HG(o:Obj)(p:Int):body prog c151 [o.cv,.rv (.one (.ptr 0 0))] [.var ([Dt.val (.int .i64 p)].map .ai)] (λr m=>r=ar (cD p o)/\∃ex,m= .var ([Dt.val (.int .i64 p)].map .ai)::ex):=by
 refine aC (λh=>?_) (λh=>?_)
 .refine⟨?_,_,rfl⟩;show ar _=ar _;rw[cD,h];rfl
 .refine⟨?_,_,rfl⟩;show ar _=ar _;rw[cD,h];rfl
theorem abs(o:Obj)(p:Int)(K:CV->Mem->Prop)(h:K (ar (cD p o)) [.var ([Dt.val (.int .i64 p)].map .ai)]):aq prog 151 [o.cv,.rv (.one (.ptr 0 0))] [.var ([Dt.val (.int .i64 p)].map .ai)] K:=
 fX rfl (aR func151 l151 (HG o p)) h
def pN(l:List Obj)(ps:List aM)(p:Nat):Bool:=match ps[p]? with
 |some x=>!x.aF&& !(l.any (cD (p:Nat)))
 |none=>false
def lH(l:List Obj)(ps:List aM):Nat->Nat->Int
 |0,_=>-1
 |n+1,p=>if p=ps.length then(p:Nat)else if pN l ps p=true then(p:Nat)else lH l ps n (p+1)
def ec(l:List Obj)(ps:List aM):Int:=lH l ps 8 0
def kC(l:List Obj)(ops:List aV)(ps:List aM):List Dt:=[cX l,de ops,dM ps]
theorem vy(l:List Obj)(hl:l.length<=4194304)(ops:List aV)(ps:List aM):body prog c128 [.rv (.one (.ptr 0 0))] [.var ((kC l ops ps).map .ai)] (λr m=>r=am .i64 (ec l ps)/\∃ex,m= .var ((kC l ops ps).map .ai)::ex):=by
 refine ax (λp=>p<=8/\p<=ps.length/\lH l ps (8-p) p=ec l ps) [0] (λp=>[(5,am .i64 (p:Nat))]) (λ_=>[.var ((kC l ops ps).map .ai)]) (λp=>8-p) 0 ⟨om,aad _,rfl⟩ ?_ (λp hp=>?_)
 .refine View.o1 1 [0] [] ?_
  .exact .au
 obtain⟨hp8,fb,NT⟩:=hp;have hp8:p<=8:=hp8;have fb:p<=ps.length:=fb;have NT:lH l ps (8-p) p=ec l ps:=NT;refine an (λh=>?_) (λh=>?_)
 .have ay:p<8:=by have h:(p:Int)<8:=h;omega
  rw[show 8-p=(8-(p+1))+1 by omega,lH]at NT
  refine bc (λhe=>?_) (λhe=>?_)
  .have he:p=ps.length:=by have he:(p:Int)=((ps.map aM.enc).length:Int):=he;rw[P2]at he;omega
   rw[if_pos he]at NT;rw[<-NT];exact⟨rfl,_,rfl⟩
  .have gj:¬p=ps.length:=by intro hh;apply he;show(p:Int)=((ps.map aM.enc).length:Int);rw[P2];omega
   rw[if_neg gj]at NT;have Eh:p<ps.length:=om;have OB:pN l ps p=(!ps[p].aF&& !(l.any (cD (p:Nat)))):=by rw[pN,xm Eh]
   refine gN (args0:=[cQ l,.rv (.one (.fn 151 [0]))]) (cs:=[.val (.int .i64 (p:Nat))]) 1 rfl rfl (r0:=ar (l.any (cD (p:Int)))) rfl (λK hK=>vo l hl 151 _ _ (λs K hK=>abs s _ K hK) K hK) ?_
   refine af (fk Eh) ?_;rw[OB]at NT;have go:(!ps[p].aF&& !(l.any (cD (p:Nat))))=false->lH l ps (8-(p+1)) (p+1)=ec l ps:=λhh=>by
    rw[if_neg (by rw[hh];simp)]at NT;exact NT
   refine aC (λh1=>?_) (λh1=>?_)
   .refine aC (λh2=>?_) (λh2=>?_)
    .rw[if_pos (by rw[h1,h2];rfl)]at NT
     rw[<-NT];exact⟨rfl,_,rfl⟩
    .refine⟨p+1,⟨om,om,go (by rw[h2,Bool.and_false])⟩,(show 8-(p+1)<8-p by omega),View.o2 2 [0] [] ?_⟩
     .exact .au
   .refine⟨p+1,⟨om,om,go (by rw[h1,Bool.false_and])⟩,(show 8-(p+1)<8-p by omega),View.o2 2 [0] [] ?_⟩
    .exact .au
 .have hp:p=8:=by have h:¬(p:Int)<8:=h;omega
  subst hp;rw[show ec l ps= -1 from NT.symm];exact⟨rfl,_,rfl⟩
theorem CR(l:List Obj)(hl:l.length<=4194304)(ops:List aV)(ps:List aM)(K:CV->Mem->Prop)(h:K (am .i64 (ec l ps)) [.var ((kC l ops ps).map .ai)]):aq prog 128 [.rv (.one (.ptr 0 0))] [.var ((kC l ops ps).map .ai)] K:=
 fX rfl (aR func128 l128 (vy l hl ops ps)) h
theorem l123:bA prog f123=some c123:=by kernel_rfl
theorem l124:bA prog f124=some c124:=by kernel_rfl
def aV.cv(o:aV):CV:= .rv (.agg (o.enc.map .ai))
theorem HH(o:aV):body prog c124 [o.cv] [] (λr m=>r=ar (decide (o.obj<0))):=by show ar _=ar _;rfl
theorem abt(o:aV){m:Mem}{K:CV->Mem->Prop}(h:K (ar (decide (o.obj<0))) m):aq prog 124 [o.cv] m K:=
 bH func124 l124 rfl (aat rfl) (HH o) rfl rfl h
def Gj(l:List aV):Option Nat:=l.findIdx? λo=>decide (o.obj<0)
def NU(l:List aV):Int:=match Gj l with|some i=>(i:Nat)|none=>-1
theorem Mh(l:List aV)(hb:l.length<=4194304):body prog c123 [.rv (.one (.ai (de l))),.rv (.one (.fn 124 []))] [] (λr m=>r=am .i64 (NU l)):=by
 refine ax (λk=>k<=l.length/\∀(i:Nat)s,i<k->l[i]? =some s->¬s.obj<0) [0,1,7] (λk=>[(8,am .i64 (k:Nat))]) (λ_=>[]) (λk=>l.length-k) 0 ⟨aad _,λi s h=>absurd h (abq i)⟩ ?_ (λk hk=>?_)
 .refine View.o1 0 [] [] (.nil _)
 obtain⟨ef,Br⟩:=hk;have ef:k<=l.length:=ef;refine an (λh=>?_) (λh=>?_)
 .have ay:k<l.length:=by have h:(k:Int)<((l.map aV.enc).length:Int):=h;rw[P2]at h;omega
  refine af (nC ay) ?_;refine abt l[k] ?_;refine an (λh3=>?_) (λh3=>?_)
  .show am _ _=am _ _;have:Gj l=some k:=by
    rw[Gj,abw];exact⟨ay,by simpa using h3,λj hj=>by simpa using Br j _ hj (xm om)⟩
   rw[NU,this]
  .refine⟨k+1,⟨ay,λi s hi hs=>?_⟩,(show l.length-(k+1)<l.length-k by omega),View.o 0 [] [] ?_ (.nil _)⟩
   .rcases aaD i k with h5|h5
    .exact Br i s h5 hs
    .have:i=k:=om;subst this;rw[xm ay]at hs;cases hs;exact h3
   .repeat(first|exact .nil|refine .aL ?_|refine .put (.aO (bC om).symm) ?_|refine .eq rfl ?_)
 .have eO:k=l.length:=by have h:¬(k:Int)<((l.map aV.enc).length:Int):=h;rw[P2]at h;omega
  show am _ _=am _ _;have:Gj l=none:=by rw[Gj,ady];intro s hs;obtain⟨i,hi⟩:=aag hs;have:=(Mp.1 hi).1;simpa using Br i s om hi
  rw[NU,this]
theorem J7(l:List aV)(hb:l.length<=4194304){m:Mem}{K:CV->Mem->Prop}(h:K (am .i64 (NU l)) m):aq prog 123 [.rv (.one (.ai (de l))),.rv (.one (.fn 124 []))] m K:=
 bH func123 l123 rfl (aat rfl) (Mh l hb) (by simp[de,CV.cY,CC.cY,RV.cY]) rfl h
def c87:LF:=Cq prog f87 [[5]] [[(eL 12 0 (.cons 12 (some []) .nil))]]
theorem l87:bA prog f87=some c87.er:=by kernel_rfl
def kn(k:Kr):RV:= .agg [.ai (cX k.l),.ai (de k.ops),.ai (dM k.ps)]
def ua:Kr:=⟨[],[],[]⟩
def fJ(k:Kr)(p code:Int):Kr×Int:=
 if eG k.ps p=false then(ua,6)else if code<0\/code>255 then(ua,3)
 else(⟨k.l,k.ops,k.ps.set p.toNat ⟨false,(match k.ps[p.toNat]? with|some x=>x.fenced|none=>false),code,[]⟩⟩,0)
theorem jS{m:Mem}:dK m (.agg [.bv,.bv,.bv]) (kn ua):=by
 refine .agg rfl λi c c' h1 h2=>?_
 match i,h1,h2 with
 |0,h1,h2=>cases h1;cases h2;exact .bv 9
 |1,h1,h2=>cases h1;cases h2;exact .bv 2
 |2,h1,h2=>cases h1;cases h2;exact .bv 4
 |n+3,h1,h2=>simp at h1
theorem J8(k:Kr):(kn k).cY=true:=by simp[kn,cX,de,dM,CV.cY,CC.cY,RV.cY]
theorem PS{m:Mem}{Z:Nat->Prop}{p:Option Nat}{id:Nat}{ps:List aM}{k:Nat}{c:List CC}{x:aM}(hc:mN m Z (some id) c x.enc)(hz:Z id)(hm:m[id]? =some (.row 4 (aZ (aa (ps.map aM.enc)) k c))):
  cV m Z p (.row id 4 0 none) (dM (ps.set k x)):=by
 rw[br]at hm;refine cV.row id 4 0 none _ _ hz hm (by simp[aa]) (λi cs es h1 h2=>?_) (λi cs es j c' d h1 h2 h3 h4=>?_)
 .rw[acy]at h1;rw[Rn,acy]at h2;by_cases e:k=i
  .subst e;rw[if_pos rfl]at h1 h2;split at h1
   .cases h1;split at h2
    .cases h2;exact hc.len
    .cases h2
   .cases h1
  .rw[if_neg e]at h1 h2;rw[aa,Rn,Rn]at h1;cases hi:ps[i]? with
   |none=>rw[hi]at h1;cases h1
   |some y=>rw[hi]at h1 h2;cases h1;cases h2;simp
 .rw[acy]at h1;rw[Rn,acy]at h2;by_cases e:k=i
  .subst e;rw[if_pos rfl]at h1 h2;split at h1
   .cases h1;split at h2
    .cases h2;exact hc.get j _ _ h3 h4
    .cases h2
   .cases h1
  .rw[if_neg e]at h1 h2;rw[aa,Rn,Rn]at h1;cases hi:ps[i]? with
   |none=>rw[hi]at h1;cases h1
   |some y=>
    rw[hi]at h1 h2;cases h1;cases h2;have h4:y.enc[j]? =some d:=h4;rw[Rn,h4]at h3;cases h3;exact .ai d
def G15:LC:=mK (bs (bs (bs (bs (bs c87.code)))))
theorem Mi(k:Kr)(hk:dY k.l k.ops k.ps)(p code:Int):body prog c87 [cA k.l k.ops k.ps,am .i64 p,am .i64 code] [] (λr m=>cM m r (.bI [kn (fJ k p code).1,cR (fJ k p code).2])):=by
 refine qM k.l k.ops k.ps p ?_;refine aC (λh1=>?_) (λh1=>?_)
 .have h1:eG k.ps p=false:=by simpa using h1
  rw[fJ,if_pos h1];exact ic jS
 have h1:eG k.ps p=true:=by simpa using h1
 obtain⟨n,rfl,hn,bR⟩:=oG h1;rw[fJ,if_neg (by rw[h1];simp)]
 refine an (λh2=>?_) (λh2=>?_)
 .rw[if_pos (.inl h2)];exact ic jS
 refine an (λh3=>?_) (λh3=>?_)
 .rw[if_pos (.inr h3)];exact ic jS
 rw[if_neg (λh=>h.elim h2 h3)]
 refine jM k.l k.ops k.ps ⟨hk.ll,λo ho=>(hk.sm o ho).pZ⟩ hk.lo hk.lp hk.sl hk.ne ?_
 have hg:=fk hn;have hr:=bq aM.enc k.ps hn;have hx:(match k.ps[((n:Nat):Int).toNat]? with|some x=>x.fenced|none=>false)=k.ps[n].fenced:=by rw[show((n:Nat):Int).toNat=n from rfl,xm hn]
 rw[hx,show((n:Nat):Int).toNat=n from rfl];generalize k.ps[n]=y at hg hr;obtain⟨aF,fenced,cd,ap⟩:=y;refine af hg ?_;refine af (nV hn) ?_;refine af hr ?_;have fa:aw prog 0 G15 (oi prog c87.mr (λr m=>cM m r (.bI [kn ⟨k.l,k.ops,k.ps.set n ⟨false,fenced,code,[]⟩⟩,cR 0]))) ⟨jD 36 [(6,.rv (.one (.ptr 1 0))),(8,.rv (.one (.ptr 2 0)))],[.var ((kC k.l k.ops k.ps).map .ai),.var [.bv,.bv,.bv],.var ((kC k.l k.ops (k.ps.set n ⟨false,fenced,code,[]⟩)).map .ai)]⟩:=by exact ic (dK.self (J8 _))
 refine⟨?_,_,View.o 6 [0,1,5] [2,3,4] ?_ ?_,fa⟩
 .exact trivial
 .repeat(first|exact .nil|refine .aL ?_|refine .eq rfl ?_)
 .refine .pt rfl rfl (.eq rfl (by simp[kC])) (.pe rfl rfl rfl (.pt rfl rfl (dC.var (.cons (.dO (cV.db (Z:=λk=>bh [2,3,4] k=true) rfl rfl 0 none)) (.cons (.dO (cV.db (Z:=λk=>bh [2,3,4] k=true) rfl rfl 0 none)) (.cons (.dO (PS (Z:=λk=>bh [2,3,4] k=true) ?_ rfl rfl)) .nil)))) (.nil _)))
  exact .cons (.ai _) (.cons (.ai _) (.cons (.ai _) (.cons (.bv 3) .nil)))
theorem CS(k:Kr)(hk:dY k.l k.ops k.ps)(p code:Int){m:Mem}{K:CV->Mem->Prop}(h:K (.bI [kn (fJ k p code).1,cR (fJ k p code).2]) m):aq prog 87 [cA k.l k.ops k.ps,am .i64 p,am .i64 code] m K:=
 aT (cN func87 l87 (Mi k hk p code)) (by simp[cA,cX,de,dM,am,CV.cY,CC.cY,RV.cY]) λr m1 hf=>⟨_,hf,h⟩
def c81:LF:=Cq prog f81 [[3],[3,4]] []
theorem l81:bA prog f81=some c81.er:=by kernel_rfl
def qN(s:dX):Tb.cK:=⟨s.has,⟨s.ct,s.rts⟩⟩
def Ts(s:Tb.cK):dX:=⟨s.has,s.cap.ct,s.cap.rts⟩
theorem Tt(l:List dX):(l.map qN).map Tb.cK.enc=l.map dX.enc:=by rw[adu];rfl
theorem Tu(l:List Tb.cK):(l.map Ts).map dX.enc=l.map Tb.cK.enc:=by rw[adu];rfl
theorem BA(l:List dX):Tb.sJ (l.map qN)=ip l:=by rw[Tb.sJ,Tt];rfl
theorem rz(l:List Tb.cK):Tb.kR l=CH (l.map Ts):=by show RV.one (.ai (.sl 3 (l.map Tb.cK.enc)))= .one (.ai (.sl 3 ((l.map Ts).map dX.enc)));rw[Tu]
def gP(l:List dX)(ct rts:Int):List dX×Int×Int:=((Tb.jR (l.map qN) ⟨ct,rts⟩).1.map Ts,(Tb.jR (l.map qN) ⟨ct,rts⟩).2.1,(Tb.jR (l.map qN) ⟨ct,rts⟩).2.2)
theorem CT(l:List dX)(hb:l.length<=2097152)(ct rts:Int){m:Mem}{K:CV->Mem->Prop}(h:K (.bI [CH (gP l ct rts).1,cR (gP l ct rts).2.1,cR (gP l ct rts).2.2]) m):
  aq prog 85 [mI l,.rv (.agg [.ai (.val (.int .i64 ct)),.ai (.val (.int .i64 rts))])] m K:=by
 have:=Tb.PN (l.map qN) (by simpa using hb) ⟨ct,rts⟩ (m:=m) (K:=K) (by rw[rz];exact h)
 have e:Tb.fx (l.map qN)=mI l:=by show CV.rv (.one (.ai (Tb.sJ (l.map qN))))=_;rw[BA];rfl
 rw[e]at this;exact this
def dx(ops:List aV):Nat:=(Gj ops).getD ops.length
def aP(ps:List aM)(n:Nat):List dX:=match ps[n]? with|some x=>x.ap|none=>[]
def ko(ops:List aV)(i:Nat)(o:aV):List aV:=if i=ops.length then ops++ [o]else ops.set i o
def dV(ps:List aM)(n:Nat)(l:List dX):List aM:=match ps[n]? with|some x=>ps.set n {x with ap:=l}|none=>ps
def aK(k:Kr)(n:Nat)(obj rts:Int):Kr×Int×Int:=
 if Gj k.ops=none/\k.ops.length>=60 then(ua,0,15)
 else if(gP (aP k.ps n) (dx k.ops) rts).2.2≠0 then(ua,0,(gP (aP k.ps n) (dx k.ops) rts).2.2)
 else(⟨k.l,ko k.ops (dx k.ops) ⟨obj,0⟩,dV k.ps n (gP (aP k.ps n) (dx k.ops) rts).1⟩,(gP (aP k.ps n) (dx k.ops) rts).2.1,0)
theorem CU{ops:List aV}{i:Nat}(h:Gj ops=some i):i<ops.length:=(abw.1 h).1
def C30:LC:=bs (bs (bs c81.code))
def G30:LC:=mK C30
def C60:LC:=bs (bs (bs (bs G30)))
def G60:LC:=mK C60
def M60(l:List Obj)(O:List aV)(ps:List aM):Mem:=[.var [.bv,.bv,.bv],.row 9 (aa (l.map Obj.enc)),.row 2 (aa (O.map aV.enc)),.row 4 (aa (ps.map aM.enc)),.var [.row 1 9 0 none,.row 2 2 0 none,.row 3 4 0 none]]
theorem abu{m:Mem}{a b c:Nat}{l:List Obj}{ops:List aV}{ps:List aM}(h1:m[a]? =some (.row 9 (aa (l.map Obj.enc))))(h2:m[b]? =some (.row 2 (aa (ops.map aV.enc))))(h3:m[c]? =some (.row 4 (aa (ps.map aM.enc)))):
  dK m (.agg [.row a 9 0 none,.row b 2 0 none,.row c 4 0 none]) (kn ⟨l,ops,ps⟩):=by
 refine .agg rfl λi c c' e1 e2=>?_
 match i,e1,e2 with
 |0,e1,e2=>cases e1;cases e2;exact eF.db h1 0 none
 |1,e1,e2=>cases e1;cases e2;exact eF.db h2 0 none
 |2,e1,e2=>cases e1;cases e2;exact eF.db h3 0 none
 |n+3,e1,e2=>simp at e1
theorem VY(l:List Obj)(O:List aV)(ps:List aM)(n i:Nat)(hn:n<ps.length)(hi:i<O.length)(obj fd:Int)(y:List dX):
  aw prog 0 G60 (oi prog c81.mr (λr m=>cM m r (.bI [kn ⟨l,O.set i ⟨obj,0⟩,dV ps n y⟩,cR fd,cR 0])))
   ⟨jD 74 [(1,am .i64 (n:Nat)),(2,am .i64 obj),(8,.rv (.one (.ptr 0 0))),(11,am .i64 (i:Nat)),(12,mI y),(13,am .i64 fd),(15,.rv (.one (.ptr 4 0)))],M60 l O ps⟩:=by
 refine af (CK hi) ?_;have ho:=bq aV.enc O hi;generalize O[i]=x at ho;obtain⟨xo,xa⟩:=x;refine af ho ?_;refine af (nV hn) ?_;have hp:=bq aM.enc ps hn;have jB:dV ps n y=ps.set n {ps[n]with ap:=y}:=by rw[dV,xm hn]
 rw[jB];generalize ps[n]=z at hp;obtain⟨aF,fenced,cd,ap⟩:=z;refine af hp ?_;refine kL (abu ?_ ?_ ?_) (dK.self rfl)
 .rfl
 .refine congrArg (λx=>some (Bk.row 2 x)) ?_
  show aZ (aa (O.map aV.enc)) i ((aV.enc ⟨obj,0⟩).map .ai)=_;rw[br,aa,aa,acF,acF]
 .refine congrArg (λx=>some (Bk.row 4 x)) ?_
  show aZ (aa (ps.map aM.enc)) n ((aM.enc ⟨aF,fenced,cd,y⟩).map .ai)=_;rw[br,aa,aa,acF,acF]
theorem VZ(k:Kr)(hk:dY k.l k.ops k.ps)(n:Nat)(hn:n<k.ps.length)(obj rts:Int)(i:Nat)(hi:i=dx k.ops)(NL:i<=k.ops.length)(k6:¬(Gj k.ops=none/\k.ops.length>=60)):
  aw prog 0 G30 (oi prog c81.mr (λr m=>cM m r (.bI [kn (aK k n obj rts).1,cR (aK k n obj rts).2.1,cR (aK k n obj rts).2.2])))
   ⟨jD 74 [(1,am .i64 (n:Nat)),(2,am .i64 obj),(3,am .i64 rts),(4,.rv (.one (.ptr 0 0))),(8,.rv (.one (.ptr 1 0))),(11,am .i64 (i:Nat))],[.var ((kC k.l k.ops k.ps).map .ai),.var [.bv,.bv,.bv]]⟩:=by
 have Gk:aP k.ps n=k.ps[n].ap:=by rw[aP,xm hn]
 have nT:=hk.sl _ (aaP hn);have XF:k.ops.length<=4194304:=hk.lo;rw[aK,if_neg k6,Gk,<-hi];refine af (fk hn) ?_;generalize k.ps[n].ap=S at nT;refine CT S om (i:Nat) rts ?_;generalize gP S (i:Nat) rts=A;obtain⟨y,fd,e⟩:=A;refine bO (λhe=>?_) (λhe=>?_)
 .rw[if_pos he];exact kL jS (dK.self rfl)
 have he:e=0:=he;subst he;rw[if_neg aG];refine jM k.l k.ops k.ps ⟨hk.ll,λo ho=>(hk.sm o ho).pZ⟩ hk.lo hk.lp hk.sl hk.ne ?_
 refine bc (λiD=>?_) (λiD=>?_)
 .have iD:i=k.ops.length:=by have iD:(i:Int)=((aa (k.ops.map aV.enc)).length:Int):=iD;rw[aJ,P2]at iD;omega
  have j9:ko k.ops i ⟨obj,0⟩=(k.ops++ [aV.mk 0 0]).set i ⟨obj,0⟩:=by rw[ko,if_pos iD,iD];simp
  rw[j9];refine⟨by simp only[bt,aJ,P2,aaY,acg];omega,?_⟩
  refine⟨_,View.o1 8 [1,2,7,4,5] [] ?_,VY k.l (k.ops++ [aV.mk 0 0]) k.ps n i hn (by simp;omega) obj fd y⟩
  .exact .pe rfl rfl rfl (.pr rfl rfl rfl (.pt rfl rfl (.bg (by simp[bt,aa,aV.enc])) (.pr rfl rfl rfl (.pm rfl rfl rfl))))
 .have ay:i<k.ops.length:=by have iD:¬(i:Int)=((aa (k.ops.map aV.enc)).length:Int):=iD;rw[aJ,P2]at iD;omega
  have j9:ko k.ops i ⟨obj,0⟩=k.ops.set i ⟨obj,0⟩:=by rw[ko,if_neg om]
  rw[j9];refine⟨_,View.o1 6 [1,2,3,4,5] [] ?_,VY k.l k.ops k.ps n i hn ay obj fd y⟩
  .exact .au
theorem EX(k:Kr)(hk:dY k.l k.ops k.ps)(n:Nat)(hn:n<k.ps.length)(obj rts:Int):body prog c81 [cA k.l k.ops k.ps,am .i64 (n:Nat),am .i64 obj,am .i64 rts] []
  (λr m=>cM m r (.bI [kn (aK k n obj rts).1,cR (aK k n obj rts).2.1,cR (aK k n obj rts).2.2])):=by
 refine J7 k.ops hk.lo ?_;have XF:k.ops.length<=4194304:=hk.lo;cases ho:Gj k.ops with
 |none=>
  have XG:NU k.ops= -1:=by rw[NU,ho]
  have PT:dx k.ops=k.ops.length:=by rw[dx,ho];rfl
  rw[XG];refine an (λvB=>?_) (λvB=>?_)
  .have vB:k.ops.length>=60:=by have vB:((k.ops.map aV.enc).length:Int)>=60:=vB;rw[P2]at vB;omega
   rw[aK,if_pos ⟨ho,vB⟩];exact kL jS (dK.self rfl)
  .have vB:¬k.ops.length>=60:=by have vB:¬((k.ops.map aV.enc).length:Int)>=60:=vB;rw[P2]at vB;omega
   refine⟨_,View.o 2 [0,1] [] ?_ ?_,VZ k hk n hn obj rts k.ops.length PT.symm (aah _) (λh=>vB h.2)⟩
   .have hlen:am .i64 (((k.ops.map aV.enc).length:Nat):Int)=am .i64 ((k.ops.length:Nat):Int):=by rw[P2]
    repeat(first|exact .nil|refine .aL ?_|refine .eq rfl ?_)
    refine .eq hlen.symm ?_;repeat(first|exact .nil|refine .aL ?_|refine .eq rfl ?_)
   .exact .au
 |some i=>
  have XG:NU k.ops=(i:Nat):=by rw[NU,ho]
  have PT:dx k.ops=i:=by rw[dx,ho];rfl
  have NL:=CU ho;rw[XG];refine⟨_,View.o1 2 [0,1] [] ?_,VZ k hk n hn obj rts i PT.symm om (λh=>by rw[ho]at h;cases h.1)⟩
  .exact .au
theorem vC(k:Kr)(hk:dY k.l k.ops k.ps)(n:Nat)(hn:n<k.ps.length)(obj rts:Int){m:Mem}{K:CV->Mem->Prop}(h:K (.bI [kn (aK k n obj rts).1,cR (aK k n obj rts).2.1,cR (aK k n obj rts).2.2]) m):aq prog 81 [cA k.l k.ops k.ps,am .i64 (n:Nat),am .i64 obj,am .i64 rts] m K:=
 aT (cN func81 l81 (EX k hk n hn obj rts)) (by simp[cA,cX,de,dM,am,CV.cY,CC.cY,RV.cY]) λr m1 hf=>⟨_,hf,h⟩
def c86:LF:=Cq prog f86 [[6],[6,1]] [[(eL 15 0 (.cons 15 (some [8,6,4,1]) (.cons 16 none (.cons 17 none (.cons 18 (some []) .nil)))))]]
theorem l86:bA prog f86=some c86.er:=by kernel_rfl
def dE(c:Int):Obj:=⟨5,[],[],⟨#[]⟩,-1,[],c,0,0⟩
theorem EY(c:Int):(dE c).sm:=⟨⟨⟨[],rfl⟩,⟨[],rfl⟩,λq hq=>by simp[dE]at hq⟩,by simp[dE],by simp[dE],by simp[dE],λq hq=>by simp[dE]at hq⟩
theorem PU(a:CV)(c:Int):ln [a,.rv (.agg [.ai (.val (.int .i64 5)),.bv,.bv,.ai (.val (.string ⟨#[]⟩)),.ai (.val (.int .i64 (-1))),.bv,.ai (.val (.int .i64 c)),.ai (.val (.int .i64 0)),.ai (.val (.int .i64 0))])] [a,(dE c).cv]:=
 .cT _ (.agg (.cons (.cT _) (.cons (.bv 1) (.cons (.bv 2) (.cons (.cT _) (.cons (.cT _) (.cons (.bv 4) (.cons (.cT _) (.cons (.cT _) (.cons (.cT _) .nil))))))))) .nil)
theorem BB{l:List Obj}{o x:Obj}(h:x∈(aH l o).1):x∈l\/x=o:=by
 unfold aH at h;split at h
 .exact abF h
 .split at h
  .simp at h
  .simpa using h
theorem Mj(l:List Obj)(o:Obj):(aH l o).1.length<=l.length+1:=by
 unfold aH;split
 .simp
 .split<;>simp
theorem PV{m:Mem}{a b:RV}{x y z:Int}(h:dK m a b):cM m (.bI [a,cR x,cR y,cR z]) (.bI [b,cR x,cR y,cR z]):=by
 refine .bI rfl λi r r' h1 h2=>?_
 match i,h1,h2 with
 |0,h1,h2=>cases h1;cases h2;exact h
 |1,h1,h2=>cases h1;cases h2;exact dK.self rfl
 |2,h1,h2=>cases h1;cases h2;exact dK.self rfl
 |3,h1,h2=>cases h1;cases h2;exact dK.self rfl
 |n+4,h1,h2=>simp at h1
def ub(l:List Obj)(ops:List aV)(P:List aM)(n:Nat)(c:Int):Kr×Int×Int×Int:=
 if(aH l (dE c)).2.2≠0 then(ua,0,0,(aH l (dE c)).2.2)
 else if(aK ⟨(aH l (dE c)).1,ops,P⟩ n (aH l (dE c)).2.1 3200).2.2≠0 then(ua,0,0,(aK ⟨(aH l (dE c)).1,ops,P⟩ n (aH l (dE c)).2.1 3200).2.2)
 else((aK ⟨(aH l (dE c)).1,ops,P⟩ n (aH l (dE c)).2.1 3200).1,c,(aK ⟨(aH l (dE c)).1,ops,P⟩ n (aH l (dE c)).2.1 3200).2.1,0)
def gI(ps:List aM)(n c:Nat):List aM:=match ps[n]? with
 |some x=>if c=ps.length then ps++ [⟨true,x.fenced,0,x.ap⟩]else ps.set c ⟨true,x.fenced,0,x.ap⟩
 |none=>ps
def iy(k:Kr)(p:Int):Kr×Int×Int×Int:=
 if eG k.ps p=false then(ua,0,0,6)else if ec k.l k.ps<0 then(ua,0,0,15)
 else ub k.l k.ops (gI k.ps p.toNat (ec k.l k.ps).toNat) p.toNat (ec k.l k.ps)
def J9(a:Kr×Int×Int×Int):CV:= .bI [kn a.1,cR a.2.1,cR a.2.2.1,cR a.2.2.2]
def C36:LC:=bs (bs (bs (bs (bs (bs c86.code)))))
def G36:LC:=mK C36
def C55:LC:=bs G36
def G55:LC:=mK C55
theorem abv(l:List Obj)(ops:List aV)(P:List aM)(hk:dY l ops P)(CW:l.length<=4194303)(n:Nat)(hn:n<P.length)(c:Int):
  aw prog 0 G55 (oi prog c86.mr (λr m=>cM m r (J9 (ub l ops P n c))))
   ⟨jD 84 [(1,am .i64 (n:Nat)),(4,.rv (.one (.ptr 0 0))),(8,am .i64 c),(9,.rv (.one (.ptr 1 0)))],[.var [.bv,.bv,.bv],.var ((kC l ops P).map .ai)]⟩:=by
 have hA1:∀x,x∈(aH l (dE c)).1->x.sm:=λx hx=>by
  rcases BB hx with hx|rfl
  .exact hk.sm x hx
  .exact EY c
 have hA2:=Mj l (dE c);refine jK (PU _ _) (CG l ⟨hk.ll,λo ho=>(hk.sm o ho).pZ⟩ (dE c) ?_)
 unfold ub;generalize aH l (dE c)=A at hA1 hA2;obtain⟨A1,k,e⟩:=A;refine bO (λhe=>?_) (λhe=>?_)
 .rw[if_pos he];exact PV jS
 have he:e=0:=he;subst he;rw[if_neg aG];refine vC ⟨A1,ops,P⟩ ⟨hA1,by have hA2:A1.length<=l.length+1:=hA2;show A1.length<=4194304;omega,hk.lo,hk.lp,hk.sl,hk.ne⟩ n hn k 3200 ?_
 generalize aK ⟨A1,ops,P⟩ n k 3200=B;obtain⟨B1,fd,e2⟩:=B;refine bO (λpW=>?_) (λpW=>?_)
 .rw[if_pos pW];exact PV jS
 have pW:e2=0:=pW;subst pW;rw[if_neg aG];exact PV (dK.self (J8 _))
theorem qQ(l:List Obj)(ps:List aM):∀(n p c:Nat),lH l ps n p=(c:Nat)->p<=ps.length->c<=ps.length/\p<=c/\c<p+n/\(c<ps.length->pN l ps c=true)
 |0,p,c,h,_=>by have h:(-1:Int)=(c:Nat):=h;omega
 |n+1,p,c,h,hp=>by
  rw[lH]at h;by_cases h1:p=ps.length
  .rw[if_pos h1]at h;have:p=c:=om;subst this;exact⟨om,om,om,λh2=>om⟩
  .rw[if_neg h1]at h;by_cases h2:pN l ps p=true
   .rw[if_pos h2]at h;have:p=c:=om;subst this;exact⟨om,om,om,λ_=>h2⟩
   .rw[if_neg h2]at h;obtain⟨a,b,c1,d⟩:=qQ l ps n (p+1) c h om;exact⟨a,om,om,d⟩
theorem V0(k:Kr)(hk:dY k.l k.ops k.ps)(CW:k.l.length<=4194303)(P:List aM)(hP:∀p,p∈P->p.ap.length<=10)(hPl:P.length<=4194304)(n:Nat)(hn:n<k.ps.length)(hnP:n<P.length)(c:Nat)(hc:c<P.length):
  aw prog 0 G36 (oi prog c86.mr (λr m=>cM m r (J9 (ub k.l k.ops (P.set c ⟨true,k.ps[n].fenced,0,k.ps[n].ap⟩) n (c:Nat)))))
   ⟨jD 84 [(1,am .i64 (n:Nat)),(2,.rv (.one (.ptr 0 0))),(4,.rv (.one (.ptr 1 0))),(8,am .i64 (c:Nat)),(9,.rv (.one (.ptr 5 0)))],
    [.var ((kC k.l k.ops k.ps).map .ai),.var [.bv,.bv,.bv],.row 9 (aa (k.l.map Obj.enc)),.row 2 (aa (k.ops.map aV.enc)),.row 4 (aa (P.map aM.enc)),.var [.row 2 9 0 none,.row 3 2 0 none,.row 4 4 0 none]]⟩:=by
 have hg:=fk hn;have nT:=hk.sl _ (aaP hn);have hr:=bq aM.enc P hc;generalize k.ps[n]=z at hg nT;obtain⟨aF,fenced,cd,ap⟩:=z;have nT:ap.length<=10:=nT;generalize P[c]=w at hr;obtain⟨wl,wf,wc,ws⟩:=w;refine af hg ?_;refine af hg ?_;refine kO ap om ?_;refine⟨⟨rfl,af hg rfl,rfl,rfl,trivial⟩,?_⟩;refine af (nV hc) ?_;refine af hr ?_;refine⟨trivial,?_⟩;have j9:∀x,x∈P.set c ⟨true,fenced,0,ap⟩->x.ap.length<=10:=λx hx=>by
  rcases abF hx with hx|rfl
  .exact hP x hx
  .exact nT
 have fa:=abv k.l k.ops (P.set c ⟨true,fenced,0,ap⟩) ⟨hk.sm,hk.ll,hk.lo,by rw[abn];exact hPl,j9,λh=>by have:=congrArg List.length h;rw[abn,acg]at this;omega⟩ CW n (by rw[abn];exact hnP) (c:Nat)
 refine⟨_,View.o1 6 [1,5] [2,3,4] ?_,fa⟩
 .refine .pe rfl rfl rfl (.pt rfl rfl (dC.var (.cons (.dO (cV.db (Z:=λk=>bh [2,3,4] k=true) rfl rfl 0 none)) (.cons (.dO (cV.db (Z:=λk=>bh [2,3,4] k=true) rfl rfl 0 none)) (.cons (.dO (PS (Z:=λk=>bh [2,3,4] k=true) (c:=(aM.enc ⟨true,fenced,0,ap⟩).map .ai) ?_ rfl rfl)) .nil)))) (.nil _))
  exact .cons (.ai _) (.cons (.ai _) (.cons (.ai _) (.cons (.ai _) .nil)))
theorem Ml(k:Kr)(hk:dY k.l k.ops k.ps)(CW:k.l.length<=4194303)(p:Int):body prog c86 [cA k.l k.ops k.ps,am .i64 p] [] (λr m=>cM m r (J9 (iy k p))):=by
 refine qM k.l k.ops k.ps p ?_;have h2:=hk.lp;refine aC (λh1=>?_) (λh1=>?_)
 .have h1:eG k.ps p=false:=by simpa using h1
  rw[iy,if_pos h1];exact PV jS
 have h1:eG k.ps p=true:=by simpa using h1
 obtain⟨n,rfl,hn,bR⟩:=oG h1;rw[iy,if_neg (by rw[h1];simp)]
 refine gN (args0:=[.rv (.one (.ptr 0 0))]) (cs:=kC k.l k.ops k.ps) 0 rfl rfl (r0:=am .i64 (ec k.l k.ps)) rfl (λK hK=>CR k.l hk.ll k.ops k.ps K hK) ?_
 refine an (λh3=>?_) (λh3=>?_)
 .rw[if_pos h3];exact PV jS
 rw[if_neg h3];obtain⟨c,hc⟩:∃c:Nat,ec k.l k.ps=(c:Int):=⟨(ec k.l k.ps).toNat,om⟩;obtain⟨fF,_,hc8,_⟩:=qQ k.l k.ps 8 0 c hc (aad _);rw[hc,show((n:Nat):Int).toNat=n from rfl,show((c:Nat):Int).toNat=c from rfl];refine jM k.l k.ops k.ps ⟨hk.ll,λo ho=>(hk.sm o ho).pZ⟩ hk.lo hk.lp hk.sl hk.ne ?_
 refine bc (λiD=>?_) (λiD=>?_)
 .have iD:c=k.ps.length:=by have iD:(c:Int)=((aa (k.ps.map aM.enc)).length:Int):=iD;rw[aJ,P2]at iD;omega
  have hfp:gI k.ps n c=(k.ps++ [fI]).set c ⟨true,k.ps[n].fenced,0,k.ps[n].ap⟩:=by rw[gI,xm hn];simp only[];rw[if_pos iD,iD];simp
  rw[hfp];refine⟨by simp only[bt,aJ,P2,aaY,acg];omega,?_⟩
  have fa:=V0 k hk CW (k.ps++ [fI]) (λx hx=>by
   rcases abJ.1 hx with hx|hx
   .exact hk.sl x hx
   .simp at hx;subst hx;simp[fI]) (by simp;omega) n hn (by simp;omega) c (by simp;omega)
  refine⟨_,View.o1 8 [0,1,2,3,7,5] [] ?_,fa⟩
  .exact .pt rfl rfl (.eq rfl (by simp[kC])) (.pe rfl rfl rfl (.pr rfl rfl rfl (.pr rfl rfl rfl (.pt rfl rfl (JR k.ps fI (.dO (.bv 3)) (by simp[bt,aa,CC.aO,fI])) (.pm rfl rfl rfl)))))
 .have ay:c<k.ps.length:=by have iD:¬(c:Int)=((aa (k.ps.map aM.enc)).length:Int):=iD;rw[aJ,P2]at iD;omega
  have hfp:gI k.ps n c=k.ps.set c ⟨true,k.ps[n].fenced,0,k.ps[n].ap⟩:=by rw[gI,xm hn];simp only[];rw[if_neg om]
  rw[hfp];have fa:=V0 k hk CW k.ps hk.sl hk.lp n hn hn c ay;refine⟨_,View.o1 6 [0,1,2,3,4,5] [] ?_,fa⟩
  .exact .au
theorem Ka(k:Kr)(hk:dY k.l k.ops k.ps)(CW:k.l.length<=4194303)(p:Int){m:Mem}{K:CV->Mem->Prop}(h:K (J9 (iy k p)) m):aq prog 86 [cA k.l k.ops k.ps,am .i64 p] m K:=
 aT (cN func86 l86 (Ml k hk CW p)) (by simp[cA,cX,de,dM,am,CV.cY,CC.cY,RV.cY]) λr m1 hf=>⟨_,hf,h⟩
def c71:LF:=Cq prog f71 [] []
namespace Tb
theorem l71:bA prog f71=some c71:=by kernel_rfl
def CX(l:List cK)(fd n:Int):List cK×Int:=
 if(fG l fd).2=0 then
  if fL n=false then([],3)else if ji n (fG l fd).1.rts=false then([],10)else(l.set fd.toNat ⟨true,⟨(fG l fd).1.ct,n⟩⟩,0)
 else([],(fG l fd).2)
theorem HI(l:List cK)(hb:l.length<=2097152)(fd n:Int):body prog c71 [fx l,am .i64 fd,am .i64 n] [] (λr m=>cM m r (.bI [kR (CX l fd n).1,cR (CX l fd n).2])):=by
 refine y5 l fd ?_;refine aC (λh=>?_) (λh=>?_)
 .have h:¬(fG l fd).2=0:=by simpa using h
  rw[CX,if_neg h];exact ic (.one (.bv 3))
 .have h:(fG l fd).2=0:=by simpa using h
  rw[CX,if_pos h];refine y6 n ?_;refine aC (λh1=>?_) (λh1=>?_)
  .have h1:fL n=false:=by simpa using h1
   rw[if_pos h1];exact ic (.one (.bv 3))
  .have h1:fL n=true:=by simpa using h1
   rw[if_neg (by simp[h1])]
   refine By _ _ ?_;refine aC (λh2=>?_) (λh2=>?_)
   .have h2:ji n (fG l fd).1.rts=false:=by simpa using h2
    rw[if_pos h2];exact ic (.one (.bv 3))
   .have h2:ji n (fG l fd).1.rts=true:=by simpa using h2
    rw[if_neg (by simp[h2])]
    obtain⟨d,rfl,hd,abr,bF⟩:=J6 h;rw[show((d:Nat):Int).toNat=d from rfl];refine ry l hb (λhl=>by subst hl;simp at hd) ?_
    refine af (bL (k:=d) (by simp[cF,lenOf];omega)) ?_
    refine af (x:=(l[d].enc).map .ai) (by simp[aX,cF,gl,hd]) ?_
    refine ic (.one ?_);have e:aZ (cF l) d [CC.ai (.val (.bool l[d].has)),CC.ai (.val (.int .i64 l[d].cap.ct)),CC.ai (.val (.int .i64 n))]=aa ((l.set d ⟨true,⟨(fG l d).1.ct,n⟩⟩).map cK.enc):=by rw[br,abr,bF];simp[cF,aa,cK.enc]
    exact eF.db (congrArg (λx=>some (Bk.row 3 x)) e) 0 none
theorem PW(l:List cK)(hb:l.length<=2097152)(fd n:Int){m:Mem}{K:CV->Mem->Prop}(h:K (.bI [kR (CX l fd n).1,cR (CX l fd n).2]) m):aq prog 71 [fx l,am .i64 fd,am .i64 n] m K:=
 aT (aR func71 l71 (HI l hb fd n)) (by simp[fx,am,CV.cY,CC.cY]) λr m1 hf=>⟨_,hf,h⟩
end Tb
def c144:LF:=Cq prog f144 [] []
def c145:LF:=Cq prog f145 [] []
def c146:LF:=Cq prog f146 [] []
def c160:LF:=Cq prog f160 [] []
theorem l160:bA prog f160=some c160:=by kernel_rfl
theorem l146:bA prog f146=some c146:=by kernel_rfl
theorem l145:bA prog f145=some c145:=by kernel_rfl
theorem l144:bA prog f144=some c144:=by kernel_rfl
def V1(a b:ByteArray):Bool:=Op.bytesLess a.toList b.toList
def ZC(a b:ByteArray):Bool:= !(Op.bytesLess a.toList b.toList||a.toList==b.toList)
def mO(a b:ByteArray):Int:=if V1 a b=true then -1 else if ZC a b=true then 1 else 0
theorem PX(a:ByteArray):body prog c160 [ei a] [] (λr m=>r=ar false):=by show ar (!(a.toList==a.toList))=ar false;simp
theorem PY(a:ByteArray){m:Mem}{K:CV->Mem->Prop}(h:K (ar false) m):aq prog 160 [ei a] m K:=
 bH func160 l160 rfl (aat rfl) (PX a) rfl rfl h
theorem PZ(a b:ByteArray):body prog c146 [ei a,ei b] [] (λr m=>r=am .i64 (mO a b)):=by
 refine PY a ?_;refine PY b ?_;refine aC (λh1=>?_) (λh1=>?_)
 .show am _ _=am _ _;rw[mO,if_pos (show V1 a b=true from h1)]
 refine aC (λh2=>?_) (λh2=>?_)
 .show am _ _=am _ _;rw[mO,if_neg (by rw[show V1 a b=false from h1];simp),if_pos (show ZC a b=true from h2)]
 .show am _ _=am _ _;rw[mO,if_neg (by rw[show V1 a b=false from h1];simp),if_neg (by rw[show ZC a b=false from h2];simp)]
theorem P0(a b:ByteArray){m:Mem}{K:CV->Mem->Prop}(h:K (am .i64 (mO a b)) m):aq prog 146 [ei a,ei b] m K:=
 bH func146 l146 rfl (aat rfl) (PZ a b) rfl rfl h
def dy(e:ByteArray×Int):List Dt:=[.val (.string e.1),.val (.int .i64 e.2)]
def y8(e:ByteArray×Int):CV:= .rv (.agg ((dy e).map .ai))
theorem HK(e:ByteArray×Int)(s:ByteArray):body prog c145 [y8 e,ei s] [] (λr m=>r=am .i64 (mO e.1 s)):=
 P0 e.1 s rfl
theorem V2(e:ByteArray×Int)(s:ByteArray){m:Mem}{K:CV->Mem->Prop}(h:K (am .i64 (mO e.1 s)) m):aq prog 145 [y8 e,ei s] m K:=
 bH func145 l145 rfl (aat rfl) (HK e s) rfl rfl h
def Mm(es:List (ByteArray×Int))(s:ByteArray):Nat->Nat->Nat->Nat
 |0,i,_=>i
 |n+1,i,j=>if i<j then(match es[(i+j)/2]? with
   |some e=>if mO e.1 s<0 then Mm es s n ((i+j)/2+1) j else Mm es s n i ((i+j)/2)
   |none=>i)else i
def sL(es:List (ByteArray×Int))(s:ByteArray):Nat:=Mm es s es.length 0 es.length
def CY(es:List (ByteArray×Int))(s:ByteArray):Bool:=match es[sL es s]? with|some e=>mO e.1 s==0|none=>false
structure afY where
 i:Nat
 j:Nat
theorem qS{es:List (ByteArray×Int)}{k:Nat}(h:k<es.length):cH (es.map dy) (k:Nat)=some [.val (.string es[k].1),.val (.int .i64 es[k].2)]:=by rw[aY,Rn,xm h];rfl
theorem HL{i j:Nat}(h:i+j<=4294967296):IntKind.i64.wrap ((IntKind.u64.wrap (IntKind.i64.wrap ((i:Int)+(j:Int)))).fdiv (2^(min (1:Int).toNat IntKind.u64.bits)))=(((i+j)/2:Nat):Int):=by
 rw[show(i:Int)+(j:Int)=((i+j:Nat):Int) by omega,mG om]
 have hu:IntKind.u64.wrap ((i+j:Nat):Int)=((i+j:Nat):Int):=by simp only[IntKind.wrap,IntKind.bits,IntKind.signed];simp;omega
 rw[hu,show(2:Int)^(min (1:Int).toNat IntKind.u64.bits)=((2:Nat):Int)from rfl];rw[show(((i+j:Nat):Int)).fdiv ((2:Nat):Int)=(((i+j)/2:Nat):Int) by rw[Int.fdiv_eq_ediv_of_nonneg _ om];exact(Int.natCast_ediv _ _).symm]
 rw[mG om]
theorem Tv(es:List (ByteArray×Int))(hl:es.length<=2147483648)(s:ByteArray)(F:Nat)(hF:∀(e:ByteArray×Int)(m:Mem)(K:CV->Mem->Prop),K (am .i64 (mO e.1 s)) m->aq prog F [y8 e,ei s] m K):
  body prog c144 [tP 2 (es.map dy),ei s,.rv (.one (.fn F []))] [] (λr m=>r= .bI [.one (.ai (.val (.int .i64 (sL es s:Nat)))),.one (.ai (.val (.bool (CY es s))))]):=by
 refine ax (λa:afY=>a.i<=a.j/\a.j<=es.length/\∃n,a.j-a.i<=n/\Mm es s n a.i a.j=sL es s) [0,1,2] (λa=>[(8,am .i64 (es.length:Nat)),(9,am .i64 (a.i:Nat)),(10,am .i64 (a.j:Nat))]) (λ_=>[]) (λa=>a.j-a.i) ⟨0,es.length⟩ ⟨aad _,aah _,es.length,aG,rfl⟩ ?_ (λa ha=>?_)
 .refine View.o 0 [] [] ?_ (.nil _);have hlen:am .i64 (((es.map dy).length:Nat):Int)=am .i64 ((es.length:Nat):Int):=by rw[P2]
  repeat(first|exact .nil|refine .aL ?_|refine .eq rfl ?_|refine .eq hlen.symm ?_)
 obtain⟨i,j⟩:=a;obtain⟨h1,h2,n,h3,h4⟩:=ha;have h1:i<=j:=h1;have h2:j<=es.length:=h2;have h3:j-i<=n:=h3;have h4:Mm es s n i j=sL es s:=h4;refine an (λh=>?_) (λh=>?_)
 .have ay:i<j:=by have h:(i:Int)<(j:Int):=h;omega
  obtain⟨n,rfl⟩:∃n',n=n'+1:=⟨n-1,om⟩;have hh:(i+j)/2<es.length:=om;rw[Mm,if_pos ay,xm hh]at h4;have eO:cH (es.map dy) (IntKind.i64.wrap ((IntKind.u64.wrap (IntKind.i64.wrap ((i:Int)+(j:Int)))).fdiv (2^(min (1:Int).toNat IntKind.u64.bits))))=some [.val (.string es[(i+j)/2].1),.val (.int .i64 es[(i+j)/2].2)]:=by rw[HL om];exact qS hh
  refine af eO ?_;refine hF es[(i+j)/2] _ _ ?_;refine an (λh5=>?_) (λh5=>?_)
  .have h5:mO es[(i+j)/2].1 s<0:=h5;simp only[]at h4;rw[if_pos h5]at h4;refine⟨⟨(i+j)/2+1,j⟩,⟨by show(i+j)/2+1<=j;omega,h2,n,by show j-((i+j)/2+1)<=n;omega,h4⟩,(show j-((i+j)/2+1)<j-i by omega),View.o 0 [] [] ?_ (.nil _)⟩
   have e1:am .i64 (IntKind.i64.wrap (IntKind.i64.wrap ((IntKind.u64.wrap (IntKind.i64.wrap ((i:Int)+(j:Int)))).fdiv (2^(min (1:Int).toNat IntKind.u64.bits)))+1))=am .i64 (((i+j)/2+1:Nat):Int):=by
    rw[HL om,show(((i+j)/2:Nat):Int)+1=(((i+j)/2+1:Nat):Int) by omega,mG om]
   repeat(first|exact .nil|refine .aL ?_|refine .eq rfl ?_|refine .eq e1.symm ?_)
  .have h5:¬mO es[(i+j)/2].1 s<0:=h5;simp only[]at h4;rw[if_neg h5]at h4;refine⟨⟨i,(i+j)/2⟩,⟨by show i<=(i+j)/2;omega,by show(i+j)/2<=es.length;omega,n,by show(i+j)/2-i<=n;omega,h4⟩,(show(i+j)/2-i<j-i by omega),View.o 0 [] [] ?_ (.nil _)⟩
   have e1:am .i64 (IntKind.i64.wrap ((IntKind.u64.wrap (IntKind.i64.wrap ((i:Int)+(j:Int)))).fdiv (2^(min (1:Int).toNat IntKind.u64.bits))))=am .i64 (((i+j)/2:Nat):Int):=by rw[HL om]
   repeat(first|exact .nil|refine .aL ?_|refine .eq rfl ?_|refine .eq e1.symm ?_)
 .have tw:i=j:=by have h:¬(i:Int)<(j:Int):=h;omega
  subst tw;have hI:sL es s=i:=by
   rw[<-h4];cases n with
   |zero=>rfl
   |succ n=>rw[Mm,if_neg (aez _)]
  rw[CY,hI];refine an (λh6=>?_) (λh6=>?_)
  .have ay:i<es.length:=by have h6:(i:Int)<(es.length:Int):=h6;omega
   refine af (qS ay) ?_;refine hF es[i] _ _ ?_;show CV.bI _=CV.bI _;rw[xm ay]
  .have eO:¬i<es.length:=by have h6:¬(i:Int)<(es.length:Int):=h6;omega
   show CV.bI _=CV.bI _;rw[abk om]
def bsR(es:List (ByteArray×Int))(s:ByteArray):CV:= .bI [.one (.ai (.val (.int .i64 (sL es s:Nat)))),.one (.ai (.val (.bool (CY es s))))]
theorem P1(es:List (ByteArray×Int))(hl:es.length<=2147483648)(s:ByteArray)(F:Nat)(hF:∀(e:ByteArray×Int)(m:Mem)(K:CV->Mem->Prop),K (am .i64 (mO e.1 s)) m->aq prog F [y8 e,ei s] m K){m:Mem}{K:CV->Mem->Prop}(h:K (bsR es s) m):aq prog 144 [tP 2 (es.map dy),ei s,.rv (.one (.fn F []))] m K:=by
 refine aT (K0:=λr _=>r=bsR es s) (aR func144 l144 (Tv es hl s F hF)) (by simp[tP,ei,CV.cY,CC.cY,RV.cY]) λr m1 hr=>?_
 subst hr;exact⟨_,cM.self rfl,h⟩
theorem XH(es:List (ByteArray×Int))(hl:es.length<=2147483648)(s:ByteArray)(F:Nat)(hF:∀(e:ByteArray×Int)(m:Mem)(K:CV->Mem->Prop),K (am .i64 (mO e.1 s)) m->aq prog F [y8 e,ei s] m K){m:Mem}{id:Nat}(hb:dp m id=some (.row 2 (aa (es.map dy)))){K:CV->Mem->Prop}(h:K (bsR es s) m):aq prog 144 [.rv (.one (.row id 2 0 none)),ei s,.rv (.one (.fn F []))] m K:=
 yE [id] (args0:=[tP 2 (es.map dy),ei s,.rv (.one (.fn F []))]) (P1 es hl s F hF (K:=λr _=>r=bsR es s) rfl) (.put (ta.dO id (es.map dy) (by simp[bh]) hb) (.eq rfl (.eq rfl .nil))) λr m1 hr=>by subst hr;exact⟨rfl,h⟩
def Tryz.EZ:Go.Shelf.Ren:=⟨λ|143=>159|219=>164|217=>166|225=>167|224=>168|267=>169|266=>171|314=>172|n=>n,λ|9=>9|3=>3|4=>4|5=>5|46=>130|146=>258|51=>188|n=>n,λ|1=>0|n=>n⟩
theorem Tryz.Tw:Go.Proofs.Lays.n143 prog Tryz.EZ:={
 mixed:=by kernel_rfl,
 f143:=func159.trans (congrArg some (by kernel_rfl)),
 f217:=func166.trans (congrArg some (by kernel_rfl)),
 f219:=func164.trans (congrArg some (by kernel_rfl)),
 f224:=func168.trans (congrArg some (by kernel_rfl)),
 f225:=func167.trans (congrArg some (by kernel_rfl)),
 f266:=func171.trans (congrArg some (by kernel_rfl)),
 f267:=func169.trans (congrArg some (by kernel_rfl)),
 f314:=func172.trans (congrArg some (by kernel_rfl)),
 t3:=underlying3,
 a3:=isAgg3,
 z3:=sizeOf3,
 v3:=zeroValue3,
 t4:=underlying4,
 a4:=isAgg4,
 z4:=sizeOf4,
 v4:=zeroValue4,
 t5:=underlying5,
 a5:=isAgg5,
 z5:=sizeOf5,
 v5:=zeroValue5,
 t9:=underlying9,
 a9:=isAgg9,
 z9:=sizeOf9,
 v9:=zeroValue9,
 t46:=underlying130,
 a46:=isAgg130,
 z46:=sizeOf130,
 v46:=zeroValue130,
 t51:=underlying188,
 a51:=isAgg188,
 z51:=sizeOf188,
 v51:=zeroValue188,
 t146:=underlying258,
 a146:=isAgg258,
 z146:=sizeOf258,
 v146:=zeroValue258,
 g1:=by kernel_rfl}
def Tryz.wN:Go.Shelf.Ren:=⟨λ|156=>73|165=>112|166=>113|169=>114|240=>139|241=>140|276=>155|277=>156|n=>n,λ|31=>92|9=>9|3=>3|4=>4|0=>0|20=>20|72=>200|76=>203|70=>198|37=>22|75=>202|127=>235|164=>245|5=>5|80=>205|n=>n,λ|n=>n⟩
theorem Tryz.Kb:Go.Proofs.Lays.n156 prog Tryz.wN:={
 mixed:=by kernel_rfl,
 f156:=func73.trans (congrArg some (by kernel_rfl)),
 f165:=func112.trans (congrArg some (by kernel_rfl)),
 f166:=func113.trans (congrArg some (by kernel_rfl)),
 f169:=func114.trans (congrArg some (by kernel_rfl)),
 f240:=func139.trans (congrArg some (by kernel_rfl)),
 f241:=func140.trans (congrArg some (by kernel_rfl)),
 f276:=func155.trans (congrArg some (by kernel_rfl)),
 f277:=func156.trans (congrArg some (by kernel_rfl)),
 t0:=underlying0,
 a0:=isAgg0,
 z0:=sizeOf0,
 v0:=zeroValue0,
 t3:=underlying3,
 a3:=isAgg3,
 z3:=sizeOf3,
 v3:=zeroValue3,
 t4:=underlying4,
 a4:=isAgg4,
 z4:=sizeOf4,
 v4:=zeroValue4,
 t9:=underlying9,
 a9:=isAgg9,
 z9:=sizeOf9,
 v9:=zeroValue9,
 t20:=underlying20,
 a20:=isAgg20,
 z20:=sizeOf20,
 v20:=zeroValue20,
 t31:=underlying92,
 a31:=isAgg92,
 z31:=sizeOf92,
 v31:=zeroValue92,
 t37:=underlying22,
 a37:=isAgg22,
 z37:=sizeOf22,
 v37:=zeroValue22,
 t70:=underlying198,
 a70:=isAgg198,
 z70:=sizeOf198,
 v70:=zeroValue198,
 t72:=underlying200,
 a72:=isAgg200,
 z72:=sizeOf200,
 v72:=zeroValue200,
 t75:=underlying202,
 a75:=isAgg202,
 z75:=sizeOf202,
 v75:=zeroValue202,
 t76:=underlying203,
 a76:=isAgg203,
 z76:=sizeOf203,
 v76:=zeroValue203,
 t127:=underlying235,
 a127:=isAgg235,
 z127:=sizeOf235,
 v127:=zeroValue235,
 t164:=underlying245,
 a164:=isAgg245,
 z164:=sizeOf245,
 v164:=zeroValue245}
theorem Tryz.Kc:Builder.Extra prog Tryz.wN:={
 sizeBuilder:=by kernel_rfl,
 liesBuilder:=by kernel_rfl,
 t5:=underlying5,
 a5:=isAgg5,
 z5:=sizeOf5,
 v5:=zeroValue5,
 infoByte:=by kernel_rfl,
 cellsByte:=by kernel_rfl,
 sizeByte:=by kernel_rfl,
 neB5:=by decide}
namespace bY
theorem Mn(s:ByteArray)(c:UInt8)(w:World):Calls prog 159 #[.string s,.string ⟨#[c]⟩] w λe w'=>e= .returned (.int .i64 (Lib.indexByte s.data.toList c))/\w'=w:=
 Any.strings_Index_one Tryz.Tw s c w
end bY
theorem Mo(a:Option Addr)(c:Nat)(sep:ByteArray)(w:World):Calls prog 73 #[.slice a 0 c,.string sep] w λe w'=>e= .returned (.string ⟨#[]⟩)/\w'=w:=
 Any.strings_Join_none Tryz.Kb Tryz.Kc a c sep w
theorem Tx(bk o c:Nat)(xs:List ByteArray)(sep:ByteArray)(w:World)(fg:∀(j:Nat)x,xs[j]? =some x->w.cell? ⟨bk,o+j,none⟩=some (.string x))(gV:bk<w.heap.size)(hN:xs.length<=140737488355328)(bF:xs.length<=c)(hlen:(Lib.join (xs.map (·.data.toList)) sep.data.toList).length<=140737488355328):
  Calls prog 73 #[.slice (some ⟨bk,o,none⟩) xs.length c,.string sep] w λe w'=>e= .returned (.string ⟨(Lib.join (xs.map (·.data.toList)) sep.data.toList).toArray⟩)/\Below w.heap.size w w':=
 Any.strings_Join Tryz.Kb Tryz.Kc bk o c xs sep w fg gV hN bF hlen
namespace bY
attribute [local go_sem] Oper.semAt_some
def iU(c:UInt8):List UInt8->List (List UInt8)
 | []=>[[]]
 |x::r=>if x==c then []::iU c r else match iU c r with
  | []=>[[x]]
  |p::ps=>(x::p)::ps
theorem vD{c:UInt8}:∀{l:List UInt8},Lib.indexByte l c= -1->iU c l=[l]
 | [],_=>rfl
 |x::r,h=>by
  simp only[Lib.indexByte]at h;split at h
  .cases h
  .rename_i hx;split at h
   .rename_i h2;have VK:Lib.indexByte r c= -1:=by simpa using h2
    simp only[iU,hx,vD VK,adz,if_false]
   .have:=Lib.indexByte_ge r c;omega
theorem BC{c:UInt8}:∀{l:List UInt8}{i:Nat},Lib.indexByte l c=i->i<l.length/\iU c l=l.take i::iU c (l.drop (i+1))
 | [],i,h=>by simp[Lib.indexByte]at h
 |x::r,i,h=>by
  simp only[Lib.indexByte]at h;split at h
  .rename_i hx;have:i=0:=om;subst this;simp[iU,hx]
  .rename_i hx;split at h
   .omega
   .cases i with
    |zero=>
     have:=Lib.indexByte_ge r c;rename_i h2;have:Lib.indexByte r c= -1:=om;simp[this]at h2
    |succ i=>
     have h3:Lib.indexByte r c=i:=om;obtain⟨h4,h5⟩:=BC h3;refine⟨by simpa using h4,?_⟩
     simp only[iU,hx,h5,adz,if_false];simp
def cZ(l:List UInt8):ByteArray:=⟨l.toArray⟩
def jl(c:UInt8)(s:ByteArray):List ByteArray:=(iU c s.data.toList).map cZ
end bY
end Go.Proofs.YtllkfpggoigbaaaGreatDoor
