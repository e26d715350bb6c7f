/- Part 15 of 39: what the law stands on. -/
import Derived.Test.YtodckkkbiidffaaGreatDoorT13
import Derived.Test.YtodckkkbiidffaaGreatDoorT14
import Derived.Carry
import Derived.ProofKit
set_option linter.unusedVariables false
set_option linter.unusedSimpArgs false
set_option linter.unnecessarySimpa false
set_option maxRecDepth 100000
set_option maxHeartbeats 64000000
namespace Go.AM
open Go.ChangeShapes Go.WideShapes Go.ChangeAt Go.RowKit
section
variable {H:Type} {enc:TypeId×Value->H} {P:Program} {W:World}
theorem OO{au:Nat}{t:TypeId}{v:Value}{agg:Bool}(ha:dO P t=some agg){d:Nat}{ls:List Lf}(hl:mQ P d t=some ls)(iQ:Value.okWide P W .any au t v):
  (agg=true->∃vs,v= .agg vs)/\(agg=false->v.oneCell'=true):=by
 cases d with
 |zero=>simp[mQ]at hl
 |succ d=>
  simp only[mQ]at hl;unfold dO at ha;unfold Value.okWide at iQ;split at hl
  .rename_i ht;rw[ht]at ha iQ;simp at ha;subst ha;refine⟨aI,fun _=>?_⟩
   simp only[Cell.okWide,ht,Cell.ok]at iQ;cases v<;>simp_all[Value.oneCell']
  .rename_i k ht;rw[ht]at ha iQ;simp at ha;subst ha;refine⟨aI,fun _=>?_⟩
   simp only[Cell.okWide,ht,Cell.ok]at iQ;cases v<;>simp_all[Value.oneCell']
  .rename_i ht;rw[ht]at ha iQ;simp at ha;subst ha;refine⟨aI,fun _=>?_⟩
   simp only[Cell.okWide,ht,Cell.ok]at iQ;cases v<;>simp_all[Value.oneCell']
  .rename_i e ht;rw[ht]at ha iQ;simp at ha;subst ha;refine⟨aI,fun _=>?_⟩
   simp only[Cell.okWide,ht,Cell.ok]at iQ;cases v<;>simp_all[Value.oneCell']
  .rename_i fs ht;rw[ht]at ha iQ;simp at ha;subst ha;obtain⟨cs,rfl,_⟩:=iQ;exact⟨fun _=>⟨cs,rfl⟩,aI⟩
  .rename_i n e ht;rw[ht]at ha iQ;simp at ha;subst ha;obtain⟨cs,rfl,_⟩:=iQ;exact⟨fun _=>⟨cs,rfl⟩,aI⟩
  .cases hl
structure Sh where
 agg:Bool
 ls:List Lf
def FJ(P:Program):List TypeId->Option (List Sh)
 | []=>some []
 |t::r=>match dO P t,mQ P 12 t,FJ P r with
  |some a,some ls,some r=>some (⟨a,ls⟩::r)
  |_,_,_=>none
inductive v8:List Sh->List (List Dt)->Prop
 |nil:v8 [] []
 |cons {s:Sh} {ds:List Dt} {r:List Sh} {l:List (List Dt)} (h:i7 s.ls ds) (hr:v8 r l):v8 (s::r) (ds::l)
def pl:List Sh->List (List Dt)->List CV
 |s::r,ds::l=>RN s.agg ds::pl r l
 |_,_=>[]
theorem wa(bk:Lx H){au b2:Nat}:∀(ts:List TypeId)(vs:List Value)(dw:List (DataW H))(ps:List MemPlace)(Iq:List Sh),FJ P ts=some Iq->DataW.TrodAll enc P W au (fun _=>true) true ts vs dw ps->
  (∀(j:Nat)t v,ts[j]? =some t->vs[j]? =some v->Value.okWide P W .any b2 t v)->
  ∃ot,v8 Iq ot/\vs.length=(pl Iq ot).length/\(∀(i:Nat)c,(pl Iq ot)[i]? =some c->∃v,vs[i]? =some v/\bV (FG W) W c v)/\Dt.fo ot<=jS bk.f dw
 | [],[],[],ps,Iq,hs,h,iQ=>by
  simp[FJ]at hs;subst hs;exact⟨[],.nil,rfl,by simp[pl],by simp[Dt.fo]⟩
 | [],_::_,_,_,_,_,h,_=>by cases h
 | [],[],_::_,_,_,_,h,_=>by cases h
 |_::_,[],_,_,_,_,h,_=>by cases h
 |_::_,_::_,[],_,_,_,h,_=>by cases h
 |t::ts,v::vs,d::dw,ps,Iq,hs,h,iQ=>by
  obtain⟨p,q,⟨fuel,h1⟩,h2,_⟩:=h;simp only[FJ]at hs;split at hs
  .rename_i a ls r ha hl hr;cases hs;obtain⟨ds,f1,r1,s1⟩:=B2 bk 12 t ls hl fuel _ _ h1;obtain⟨ot,f2,l2,d2,s2⟩:=wa bk ts vs dw q r hr h2 fun j t' v' ht hv=>iQ (j+1) t' v' (by simpa using ht) (by simpa using hv)
   obtain⟨g1,g2⟩:=OO ha hl (iQ 0 t v rfl rfl);refine⟨ds::ot,.cons f1 f2,by simp[pl,l2],fun i c hi=>?_,by simp only[Dt.fo,jS];simp only at s1;omega⟩
   cases i with
   |zero=>
    simp[pl]at hi;subst hi;exact⟨v,rfl,Ip r1 g1 g2⟩
   |succ i=>simpa using d2 i c (by simpa[pl]using hi)
  .cases hs
theorem wb(hl:laidOutB P=true){W':World}(hb:Below W.heap.size W W'):∀(ts:List TypeId)(vs:List Value)(dw:List (DataW H))(ps:List MemPlace),(ts.all fun t=>P.readableRec t&&decide (t<P.types.size))=true->
  DataW.TrodAll enc P W 0 (fun _=>true) true ts vs dw ps->(∀x,x∈ps->x.block<W.heap.size)->DataW.TrodAll enc P W' 0 (fun b=>decide (b<W.heap.size)) true ts vs dw ps
 | [],[],[],_,_,h,_=>h
 | [],_::_,_,_,_,h,_=>by cases h
 | [],[],_::_,_,_,h,_=>by cases h
 |_::_,[],_,_,_,h,_=>by cases h
 |_::_,_::_,[],_,_,h,_=>by cases h
 |t::ts,v::vs,d::dw,ps,ht,h,aE=>by obtain⟨p,q,h1,h2,rfl⟩:=h;simp only[List.all_cons,SD,decide_eq_true_eq]at ht;exact⟨p,q,Below.trod hl ht.1.1 ht.1.2 h1 hb (fun x hx=>aE x (by simp[hx])),wb hl hb ts vs dw q (by simpa using ht.2) h2 (fun x hx=>aE x (by simp[hx])),rfl⟩
theorem xA{f:Nat}{fn:Func}{s:ChangeSpec}{args:Array Value}{ds gs:List (DataW H)}{before:List MemPlace}{au:Nat}(bk:Lx H)(hl:laidOutB P=true){tb:TypeId}(Zu:P.underlying tb=some .bool)(Vx:fn.resultTypes= #[tb])(Nr:s.vars=[])(D4:∀ds:List (DataW H),ds.length=fn.params.size->s.fn H ds={results:=[.lit (.bool true)],args:=ds}){Iq:List Sh}(UX:FJ P fn.params.toList=some Iq)(Zv:(fn.params.toList.all fun t=>P.readableRec t&&decide (t<P.types.size))=true)(walk:∀ot,v8 Iq ot->Dt.fo ot<=jS bk.f ds->aq P f (pl Iq ot) [] fun r _=>r=ay true)(iz:∀(j:Nat)t v,fn.params[j]? =some t->args[j]? =some v->Value.okWide P W .any au t v)(hW:DataW.Whole enc P fn.params.toList s.vars false W args.toList ds gs before):
  Calls P f args W fun e W'=>∃v,e= .returned v/\s.post enc P fn false true false false W args v W':=by
 have XR:=hW;obtain⟨p,q,hA,hV,rfl,RQ,pZ⟩:=hW;obtain⟨ot,hf,hlen,bY,dn⟩:=wa bk fn.params.toList args.toList ds p Iq UX hA fun j t v ht hv=>iz j t v (by simpa using ht) (by simpa using hv)
 have xp:=mP (u:= .bool true) (walk ot hf dn) W args.toList hlen bY aI (fun r m h=>h)
 have aE:∀x,x∈p->x.block<W.heap.size:=fun x hx=>by simpa using XR.lt x (by simp[hx])
 rw[Nr]at hV;obtain⟨rfl,rfl⟩:=trodVars_none hV;have kj:ds.length=fn.params.size:=by
  have:∀(ts:List TypeId)(vs:List Value)(dw:List (DataW H))(ps:List MemPlace),DataW.TrodAll enc P W 0 (fun _=>true) true ts vs dw ps->dw.length=ts.length:=by
   intro ts
   induction ts with
   |nil=>intro vs dw ps h;obtain⟨_,rfl,_⟩:=trodAll_nil h;rfl
   |cons t ts ih=>
    intro vs dw ps h;obtain⟨v,P7,d,T0,a,b,rfl,rfl,rfl,h1,h2⟩:=trodAll_cons h;simp[ih _ _ _ h2]
  simpa using this _ _ _ _ hA
 refine xp.mono fun e W'⟨he,hb⟩=>?_
 subst he;have hs:s.fn H (ds++ [])={results:=[.lit (.bool true)],args:=ds}:=by rw[abi];exact D4 ds kj
 refine⟨_,rfl,ds,[],p++ [],[],p,[],XR,?_,?_,?_,hb.frame _,fun h=>by cases h⟩
 .rw[hs,Vx];exact trodAll_cons_mk (shut_bool Zu _) trodAll_mk0
 .rw[hs];exact wb hl hb _ _ _ _ Zv hA aE
 .rw[hs,Nr];rfl
end
end Go.AM
namespace Go.AM
section
variable {P:Program}
theorem aA.Ir{ρ:bG}{m:Mem}{w w':World}(hM:aA ρ m w)(hw:dW w w'):aA ρ m w'/\Ext ρ m w ρ m w':=by
 have hn:=hM.n;have g:hB ρ w ρ w':=⟨Pq _,fun _ _=>rfl,fun _ h=>h,fun b hb=>hw.heap b (hM.S b hb)⟩
 refine⟨⟨hn,fun b hb=>aad (hM.S b hb) hw.size,fun k hk=>⟨aad (hM.a7 k hk).1 hw.size,(hM.a7 k hk).2⟩,hM.inj,fun id b hb=>?_,fun id i j esz e ho bl=>?_⟩,
  ⟨Pq _,fun _ _=>rfl,fun _ h=>h,fun _ h=>.inl h,fun k hk=>.inr ⟨k,hk,rfl⟩,fun b hb _=>hw.heap b hb,hw.size,hw.os,hw.tape,hw.output⟩⟩
 .exact(hM.bk id b hb).cE g (by rw[hn];exact(Gf.1 hb).1) fun eG bl=>hw.heap _ (hM.a7 (.ap id) ⟨b,hb,eG,bl⟩).1
 .exact(hM.gh id i j esz e ho bl).cE g (hw.heap _ (hM.a7 (.sub id i j) ⟨⟨esz,e,ho⟩,bl⟩).1)
theorem FK{f:Nat}{args:List CV}{m:Mem}{K0 K:CV->Mem->Prop}(h:aq P f args [] K0)(ha:∀c,c∈args->c.c6=true)(hK:∀r m1,K0 r m1->(r= .rv (.one .aB)/\K (.rv (.one .aB)) m)\/
   ∃id esz elems,r= .rv (.one (.row id esz 0 none))/\m1[id]? =some (.row esz elems)/\(∀cs,cs∈elems->∀c,c∈cs->∃d,c= .aa d)/\
    (∀(i:Nat)cs(j:Nat)d,elems[i]? =some cs->cs[j]? =some (.aa d)->∃v,d= .val v)/\
    K (.rv (.one (.row m.length esz 0 none))) (m++ [.row esz elems])):aq P f args m K:=by
 refine⟨h.1,fun ρ w vs hM hl hd=>?_⟩
 let ρ0:bG:={n:=0,aP:=fun _=>⟨0,0,0,0⟩,S:=ρ.S}
 have kh:aA ρ0 [] w:={
  n:=rfl
  S:=hM.S
  a7:=fun k h=>by have:=h.fN;simp at this
  inj:=fun k k' h=>by have:=h.fN;simp at this
  bk:=fun id b h=>by simp at h
  gh:=fun id i j esz elems h=>by obtain⟨_,_,_,h,_⟩:=h;simp at h}
 refine(h.2 ρ0 w vs kh hl fun i c hi=>?_).mono fun e w'⟨v,r,m1,ρ1,he,hk,sJ,vd,hx⟩=>?_
 .obtain⟨v,hv,hd⟩:=hd i c hi;exact⟨v,hv,CV.pk (ρ:=ρ) (ρ':=ρ0) (ha c (NQ hi)) (fun _ h=>h) hd⟩
 .have jQ:∀k,¬Live ρ0 [] k:=fun k h=>by have:=h.fN;simp at this
  have u0:∀b,b<w.heap.size->w'.heap[b]? =w.heap[b]? :=fun b hb=>hx.frame b hb fun k hk=>absurd hk (jQ k)
  have Ly:dW w w':=by
   refine⟨?_,?_,?_,?_,?_⟩;all_goals first|exact hx.size|exact u0|exact hx.os|exact hx.tape|exact hx.output
  rcases hK r m1 hk with⟨rfl,gv⟩|⟨id,esz,elems,rfl,hb,Lz,iz,gv⟩
  .obtain⟨ad,rfl⟩:=vd;obtain⟨BX,mR⟩:=hM.Ir Ly;exact⟨_,_,m,ρ,he,gv,BX,⟨ad,rfl⟩,mR⟩
  .obtain⟨g1,g2,g3,g4,g5⟩:=sJ.bk id _ hb;obtain⟨q1,q2,q3,q4,q5,ad,rfl,qp⟩:=vd;have hn:=hM.n;let l:=ρ1.aP (.ap id);have eO:dV (ρ.push l) w' m.length (.row esz elems):=by
    have cz:(ρ.push l).aP (.ap m.length)=l:=by rw[<-hn];exact ρ.fQ l
    simp only[dV,cz];refine⟨g1,g2,g3,g4,fun hp=>?_⟩
    obtain⟨cur,bS,h7,h8⟩:=g5 hp;refine⟨cur,bS,h7,fun i cs j c hi hj=>?_⟩
    obtain⟨u,hu,b8⟩:=h8 i cs j c hi hj;obtain⟨d,rfl⟩:=Lz cs (NQ hi) c (NQ hj);obtain⟨v,rfl⟩:=iz i cs j d hi hj;refine⟨u,hu,?_⟩;cases b8 with
    |val _ ix=>exact cZ.val _ ix
    |no a=>exact .no a
   have Is:Bk.Ok (.row esz elems):=by intro i cs j c hi hj s e XS;obtain⟨d,hd⟩:=Lz cs (NQ hi) c (NQ hj);rw[hd]at XS;cases XS
   obtain⟨BX,mR⟩:=hM.M6 Ly (fun dD=>by
    obtain⟨bk,mL,eG,bl⟩:=dD;have RR:0<l.cap:=by rw[hn,SF (Pq _)]at mL;simp at mL;have:=bl ⟨esz,elems,mL.symm⟩;rwa [ρ.fQ l]at this
    have RS:Live ρ1 m1 (.ap id):=⟨_,hb,aI,fun _=>RR⟩
    refine⟨?_,(sJ.a7 _ RS).1⟩;rcases hx.a7 _ RS with h|⟨k0,h0,_⟩
    .exact h
    .exact absurd h0 (jQ k0)) eO Is
   refine⟨_,_,_,_,he,gv,BX,?_,mR⟩;have cz:(ρ.push l).aP (.ap m.length)=l:=by rw[<-hn];exact ρ.fQ l
   refine⟨by simp[bG.push,hn],?_⟩
   simp only[cz];exact⟨q2,q3,q4,q5,ad,rfl,qp⟩
end
theorem Oh.trans{n0:Nat}{ρ ρ1 ρ2:bG}{m m1 m2:Mem}(a:Oh n0 ρ m ρ1 m1)(b:Oh n0 ρ1 m1 ρ2 m2):Oh n0 ρ m ρ2 m2 where
 aP id h:=(b.aP id h).trans (a.aP id h)
 S x h:=b.S x (a.S x h)
 S' x h:=by
  rcases b.S' x h with h|⟨k,hk,he⟩
  .exact a.S' x h
  .obtain⟨k0,h0,e0⟩:=a.a7 k hk;exact .inr ⟨k0,h0,e0.trans he⟩
 a7 k h:=by obtain⟨k1,h1,e1⟩:=b.a7 k h;obtain⟨k0,h0,e0⟩:=a.a7 k1 h1;exact⟨k0,h0,e0.trans e1⟩
theorem View.trans{n0:Nat}{s s1 s2:St}(a:View n0 s s1)(b:View n0 s1 s2):View n0 s s2:=by
 refine⟨b.hn,b.len.trans a.len,fun ρ w hM=>?_⟩
 obtain⟨ρ1,sJ,Bv,vd⟩:=a.go ρ w hM;obtain⟨ρ2,BX,tt,A5⟩:=b.go ρ1 w sJ;refine⟨ρ2,BX,Bv.trans tt,fun i c' hi=>?_⟩
 obtain⟨c1,M8,h1⟩:=A5 i c' hi;obtain⟨c0,sH,h0⟩:=vd i c1 M8;exact⟨c0,sH,fun v hv=>h1 v (h0 v hv)⟩
def CC.aQ(σ:Nat->Nat):CC->CC
 | .ptr id j=>.ptr (σ id) j
 | .lC id e i j=>.lC (σ id) e i j
 | .row id e lo hi=>.row (σ id) e lo hi
 | .map id=>.map (σ id)
 | .fn f dJ=>.fn f (dJ.map σ)
 |c=>c
def kH.aQ(σ:Nat->Nat):kH->kH
 | .ap id=>.ap (σ id)
 | .sub id i j=>.sub (σ id) i j
inductive B3:Dt->Dt->Prop
 |refl (d:Dt):B3 d d
 |no (s:Nat):B3 (.val (.slice none 0 0)) (.sl s [])
 |sl (s:Nat) {es cH:List (List Dt)} (hl:es.length=cH.length) (hs:∀(i:Nat)cs ef,es[i]? =some cs->cH[i]? =some ef->cs.length=ef.length)
   (h:∀(i:Nat)cs ef(j:Nat)d d',es[i]? =some cs->cH[i]? =some ef->cs[j]? =some d->ef[j]? =some d'->B3 d d'):B3 (.sl s es) (.sl s cH)
theorem B3.jP{S:Nat->Prop}{w:World}{d d':Dt}(h:B3 d d'):∀{v:Value},cZ S w d v->cZ S w d' v:=by
 induction h with
 |refl d=>exact fun h=>h
 |no s=>
  intro v h;cases h with
  |val _ h=>simp[cG]at h
  |no a=>exact .nil s a 0 (Wi _)
 | @sl s es cH hl hs h ih=>
  intro v hd;cases hd with
  |nil _ a cap hc=>
   have:cH=[]:=Wg hl.symm;subst this;exact .nil s a cap hc
  |sl _ _ b off cap u hS pY bl dn hc hd=>
   have get:∀(i:Nat)ef,cH[i]? =some ef->∃cs,es[i]? =some cs:=fun i ef hi=>by have:=(Gf.1 hi).1;exact⟨_,sA om⟩
   have RT:∀(i:Nat)cs ef(j:Nat)d',es[i]? =some cs->cH[i]? =some ef->ef[j]? =some d'->∃d,cs[j]? =some d:=fun i cs ef j d' hi dP hj=>by have h1:=(Gf.1 hj).1;have h2:=hs i cs ef hi dP;exact⟨_,sA om⟩
   rw[hl];refine .sl s cH b off cap u hS om bl (fun ef hm=>?_) (fun i ef j d' hi hj=>?_) (fun i ef j d' hi hj=>?_)
   .obtain⟨i,hi⟩:=Un hm;obtain⟨cs,eY⟩:=get i ef hi;rw[<-hs i cs ef eY hi];exact dn cs (NQ eY)
   .obtain⟨cs,eY⟩:=get i ef hi;obtain⟨d,T1⟩:=RT i cs ef j d' eY hi hj;exact hc i cs j d eY T1
   .obtain⟨cs,eY⟩:=get i ef hi;obtain⟨d,T1⟩:=RT i cs ef j d' eY hi hj;exact ih i cs ef j d d' eY hi T1 hj (hd i cs j d eY T1)
inductive dj(m:Mem)(Z:Nat->Prop):Option Nat->CC->Dt->Prop
 |aa {p:Option Nat} (d:Dt):dj m Z p (.aa d) d
 |gh {id:Nat} (s:Nat) (e:List (List Dt)) (hz:Z id):dj m Z (some id) (.gh s e) (.sl s e)
 |aB {p:Option Nat} (s:Nat):dj m Z p .aB (.sl s [])
 |no {p:Option Nat}:dj m Z p .aB (.val (.slice none 0 0))
 |le {p:Option Nat} {d d':Dt} (h:B3 d d'):dj m Z p (.aa d) d'
 |row {p:Option Nat} (id esz lo:Nat) (hi:Option Nat) (elems:List (List CC)) (ds:List (List Dt)) (hz:Z id) (h:m[id]? =some (.row esz elems)) (hl:elems.length=ds.length)
   (hs:∀(i:Nat)cs es,elems[i]? =some cs->ds[i]? =some es->cs.length=es.length)
   (hd:∀(i:Nat)cs es(j:Nat)c d,elems[i]? =some cs->ds[i]? =some es->cs[j]? =some c->es[j]? =some d->dj m Z (some id) c d):dj m Z p (.row id esz lo hi) (.sl esz (cu ds lo hi))
inductive oQ(σ:Nat->Nat)(m:Mem)(Z:Nat->Prop):Option Nat->CC->CC->Prop
 |ar {p:Option Nat} (c:CC):oQ σ m Z p c .ar
 |aQ {p:Option Nat} (c:CC):oQ σ m Z p (c.aQ σ) c
 |eZ {p:Option Nat} {c:CC} {d:Dt} (h:dj m Z p c d):oQ σ m Z p c (.aa d)
 |un {p:Option Nat}:oQ σ m Z p (.aa (.val (.slice none 0 0))) .aB
 |hi {p:Option Nat} (id e lo:Nat) {esz:Nat} {elems:List (List CC)} (h:m[σ id]? =some (.row esz elems)):oQ σ m Z p (.row (σ id) e lo none) (.row id e lo (some elems.length))
 |lo {p:Option Nat} (id e lo:Nat) {esz:Nat} {elems:List (List CC)} (h:m[σ id]? =some (.row esz elems)):oQ σ m Z p (.row (σ id) e lo (some elems.length)) (.row id e lo none)
inductive u3(σ:Nat->Nat)(m:Mem)(Z:Nat->Prop):RV->RV->Prop
 |one {c c':CC} (h:oQ σ m Z none c c'):u3 σ m Z (.one c) (.one c')
 |agg {cs ef:List CC} (hl:cs.length=ef.length) (h:∀(i:Nat)c c',cs[i]? =some c->ef[i]? =some c'->oQ σ m Z none c c'):u3 σ m Z (.agg cs) (.agg ef)
inductive po(σ:Nat->Nat)(m:Mem)(Z:Nat->Prop):CV->CV->Prop
 |ar (v:CV):po σ m Z v .ar
 |undef:po σ m Z .undef .undef
 |rv {r r':RV} (h:u3 σ m Z r r'):po σ m Z (.rv r) (.rv r')
 |bF {rs FF:List RV} (hl:rs.length=FF.length) (h:∀(i:Nat)r r',rs[i]? =some r->FF[i]? =some r'->u3 σ m Z r r'):po σ m Z (.bF rs) (.bF FF)
inductive lA(σ:Nat->Nat)(m:Mem)(Z:Nat->Prop)(id:Nat):Bk->Bk->Prop
 |var {cs ef:List CC} (h:∀(i:Nat)c',ef[i]? =some c'->∃c,cs[i]? =some c/\oQ σ m Z (some id) c c'):lA σ m Z id (.var cs) (.var ef)
 |row (esz:Nat) {es cH:List (List CC)} (hl:es.length=cH.length) (hs:∀(i:Nat)cs ef,es[i]? =some cs->cH[i]? =some ef->cs.length=ef.length)
   (h:∀(i:Nat)cs ef(j:Nat)c c',es[i]? =some cs->cH[i]? =some ef->cs[j]? =some c->ef[j]? =some c'->oQ σ m Z (some id) c c'):lA σ m Z id (.row esz es) (.row esz cH)
 |mp {es cH:List ME} (hl:es.length=cH.length) (h:∀(i:Nat)e e',es[i]? =some e->cH[i]? =some e'->e'.key=e.key/\u3 σ m Z e.val e'.val):lA σ m Z id (.mp es) (.mp cH)
 |it (cur left:List (Value×Value)):lA σ m Z id (.it cur left) (.it cur left)
section
variable {n0:Nat} {σ:Nat->Nat} {Z:Nat->Prop} {ρ:bG} {m:Mem} {w:World}
def bG.vw(ρ:bG)(σ:Nat->Nat)(Z:Nat->Prop)(m:Mem)(n:Nat):bG:=
 {n:=n,aP:=fun k=>ρ.aP (k.aQ σ),S:=fun b=>ρ.S b\/∃k,Live ρ m k/\Z k.id/\(ρ.aP k).b=b}
theorem dj.jP(hM:aA ρ m w){pos:Option (Nat×Nat×Nat)}{p:Option Nat}{c:CC}{d:Dt}(h:dj m Z p c d)(hp:∀id,p=some id->∀s e,c= .gh s e->∃i j,pos=some (id,i,j)/\fg m id i j s e){v:Value}(hd:bq ρ w pos c v){n:Nat}:cZ (ρ.vw σ Z m n).S w d v:=by
 induction h generalizing pos v with
 |aa d=>exact hd.mono (fun _ h=>.inl h) (fun _ _=>rfl)
 |aB s=>
  obtain⟨a,rfl⟩:=hd;exact .nil s a 0 (Wi _)
 |no=>
  obtain⟨a,rfl⟩:=hd;exact .no a
 |le h=>exact(h.jP hd).mono (fun _ h=>.inl h) (fun _ _=>rfl)
 | @gh id s e hz=>
  obtain⟨i,j,y9,kY⟩:=hp id rfl s e rfl;obtain⟨iO,i',j',v7,q1,q2,a',rfl,q3⟩:=hd;rw[y9]at v7;simp only[Wm,Prod.mk.injEq]at v7;obtain⟨rfl,rfl,rfl⟩:=v7;rcases aap e.length with he|he
  .rw[Wg he];exact .nil s a' _ om
  .obtain⟨fH,zh,w1,w2,w3⟩:=hM.gh _ _ _ _ _ kY om;rw[q3 om];have Fs:Live ρ m (.sub id i j):=⟨⟨_,_,kY⟩,om⟩;have ky:∀(i2:Nat)cs(j2:Nat)d2,e[i2]? =some cs->cs[j2]? =some d2->∃u,w.cell? ⟨(ρ.aP (.sub id i j)).b,(ρ.aP (.sub id i j)).au+i2*s+j2,.none⟩=some u/\cZ (ρ.vw σ Z m n).S w d2 u:=by
    intro i2 cs j2 d2 d5 jm;obtain⟨u,hu,hd⟩:=w3 i2 cs j2 d2 d5 jm;exact⟨u,by rw[zh.cell];exact hu,hd.mono (fun _ h=>.inl h) (fun _ _=>rfl)⟩
   exact cZ.sl s e _ _ _ (fun i2 j2=>(w.cell? ⟨(ρ.aP (.sub id i j)).b,(ρ.aP (.sub id i j)).au+i2*s+j2,.none⟩).getD Go.undef) (.inr ⟨_,Fs,hz,rfl⟩) q1 q2 w2
    (fun i2 cs j2 d2 d5 jm=>by obtain⟨u,hu,_⟩:=ky i2 cs j2 d2 d5 jm;rw[hu];rfl)
    (fun i2 cs j2 d2 d5 jm=>by obtain⟨u,hu,hd⟩:=ky i2 cs j2 d2 d5 jm;rw[hu];exact hd)
 |row id esz lo hi elems ds hz hb hl hs H7 ih=>
  obtain⟨h1,h2,h3,h4,h5,a,rfl,ha⟩:=hd;obtain⟨g1,g2,g3,g4,g5⟩:=hM.bk id _ hb;have kj:ds.length=(ρ.aP (.ap id)).len:=om;have hlen:(cu ds lo hi).length=hi.getD (ρ.aP (.ap id)).len-lo:=by
   rw[<-kj];exact zw ds lo hi (by rw[kj];exact h2) (by rw[kj];exact h3)
  rw[<-hlen];rcases aap (cu ds lo hi).length with h0|dd
  .rw[h0,Wg h0];exact .nil esz a _ om
  .have gx:lo<(ρ.aP (.ap id)).cap:=om;obtain⟨cur,bS,dn,dK⟩:=g5 om;rw[ha gx];have key:∀(i:Nat)es(j:Nat)d,(cu ds lo hi)[i]? =some es->es[j]? =some d->∃u,w.cell? ⟨(ρ.aP (.ap id)).b,(ρ.aP (.ap id)).au+lo*esz+i*esz+j,.none⟩=some u/\cZ (ρ.vw σ Z m n).S w d u:=by
    intro i es j d dP hj;have d5:=pj ds lo hi i es dP;have aE:lo+i<elems.length:=by rw[hl];exact(Gf.1 d5).1
    have Hl:=sA aE;have dL:j<elems[lo+i].length:=by rw[hs _ _ _ Hl d5];exact(Gf.1 hj).1
    have Nq:=sA dL;obtain⟨u,hu,b8⟩:=dK _ _ _ _ Hl Nq;refine⟨u,?_,?_⟩
    .rw[bS.cell,<-hu];congr 1;rw[aas];omega
    .refine ih _ _ _ _ _ _ Hl d5 Nq hj ?_ b8;intro iO hid s e he;cases hid;exact⟨_,_,rfl,_,_,_,hb,Hl,by rw[Nq,he]⟩
   refine cZ.sl esz (cu ds lo hi) _ _ _ (fun i j=>(w.cell? ⟨(ρ.aP (.ap id)).b,(ρ.aP (.ap id)).au+lo*esz+i*esz+j,.none⟩).getD Go.undef) (.inr ⟨.ap id,⟨_,hb,aI,fun _=>om⟩,hz,rfl⟩) om om (fun es nD=>?_)
    (fun i cs j d dP hj=>by obtain⟨u,hu,_⟩:=key i cs j d dP hj;rw[hu];rfl)
    (fun i cs j d dP hj=>by obtain⟨u,hu,hd⟩:=key i cs j d dP hj;rw[hu];exact hd)
   obtain⟨i,dP⟩:=Un nD;have d5:=pj ds lo hi i es dP;have aE:lo+i<elems.length:=by rw[hl];exact(Gf.1 d5).1
   have Hl:=sA aE;rw[<-hs _ _ _ Hl d5];exact g4 _ (Wl aE)
theorem oQ.jP(hM:aA ρ m w){n:Nat}(fR:∀i,σ i<m.length->i<n){iO i j:Nat}{pos pos':Option (Nat×Nat×Nat)}{p:Option Nat}(XT:(pos=none/\pos'=none/\p=none)\/(pos=some (σ iO,i,j)/\pos'=some (iO,i,j)/\p=some (σ iO))){c c':CC}(h:oQ σ m Z p c c')(kY:∀s e,c= .gh s e->pos=some (σ iO,i,j)->fg m (σ iO) i j s e){v:Value}(hd:bq ρ w pos c v):bq (ρ.vw σ Z m n) w pos' c' v:=by
 cases h with
 |ar c=>exact hd.one
 |un=>
  cases(show cZ ρ.S w (.val (.slice none 0 0)) v from hd)with
  |val _ h=>simp[cG]at h
  |no a=>exact⟨a,rfl⟩
 |hi id e lo hb=>
  have hn:=hM.n;obtain⟨g1,_⟩:=hM.bk _ _ hb;obtain⟨h1,h2,h3,h4,h5,a,rfl,ha⟩:=hd;simp only[abu]at h2 h3;refine⟨fR id (by rw[<-hn];exact h1),?_⟩
  simp only[aax,bG.vw,kH.aQ,g1];exact⟨h2,h3,h4,h5,a,rfl,ha⟩
 |lo id e lo hb=>
  have hn:=hM.n;obtain⟨g1,_⟩:=hM.bk _ _ hb;obtain⟨h1,h2,h3,h4,h5,a,rfl,ha⟩:=hd;simp only[aax,g1]at h2 h3;refine⟨fR id (by rw[<-hn];exact h1),?_⟩
  simp only[abu,aax,bG.vw,kH.aQ,g1];exact⟨h2,h3,h4,h5,a,rfl,ha⟩
 |eZ h=>
  refine h.jP hM ?_ hd;intro id hid s e he;rcases XT with⟨_,_,rfl⟩|⟨rfl,rfl,rfl⟩
  .cases hid
  .cases hid;exact⟨i,j,rfl,kY s e he rfl⟩
 |aQ=>
  have hn:=hM.n;cases c'<;>simp only[CC.aQ,bq]at hd⊢
  case ar=>exact hd
  case aa=>exact hd.mono (fun _ h=>.inl h) (fun _ _=>rfl)
  case ptr id k=>exact⟨fR id (by rw[<-hn];exact hd.1),hd.2⟩
  case lC id _ _ _=>exact⟨fR id (by rw[<-hn];exact hd.1),hd.2⟩
  case oR=>
   obtain⟨b,off,h1,h2,h3⟩:=hd;refine⟨b,off,h1,.inl h2,fun j d hj=>?_⟩
   obtain⟨u,hu,b8⟩:=h3 j d hj;exact⟨u,hu,b8.mono (fun _ h=>.inl h) (fun _ _=>rfl)⟩
  case row id _ _ _=>exact⟨fR id (by rw[<-hn];exact hd.1),hd.2⟩
  case aB=>exact hd
  case map id=>exact⟨fR id (by rw[<-hn];exact hd.1),hd.2⟩
  case fn f dJ=>
   refine⟨fun id hid=>fR id (by rw[<-hn];exact hd.1 _ (Z5.2 ⟨id,hid,rfl⟩)),?_⟩
   rw[hd.2,aaS];rfl
  case gh s e=>
   obtain⟨a,b,c,h1,h2⟩:=hd;rcases XT with⟨rfl,rfl,rfl⟩|⟨rfl,rfl,rfl⟩
   .cases h1
   .cases h1;exact⟨iO,i,j,rfl,h2⟩
theorem oQ.FL(hM:aA ρ m w){n:Nat}(fR:∀i,σ i<m.length->i<n){c c':CC}(h:oQ σ m Z none c c'){v:Value}(hd:bq ρ w none c v):bq (ρ.vw σ Z m n) w none c' v:=
 oQ.jP (iO:=0) (i:=0) (j:=0) hM fR (.inl ⟨rfl,rfl,rfl⟩) h (fun _ _ _ h=>by cases h) hd
theorem u3.jP(hM:aA ρ m w){n:Nat}(fR:∀i,σ i<m.length->i<n){c c':RV}(h:u3 σ m Z c c'){v:Value}(hd:du ρ w c v):du (ρ.vw σ Z m n) w c' v:=by
 cases h with
 |one h=>exact h.FL hM fR hd
 |agg hl h=>
  obtain⟨vs,rfl,h1,h2⟩:=hd;refine⟨vs,rfl,h1.trans hl,fun i c' hi=>?_⟩
  rename_i cs ef;have aE:i<cs.length:=by rw[hl];exact(Gf.1 hi).1
  obtain⟨u,hu,hd⟩:=h2 i _ (sA aE);exact⟨u,hu,(h i _ _ (sA aE) hi).FL hM fR hd⟩
theorem po.jP(hM:aA ρ m w){n:Nat}(fR:∀i,σ i<m.length->i<n){c c':CV}(h:po σ m Z c c'){v:Value}(hd:bV ρ w c v):bV (ρ.vw σ Z m n) w c' v:=by
 cases h with
 |ar=>trivial
 |undef=>exact hd
 |rv h=>exact h.jP hM fR hd
 |bF hl h=>
  obtain⟨vs,rfl,h1,h2⟩:=hd;refine⟨vs,rfl,h1.trans hl,fun i c' hi=>?_⟩
  rename_i cs ef;have aE:i<cs.length:=by rw[hl];exact(Gf.1 hi).1
  obtain⟨u,hu,hd⟩:=h2 i _ (sA aE);exact⟨u,hu,(h i _ _ (sA aE) hi).jP hM fR hd⟩
theorem lA.jP(hM:aA ρ m w){n:Nat}(fR:∀i,σ i<m.length->i<n){id:Nat}{b b':Bk}(hb:m[σ id]? =some b)(h:lA σ m Z (σ id) b b'):dV (ρ.vw σ Z m n) w id b':=by
 have hd:=hM.bk _ _ hb;cases h with
 | @var cs ef h=>
  obtain⟨cur,hc,hd⟩:=hd;refine⟨cur,hc,fun j c' hj=>?_⟩
  obtain⟨c,uX,hv⟩:=h j c' hj;obtain⟨u,hu,b8⟩:=hd j c uX;refine⟨u,hu,?_⟩;cases hv with
  |ar c=>exact b8.one
  |aQ=>exact oQ.FL hM fR (.aQ c') b8
  |un=>exact oQ.FL hM fR .un b8
  |hi iO e lo qn=>exact oQ.FL hM fR (.hi iO e lo qn) b8
  |lo iO e lo qn=>exact oQ.FL hM fR (.lo iO e lo qn) b8
  |eZ hf=>exact hf.jP hM (fun iO _ s e he=>by rw[he]at b8;obtain⟨_,_,_,hx,_⟩:=b8;cases hx) b8
 | @row esz es cH hl hs h=>
  obtain⟨h2,h3,h4,h5,bS⟩:=hd;refine⟨hl.symm.trans h2,h3,h4,fun ef HU=>?_,fun dd=>?_⟩
  .obtain⟨i,hi⟩:=Un HU;have aE:i<es.length:=by rw[hl];exact(Gf.1 hi).1
   rw[<-hs i _ _ (sA aE) hi];exact h5 _ (Wl aE)
  .obtain⟨cur,hc,h1,h6⟩:=bS dd;refine⟨cur,hc,h1,fun i ef j c' hi hj=>?_⟩
   have aE:i<es.length:=by rw[hl];exact(Gf.1 hi).1
   have dP:=sA aE;have dL:j<es[i].length:=by rw[hs i _ _ dP hi];exact(Gf.1 hj).1
   have uX:=sA dL;obtain⟨u,hu,b8⟩:=h6 _ _ _ _ dP uX;refine⟨u,hu,oQ.jP (iO:=id) (i:=i) (j:=j) hM fR (.inr ⟨rfl,rfl,rfl⟩) (h i _ _ j _ _ dP hi uX hj) (fun s e he _=>⟨_,_,_,hb,dP,by rw[uX,he]⟩) b8⟩
 |it cur left=>
  obtain⟨mb,seen,ck,cH,h2,h3,h4,h5,h6⟩:=hd;exact⟨mb,seen,ck,cH,h2,h3,.inl h4,h5,h6⟩
 | @mp es cH hl h=>
  obtain⟨ae,clock,hc,h1,h2⟩:=hd;refine⟨ae,clock,hc,h1.trans hl,fun i e' hi=>?_⟩
  have aE:i<es.length:=by rw[hl];exact(Gf.1 hi).1
  obtain⟨RU,RW,hk,uY⟩:=h2 i _ (sA aE);obtain⟨gv,hv⟩:=h i _ _ (sA aE) hi;exact⟨RU,RW,hk.trans gv.symm,hv.jP hM fR uY⟩
theorem xD{m':Mem}(hM:aA ρ m w)(i3:∀i,i<n0->σ i=i)(qj:∀i j,i<m'.length->j<m'.length->σ i=σ j->i=j)(fR:∀i,σ i<m.length->i<m'.length)(my:∀(i:Nat)b',m'[i]? =some b'->b'= .aO\/(¬Z (σ i)/\∃b,m[σ i]? =some b/\lA σ m Z (σ i) b b')):
  aA (ρ.vw σ Z m m'.length) m' w/\Oh n0 ρ m (ρ.vw σ Z m m'.length) m'/\∀k,Live (ρ.vw σ Z m m'.length) m' k->Live ρ m (k.aQ σ):=by
 have kY:∀{id i j s1 e},fg m' id i j s1 e->¬Z (σ id)/\fg m (σ id) i j s1 e:=by
  rintro id i j s1 e ⟨cH,j9,ef,qn,dP,uX⟩;rcases my id _ qn with h|⟨hz,b,hb,hv⟩
  .cases h
  .cases hv with
   | @row _ es _ hl hs h=>
    have aE:i<es.length:=by rw[hl];exact(Gf.1 dP).1
    have hi:=sA aE;have dL:j<es[i].length:=by rw[hs i _ _ hi dP];exact(Gf.1 uX).1
    have hj:=sA dL;have hv:=h i _ _ j _ _ hi dP hj uX;have hc:es[i][j]= .gh s1 e:=by
     generalize es[i][j]=c at hv;cases hv with
     |aQ=>rfl
    exact⟨hz,_,_,_,hb,hi,by rw[hj,hc]⟩
 have cP:∀k,Live (ρ.vw σ Z m m'.length) m' k->¬Z (σ k.id)/\Live ρ m (k.aQ σ):=by
  intro k hk;cases k with
  |ap k=>
   obtain⟨b',qn,pZ,bl⟩:=hk;rcases my k _ qn with h|⟨hz,b,hb,hv⟩
   .exact absurd h pZ
   .refine⟨hz,b,hb,?_,?_⟩
    .rintro rfl;cases hv
    .rintro⟨esz,es,rfl⟩;cases hv with
     |row=>exact bl ⟨_,_,rfl⟩
  |sub k i j=>
   obtain⟨⟨esz,e,ho⟩,bl⟩:=hk;exact⟨(kY ho).1,⟨_,_,(kY ho).2⟩,bl⟩
 refine⟨⟨rfl,?_,fun k hk=>?_,fun k k' hk gv he=>?_,fun id b' qn=>?_,fun id i j esz e ho bl=>?_⟩,⟨fun id hid=>?_,fun b h=>.inl h,?_,fun k hk=>⟨_,(cP k hk).2,rfl⟩⟩,fun k hk=>(cP k hk).2⟩
 .rintro b (hb|⟨k,hk,_,rfl⟩)
  .exact hM.S b hb
  .exact(hM.a7 k hk).1
 .obtain⟨hz,hl⟩:=cP k hk;refine⟨(hM.a7 _ hl).1,?_⟩;rintro(hb|⟨k0,Ba,A6,he⟩)
  .exact(hM.a7 _ hl).2 hb
  .have:=hM.inj k0 (k.aQ σ) Ba hl he;subst this;apply hz;cases k<;>exact A6
 .have y8:=hk.fN;have Vy:=gv.fN;have:=hM.inj _ _ (cP k hk).2 (cP k' gv).2 he;cases k<;>cases k'<;>simp only[kH.aQ,kH.ap.injEq,kH.sub.injEq,kH.id,reduceCtorEq]at this y8 Vy
  .rw[qj _ _ y8 Vy this]
  .obtain⟨h1,rfl,rfl⟩:=this;rw[qj _ _ y8 Vy h1]
 .rcases my id b' qn with rfl|⟨hz,b,hb,hv⟩
  .trivial
  .exact lA.jP hM fR hb hv
 .obtain⟨cur,hc,h1,h2,h3⟩:=hM.gh _ _ _ _ _ (kY ho).2 bl;refine⟨cur,hc,h1,h2,fun i2 cs j2 d d5 jm=>?_⟩
  obtain⟨u,hu,b8⟩:=h3 i2 cs j2 d d5 jm;exact⟨u,hu,b8.mono (fun _ h=>.inl h) (fun _ _=>rfl)⟩
 .show ρ.aP (.ap (σ id))=_;rw[i3 id hid]
 .rintro b (hb|⟨k,hk,_,he⟩)
  .exact .inl hb
  .exact .inr ⟨k,hk,he⟩
theorem View.Zw{s s':St}(σ:Nat->Nat)(Z:Nat->Prop)(Lc:n0<=s'.mem.length)(hlen:s'.aV.length=s.aV.length)(i3:∀i,i<n0->σ i=i)(qj:∀i j,i<s'.mem.length->j<s'.mem.length->σ i=σ j->i=j)(fR:∀i,σ i<s.mem.length->i<s'.mem.length)(zB:∀(i:Nat)c',s'.aV[i]? =some c'->∃c,s.aV[i]? =some c/\po σ s.mem Z c c')(my:∀(i:Nat)b',s'.mem[i]? =some b'->b'= .aO\/(¬Z (σ i)/\∃b,s.mem[σ i]? =some b/\lA σ s.mem Z (σ i) b b')):View n0 s s':=by
 refine⟨Lc,hlen,fun ρ w hM=>?_⟩
 obtain⟨h1,h2,_⟩:=xD (n0:=n0) (σ:=σ) (Z:=Z) hM i3 qj fR my;refine⟨_,h1,h2,fun i c' hi=>?_⟩
 obtain⟨c,hc,hv⟩:=zB i c' hi;exact⟨c,hc,fun v hd=>hv.jP hM fR hd⟩
end
section
variable {P:Program} {n0:Nat} {σ:Nat->Nat} {Z:Nat->Prop} {ρ:bG} {m:Mem} {w:World}
def sg(l:List Nat)(n:Nat)(i:Nat):Nat:=match cR l i with|some x=>x|none=>n+(i-l.length)
def bz:List Nat->Nat->Bool
 | [],_=>false
 |x::r,k=>Nat.beq x k||bz r k
def fI:List Nat->Bool
 | []=>true
 |x::r=>!(bz r x)&&fI r
def eR(n:Nat):List Nat->Bool
 | []=>true
 |x::r=>Nat.blt x n&&eR n r
def FM(l:List Nat):Nat->Bool
 |0=>true
 |k+1=>(match cR l k with|some x=>Nat.beq x k|none=>false)&&FM l k
theorem tL:∀{l:List Nat}{k:Nat},bz l k=true↔k∈l
 | [],k=>by simp[bz]
 |x::r,k=>by
  simp only[bz,aaX,aaf,tL];constructor
  .rintro(h|h)
   .exact .inl (Wh h).symm
   .exact .inr h
  .rintro(rfl|h)
   .exact .inl (abV _)
   .exact .inr h
theorem tM:∀{l:List Nat},fI l=true->∀i j:Nat,i<l.length->j<l.length->l[i]? =l[j]? ->i=j
 | [],_,i,j,hi,_,_=>by simp at hi
 |x::r,h,i,j,hi,hj,he=>by
  simp only[fI,SD,aaT]at h;have hx:∀k:Nat,r[k]? ≠some x:=fun k hk=>by have:=tL.2 (NQ hk);rw[h.1]at this;cases this
  cases i with
  |zero=>
   cases j with
   |zero=>rfl
   |succ j=>simp at he;exact absurd he.symm (hx j)
  |succ i=>
   cases j with
   |zero=>simp at he;exact absurd he (hx i)
   |succ j=>
    simp at he hi hj;rw[tM h.2 i j hi hj he]
theorem ns{n:Nat}:∀{l:List Nat},eR n l=true->∀x,x∈l->x<n
 | [],_,x,hx=>by simp at hx
 |y::r,h,x,hx=>by
  simp only[eR,SD]at h;rcases aaf.1 hx with rfl|hx
  .exact V5 h.1
  .exact ns h.2 x hx
theorem zC{l:List Nat}:∀{k:Nat},FM l k=true->∀i,i<k->l[i]? =some i
 |0,_,i,hi=>om
 |k+1,h,i,hi=>by
  simp only[FM,SD]at h;rcases Wj i k with h1|h1
  .exact zC h.2 i h1
  .have:i=k:=om;subst this;rw[<-aU];cases hn:cR l i with
   |none=>rw[hn]at h;simp at h
   |some x=>rw[hn]at h;simp only at h;rw[Wh h.1]
theorem rS{l:List Nat}{n i:Nat}(h:i<l.length):sg l n i=l[i]:=by simp[sg,aU,sA h]
theorem rT{l:List Nat}{n i:Nat}(h:l.length<=i):sg l n i=n+(i-l.length):=by simp[sg,aU,aae h]
theorem It{l:List Nat}{n:Nat}(hd:fI l=true)(hl:eR n l=true){i j:Nat}(h:sg l n i=sg l n j):i=j:=by
 rcases Wj i l.length with hi|hi<;>rcases Wj j l.length with hj|hj
 .rw[rS hi,rS hj]at h;exact tM hd i j hi hj (by rw[sA hi,sA hj,h])
 .rw[rS hi,rT hj]at h;have:=ns hl _ (Wl hi);omega
 .rw[rT hi,rS hj]at h;have:=ns hl _ (Wl hj);omega
 .rw[rT hi,rT hj]at h;omega
def RV.aQ(σ:Nat->Nat):RV->RV
 | .one c=>.one (c.aQ σ)
 | .agg cs=>.agg (cs.map (CC.aQ σ))
def CV.aQ(σ:Nat->Nat):CV->CV
 | .rv r=>.rv (r.aQ σ)
 | .bF rs=>.bF (rs.map (RV.aQ σ))
 | .ar=>.ar
 | .undef=>.undef
def Bk.aQ(σ:Nat->Nat):Bk->Bk
 | .aO=>.aO
 | .var cs=>.var (cs.map (CC.aQ σ))
 | .row s es=>.row s (es.map fun cs=>cs.map (CC.aQ σ))
 | .mp es=>.mp (es.map fun e=>⟨e.key,e.val.aQ σ⟩)
 | .it cur left=>.it cur left
theorem u3.aQ(r:RV):u3 σ m Z (r.aQ σ) r:=by
 cases r with
 |one c=>exact .one (.aQ c)
 |agg cs=>
  refine .agg aI fun i c c' h h'=>?_
  rw[NO,h']at h;cases h;exact .aQ c'
theorem po.FN(v:CV):po σ m Z (v.aQ σ) v:=by
 cases v with
 |rv r=>exact .rv (.aQ r)
 |bF rs=>
  refine .bF aI fun i c c' h h'=>?_
  rw[NO,h']at h;cases h;exact .aQ c'
 |ar=>exact .ar _
 |undef=>exact .undef
theorem po.aQ{v v':CV}(h:v'.aQ σ=v):po σ m Z v v':=h▸ .FN v'
theorem lA.FN{id:Nat}(b:Bk)(hb:b≠.aO):lA σ m Z id (b.aQ σ) b:=by
 cases b with
 |aO=>exact absurd rfl hb
 |var cs=>
  refine .var fun i c' h=>⟨c'.aQ σ,by rw[NO,h];rfl,.aQ c'⟩
 |row s es=>
  refine .row s aI (fun i cs ef h h'=>?_) fun i cs ef j c c' h h' g g'=>?_
  .rw[NO,h']at h;cases h;simp
  .rw[NO,h']at h;cases h;rw[NO,g']at g;cases g;exact .aQ c'
 |mp es=>
  refine .mp aI fun i e e' h h'=>?_
  rw[NO,h']at h;cases h;exact⟨rfl,.aQ _⟩
 |it cur left=>exact .it cur left
def af(ds:List (List Dt)):List (List CC):=ds.map fun es=>es.map .aa
theorem db(ds:List (List Dt)):(af ds).map (fun cs=>cs.map (CC.aQ σ))=af ds:=by simp[af,CC.aQ]
theorem Bk.jn(s:Nat)(ds:List (List Dt)):(Bk.row s (af ds)).aQ σ= .row s (af ds):=by simp only[Bk.aQ,db]
theorem dj.dX{p:Option Nat}{id esz:Nat}{ds:List (List Dt)}(hz:Z id)(h:m[id]? =some (.row esz (af ds)))(lo:Nat)(hi:Option Nat):dj m Z p (.row id esz lo hi) (.sl esz (cu ds lo hi)):=by
 refine .row id esz lo hi _ ds hz h (by simp[af]) (fun i cs es h1 h2=>?_) fun i cs es j c d h1 h2 h3 h4=>?_
 .simp only[af,NO,h2,Wn,Wm]at h1;subst h1;simp
 .simp only[af,NO,h2,Wn,Wm]at h1;subst h1;simp only[NO,h4,Wn,Wm]at h3;subst h3;exact .aa d
inductive gU(σ:Nat->Nat)(m:Mem)(Z:Nat->Prop):List CV->List CV->Prop
 |nil:gU σ m Z [] []
 |ar {v:CV} {e e':List CV} (h:gU σ m Z e e'):gU σ m Z (v::e) (.ar::e')
 |put {v v':CV} {e e':List CV} (hv:po σ m Z v v') (h:gU σ m Z e e'):gU σ m Z (v::e) (v'::e')
theorem gU.len{e e':List CV}(h:gU σ m Z e e'):e'.length=e.length:=by
 induction h<;>simp[*]
theorem gU.get{e e':List CV}(h:gU σ m Z e e'):∀(i:Nat)c',e'[i]? =some c'->∃c,e[i]? =some c/\po σ m Z c c':=by
 induction h with
 |nil=>intro i v h;simp at h
 |ar h ih=>
  intro i v hv;cases i with
  |zero=>simp at hv;subst hv;exact⟨_,rfl,.ar _⟩
  |succ i=>simpa using ih i v (by simpa using hv)
 |put hx h ih=>
  intro i v hv;cases i with
  |zero=>simp at hv;subst hv;exact⟨_,rfl,hx⟩
  |succ i=>simpa using ih i v (by simpa using hv)
theorem gU.eq{v v':CV}{e e':List CV}(hv:v'.aQ σ=v)(h:gU σ m Z e e'):gU σ m Z (v::e) (v'::e'):= .put (.aQ hv) h
inductive eS(σ:Nat->Nat)(m:Mem)(Z:Nat->Prop):Nat->Mem->Prop
 |nil (k:Nat):eS σ m Z k []
 |aO {k:Nat} {r:Mem} (h:eS σ m Z (k+1) r):eS σ m Z k (.aO::r)
 |put {k:Nat} {b b':Bk} {r:Mem} (hz:¬Z (σ k)) (hb:cR m (σ k)=some b) (hv:lA σ m Z (σ k) b b') (h:eS σ m Z (k+1) r):eS σ m Z k (b'::r)
theorem eS.get{k:Nat}{m':Mem}(h:eS σ m Z k m'):∀(i:Nat)b',m'[i]? =some b'->b'= .aO\/(¬Z (σ (k+i))/\∃b,m[σ (k+i)]? =some b/\lA σ m Z (σ (k+i)) b b'):=by
 induction h with
 |nil k=>intro i b' h;simp at h
 | @aO k r h ih=>
  intro i b' hi;cases i with
  |zero=>simp at hi;exact .inl hi.symm
  |succ i=>
   have:=ih i b' (by simpa using hi)
   rwa [show k+1+i=k+(i+1) by omega]at this
 | @put k b b1 r hz hb hv h ih=>
  intro i b' hi;cases i with
  |zero=>simp at hi;subst hi;exact .inr ⟨hz,_,by rw[<-aU];exact hb,hv⟩
  |succ i=>
   have:=ih i b' (by simpa using hi)
   rwa [show k+1+i=k+(i+1) by omega]at this
theorem View.of{e e':List CV}{m m':Mem}(n:Nat)(l F:List Nat)(hn:m.length=n)(hl:m'.length=l.length)(h0:Nat.ble n0 l.length=true)(hi:FM l n0=true)(hd:fI l=true)(ha:eR n l=true)(zB:gU (sg l n) m (fun k=>bz F k=true) e e')(my:eS (sg l n) m (fun k=>bz F k=true) 0 m'):View n0 ⟨e,m⟩ ⟨e',m'⟩:=by
 have h0':n0<=l.length:=V5 h0;refine View.Zw (sg l n) _ (by simp only;omega) zB.len (fun i aE=>?_) (fun i j _ _ h=>It hd ha h) (fun i aE=>?_) (fun i c' h=>zB.get i c' h) (fun i b' h=>by have:=my.get i b' h;simpa using this)
 .rw[rS om];have:=zC hi i aE;rw[sA om]at this;simpa using this
 .rcases Wj i l.length with h|h
  .simp only;omega
  .rw[rT h]at aE;simp only at aE;omega
theorem bK{f:Nat}{args:List CV}{m:Mem}{K0 K:CV->Mem->Prop}(h:aq P f args m K0)(hK:∀r m1,K0 r m1->∃r' m',View m.length ⟨[r],m1⟩ ⟨[r'],m'⟩/\K r' m'):aq P f args m K:=by
 refine⟨h.1,fun ρ w vs hM hl hd=>?_⟩
 refine(h.2 ρ w vs hM hl hd).mono fun e w'⟨v,r,m1,ρ1,he,hk,sJ,vd,hx⟩=>?_
 obtain⟨r',m',hv,gv⟩:=hK r m1 hk;obtain⟨ρ',kJ,hc,uY⟩:=hv.go ρ1 w' sJ;have hn:=hM.n;refine⟨v,r',m',ρ',he,gv,kJ,?_,⟨by rw[hn,kJ.n];exact hv.hn,fun id hid=>(hc.aP id (by rw[<-hn];exact hid)).trans (hx.aP id hid),fun b hb=>hc.S b (hx.S b hb),fun b hb=>?_,fun k hk=>?_,hx.frame,hx.size,hx.os,hx.tape,hx.output⟩⟩
 .obtain⟨c,oX,H7⟩:=uY 0 r' rfl;simp at oX;subst oX;exact H7 v vd
 .rcases hc.S' b hb with h|⟨k,hk,rfl⟩
  .exact hx.S' b h
  .exact .inr (hx.a7 k hk)
 .obtain⟨k0,h0,e0⟩:=hc.a7 k hk;rw[<-e0];exact hx.a7 k0 h0
def pq(σ:Nat->Nat):Mem->Mem
 | []=>[]
 |b::r=>b.aQ σ::pq σ r
theorem xE(σ:Nat->Nat):∀m,pq σ m=m.map (Bk.aQ σ)
 | []=>rfl
 |b::r=>by simp[pq,xE σ r]
def cU:Mem->List Nat->Mem->Mem
 |m,[],ms=>gL m ms
 |m,_::_,[]=>m
 |m,id::l,b::ms=>cU (aZ m id b) l ms
theorem wd:∀(l:List Nat)(m ms:Mem),l.length<=ms.length->(cU m l ms).length=m.length+(ms.length-l.length)
 | [],m,ms,_=>by simp[cU,cf]
 |_::l,m,[],h=>by simp at h
 |id::l,m,b::ms,h=>by simp at h;rw[cU,wd l _ _ h,bg];simp
theorem qB:∀(l:List Nat)(m ms:Mem)(j:Nat),j<m.length->j∉l->(cU m l ms)[j]? =m[j]?
 | [],m,ms,j,hj,_=>by simp[cU,cf,Tz hj]
 |_::l,m,[],j,_,_=>by simp[cU]
 |id::l,m,b::ms,j,hj,hn=>by
  simp at hn;rw[cU,qB l _ _ j (by rw[bg];simpa using hj) hn.2,bg,Wf (fun h=>hn.1 h.symm)]
theorem we:∀(l:List Nat)(m ms:Mem),fI l=true->eR m.length l=true->l.length<=ms.length->∀(i:Nat),i<ms.length->(cU m l ms)[sg l m.length i]? =ms[i]?
 | [],m,ms,_,_,_,i,hi=>by simp only[cU,cf,sg,cR,aaq,aa9];rw[SF om];simp
 |_::l,m,[],_,_,h,_,_=>by simp at h
 |id::l,m,b::ms,hd,ha,h,i,hi=>by
  simp only[fI,SD,aaT]at hd;simp only[eR,SD]at ha;simp at h hi;have hlen:(aZ m id b).length=m.length:=by rw[bg];simp
  have hid:id<m.length:=V5 ha.1;cases i with
  |zero=>
   rw[cU];show(cU (aZ m id b) l ms)[id]? =some b;rw[qB l _ _ id (by rw[hlen];exact hid) (fun h=>by rw[tL.2 h]at hd;cases hd.1),bg]
   simp[hid]
  |succ i=>
   have:=we l (aZ m id b) ms hd.2 (by rw[hlen];exact ha.2) h i om
   rw[hlen]at this;rw[cU];have e:sg (id::l) m.length (i+1)=sg l m.length i:=by simp[sg,cR]
   rw[e,this];simp
theorem bq.pos{ρ:bG}{w:World}{pos pos':Option (Nat×Nat×Nat)}{c:CC}{v:Value}(hc:∀s e,c≠.gh s e)(h:bq ρ w pos c v):bq ρ w pos' c v:=by
 cases c<;>simp only[bq]at h⊢
 case gh=>exact absurd rfl (hc _ _)
 all_goals exact h
theorem bq.Vz{ρ ρ':bG}{w:World}{pos:Option (Nat×Nat×Nat)}(hn:ρ.n<=ρ'.n)(cz:∀id,id<ρ.n->ρ'.aP (.ap id)=ρ.aP (.ap id))(qk:∀id i j,pos=some (id,i,j)->ρ'.aP (.sub id i j)=ρ.aP (.sub id i j))(hS:∀b,ρ.S b->ρ'.S b){w':World}(j8:∀b,ρ.S b->w'.heap[b]? =w.heap[b]?){c:CC}{v:Value}(h:bq ρ w pos c v):bq ρ' w' pos c v:=by
 let ρ1:bG:={n:=ρ'.n,aP:=fun k=>match k with| .ap id=>ρ'.aP (.ap id)|k=>ρ.aP k,S:=ρ'.S}
 have g:hB ρ w ρ1 w':=⟨hn,fun k hk=>by
  cases k with
  |ap id=>exact cz id hk
  |sub id i j=>rfl,hS,j8⟩
 by_cases hc:∃s e,c= .gh s e
 .obtain⟨esz,elems,rfl⟩:=hc;obtain⟨id,i,j,dd,hr⟩:=h;refine⟨id,i,j,dd,?_⟩;rw[qk id i j dd];exact hr
 .have hc:∀s e,c≠.gh s e:=fun s e h=>hc ⟨s,e,h⟩
  have h1:=bq.pos (pos':=pos) hc (bq.cE g aI (bq.pos (pos':=none) hc h));cases c<;>simp only[bq]at h1⊢
  case gh=>exact absurd rfl (hc _ _)
  all_goals exact h1
theorem bq.aQ{ρ ρ':bG}{τ:Nat->Nat}{w:World}{pos pos':Option (Nat×Nat×Nat)}(hτ:∀i,i<ρ.n->τ i<ρ'.n)(fu:∀i,i<ρ.n->ρ'.aP (.ap (τ i))=ρ.aP (.ap i))(hS:∀b,ρ.S b->ρ'.S b)(dd:∀id i j,pos=some (id,i,j)->pos'=some (τ id,i,j)/\ρ'.aP (.sub (τ id) i j)=ρ.aP (.sub id i j)){c:CC}{v:Value}(h:bq ρ w pos c v):bq ρ' w pos' (c.aQ τ) v:=by
 cases c<;>simp only[bq,CC.aQ]at h⊢
 case ar=>exact h
 case aa=>exact h.mono hS (fun _ _=>rfl)
 case ptr id _=>rw[fu id h.1];exact⟨hτ id h.1,h.2⟩
 case lC id _ _ _=>rw[fu id h.1];exact⟨hτ id h.1,h.2⟩
 case oR=>
  obtain⟨b,off,h1,h2,h3⟩:=h;refine⟨b,off,h1,hS _ h2,fun j d hj=>?_⟩
  obtain⟨u,hu,b8⟩:=h3 j d hj;exact⟨u,hu,b8.mono hS (fun _ _=>rfl)⟩
 case row id _ _ _=>rw[fu id h.1];exact⟨hτ id h.1,h.2⟩
 case aB=>exact h
 case map id=>rw[fu id h.1];exact⟨hτ id h.1,h.2⟩
 case fn f dJ=>
  refine⟨fun id hid=>?_,?_⟩
  .obtain⟨i,hi,rfl⟩:=Z5.1 hid;exact hτ i (h.1 i hi)
  .rw[h.2];congr 2;rw[aaS];exact abe fun id hid=>by simp only[Function.comp];rw[fu id (h.1 id hid)]
 case gh s e=>
  obtain⟨a,b,c,h1,h2⟩:=h;obtain⟨h3,h4⟩:=dd a b c h1;refine⟨τ a,b,c,h3,?_⟩;rw[h4];exact h2
theorem du.aQ{ρ ρ':bG}{τ:Nat->Nat}{w:World}(hτ:∀i,i<ρ.n->τ i<ρ'.n)(fu:∀i,i<ρ.n->ρ'.aP (.ap (τ i))=ρ.aP (.ap i))(hS:∀b,ρ.S b->ρ'.S b){c:RV}{v:Value}(h:du ρ w c v):du ρ' w (c.aQ τ) v:=by
 cases c with
 |one c=>exact bq.aQ hτ fu hS (fun _ _ _ h=>by cases h) h
 |agg cs=>
  obtain⟨vs,rfl,h1,h2⟩:=h;refine⟨vs,rfl,by simpa using h1,fun i c hi=>?_⟩
  rw[NO]at hi;obtain⟨c0,h0,rfl⟩:=Yx.1 hi;obtain⟨u,hu,hd⟩:=h2 i c0 h0;exact⟨u,hu,bq.aQ hτ fu hS (fun _ _ _ h=>by cases h) hd⟩
theorem bV.aQ{ρ ρ':bG}{τ:Nat->Nat}{w:World}(hτ:∀i,i<ρ.n->τ i<ρ'.n)(fu:∀i,i<ρ.n->ρ'.aP (.ap (τ i))=ρ.aP (.ap i))(hS:∀b,ρ.S b->ρ'.S b){c:CV}{v:Value}(h:bV ρ w c v):bV ρ' w (c.aQ τ) v:=by
 cases c with
 |ar=>trivial
 |undef=>exact h
 |rv r=>exact du.aQ hτ fu hS h
 |bF cs=>
  obtain⟨vs,rfl,h1,h2⟩:=h;refine⟨vs,rfl,by simpa using h1,fun i c hi=>?_⟩
  rw[NO]at hi;obtain⟨c0,h0,rfl⟩:=Yx.1 hi;obtain⟨u,hu,hd⟩:=h2 i c0 h0;exact⟨u,hu,du.aQ hτ fu hS hd⟩
theorem dV.aQ{ρ ρ':bG}{τ:Nat->Nat}{w:World}(hτ:∀i,i<ρ.n->τ i<ρ'.n)(fu:∀i,i<ρ.n->ρ'.aP (.ap (τ i))=ρ.aP (.ap i))(hS:∀b,ρ.S b->ρ'.S b){id:Nat}(hid:id<ρ.n)(qk:∀i j,ρ'.aP (.sub (τ id) i j)=ρ.aP (.sub id i j)){b:Bk}(h:dV ρ w id b):dV ρ' w (τ id) (b.aQ τ):=by
 cases b with
 |aO=>trivial
 |var cs=>
  obtain⟨cur,hc,hd⟩:=h;simp only[Bk.aQ,dV,fu id hid];refine⟨cur,hc,fun j c hj=>?_⟩
  rw[NO]at hj;obtain⟨c0,h0,rfl⟩:=Yx.1 hj;obtain⟨u,hu,b8⟩:=hd j c0 h0;exact⟨u,hu,bq.aQ hτ fu hS (fun _ _ _ h=>by cases h) b8⟩
 |row s es=>
  obtain⟨h2,h3,h4,h5,bS⟩:=h;simp only[Bk.aQ,dV,fu id hid];refine⟨by simpa using h2,h3,h4,fun cs eY=>?_,fun dd=>?_⟩
  .obtain⟨yP,h0,rfl⟩:=Z5.1 eY;simpa using h5 yP h0
  .obtain⟨cur,hc,h1,h6⟩:=bS dd;refine⟨cur,hc,h1,fun i cs j c hi hj=>?_⟩
   rw[NO]at hi;obtain⟨yP,h0,rfl⟩:=Yx.1 hi;rw[NO]at hj;obtain⟨c0,Zx,rfl⟩:=Yx.1 hj;obtain⟨u,hu,b8⟩:=h6 i yP j c0 h0 Zx;exact⟨u,hu,bq.aQ hτ fu hS (fun a b c h=>by cases h;exact⟨rfl,qk _ _⟩) b8⟩
 |mp es=>
  obtain⟨ae,clock,hc,h1,h2⟩:=h;simp only[Bk.aQ,dV,fu id hid];refine⟨ae,clock,hc,by simpa using h1,fun i e hi=>?_⟩
  rw[NO]at hi;obtain⟨e0,h0,rfl⟩:=Yx.1 hi;obtain⟨RU,RW,hk,uY⟩:=h2 i e0 h0;exact⟨RU,RW,hk,du.aQ hτ fu hS uY⟩
 |it cur left=>
  obtain⟨mb,seen,ck,cH,h2,h3,h4,h5,h6⟩:=h;simp only[Bk.aQ,dV,fu id hid];exact⟨mb,seen,ck,cH,h2,h3,hS _ h4,h5,h6⟩
end
end Go.AM
