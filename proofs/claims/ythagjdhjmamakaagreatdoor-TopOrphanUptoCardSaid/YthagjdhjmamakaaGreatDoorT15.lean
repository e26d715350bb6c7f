/- Part 15 of 41: what the law stands on. -/
import Derived.Test.YthagjdhjmamakaaGreatDoorT13
import Derived.Test.YthagjdhjmamakaaGreatDoorT14
import Derived.Carry
import Derived.ProofKit
set_option linter.unusedVariables false
set_option linter.unusedSimpArgs false
set_option linter.unnecessarySimpa false
set_option maxRecDepth 100000
set_option maxHeartbeats 64000000
namespace Go.AM
open Go.ChangeShapes Go.WideShapes Go.ChangeAt Go.RowKit
section
variable {H:Type} {enc:TypeId×Value->H} {P:Program} {W:World}
theorem P9{au:Nat}{t:TypeId}{v:Value}{agg:Bool}(ha:dU P t=some agg){d:Nat}{ls:List Lf}(hl:nk P d t=some ls)(i5:Value.okWide P W .any au t v):
  (agg=true->∃vs,v= .agg vs)/\(agg=false->v.oneCell'=true):=by
 cases d with
 |zero=>simp[nk]at hl
 |succ d=>
  simp only[nk]at hl;unfold dU at ha;unfold Value.okWide at i5;split at hl
  .rename_i ht;rw[ht]at ha i5;simp at ha;subst ha;refine⟨aK,fun _=>?_⟩
   simp only[Cell.okWide,ht,Cell.ok]at i5;cases v<;>simp_all[Value.oneCell']
  .rename_i k ht;rw[ht]at ha i5;simp at ha;subst ha;refine⟨aK,fun _=>?_⟩
   simp only[Cell.okWide,ht,Cell.ok]at i5;cases v<;>simp_all[Value.oneCell']
  .rename_i ht;rw[ht]at ha i5;simp at ha;subst ha;refine⟨aK,fun _=>?_⟩
   simp only[Cell.okWide,ht,Cell.ok]at i5;cases v<;>simp_all[Value.oneCell']
  .rename_i e ht;rw[ht]at ha i5;simp at ha;subst ha;refine⟨aK,fun _=>?_⟩
   simp only[Cell.okWide,ht,Cell.ok]at i5;cases v<;>simp_all[Value.oneCell']
  .rename_i fs ht;rw[ht]at ha i5;simp at ha;subst ha;obtain⟨cs,rfl,_⟩:=i5;exact⟨fun _=>⟨cs,rfl⟩,aK⟩
  .rename_i n e ht;rw[ht]at ha i5;simp at ha;subst ha;obtain⟨cs,rfl,_⟩:=i5;exact⟨fun _=>⟨cs,rfl⟩,aK⟩
  .cases hl
structure Sh where
 agg:Bool
 ls:List Lf
def AE(P:Program):List TypeId->Option (List Sh)
 | []=>some []
 |t::r=>match dU P t,nk P 12 t,AE P r with
  |some a,some ls,some r=>some (⟨a,ls⟩::r)
  |_,_,_=>none
inductive sN:List Sh->List (List Dt)->Prop
 |nil:sN [] []
 |cons {s:Sh} {ds:List Dt} {r:List Sh} {l:List (List Dt)} (h:jl s.ls ds) (hr:sN r l):sN (s::r) (ds::l)
def nl:List Sh->List (List Dt)->List CV
 |s::r,ds::l=>Ti s.agg ds::nl r l
 |_,_=>[]
theorem xg(bk:G2 H){au b2:Nat}:∀(ts:List TypeId)(vs:List Value)(dw:List (DataW H))(ps:List MemPlace)(JI:List Sh),AE P ts=some JI->DataW.TrodAll enc P W au (fun _=>true) true ts vs dw ps->
  (∀(j:Nat)t v,ts[j]? =some t->vs[j]? =some v->Value.okWide P W .any b2 t v)->
  ∃kZ,sN JI kZ/\vs.length=(nl JI kZ).length/\(∀(i:Nat)c,(nl JI kZ)[i]? =some c->∃v,vs[i]? =some v/\bW (G1 W) W c v)/\Dt.eW kZ<=gD bk.f dw
 | [],[],[],ps,JI,hs,h,i5=>by
  simp[AE]at hs;subst hs;exact⟨[],.nil,rfl,by simp[nl],by simp[Dt.eW]⟩
 | [],_::_,_,_,_,_,h,_=>by cases h
 | [],[],_::_,_,_,_,h,_=>by cases h
 |_::_,[],_,_,_,_,h,_=>by cases h
 |_::_,_::_,[],_,_,_,h,_=>by cases h
 |t::ts,v::vs,d::dw,ps,JI,hs,h,i5=>by
  obtain⟨p,q,⟨fuel,h1⟩,h2,_⟩:=h;simp only[AE]at hs;split at hs
  .rename_i a ls r ha hl hr;cases hs;obtain⟨ds,f1,r1,s1⟩:=C9 bk 12 t ls hl fuel _ _ h1;obtain⟨kZ,f2,l2,d2,s2⟩:=xg bk ts vs dw q r hr h2 fun j t' v' ht hv=>i5 (j+1) t' v' (by simpa using ht) (by simpa using hv)
   obtain⟨g1,g2⟩:=P9 ha hl (i5 0 t v rfl rfl);refine⟨ds::kZ,.cons f1 f2,by simp[nl,l2],fun i c hi=>?_,by simp only[Dt.eW,gD];simp only at s1;omega⟩
   cases i with
   |zero=>
    simp[nl]at hi;subst hi;exact⟨v,rfl,JH r1 g1 g2⟩
   |succ i=>simpa using d2 i c (by simpa[nl]using hi)
  .cases hs
theorem xh(hl:laidOutB P=true){W':World}(hb:Below W.heap.size W W'):∀(ts:List TypeId)(vs:List Value)(dw:List (DataW H))(ps:List MemPlace),(ts.all fun t=>P.readableRec t&&decide (t<P.types.size))=true->
  DataW.TrodAll enc P W 0 (fun _=>true) true ts vs dw ps->(∀x,x∈ps->x.block<W.heap.size)->DataW.TrodAll enc P W' 0 (fun b=>decide (b<W.heap.size)) true ts vs dw ps
 | [],[],[],_,_,h,_=>h
 | [],_::_,_,_,_,h,_=>by cases h
 | [],[],_::_,_,_,h,_=>by cases h
 |_::_,[],_,_,_,h,_=>by cases h
 |_::_,_::_,[],_,_,h,_=>by cases h
 |t::ts,v::vs,d::dw,ps,ht,h,aF=>by obtain⟨p,q,h1,h2,rfl⟩:=h;simp only[List.all_cons,T6,decide_eq_true_eq]at ht;exact⟨p,q,Below.trod hl ht.1.1 ht.1.2 h1 hb (fun x hx=>aF x (by simp[hx])),xh hl hb ts vs dw q (by simpa using ht.2) h2 (fun x hx=>aF x (by simp[hx])),rfl⟩
theorem l9{f:Nat}{fn:Func}{s:ChangeSpec}{args:Array Value}{ds gs:List (DataW H)}{before:List MemPlace}{au:Nat}(bk:G2 H)(hl:laidOutB P=true){tb:TypeId}(htb:P.underlying tb=some .bool)(WY:fn.resultTypes= #[tb])(OK:s.vars=[])(Fm:∀ds:List (DataW H),ds.length=fn.params.size->s.fn H ds={results:=[.lit (.bool true)],args:=ds}){JI:List Sh}(Wn:AE P fn.params.toList=some JI)(hts:(fn.params.toList.all fun t=>P.readableRec t&&decide (t<P.types.size))=true)(walk:∀kZ,sN JI kZ->Dt.eW kZ<=gD bk.f ds->ar P f (nl JI kZ) [] fun r _=>r=aA true)(fK:∀(j:Nat)t v,fn.params[j]? =some t->args[j]? =some v->Value.okWide P W .any au t v)(hW:DataW.Whole enc P fn.params.toList s.vars false W args.toList ds gs before):
  Calls P f args W fun e W'=>∃v,e= .returned v/\s.post enc P fn false true false false W args v W':=by
 have Zm:=hW;obtain⟨p,q,hA,hV,rfl,Tj,qJ⟩:=hW;obtain⟨kZ,hf,hlen,bY,dj⟩:=xg bk fn.params.toList args.toList ds p JI Wn hA fun j t v ht hv=>fK j t v (by simpa using ht) (by simpa using hv)
 have yj:=nj (u:= .bool true) (walk kZ hf dj) W args.toList hlen bY aK (fun r m h=>h)
 have aF:∀x,x∈p->x.block<W.heap.size:=fun x hx=>by simpa using Zm.lt x (by simp[hx])
 rw[OK]at hV;obtain⟨rfl,rfl⟩:=trodVars_none hV;have kI:ds.length=fn.params.size:=by
  have:∀(ts:List TypeId)(vs:List Value)(dw:List (DataW H))(ps:List MemPlace),DataW.TrodAll enc P W 0 (fun _=>true) true ts vs dw ps->dw.length=ts.length:=by
   intro ts
   induction ts with
   |nil=>intro vs dw ps h;obtain⟨_,rfl,_⟩:=trodAll_nil h;rfl
   |cons t ts ih=>
    intro vs dw ps h;obtain⟨v,Rz,d,Vs,a,b,rfl,rfl,rfl,h1,h2⟩:=trodAll_cons h;simp[ih _ _ _ h2]
  simpa using this _ _ _ _ hA
 refine yj.mono fun e W'⟨he,hb⟩=>?_
 subst he;have hs:s.fn H (ds++ [])={results:=[.lit (.bool true)],args:=ds}:=by rw[aa6];exact Fm ds kI
 refine⟨_,rfl,ds,[],p++ [],[],p,[],Zm,?_,?_,?_,hb.frame _,fun h=>by cases h⟩
 .rw[hs,WY];exact trodAll_cons_mk (shut_bool htb _) trodAll_mk0
 .rw[hs];exact xh hl hb _ _ _ _ hts hA aF
 .rw[hs,OK];rfl
end
end Go.AM
namespace Go.AM
section
variable {P:Program}
theorem aC.JJ{ρ:bH}{m:Mem}{w w':World}(hM:aC ρ m w)(hw:d5 w w'):aC ρ m w'/\Ext ρ m w ρ m w':=by
 have hn:=hM.n;have g:ij ρ w ρ w':=⟨QN _,fun _ _=>rfl,fun _ h=>h,fun b hb=>hw.heap b (hM.S b hb)⟩
 refine⟨⟨hn,fun b hb=>aaf (hM.S b hb) hw.size,fun k hk=>⟨aaf (hM.a8 k hk).1 hw.size,(hM.a8 k hk).2⟩,hM.inj,fun id b hb=>?_,fun id i j esz e ho bl=>?_⟩,
  ⟨QN _,fun _ _=>rfl,fun _ h=>h,fun _ h=>.inl h,fun k hk=>.inr ⟨k,hk,rfl⟩,fun b hb _=>hw.heap b hb,hw.size,hw.os,hw.tape,hw.output⟩⟩
 .exact(hM.bk id b hb).cF g (by rw[hn];exact(Hy.1 hb).1) fun eL bl=>hw.heap _ (hM.a8 (.ap id) ⟨b,hb,eL,bl⟩).1
 .exact(hM.gp id i j esz e ho bl).cF g (hw.heap _ (hM.a8 (.sub id i j) ⟨⟨esz,e,ho⟩,bl⟩).1)
theorem G5{f:Nat}{args:List CV}{m:Mem}{K0 K:CV->Mem->Prop}(h:ar P f args [] K0)(ha:∀c,c∈args->c.c7=true)(hK:∀r m1,K0 r m1->(r= .rv (.one .aB)/\K (.rv (.one .aB)) m)\/
   ∃id esz elems,r= .rv (.one (.row id esz 0 none))/\m1[id]? =some (.row esz elems)/\(∀cs,cs∈elems->∀c,c∈cs->∃d,c= .aa d)/\
    (∀(i:Nat)cs(j:Nat)d,elems[i]? =some cs->cs[j]? =some (.aa d)->∃v,d= .val v)/\
    K (.rv (.one (.row m.length esz 0 none))) (m++ [.row esz elems])):ar P f args m K:=by
 refine⟨h.1,fun ρ w vs hM hl hd=>?_⟩
 let ρ0:bH:={n:=0,aO:=fun _=>⟨0,0,0,0⟩,S:=ρ.S}
 have kG:aC ρ0 [] w:={
  n:=rfl
  S:=hM.S
  a8:=fun k h=>by have:=h.fX;simp at this
  inj:=fun k k' h=>by have:=h.fX;simp at this
  bk:=fun id b h=>by simp at h
  gp:=fun id i j esz elems h=>by obtain⟨_,_,_,h,_⟩:=h;simp at h}
 refine(h.2 ρ0 w vs kG hl fun i c hi=>?_).mono fun e w'⟨v,r,m1,ρ1,he,hk,tF,wd,hx⟩=>?_
 .obtain⟨v,hv,hd⟩:=hd i c hi;exact⟨v,hv,CV.pR (ρ:=ρ) (ρ':=ρ0) (ha c (O9 hi)) (fun _ h=>h) hd⟩
 .have j8:∀k,¬Live ρ0 [] k:=fun k h=>by have:=h.fX;simp at this
  have vY:∀b,b<w.heap.size->w'.heap[b]? =w.heap[b]? :=fun b hb=>hx.frame b hb fun k hk=>absurd hk (j8 k)
  have MU:d5 w w':=by
   refine⟨?_,?_,?_,?_,?_⟩;all_goals first|exact hx.size|exact vY|exact hx.os|exact hx.tape|exact hx.output
  rcases hK r m1 hk with⟨rfl,gC⟩|⟨id,esz,elems,rfl,hb,MV,fK,gC⟩
  .obtain⟨ad,rfl⟩:=wd;obtain⟨C5,nn⟩:=hM.JJ MU;exact⟨_,_,m,ρ,he,gC,C5,⟨ad,rfl⟩,nn⟩
  .obtain⟨g1,g2,g3,g4,g5⟩:=tF.bk id _ hb;obtain⟨q1,q2,q3,q4,q5,ad,rfl,q0⟩:=wd;have hn:=hM.n;let l:=ρ1.aO (.ap id);have eT:dZ (ρ.push l) w' m.length (.row esz elems):=by
    have cy:(ρ.push l).aO (.ap m.length)=l:=by rw[<-hn];exact ρ.fZ l
    simp only[dZ,cy];refine⟨g1,g2,g3,g4,fun hp=>?_⟩
    obtain⟨cur,bU,h7,h8⟩:=g5 hp;refine⟨cur,bU,h7,fun i cs j c hi hj=>?_⟩
    obtain⟨u,hu,b9⟩:=h8 i cs j c hi hj;obtain⟨d,rfl⟩:=MV cs (O9 hi) c (O9 hj);obtain⟨v,rfl⟩:=fK i cs j d hi hj;refine⟨u,hu,?_⟩;cases b9 with
    |val _ iI=>exact cZ.val _ iI
    |no a=>exact .no a
   have JK:Bk.PE (.row esz elems):=by intro i cs j c hi hj s e Zn;obtain⟨d,hd⟩:=MV cs (O9 hi) c (O9 hj);rw[hd]at Zn;cases Zn
   obtain⟨C5,nn⟩:=hM.Om MU (fun dG=>by
    obtain⟨bk,nf,eL,bl⟩:=dG;have Tk:0<l.cap:=by rw[hn,UX (QN _)]at nf;simp at nf;have:=bl ⟨esz,elems,nf.symm⟩;rwa [ρ.fZ l]at this
    have Tl:Live ρ1 m1 (.ap id):=⟨_,hb,aK,fun _=>Tk⟩
    refine⟨?_,(tF.a8 _ Tl).1⟩;rcases hx.a8 _ Tl with h|⟨k0,h0,_⟩
    .exact h
    .exact absurd h0 (j8 k0)) eT JK
   refine⟨_,_,_,_,he,gC,C5,?_,nn⟩;have cy:(ρ.push l).aO (.ap m.length)=l:=by rw[<-hn];exact ρ.fZ l
   refine⟨by simp[bH.push,hn],?_⟩
   simp only[cy];exact⟨q2,q3,q4,q5,ad,rfl,q0⟩
end
theorem PB.trans{n0:Nat}{ρ ρ1 ρ2:bH}{m m1 m2:Mem}(a:PB n0 ρ m ρ1 m1)(b:PB n0 ρ1 m1 ρ2 m2):PB n0 ρ m ρ2 m2 where
 aO id h:=(b.aO id h).trans (a.aO id h)
 S x h:=b.S x (a.S x h)
 S' x h:=by
  rcases b.S' x h with h|⟨k,hk,he⟩
  .exact a.S' x h
  .obtain⟨k0,h0,e0⟩:=a.a8 k hk;exact .inr ⟨k0,h0,e0.trans he⟩
 a8 k h:=by obtain⟨k1,h1,e1⟩:=b.a8 k h;obtain⟨k0,h0,e0⟩:=a.a8 k1 h1;exact⟨k0,h0,e0.trans e1⟩
theorem View.trans{n0:Nat}{s s1 s2:St}(a:View n0 s s1)(b:View n0 s1 s2):View n0 s s2:=by
 refine⟨b.hn,b.len.trans a.len,fun ρ w hM=>?_⟩
 obtain⟨ρ1,tF,CA,wd⟩:=a.go ρ w hM;obtain⟨ρ2,C5,ui,Cc⟩:=b.go ρ1 w tF;refine⟨ρ2,C5,CA.trans ui,fun i c' hi=>?_⟩
 obtain⟨c1,Oo,h1⟩:=Cc i c' hi;obtain⟨c0,tC,h0⟩:=wd i c1 Oo;exact⟨c0,tC,fun v hv=>h1 v (h0 v hv)⟩
def CC.aP(σ:Nat->Nat):CC->CC
 | .ptr id j=>.ptr (σ id) j
 | .lW id e i j=>.lW (σ id) e i j
 | .row id e lo hi=>.row (σ id) e lo hi
 | .map id=>.map (σ id)
 | .fn f dN=>.fn f (dN.map σ)
 |c=>c
def kW.aP(σ:Nat->Nat):kW->kW
 | .ap id=>.ap (σ id)
 | .sub id i j=>.sub (σ id) i j
inductive Da:Dt->Dt->Prop
 |refl (d:Dt):Da d d
 |no (s:Nat):Da (.val (.slice none 0 0)) (.sl s [])
 |sl (s:Nat) {es cJ:List (List Dt)} (hl:es.length=cJ.length) (hs:∀(i:Nat)cs ek,es[i]? =some cs->cJ[i]? =some ek->cs.length=ek.length)
   (h:∀(i:Nat)cs ek(j:Nat)d d',es[i]? =some cs->cJ[i]? =some ek->cs[j]? =some d->ek[j]? =some d'->Da d d'):Da (.sl s es) (.sl s cJ)
theorem Da.j7{S:Nat->Prop}{w:World}{d d':Dt}(h:Da d d'):∀{v:Value},cZ S w d v->cZ S w d' v:=by
 induction h with
 |refl d=>exact fun h=>h
 |no s=>
  intro v h;cases h with
  |val _ h=>simp[cI]at h
  |no a=>exact .nil s a 0 (XL _)
 | @sl s es cJ hl hs h ih=>
  intro v hd;cases hd with
  |nil _ a cap hc=>
   have:cJ=[]:=XJ hl.symm;subst this;exact .nil s a cap hc
  |sl _ _ b off cap u hS qI bl dj hc hd=>
   have get:∀(i:Nat)ek,cJ[i]? =some ek->∃cs,es[i]? =some cs:=fun i ek hi=>by have:=(Hy.1 hi).1;exact⟨_,tq om⟩
   have Tm:∀(i:Nat)cs ek(j:Nat)d',es[i]? =some cs->cJ[i]? =some ek->ek[j]? =some d'->∃d,cs[j]? =some d:=fun i cs ek j d' hi dV hj=>by have h1:=(Hy.1 hj).1;have h2:=hs i cs ek hi dV;exact⟨_,tq om⟩
   rw[hl];refine .sl s cJ b off cap u hS om bl (fun ek hm=>?_) (fun i ek j d' hi hj=>?_) (fun i ek j d' hi hj=>?_)
   .obtain⟨i,hi⟩:=Xz hm;obtain⟨cs,fb⟩:=get i ek hi;rw[<-hs i cs ek fb hi];exact dj cs (O9 fb)
   .obtain⟨cs,fb⟩:=get i ek hi;obtain⟨d,Vt⟩:=Tm i cs ek j d' fb hi hj;exact hc i cs j d fb Vt
   .obtain⟨cs,fb⟩:=get i ek hi;obtain⟨d,Vt⟩:=Tm i cs ek j d' fb hi hj;exact ih i cs ek j d d' fb hi Vt hj (hd i cs j d fb Vt)
inductive dm(m:Mem)(Z:Nat->Prop):Option Nat->CC->Dt->Prop
 |aa {p:Option Nat} (d:Dt):dm m Z p (.aa d) d
 |gp {id:Nat} (s:Nat) (e:List (List Dt)) (hz:Z id):dm m Z (some id) (.gp s e) (.sl s e)
 |aB {p:Option Nat} (s:Nat):dm m Z p .aB (.sl s [])
 |no {p:Option Nat}:dm m Z p .aB (.val (.slice none 0 0))
 |le {p:Option Nat} {d d':Dt} (h:Da d d'):dm m Z p (.aa d) d'
 |row {p:Option Nat} (id esz lo:Nat) (hi:Option Nat) (elems:List (List CC)) (ds:List (List Dt)) (hz:Z id) (h:m[id]? =some (.row esz elems)) (hl:elems.length=ds.length)
   (hs:∀(i:Nat)cs es,elems[i]? =some cs->ds[i]? =some es->cs.length=es.length)
   (hd:∀(i:Nat)cs es(j:Nat)c d,elems[i]? =some cs->ds[i]? =some es->cs[j]? =some c->es[j]? =some d->dm m Z (some id) c d):dm m Z p (.row id esz lo hi) (.sl esz (ct ds lo hi))
inductive pj(σ:Nat->Nat)(m:Mem)(Z:Nat->Prop):Option Nat->CC->CC->Prop
 |aq {p:Option Nat} (c:CC):pj σ m Z p c .aq
 |aP {p:Option Nat} (c:CC):pj σ m Z p (c.aP σ) c
 |eu {p:Option Nat} {c:CC} {d:Dt} (h:dm m Z p c d):pj σ m Z p c (.aa d)
 |un {p:Option Nat}:pj σ m Z p (.aa (.val (.slice none 0 0))) .aB
 |hi {p:Option Nat} (id e lo:Nat) {esz:Nat} {elems:List (List CC)} (h:m[σ id]? =some (.row esz elems)):pj σ m Z p (.row (σ id) e lo none) (.row id e lo (some elems.length))
 |lo {p:Option Nat} (id e lo:Nat) {esz:Nat} {elems:List (List CC)} (h:m[σ id]? =some (.row esz elems)):pj σ m Z p (.row (σ id) e lo (some elems.length)) (.row id e lo none)
inductive vZ(σ:Nat->Nat)(m:Mem)(Z:Nat->Prop):RV->RV->Prop
 |one {c c':CC} (h:pj σ m Z none c c'):vZ σ m Z (.one c) (.one c')
 |agg {cs ek:List CC} (hl:cs.length=ek.length) (h:∀(i:Nat)c c',cs[i]? =some c->ek[i]? =some c'->pj σ m Z none c c'):vZ σ m Z (.agg cs) (.agg ek)
inductive pS(σ:Nat->Nat)(m:Mem)(Z:Nat->Prop):CV->CV->Prop
 |aq (v:CV):pS σ m Z v .aq
 |undef:pS σ m Z .undef .undef
 |rv {r r':RV} (h:vZ σ m Z r r'):pS σ m Z (.rv r) (.rv r')
 |bG {rs G0:List RV} (hl:rs.length=G0.length) (h:∀(i:Nat)r r',rs[i]? =some r->G0[i]? =some r'->vZ σ m Z r r'):pS σ m Z (.bG rs) (.bG G0)
inductive lU(σ:Nat->Nat)(m:Mem)(Z:Nat->Prop)(id:Nat):Bk->Bk->Prop
 |var {cs ek:List CC} (h:∀(i:Nat)c',ek[i]? =some c'->∃c,cs[i]? =some c/\pj σ m Z (some id) c c'):lU σ m Z id (.var cs) (.var ek)
 |row (esz:Nat) {es cJ:List (List CC)} (hl:es.length=cJ.length) (hs:∀(i:Nat)cs ek,es[i]? =some cs->cJ[i]? =some ek->cs.length=ek.length)
   (h:∀(i:Nat)cs ek(j:Nat)c c',es[i]? =some cs->cJ[i]? =some ek->cs[j]? =some c->ek[j]? =some c'->pj σ m Z (some id) c c'):lU σ m Z id (.row esz es) (.row esz cJ)
 |mp {es cJ:List ME} (hl:es.length=cJ.length) (h:∀(i:Nat)e e',es[i]? =some e->cJ[i]? =some e'->e'.key=e.key/\vZ σ m Z e.val e'.val):lU σ m Z id (.mp es) (.mp cJ)
 |it (cur left:List (Value×Value)):lU σ m Z id (.it cur left) (.it cur left)
section
variable {n0:Nat} {σ:Nat->Nat} {Z:Nat->Prop} {ρ:bH} {m:Mem} {w:World}
def bH.vw(ρ:bH)(σ:Nat->Nat)(Z:Nat->Prop)(m:Mem)(n:Nat):bH:=
 {n:=n,aO:=fun k=>ρ.aO (k.aP σ),S:=fun b=>ρ.S b\/∃k,Live ρ m k/\Z k.id/\(ρ.aO k).b=b}
theorem dm.j7(hM:aC ρ m w){pos:Option (Nat×Nat×Nat)}{p:Option Nat}{c:CC}{d:Dt}(h:dm m Z p c d)(hp:∀id,p=some id->∀s e,c= .gp s e->∃i j,pos=some (id,i,j)/\fp m id i j s e){v:Value}(hd:br ρ w pos c v){n:Nat}:cZ (ρ.vw σ Z m n).S w d v:=by
 induction h generalizing pos v with
 |aa d=>exact hd.mono (fun _ h=>.inl h) (fun _ _=>rfl)
 |aB s=>
  obtain⟨a,rfl⟩:=hd;exact .nil s a 0 (XL _)
 |no=>
  obtain⟨a,rfl⟩:=hd;exact .no a
 |le h=>exact(h.j7 hd).mono (fun _ h=>.inl h) (fun _ _=>rfl)
 | @gp id s e hz=>
  obtain⟨i,j,Ad,lD⟩:=hp id rfl s e rfl;obtain⟨i3,i',j',xf,q1,q2,a',rfl,q3⟩:=hd;rw[Ad]at xf;simp only[XQ,Prod.mk.injEq]at xf;obtain⟨rfl,rfl,rfl⟩:=xf;rcases aav e.length with he|he
  .rw[XJ he];exact .nil s a' _ om
  .obtain⟨fP,Aj,w1,w2,w3⟩:=hM.gp _ _ _ _ _ lD om;rw[q3 om];have GM:Live ρ m (.sub id i j):=⟨⟨_,_,lD⟩,om⟩;have ky:∀(i2:Nat)cs(j2:Nat)d2,e[i2]? =some cs->cs[j2]? =some d2->∃u,w.cell? ⟨(ρ.aO (.sub id i j)).b,(ρ.aO (.sub id i j)).au+i2*s+j2,.none⟩=some u/\cZ (ρ.vw σ Z m n).S w d2 u:=by
    intro i2 cs j2 d2 d8 jy;obtain⟨u,hu,hd⟩:=w3 i2 cs j2 d2 d8 jy;exact⟨u,by rw[Aj.cell];exact hu,hd.mono (fun _ h=>.inl h) (fun _ _=>rfl)⟩
   exact cZ.sl s e _ _ _ (fun i2 j2=>(w.cell? ⟨(ρ.aO (.sub id i j)).b,(ρ.aO (.sub id i j)).au+i2*s+j2,.none⟩).getD Go.undef) (.inr ⟨_,GM,hz,rfl⟩) q1 q2 w2
    (fun i2 cs j2 d2 d8 jy=>by obtain⟨u,hu,_⟩:=ky i2 cs j2 d2 d8 jy;rw[hu];rfl)
    (fun i2 cs j2 d2 d8 jy=>by obtain⟨u,hu,hd⟩:=ky i2 cs j2 d2 d8 jy;rw[hu];exact hd)
 |row id esz lo hi elems ds hz hb hl hs Jp ih=>
  obtain⟨h1,h2,h3,h4,h5,a,rfl,ha⟩:=hd;obtain⟨g1,g2,g3,g4,g5⟩:=hM.bk id _ hb;have kI:ds.length=(ρ.aO (.ap id)).len:=om;have hlen:(ct ds lo hi).length=hi.getD (ρ.aO (.ap id)).len-lo:=by
   rw[<-kI];exact Az ds lo hi (by rw[kI];exact h2) (by rw[kI];exact h3)
  rw[<-hlen];rcases aav (ct ds lo hi).length with h0|de
  .rw[h0,XJ h0];exact .nil esz a _ om
  .have gG:lo<(ρ.aO (.ap id)).cap:=om;obtain⟨cur,bU,dj,dO⟩:=g5 om;rw[ha gG];have key:∀(i:Nat)es(j:Nat)d,(ct ds lo hi)[i]? =some es->es[j]? =some d->∃u,w.cell? ⟨(ρ.aO (.ap id)).b,(ρ.aO (.ap id)).au+lo*esz+i*esz+j,.none⟩=some u/\cZ (ρ.vw σ Z m n).S w d u:=by
    intro i es j d dV hj;have d8:=pQ ds lo hi i es dV;have aF:lo+i<elems.length:=by rw[hl];exact(Hy.1 d8).1
    have IF:=tq aF;have dP:j<elems[lo+i].length:=by rw[hs _ _ _ IF d8];exact(Hy.1 hj).1
    have OJ:=tq dP;obtain⟨u,hu,b9⟩:=dO _ _ _ _ IF OJ;refine⟨u,?_,?_⟩
    .rw[bU.cell,<-hu];congr 1;rw[aaz];omega
    .refine ih _ _ _ _ _ _ IF d8 OJ hj ?_ b9;intro i3 hid s e he;cases hid;exact⟨_,_,rfl,_,_,_,hb,IF,by rw[OJ,he]⟩
   refine cZ.sl esz (ct ds lo hi) _ _ _ (fun i j=>(w.cell? ⟨(ρ.aO (.ap id)).b,(ρ.aO (.ap id)).au+lo*esz+i*esz+j,.none⟩).getD Go.undef) (.inr ⟨.ap id,⟨_,hb,aK,fun _=>om⟩,hz,rfl⟩) om om (fun es pg=>?_)
    (fun i cs j d dV hj=>by obtain⟨u,hu,_⟩:=key i cs j d dV hj;rw[hu];rfl)
    (fun i cs j d dV hj=>by obtain⟨u,hu,hd⟩:=key i cs j d dV hj;rw[hu];exact hd)
   obtain⟨i,dV⟩:=Xz pg;have d8:=pQ ds lo hi i es dV;have aF:lo+i<elems.length:=by rw[hl];exact(Hy.1 d8).1
   have IF:=tq aF;rw[<-hs _ _ _ IF d8];exact g4 _ (XP aF)
theorem pj.j7(hM:aC ρ m w){n:Nat}(gd:∀i,σ i<m.length->i<n){i3 i j:Nat}{pos pos':Option (Nat×Nat×Nat)}{p:Option Nat}(Zo:(pos=none/\pos'=none/\p=none)\/(pos=some (σ i3,i,j)/\pos'=some (i3,i,j)/\p=some (σ i3))){c c':CC}(h:pj σ m Z p c c')(lD:∀s e,c= .gp s e->pos=some (σ i3,i,j)->fp m (σ i3) i j s e){v:Value}(hd:br ρ w pos c v):br (ρ.vw σ Z m n) w pos' c' v:=by
 cases h with
 |aq c=>exact hd.one
 |un=>
  cases(show cZ ρ.S w (.val (.slice none 0 0)) v from hd)with
  |val _ h=>simp[cI]at h
  |no a=>exact⟨a,rfl⟩
 |hi id e lo hb=>
  have hn:=hM.n;obtain⟨g1,_⟩:=hM.bk _ _ hb;obtain⟨h1,h2,h3,h4,h5,a,rfl,ha⟩:=hd;simp only[abz]at h2 h3;refine⟨gd id (by rw[<-hn];exact h1),?_⟩
  simp only[aaD,bH.vw,kW.aP,g1];exact⟨h2,h3,h4,h5,a,rfl,ha⟩
 |lo id e lo hb=>
  have hn:=hM.n;obtain⟨g1,_⟩:=hM.bk _ _ hb;obtain⟨h1,h2,h3,h4,h5,a,rfl,ha⟩:=hd;simp only[aaD,g1]at h2 h3;refine⟨gd id (by rw[<-hn];exact h1),?_⟩
  simp only[abz,aaD,bH.vw,kW.aP,g1];exact⟨h2,h3,h4,h5,a,rfl,ha⟩
 |eu h=>
  refine h.j7 hM ?_ hd;intro id hid s e he;rcases Zo with⟨_,_,rfl⟩|⟨rfl,rfl,rfl⟩
  .cases hid
  .cases hid;exact⟨i,j,rfl,lD s e he rfl⟩
 |aP=>
  have hn:=hM.n;cases c'<;>simp only[CC.aP,br]at hd⊢
  case aq=>exact hd
  case aa=>exact hd.mono (fun _ h=>.inl h) (fun _ _=>rfl)
  case ptr id k=>exact⟨gd id (by rw[<-hn];exact hd.1),hd.2⟩
  case lW id _ _ _=>exact⟨gd id (by rw[<-hn];exact hd.1),hd.2⟩
  case pk=>
   obtain⟨b,off,h1,h2,h3⟩:=hd;refine⟨b,off,h1,.inl h2,fun j d hj=>?_⟩
   obtain⟨u,hu,b9⟩:=h3 j d hj;exact⟨u,hu,b9.mono (fun _ h=>.inl h) (fun _ _=>rfl)⟩
  case row id _ _ _=>exact⟨gd id (by rw[<-hn];exact hd.1),hd.2⟩
  case aB=>exact hd
  case map id=>exact⟨gd id (by rw[<-hn];exact hd.1),hd.2⟩
  case fn f dN=>
   refine⟨fun id hid=>gd id (by rw[<-hn];exact hd.1 _ (aae.2 ⟨id,hid,rfl⟩)),?_⟩
   rw[hd.2,aaN];rfl
  case gp s e=>
   obtain⟨a,b,c,h1,h2⟩:=hd;rcases Zo with⟨rfl,rfl,rfl⟩|⟨rfl,rfl,rfl⟩
   .cases h1
   .cases h1;exact⟨i3,i,j,rfl,h2⟩
theorem pj.G6(hM:aC ρ m w){n:Nat}(gd:∀i,σ i<m.length->i<n){c c':CC}(h:pj σ m Z none c c'){v:Value}(hd:br ρ w none c v):br (ρ.vw σ Z m n) w none c' v:=
 pj.j7 (i3:=0) (i:=0) (j:=0) hM gd (.inl ⟨rfl,rfl,rfl⟩) h (fun _ _ _ h=>by cases h) hd
theorem vZ.j7(hM:aC ρ m w){n:Nat}(gd:∀i,σ i<m.length->i<n){c c':RV}(h:vZ σ m Z c c'){v:Value}(hd:dy ρ w c v):dy (ρ.vw σ Z m n) w c' v:=by
 cases h with
 |one h=>exact h.G6 hM gd hd
 |agg hl h=>
  obtain⟨vs,rfl,h1,h2⟩:=hd;refine⟨vs,rfl,h1.trans hl,fun i c' hi=>?_⟩
  rename_i cs ek;have aF:i<cs.length:=by rw[hl];exact(Hy.1 hi).1
  obtain⟨u,hu,hd⟩:=h2 i _ (tq aF);exact⟨u,hu,(h i _ _ (tq aF) hi).G6 hM gd hd⟩
theorem pS.j7(hM:aC ρ m w){n:Nat}(gd:∀i,σ i<m.length->i<n){c c':CV}(h:pS σ m Z c c'){v:Value}(hd:bW ρ w c v):bW (ρ.vw σ Z m n) w c' v:=by
 cases h with
 |aq=>trivial
 |undef=>exact hd
 |rv h=>exact h.j7 hM gd hd
 |bG hl h=>
  obtain⟨vs,rfl,h1,h2⟩:=hd;refine⟨vs,rfl,h1.trans hl,fun i c' hi=>?_⟩
  rename_i cs ek;have aF:i<cs.length:=by rw[hl];exact(Hy.1 hi).1
  obtain⟨u,hu,hd⟩:=h2 i _ (tq aF);exact⟨u,hu,(h i _ _ (tq aF) hi).j7 hM gd hd⟩
theorem lU.j7(hM:aC ρ m w){n:Nat}(gd:∀i,σ i<m.length->i<n){id:Nat}{b b':Bk}(hb:m[σ id]? =some b)(h:lU σ m Z (σ id) b b'):dZ (ρ.vw σ Z m n) w id b':=by
 have hd:=hM.bk _ _ hb;cases h with
 | @var cs ek h=>
  obtain⟨cur,hc,hd⟩:=hd;refine⟨cur,hc,fun j c' hj=>?_⟩
  obtain⟨c,vV,hv⟩:=h j c' hj;obtain⟨u,hu,b9⟩:=hd j c vV;refine⟨u,hu,?_⟩;cases hv with
  |aq c=>exact b9.one
  |aP=>exact pj.G6 hM gd (.aP c') b9
  |un=>exact pj.G6 hM gd .un b9
  |hi i3 e lo qY=>exact pj.G6 hM gd (.hi i3 e lo qY) b9
  |lo i3 e lo qY=>exact pj.G6 hM gd (.lo i3 e lo qY) b9
  |eu hf=>exact hf.j7 hM (fun i3 _ s e he=>by rw[he]at b9;obtain⟨_,_,_,hx,_⟩:=b9;cases hx) b9
 | @row esz es cJ hl hs h=>
  obtain⟨h2,h3,h4,h5,bU⟩:=hd;refine⟨hl.symm.trans h2,h3,h4,fun ek Jd=>?_,fun de=>?_⟩
  .obtain⟨i,hi⟩:=Xz Jd;have aF:i<es.length:=by rw[hl];exact(Hy.1 hi).1
   rw[<-hs i _ _ (tq aF) hi];exact h5 _ (XP aF)
  .obtain⟨cur,hc,h1,h6⟩:=bU de;refine⟨cur,hc,h1,fun i ek j c' hi hj=>?_⟩
   have aF:i<es.length:=by rw[hl];exact(Hy.1 hi).1
   have dV:=tq aF;have dP:j<es[i].length:=by rw[hs i _ _ dV hi];exact(Hy.1 hj).1
   have vV:=tq dP;obtain⟨u,hu,b9⟩:=h6 _ _ _ _ dV vV;refine⟨u,hu,pj.j7 (i3:=id) (i:=i) (j:=j) hM gd (.inr ⟨rfl,rfl,rfl⟩) (h i _ _ j _ _ dV hi vV hj) (fun s e he _=>⟨_,_,_,hb,dV,by rw[vV,he]⟩) b9⟩
 |it cur left=>
  obtain⟨mb,seen,ck,cJ,h2,h3,h4,h5,h6⟩:=hd;exact⟨mb,seen,ck,cJ,h2,h3,.inl h4,h5,h6⟩
 | @mp es cJ hl h=>
  obtain⟨ae,clock,hc,h1,h2⟩:=hd;refine⟨ae,clock,hc,h1.trans hl,fun i e' hi=>?_⟩
  have aF:i<es.length:=by rw[hl];exact(Hy.1 hi).1
  obtain⟨Tn,To,hk,vW⟩:=h2 i _ (tq aF);obtain⟨gC,hv⟩:=h i _ _ (tq aF) hi;exact⟨Tn,To,hk.trans gC.symm,hv.j7 hM gd vW⟩
theorem yv{m':Mem}(hM:aC ρ m w)(jj:∀i,i<n0->σ i=i)(qW:∀i j,i<m'.length->j<m'.length->σ i=σ j->i=j)(gd:∀i,σ i<m.length->i<m'.length)(mT:∀(i:Nat)b',m'[i]? =some b'->b'= .aZ\/(¬Z (σ i)/\∃b,m[σ i]? =some b/\lU σ m Z (σ i) b b')):
  aC (ρ.vw σ Z m m'.length) m' w/\PB n0 ρ m (ρ.vw σ Z m m'.length) m'/\∀k,Live (ρ.vw σ Z m m'.length) m' k->Live ρ m (k.aP σ):=by
 have lD:∀{id i j s1 e},fp m' id i j s1 e->¬Z (σ id)/\fp m (σ id) i j s1 e:=by
  rintro id i j s1 e ⟨cJ,kz,ek,qY,dV,vV⟩;rcases mT id _ qY with h|⟨hz,b,hb,hv⟩
  .cases h
  .cases hv with
   | @row _ es _ hl hs h=>
    have aF:i<es.length:=by rw[hl];exact(Hy.1 dV).1
    have hi:=tq aF;have dP:j<es[i].length:=by rw[hs i _ _ hi dV];exact(Hy.1 vV).1
    have hj:=tq dP;have hv:=h i _ _ j _ _ hi dV hj vV;have hc:es[i][j]= .gp s1 e:=by
     generalize es[i][j]=c at hv;cases hv with
     |aP=>rfl
    exact⟨hz,_,_,_,hb,hi,by rw[hj,hc]⟩
 have cQ:∀k,Live (ρ.vw σ Z m m'.length) m' k->¬Z (σ k.id)/\Live ρ m (k.aP σ):=by
  intro k hk;cases k with
  |ap k=>
   obtain⟨b',qY,qJ,bl⟩:=hk;rcases mT k _ qY with h|⟨hz,b,hb,hv⟩
   .exact absurd h qJ
   .refine⟨hz,b,hb,?_,?_⟩
    .rintro rfl;cases hv
    .rintro⟨esz,es,rfl⟩;cases hv with
     |row=>exact bl ⟨_,_,rfl⟩
  |sub k i j=>
   obtain⟨⟨esz,e,ho⟩,bl⟩:=hk;exact⟨(lD ho).1,⟨_,_,(lD ho).2⟩,bl⟩
 refine⟨⟨rfl,?_,fun k hk=>?_,fun k k' hk gC he=>?_,fun id b' qY=>?_,fun id i j esz e ho bl=>?_⟩,⟨fun id hid=>?_,fun b h=>.inl h,?_,fun k hk=>⟨_,(cQ k hk).2,rfl⟩⟩,fun k hk=>(cQ k hk).2⟩
 .rintro b (hb|⟨k,hk,_,rfl⟩)
  .exact hM.S b hb
  .exact(hM.a8 k hk).1
 .obtain⟨hz,hl⟩:=cQ k hk;refine⟨(hM.a8 _ hl).1,?_⟩;rintro(hb|⟨k0,IG,Cd,he⟩)
  .exact(hM.a8 _ hl).2 hb
  .have:=hM.inj k0 (k.aP σ) IG hl he;subst this;apply hz;cases k<;>exact Cd
 .have Ac:=hk.fX;have WZ:=gC.fX;have:=hM.inj _ _ (cQ k hk).2 (cQ k' gC).2 he;cases k<;>cases k'<;>simp only[kW.aP,kW.ap.injEq,kW.sub.injEq,kW.id,reduceCtorEq]at this Ac WZ
  .rw[qW _ _ Ac WZ this]
  .obtain⟨h1,rfl,rfl⟩:=this;rw[qW _ _ Ac WZ h1]
 .rcases mT id b' qY with rfl|⟨hz,b,hb,hv⟩
  .trivial
  .exact lU.j7 hM gd hb hv
 .obtain⟨cur,hc,h1,h2,h3⟩:=hM.gp _ _ _ _ _ (lD ho).2 bl;refine⟨cur,hc,h1,h2,fun i2 cs j2 d d8 jy=>?_⟩
  obtain⟨u,hu,b9⟩:=h3 i2 cs j2 d d8 jy;exact⟨u,hu,b9.mono (fun _ h=>.inl h) (fun _ _=>rfl)⟩
 .show ρ.aO (.ap (σ id))=_;rw[jj id hid]
 .rintro b (hb|⟨k,hk,_,he⟩)
  .exact .inl hb
  .exact .inr ⟨k,hk,he⟩
theorem View.mk'{s s':St}(σ:Nat->Nat)(Z:Nat->Prop)(MA:n0<=s'.mem.length)(hlen:s'.aU.length=s.aU.length)(jj:∀i,i<n0->σ i=i)(qW:∀i j,i<s'.mem.length->j<s'.mem.length->σ i=σ j->i=j)(gd:∀i,σ i<s.mem.length->i<s'.mem.length)(AF:∀(i:Nat)c',s'.aU[i]? =some c'->∃c,s.aU[i]? =some c/\pS σ s.mem Z c c')(mT:∀(i:Nat)b',s'.mem[i]? =some b'->b'= .aZ\/(¬Z (σ i)/\∃b,s.mem[σ i]? =some b/\lU σ s.mem Z (σ i) b b')):View n0 s s':=by
 refine⟨MA,hlen,fun ρ w hM=>?_⟩
 obtain⟨h1,h2,_⟩:=yv (n0:=n0) (σ:=σ) (Z:=Z) hM jj qW gd mT;refine⟨_,h1,h2,fun i c' hi=>?_⟩
 obtain⟨c,hc,hv⟩:=AF i c' hi;exact⟨c,hc,fun v hd=>hv.j7 hM gd hd⟩
end
section
variable {P:Program} {n0:Nat} {σ:Nat->Nat} {Z:Nat->Prop} {ρ:bH} {m:Mem} {w:World}
def sg(l:List Nat)(n:Nat)(i:Nat):Nat:=match cR l i with|some x=>x|none=>n+(i-l.length)
def bs:List Nat->Nat->Bool
 | [],_=>false
 |x::r,k=>Nat.beq x k||bs r k
def fQ:List Nat->Bool
 | []=>true
 |x::r=>!(bs r x)&&fQ r
def eX(n:Nat):List Nat->Bool
 | []=>true
 |x::r=>Nat.blt x n&&eX n r
def G7(l:List Nat):Nat->Bool
 |0=>true
 |k+1=>(match cR l k with|some x=>Nat.beq x k|none=>false)&&G7 l k
theorem uz:∀{l:List Nat}{k:Nat},bs l k=true↔k∈l
 | [],k=>by simp[bs]
 |x::r,k=>by
  simp only[bs,aaT,aad,uz];constructor
  .rintro(h|h)
   .exact .inl (XM h).symm
   .exact .inr h
  .rintro(rfl|h)
   .exact .inl (ab4 _)
   .exact .inr h
theorem uA:∀{l:List Nat},fQ l=true->∀i j:Nat,i<l.length->j<l.length->l[i]? =l[j]? ->i=j
 | [],_,i,j,hi,_,_=>by simp at hi
 |x::r,h,i,j,hi,hj,he=>by
  simp only[fQ,T6,aaP]at h;have hx:∀k:Nat,r[k]? ≠some x:=fun k hk=>by have:=uz.2 (O9 hk);rw[h.1]at this;cases this
  cases i with
  |zero=>
   cases j with
   |zero=>rfl
   |succ j=>simp at he;exact absurd he.symm (hx j)
  |succ i=>
   cases j with
   |zero=>simp at he;exact absurd he (hx i)
   |succ j=>
    simp at he hi hj;rw[uA h.2 i j hi hj he]
theorem nW{n:Nat}:∀{l:List Nat},eX n l=true->∀x,x∈l->x<n
 | [],_,x,hx=>by simp at hx
 |y::r,h,x,hx=>by
  simp only[eX,T6]at h;rcases aad.1 hx with rfl|hx
  .exact T3 h.1
  .exact nW h.2 x hx
theorem AG{l:List Nat}:∀{k:Nat},G7 l k=true->∀i,i<k->l[i]? =some i
 |0,_,i,hi=>om
 |k+1,h,i,hi=>by
  simp only[G7,T6]at h;rcases XN i k with h1|h1
  .exact AG h.2 i h1
  .have:i=k:=om;subst this;rw[<-aT];cases hn:cR l i with
   |none=>rw[hn]at h;simp at h
   |some x=>rw[hn]at h;simp only at h;rw[XM h.1]
theorem sO{l:List Nat}{n i:Nat}(h:i<l.length):sg l n i=l[i]:=by simp[sg,aT,tq h]
theorem sP{l:List Nat}{n i:Nat}(h:l.length<=i):sg l n i=n+(i-l.length):=by simp[sg,aT,aaj h]
theorem JL{l:List Nat}{n:Nat}(hd:fQ l=true)(hl:eX n l=true){i j:Nat}(h:sg l n i=sg l n j):i=j:=by
 rcases XN i l.length with hi|hi<;>rcases XN j l.length with hj|hj
 .rw[sO hi,sO hj]at h;exact uA hd i j hi hj (by rw[tq hi,tq hj,h])
 .rw[sO hi,sP hj]at h;have:=nW hl _ (XP hi);omega
 .rw[sP hi,sO hj]at h;have:=nW hl _ (XP hj);omega
 .rw[sP hi,sP hj]at h;omega
def RV.aP(σ:Nat->Nat):RV->RV
 | .one c=>.one (c.aP σ)
 | .agg cs=>.agg (cs.map (CC.aP σ))
def CV.aP(σ:Nat->Nat):CV->CV
 | .rv r=>.rv (r.aP σ)
 | .bG rs=>.bG (rs.map (RV.aP σ))
 | .aq=>.aq
 | .undef=>.undef
def Bk.aP(σ:Nat->Nat):Bk->Bk
 | .aZ=>.aZ
 | .var cs=>.var (cs.map (CC.aP σ))
 | .row s es=>.row s (es.map fun cs=>cs.map (CC.aP σ))
 | .mp es=>.mp (es.map fun e=>⟨e.key,e.val.aP σ⟩)
 | .it cur left=>.it cur left
theorem vZ.aP(r:RV):vZ σ m Z (r.aP σ) r:=by
 cases r with
 |one c=>exact .one (.aP c)
 |agg cs=>
  refine .agg aK fun i c c' h h'=>?_
  rw[O6,h']at h;cases h;exact .aP c'
theorem pS.G8(v:CV):pS σ m Z (v.aP σ) v:=by
 cases v with
 |rv r=>exact .rv (.aP r)
 |bG rs=>
  refine .bG aK fun i c c' h h'=>?_
  rw[O6,h']at h;cases h;exact .aP c'
 |aq=>exact .aq _
 |undef=>exact .undef
theorem pS.aP{v v':CV}(h:v'.aP σ=v):pS σ m Z v v':=h▸ .G8 v'
theorem lU.G8{id:Nat}(b:Bk)(hb:b≠.aZ):lU σ m Z id (b.aP σ) b:=by
 cases b with
 |aZ=>exact absurd rfl hb
 |var cs=>
  refine .var fun i c' h=>⟨c'.aP σ,by rw[O6,h];rfl,.aP c'⟩
 |row s es=>
  refine .row s aK (fun i cs ek h h'=>?_) fun i cs ek j c c' h h' g g'=>?_
  .rw[O6,h']at h;cases h;simp
  .rw[O6,h']at h;cases h;rw[O6,g']at g;cases g;exact .aP c'
 |mp es=>
  refine .mp aK fun i e e' h h'=>?_
  rw[O6,h']at h;cases h;exact⟨rfl,.aP _⟩
 |it cur left=>exact .it cur left
def af(ds:List (List Dt)):List (List CC):=ds.map fun es=>es.map .aa
theorem dd(ds:List (List Dt)):(af ds).map (fun cs=>cs.map (CC.aP σ))=af ds:=by simp[af,CC.aP]
theorem Bk.jz(s:Nat)(ds:List (List Dt)):(Bk.row s (af ds)).aP σ= .row s (af ds):=by simp only[Bk.aP,dd]
theorem dm.d6{p:Option Nat}{id esz:Nat}{ds:List (List Dt)}(hz:Z id)(h:m[id]? =some (.row esz (af ds)))(lo:Nat)(hi:Option Nat):dm m Z p (.row id esz lo hi) (.sl esz (ct ds lo hi)):=by
 refine .row id esz lo hi _ ds hz h (by simp[af]) (fun i cs es h1 h2=>?_) fun i cs es j c d h1 h2 h3 h4=>?_
 .simp only[af,O6,h2,XS,XQ]at h1;subst h1;simp
 .simp only[af,O6,h2,XS,XQ]at h1;subst h1;simp only[O6,h4,XS,XQ]at h3;subst h3;exact .aa d
inductive ia(σ:Nat->Nat)(m:Mem)(Z:Nat->Prop):List CV->List CV->Prop
 |nil:ia σ m Z [] []
 |aq {v:CV} {e e':List CV} (h:ia σ m Z e e'):ia σ m Z (v::e) (.aq::e')
 |put {v v':CV} {e e':List CV} (hv:pS σ m Z v v') (h:ia σ m Z e e'):ia σ m Z (v::e) (v'::e')
theorem ia.len{e e':List CV}(h:ia σ m Z e e'):e'.length=e.length:=by
 induction h<;>simp[*]
theorem ia.get{e e':List CV}(h:ia σ m Z e e'):∀(i:Nat)c',e'[i]? =some c'->∃c,e[i]? =some c/\pS σ m Z c c':=by
 induction h with
 |nil=>intro i v h;simp at h
 |aq h ih=>
  intro i v hv;cases i with
  |zero=>simp at hv;subst hv;exact⟨_,rfl,.aq _⟩
  |succ i=>simpa using ih i v (by simpa using hv)
 |put hx h ih=>
  intro i v hv;cases i with
  |zero=>simp at hv;subst hv;exact⟨_,rfl,hx⟩
  |succ i=>simpa using ih i v (by simpa using hv)
theorem ia.eq{v v':CV}{e e':List CV}(hv:v'.aP σ=v)(h:ia σ m Z e e'):ia σ m Z (v::e) (v'::e'):= .put (.aP hv) h
inductive eN(σ:Nat->Nat)(m:Mem)(Z:Nat->Prop):Nat->Mem->Prop
 |nil (k:Nat):eN σ m Z k []
 |aZ {k:Nat} {r:Mem} (h:eN σ m Z (k+1) r):eN σ m Z k (.aZ::r)
 |put {k:Nat} {b b':Bk} {r:Mem} (hz:¬Z (σ k)) (hb:cR m (σ k)=some b) (hv:lU σ m Z (σ k) b b') (h:eN σ m Z (k+1) r):eN σ m Z k (b'::r)
theorem eN.get{k:Nat}{m':Mem}(h:eN σ m Z k m'):∀(i:Nat)b',m'[i]? =some b'->b'= .aZ\/(¬Z (σ (k+i))/\∃b,m[σ (k+i)]? =some b/\lU σ m Z (σ (k+i)) b b'):=by
 induction h with
 |nil k=>intro i b' h;simp at h
 | @aZ k r h ih=>
  intro i b' hi;cases i with
  |zero=>simp at hi;exact .inl hi.symm
  |succ i=>
   have:=ih i b' (by simpa using hi)
   rwa [show k+1+i=k+(i+1) by omega]at this
 | @put k b b1 r hz hb hv h ih=>
  intro i b' hi;cases i with
  |zero=>simp at hi;subst hi;exact .inr ⟨hz,_,by rw[<-aT];exact hb,hv⟩
  |succ i=>
   have:=ih i b' (by simpa using hi)
   rwa [show k+1+i=k+(i+1) by omega]at this
theorem View.of{e e':List CV}{m m':Mem}(n:Nat)(l F:List Nat)(hn:m.length=n)(hl:m'.length=l.length)(h0:Nat.ble n0 l.length=true)(hi:G7 l n0=true)(hd:fQ l=true)(ha:eX n l=true)(AF:ia (sg l n) m (fun k=>bs F k=true) e e')(mT:eN (sg l n) m (fun k=>bs F k=true) 0 m'):View n0 ⟨e,m⟩ ⟨e',m'⟩:=by
 have h0':n0<=l.length:=T3 h0;refine View.mk' (sg l n) _ (by simp only;omega) AF.len (fun i aF=>?_) (fun i j _ _ h=>JL hd ha h) (fun i aF=>?_) (fun i c' h=>AF.get i c' h) (fun i b' h=>by have:=mT.get i b' h;simpa using this)
 .rw[sO om];have:=AG hi i aF;rw[tq om]at this;simpa using this
 .rcases XN i l.length with h|h
  .simp only;omega
  .rw[sP h]at aF;simp only at aF;omega
theorem bK{f:Nat}{args:List CV}{m:Mem}{K0 K:CV->Mem->Prop}(h:ar P f args m K0)(hK:∀r m1,K0 r m1->∃r' m',View m.length ⟨[r],m1⟩ ⟨[r'],m'⟩/\K r' m'):ar P f args m K:=by
 refine⟨h.1,fun ρ w vs hM hl hd=>?_⟩
 refine(h.2 ρ w vs hM hl hd).mono fun e w'⟨v,r,m1,ρ1,he,hk,tF,wd,hx⟩=>?_
 obtain⟨r',m',hv,gC⟩:=hK r m1 hk;obtain⟨ρ',kY,hc,vW⟩:=hv.go ρ1 w' tF;have hn:=hM.n;refine⟨v,r',m',ρ',he,gC,kY,?_,⟨by rw[hn,kY.n];exact hv.hn,fun id hid=>(hc.aO id (by rw[<-hn];exact hid)).trans (hx.aO id hid),fun b hb=>hc.S b (hx.S b hb),fun b hb=>?_,fun k hk=>?_,hx.frame,hx.size,hx.os,hx.tape,hx.output⟩⟩
 .obtain⟨c,px,Jp⟩:=vW 0 r' rfl;simp at px;subst px;exact Jp v wd
 .rcases hc.S' b hb with h|⟨k,hk,rfl⟩
  .exact hx.S' b h
  .exact .inr (hx.a8 k hk)
 .obtain⟨k0,h0,e0⟩:=hc.a8 k hk;rw[<-e0];exact hx.a8 k0 h0
def pT(σ:Nat->Nat):Mem->Mem
 | []=>[]
 |b::r=>b.aP σ::pT σ r
theorem yw(σ:Nat->Nat):∀m,pT σ m=m.map (Bk.aP σ)
 | []=>rfl
 |b::r=>by simp[pT,yw σ r]
def cV:Mem->List Nat->Mem->Mem
 |m,[],ms=>gX m ms
 |m,_::_,[]=>m
 |m,id::l,b::ms=>cV (a7 m id b) l ms
theorem xi:∀(l:List Nat)(m ms:Mem),l.length<=ms.length->(cV m l ms).length=m.length+(ms.length-l.length)
 | [],m,ms,_=>by simp[cV,cg]
 |_::l,m,[],h=>by simp at h
 |id::l,m,b::ms,h=>by simp at h;rw[cV,xi l _ _ h,bg];simp
theorem rf:∀(l:List Nat)(m ms:Mem)(j:Nat),j<m.length->j∉l->(cV m l ms)[j]? =m[j]?
 | [],m,ms,j,hj,_=>by simp[cV,cg,VO hj]
 |_::l,m,[],j,_,_=>by simp[cV]
 |id::l,m,b::ms,j,hj,hn=>by
  simp at hn;rw[cV,rf l _ _ j (by rw[bg];simpa using hj) hn.2,bg,XK (fun h=>hn.1 h.symm)]
theorem xj:∀(l:List Nat)(m ms:Mem),fQ l=true->eX m.length l=true->l.length<=ms.length->∀(i:Nat),i<ms.length->(cV m l ms)[sg l m.length i]? =ms[i]?
 | [],m,ms,_,_,_,i,hi=>by simp only[cV,cg,sg,cR,aat,abf];rw[UX om];simp
 |_::l,m,[],_,_,h,_,_=>by simp at h
 |id::l,m,b::ms,hd,ha,h,i,hi=>by
  simp only[fQ,T6,aaP]at hd;simp only[eX,T6]at ha;simp at h hi;have hlen:(a7 m id b).length=m.length:=by rw[bg];simp
  have hid:id<m.length:=T3 ha.1;cases i with
  |zero=>
   rw[cV];show(cV (a7 m id b) l ms)[id]? =some b;rw[rf l _ _ id (by rw[hlen];exact hid) (fun h=>by rw[uz.2 h]at hd;cases hd.1),bg]
   simp[hid]
  |succ i=>
   have:=xj l (a7 m id b) ms hd.2 (by rw[hlen];exact ha.2) h i om
   rw[hlen]at this;rw[cV];have e:sg (id::l) m.length (i+1)=sg l m.length i:=by simp[sg,cR]
   rw[e,this];simp
theorem br.pos{ρ:bH}{w:World}{pos pos':Option (Nat×Nat×Nat)}{c:CC}{v:Value}(hc:∀s e,c≠.gp s e)(h:br ρ w pos c v):br ρ w pos' c v:=by
 cases c<;>simp only[br]at h⊢
 case gp=>exact absurd rfl (hc _ _)
 all_goals exact h
theorem br.W0{ρ ρ':bH}{w:World}{pos:Option (Nat×Nat×Nat)}(hn:ρ.n<=ρ'.n)(cy:∀id,id<ρ.n->ρ'.aO (.ap id)=ρ.aO (.ap id))(qX:∀id i j,pos=some (id,i,j)->ρ'.aO (.sub id i j)=ρ.aO (.sub id i j))(hS:∀b,ρ.S b->ρ'.S b){w':World}(ku:∀b,ρ.S b->w'.heap[b]? =w.heap[b]?){c:CC}{v:Value}(h:br ρ w pos c v):br ρ' w' pos c v:=by
 let ρ1:bH:={n:=ρ'.n,aO:=fun k=>match k with| .ap id=>ρ'.aO (.ap id)|k=>ρ.aO k,S:=ρ'.S}
 have g:ij ρ w ρ1 w':=⟨hn,fun k hk=>by
  cases k with
  |ap id=>exact cy id hk
  |sub id i j=>rfl,hS,ku⟩
 by_cases hc:∃s e,c= .gp s e
 .obtain⟨esz,elems,rfl⟩:=hc;obtain⟨id,i,j,de,hr⟩:=h;refine⟨id,i,j,de,?_⟩;rw[qX id i j de];exact hr
 .have hc:∀s e,c≠.gp s e:=fun s e h=>hc ⟨s,e,h⟩
  have h1:=br.pos (pos':=pos) hc (br.cF g aK (br.pos (pos':=none) hc h));cases c<;>simp only[br]at h1⊢
  case gp=>exact absurd rfl (hc _ _)
  all_goals exact h1
theorem br.aP{ρ ρ':bH}{τ:Nat->Nat}{w:World}{pos pos':Option (Nat×Nat×Nat)}(hτ:∀i,i<ρ.n->τ i<ρ'.n)(fB:∀i,i<ρ.n->ρ'.aO (.ap (τ i))=ρ.aO (.ap i))(hS:∀b,ρ.S b->ρ'.S b)(de:∀id i j,pos=some (id,i,j)->pos'=some (τ id,i,j)/\ρ'.aO (.sub (τ id) i j)=ρ.aO (.sub id i j)){c:CC}{v:Value}(h:br ρ w pos c v):br ρ' w pos' (c.aP τ) v:=by
 cases c<;>simp only[br,CC.aP]at h⊢
 case aq=>exact h
 case aa=>exact h.mono hS (fun _ _=>rfl)
 case ptr id _=>rw[fB id h.1];exact⟨hτ id h.1,h.2⟩
 case lW id _ _ _=>rw[fB id h.1];exact⟨hτ id h.1,h.2⟩
 case pk=>
  obtain⟨b,off,h1,h2,h3⟩:=h;refine⟨b,off,h1,hS _ h2,fun j d hj=>?_⟩
  obtain⟨u,hu,b9⟩:=h3 j d hj;exact⟨u,hu,b9.mono hS (fun _ _=>rfl)⟩
 case row id _ _ _=>rw[fB id h.1];exact⟨hτ id h.1,h.2⟩
 case aB=>exact h
 case map id=>rw[fB id h.1];exact⟨hτ id h.1,h.2⟩
 case fn f dN=>
  refine⟨fun id hid=>?_,?_⟩
  .obtain⟨i,hi,rfl⟩:=aae.1 hid;exact hτ i (h.1 i hi)
  .rw[h.2];congr 2;rw[aaN];exact abd fun id hid=>by simp only[Function.comp];rw[fB id (h.1 id hid)]
 case gp s e=>
  obtain⟨a,b,c,h1,h2⟩:=h;obtain⟨h3,h4⟩:=de a b c h1;refine⟨τ a,b,c,h3,?_⟩;rw[h4];exact h2
theorem dy.aP{ρ ρ':bH}{τ:Nat->Nat}{w:World}(hτ:∀i,i<ρ.n->τ i<ρ'.n)(fB:∀i,i<ρ.n->ρ'.aO (.ap (τ i))=ρ.aO (.ap i))(hS:∀b,ρ.S b->ρ'.S b){c:RV}{v:Value}(h:dy ρ w c v):dy ρ' w (c.aP τ) v:=by
 cases c with
 |one c=>exact br.aP hτ fB hS (fun _ _ _ h=>by cases h) h
 |agg cs=>
  obtain⟨vs,rfl,h1,h2⟩:=h;refine⟨vs,rfl,by simpa using h1,fun i c hi=>?_⟩
  rw[O6]at hi;obtain⟨c0,h0,rfl⟩:=Z2.1 hi;obtain⟨u,hu,hd⟩:=h2 i c0 h0;exact⟨u,hu,br.aP hτ fB hS (fun _ _ _ h=>by cases h) hd⟩
theorem bW.aP{ρ ρ':bH}{τ:Nat->Nat}{w:World}(hτ:∀i,i<ρ.n->τ i<ρ'.n)(fB:∀i,i<ρ.n->ρ'.aO (.ap (τ i))=ρ.aO (.ap i))(hS:∀b,ρ.S b->ρ'.S b){c:CV}{v:Value}(h:bW ρ w c v):bW ρ' w (c.aP τ) v:=by
 cases c with
 |aq=>trivial
 |undef=>exact h
 |rv r=>exact dy.aP hτ fB hS h
 |bG cs=>
  obtain⟨vs,rfl,h1,h2⟩:=h;refine⟨vs,rfl,by simpa using h1,fun i c hi=>?_⟩
  rw[O6]at hi;obtain⟨c0,h0,rfl⟩:=Z2.1 hi;obtain⟨u,hu,hd⟩:=h2 i c0 h0;exact⟨u,hu,dy.aP hτ fB hS hd⟩
theorem dZ.aP{ρ ρ':bH}{τ:Nat->Nat}{w:World}(hτ:∀i,i<ρ.n->τ i<ρ'.n)(fB:∀i,i<ρ.n->ρ'.aO (.ap (τ i))=ρ.aO (.ap i))(hS:∀b,ρ.S b->ρ'.S b){id:Nat}(hid:id<ρ.n)(qX:∀i j,ρ'.aO (.sub (τ id) i j)=ρ.aO (.sub id i j)){b:Bk}(h:dZ ρ w id b):dZ ρ' w (τ id) (b.aP τ):=by
 cases b with
 |aZ=>trivial
 |var cs=>
  obtain⟨cur,hc,hd⟩:=h;simp only[Bk.aP,dZ,fB id hid];refine⟨cur,hc,fun j c hj=>?_⟩
  rw[O6]at hj;obtain⟨c0,h0,rfl⟩:=Z2.1 hj;obtain⟨u,hu,b9⟩:=hd j c0 h0;exact⟨u,hu,br.aP hτ fB hS (fun _ _ _ h=>by cases h) b9⟩
 |row s es=>
  obtain⟨h2,h3,h4,h5,bU⟩:=h;simp only[Bk.aP,dZ,fB id hid];refine⟨by simpa using h2,h3,h4,fun cs fb=>?_,fun de=>?_⟩
  .obtain⟨zN,h0,rfl⟩:=aae.1 fb;simpa using h5 zN h0
  .obtain⟨cur,hc,h1,h6⟩:=bU de;refine⟨cur,hc,h1,fun i cs j c hi hj=>?_⟩
   rw[O6]at hi;obtain⟨zN,h0,rfl⟩:=Z2.1 hi;rw[O6]at hj;obtain⟨c0,h00,rfl⟩:=Z2.1 hj;obtain⟨u,hu,b9⟩:=h6 i zN j c0 h0 h00;exact⟨u,hu,br.aP hτ fB hS (fun a b c h=>by cases h;exact⟨rfl,qX _ _⟩) b9⟩
 |mp es=>
  obtain⟨ae,clock,hc,h1,h2⟩:=h;simp only[Bk.aP,dZ,fB id hid];refine⟨ae,clock,hc,by simpa using h1,fun i e hi=>?_⟩
  rw[O6]at hi;obtain⟨e0,h0,rfl⟩:=Z2.1 hi;obtain⟨Tn,To,hk,vW⟩:=h2 i e0 h0;exact⟨Tn,To,hk,dy.aP hτ fB hS vW⟩
 |it cur left=>
  obtain⟨mb,seen,ck,cJ,h2,h3,h4,h5,h6⟩:=h;simp only[Bk.aP,dZ,fB id hid];exact⟨mb,seen,ck,cJ,h2,h3,hS _ h4,h5,h6⟩
end
end Go.AM
