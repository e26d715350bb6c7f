/- Part 10 of 18. -/
import Derived.Test.YtojhmadmlnfpcaaGreatDoorS08
import Derived.Test.YtojhmadmlnfpcaaGreatDoorS09
import Derived.Carry
import Derived.ProofKit
set_option linter.unusedVariables false
set_option linter.unusedSimpArgs false
set_option linter.unnecessarySimpa false
set_option maxRecDepth 100000
set_option maxHeartbeats 0
namespace Go.AM
open Go.ChangeShapes Go.WideShapes Go.ChangeAt Go.RowKit
section
variable {H:Type} {enc:TypeId×Value->H} {P:Program} {W:World}
theorem Sb{aA:Nat}{t:TypeId}{v:Value}{agg:Bool}(ha:ep P t=some agg){d:Nat}{ls:List Lf}(hl:n8 P d t=some ls)(jJ:Value.okWide P W .any aA t v):
  (agg=true->∃vs,v= .agg vs)/\(agg=false->v.oneCell'=true):=by
 cases d with
 |zero=>simp[n8]at hl
 |succ d=>
  simp only[n8]at hl;unfold ep at ha;unfold Value.okWide at jJ;split at hl
  .rename_i ht;rw[ht]at ha jJ;simp at ha;subst ha;refine⟨aG,fun _=>?_⟩
   simp only[Cell.okWide,ht,Cell.ok]at jJ;cases v<;>simp_all[Value.oneCell']
  .rename_i k ht;rw[ht]at ha jJ;simp at ha;subst ha;refine⟨aG,fun _=>?_⟩
   simp only[Cell.okWide,ht,Cell.ok]at jJ;cases v<;>simp_all[Value.oneCell']
  .rename_i ht;rw[ht]at ha jJ;simp at ha;subst ha;refine⟨aG,fun _=>?_⟩
   simp only[Cell.okWide,ht,Cell.ok]at jJ;cases v<;>simp_all[Value.oneCell']
  .rename_i e ht;rw[ht]at ha jJ;simp at ha;subst ha;refine⟨aG,fun _=>?_⟩
   simp only[Cell.okWide,ht,Cell.ok]at jJ;cases v<;>simp_all[Value.oneCell']
  .rename_i fs ht;rw[ht]at ha jJ;simp at ha;subst ha;obtain⟨cs,rfl,_⟩:=jJ;exact⟨fun _=>⟨cs,rfl⟩,aG⟩
  .rename_i n e ht;rw[ht]at ha jJ;simp at ha;subst ha;obtain⟨cs,rfl,_⟩:=jJ;exact⟨fun _=>⟨cs,rfl⟩,aG⟩
  .cases hl
structure Sh where
 agg:Bool
 ls:List Lf
def H6(P:Program):List TypeId->Option (List Sh)
 | []=>some []
 |t::r=>match ep P t,n8 P 12 t,H6 P r with
  |some a,some ls,some r=>some (⟨a,ls⟩::r)
  |_,_,_=>none
inductive yc:List Sh->List (List Dt)->Prop
 |nil:yc [] []
 |cons {s:Sh} {ds:List Dt} {r:List Sh} {l:List (List Dt)} (h:ig s.ls ds) (hr:yc r l):yc (s::r) (ds::l)
def rc:List Sh->List (List Dt)->List CV
 |s::r,ds::l=>Vx s.agg ds::rc r l
 |_,_=>[]
theorem yd(bk:OC H){aA b2:Nat}:∀(ts:List TypeId)(vs:List Value)(dw:List (DataW H))(ps:List MemPlace)(K3:List Sh),H6 P ts=some K3->DataW.TrodAll enc P W aA (fun _=>true) true ts vs dw ps->
  (∀(j:Nat)t v,ts[j]? =some t->vs[j]? =some v->Value.okWide P W .any b2 t v)->
  ∃pV,yc K3 pV/\vs.length=(rc K3 pV).length/\(∀(i:Nat)c,(rc K3 pV)[i]? =some c->∃v,vs[i]? =some v/\cm (H4 W) W c v)/\Dt.dE pV<=li bk.f dw
 | [],[],[],ps,K3,hs,h,jJ=>by
  simp[H6]at hs;subst hs;exact⟨[],.nil,rfl,by simp[rc],by simp[Dt.dE]⟩
 | [],_::_,_,_,_,_,h,_=>by cases h
 | [],[],_::_,_,_,_,h,_=>by cases h
 |_::_,[],_,_,_,_,h,_=>by cases h
 |_::_,_::_,[],_,_,_,h,_=>by cases h
 |t::ts,v::vs,d::dw,ps,K3,hs,h,jJ=>by
  obtain⟨p,q,⟨fuel,h1⟩,h2,_⟩:=h;simp only[H6]at hs;split at hs
  .rename_i a ls r ha hl hr;cases hs;obtain⟨ds,f1,r1,s1⟩:=D1 bk 12 t ls hl fuel _ _ h1;obtain⟨pV,f2,l2,d2,s2⟩:=yd bk ts vs dw q r hr h2 fun j t' v' ht hv=>jJ (j+1) t' v' (by simpa using ht) (by simpa using hv)
   obtain⟨g1,g2⟩:=Sb ha hl (jJ 0 t v rfl rfl);refine⟨ds::pV,.cons f1 f2,by simp[rc,l2],fun i c hi=>?_,by simp only[Dt.dE,li];simp only at s1;omega⟩
   cases i with
   |zero=>
    simp[rc]at hi;subst hi;exact⟨v,rfl,K2 r1 g1 g2⟩
   |succ i=>simpa using d2 i c (by simpa[rc]using hi)
  .cases hs
theorem ye(hl:laidOutB P=true){W':World}(hb:Below W.heap.size W W'):∀(ts:List TypeId)(vs:List Value)(dw:List (DataW H))(ps:List MemPlace),(ts.all fun t=>P.readableRec t&&decide (t<P.types.size))=true->
  DataW.TrodAll enc P W 0 (fun _=>true) true ts vs dw ps->(∀x,x∈ps->x.block<W.heap.size)->DataW.TrodAll enc P W' 0 (fun b=>decide (b<W.heap.size)) true ts vs dw ps
 | [],[],[],_,_,h,_=>h
 | [],_::_,_,_,_,h,_=>by cases h
 | [],[],_::_,_,_,h,_=>by cases h
 |_::_,[],_,_,_,h,_=>by cases h
 |_::_,_::_,[],_,_,h,_=>by cases h
 |t::ts,v::vs,d::dw,ps,ht,h,aB=>by obtain⟨p,q,h1,h2,rfl⟩:=h;simp only[List.all_cons,ZM,decide_eq_true_eq]at ht;exact⟨p,q,Below.trod hl ht.1.1 ht.1.2 h1 hb (fun x hx=>aB x (by simp[hx])),ye hl hb ts vs dw q (by simpa using ht.2) h2 (fun x hx=>aB x (by simp[hx])),rfl⟩
theorem zA{f:Nat}{fn:Func}{s:ChangeSpec}{args:Array Value}{ds gs:List (DataW H)}{before:List MemPlace}{aA:Nat}(bk:OC H)(hl:laidOutB P=true){tb:TypeId}(htb:P.underlying tb=some .bool)(Zc:fn.resultTypes= #[tb])(QN:s.vars=[])(Gf:∀ds:List (DataW H),ds.length=fn.params.size->s.fn H ds={results:=[.lit (.bool true)],args:=ds}){K3:List Sh}(YE:H6 P fn.params.toList=some K3)(hts:(fn.params.toList.all fun t=>P.readableRec t&&decide (t<P.types.size))=true)(walk:∀pV,yc K3 pV->Dt.dE pV<=li bk.f ds->au P f (rc K3 pV) [] fun r _=>r=ax true)(jl:∀(j:Nat)t v,fn.params[j]? =some t->args[j]? =some v->Value.okWide P W .any aA t v)(hW:DataW.Whole enc P fn.params.toList s.vars false W args.toList ds gs before):
  Calls P f args W fun e W'=>∃v,e= .returned v/\s.post enc P fn false true false false W args v W':=by
 have hW':=hW;obtain⟨p,q,hA,hV,rfl,Vy,qz⟩:=hW;obtain⟨pV,hf,hlen,cw,dN⟩:=yd bk fn.params.toList args.toList ds p K3 YE hA fun j t v ht hv=>jl j t v (by simpa using ht) (by simpa using hv)
 have zl:=nZ (u:= .bool true) (walk pV hf dN) W args.toList hlen cw aG (fun r m h=>h)
 have aB:∀x,x∈p->x.block<W.heap.size:=fun x hx=>by simpa using hW'.lt x (by simp[hx])
 rw[QN]at hV;obtain⟨rfl,rfl⟩:=trodVars_none hV;have lH:ds.length=fn.params.size:=by
  have:∀(ts:List TypeId)(vs:List Value)(dw:List (DataW H))(ps:List MemPlace),DataW.TrodAll enc P W 0 (fun _=>true) true ts vs dw ps->dw.length=ts.length:=by
   intro ts
   induction ts with
   |nil=>intro vs dw ps h;obtain⟨_,rfl,_⟩:=trodAll_nil h;rfl
   |cons t ts ih=>
    intro vs dw ps h;obtain⟨v,TV,d,XM,a,b,rfl,rfl,rfl,h1,h2⟩:=trodAll_cons h;simp[ih _ _ _ h2]
  simpa using this _ _ _ _ hA
 refine zl.mono fun e W'⟨he,hb⟩=>?_
 subst he;have hs:s.fn H (ds++ [])={results:=[.lit (.bool true)],args:=ds}:=by rw[ab5];exact Gf ds lH
 refine⟨_,rfl,ds,[],p++ [],[],p,[],hW',?_,?_,?_,hb.frame _,fun h=>by cases h⟩
 .rw[hs,Zc];exact trodAll_cons_mk (shut_bool htb _) trodAll_mk0
 .rw[hs];exact ye hl hb _ _ _ _ hts hA aB
 .rw[hs,QN];rfl
end
end Go.AM
namespace Go.AM
section
variable {P:Program}
theorem aL.K4{ρ:bQ}{m:Mem}{w w':World}(hM:aL ρ m w)(hw:eD w w'):aL ρ m w'/\Ext ρ m w ρ m w':=by
 have hn:=hM.n;have g:iD ρ w ρ w':=⟨SS _,fun _ _=>rfl,fun _ h=>h,fun b hb=>hw.heap b (hM.S b hb)⟩
 refine⟨⟨hn,fun b hb=>abh (hM.S b hb) hw.size,fun k hk=>⟨abh (hM.aQ k hk).1 hw.size,(hM.aQ k hk).2⟩,hM.inj,fun id b hb=>?_,fun id i j esz e ho bq=>?_⟩,
  ⟨SS _,fun _ _=>rfl,fun _ h=>h,fun _ h=>.inl h,fun k hk=>.inr ⟨k,hk,rfl⟩,fun b hb _=>hw.heap b hb,hw.size,hw.os,hw.tape,hw.output⟩⟩
 .exact(hM.bk id b hb).cQ g (by rw[hn];exact(Mh.1 hb).1) fun fc bq=>hw.heap _ (hM.aQ (.ar id) ⟨b,hb,fc,bq⟩).1
 .exact(hM.gO id i j esz e ho bq).cQ g (hw.heap _ (hM.aQ (.sub id i j) ⟨⟨esz,e,ho⟩,bq⟩).1)
theorem H7{f:Nat}{args:List CV}{m:Mem}{K0 K:CV->Mem->Prop}(h:au P f args [] K0)(ha:∀c,c∈args->c.dm=true)(hK:∀r m1,K0 r m1->(r= .rv (.one .aI)/\K (.rv (.one .aI)) m)\/
   ∃id esz elems,r= .rv (.one (.row id esz 0 none))/\m1[id]? =some (.row esz elems)/\(∀cs,cs∈elems->∀c,c∈cs->∃d,c= .aa d)/\
    (∀(i:Nat)cs(j:Nat)d,elems[i]? =some cs->cs[j]? =some (.aa d)->∃v,d= .val v)/\
    K (.rv (.one (.row m.length esz 0 none))) (m++ [.row esz elems])):au P f args m K:=by
 refine⟨h.1,fun ρ w vs hM hl hd=>?_⟩
 let ρ0:bQ:={n:=0,aV:=fun _=>⟨0,0,0,0⟩,S:=ρ.S}
 have lF:aL ρ0 [] w:={
  n:=rfl
  S:=hM.S
  aQ:=fun k h=>by have:=h.fS;simp at this
  inj:=fun k k' h=>by have:=h.fS;simp at this
  bk:=fun id b h=>by simp at h
  gO:=fun id i j esz elems h=>by obtain⟨_,_,_,h,_⟩:=h;simp at h}
 refine(h.2 ρ0 w vs lF hl fun i c hi=>?_).mono fun e w'⟨v,r,m1,ρ1,he,hk,uC,xh,hx⟩=>?_
 .obtain⟨v,hv,hd⟩:=hd i c hi;exact⟨v,hv,CV.ra (ρ:=ρ) (ρ':=ρ0) (ha c (Rq hi)) (fun _ h=>h) hd⟩
 .have ld:∀k,¬Live ρ0 [] k:=fun k h=>by have:=h.fS;simp at this
  have wY:∀b,b<w.heap.size->w'.heap[b]? =w.heap[b]? :=fun b hb=>hx.frame b hb fun k hk=>absurd hk (ld k)
  have OD:eD w w':=by
   refine⟨?_,?_,?_,?_,?_⟩;all_goals first|exact hx.size|exact wY|exact hx.os|exact hx.tape|exact hx.output
  rcases hK r m1 hk with⟨rfl,gK⟩|⟨id,esz,elems,rfl,hb,OE,jl,gK⟩
  .obtain⟨ad,rfl⟩:=xh;obtain⟨DX,n9⟩:=hM.K4 OD;exact⟨_,_,m,ρ,he,gK,DX,⟨ad,rfl⟩,n9⟩
  .obtain⟨g1,g2,g3,g4,g5⟩:=uC.bk id _ hb;obtain⟨q1,q2,q3,q4,q5,ad,rfl,sa⟩:=xh;have hn:=hM.n;let l:=ρ1.aV (.ar id);have eY:d8 (ρ.push l) w' m.length (.row esz elems):=by
    have cC:(ρ.push l).aV (.ar m.length)=l:=by rw[<-hn];exact ρ.gC l
    simp only[d8,cC];refine⟨g1,g2,g3,g4,fun hp=>?_⟩
    obtain⟨cur,cj,h7,h8⟩:=g5 hp;refine⟨cur,cj,h7,fun i cs j c hi hj=>?_⟩
    obtain⟨u,hu,cz⟩:=h8 i cs j c hi hj;obtain⟨d,rfl⟩:=OE cs (Rq hi) c (Rq hj);obtain⟨v,rfl⟩:=jl i cs j d hi hj;refine⟨u,hu,?_⟩;cases cz with
    |val _ fW=>exact dv.val _ fW
    |no a=>exact .no a
   have K5:Bk.RC (.row esz elems):=by intro i cs j c hi hj s e hce;obtain⟨d,hd⟩:=OE cs (Rq hi) c (Rq hj);rw[hd]at hce;cases hce
   obtain⟨DX,n9⟩:=hM.Qq OD (fun cX=>by
    obtain⟨bk,mj,fc,bq⟩:=cX;have Vz:0<l.cap:=by rw[hn,ZW (SS _)]at mj;simp at mj;have:=bq ⟨esz,elems,mj.symm⟩;rwa [ρ.gC l]at this
    have VA:Live ρ1 m1 (.ar id):=⟨_,hb,aG,fun _=>Vz⟩
    refine⟨?_,(uC.aQ _ VA).1⟩;rcases hx.aQ _ VA with h|⟨k0,h0,_⟩
    .exact h
    .exact absurd h0 (ld k0)) eY K5
   refine⟨_,_,_,_,he,gK,DX,?_,n9⟩;have cC:(ρ.push l).aV (.ar m.length)=l:=by rw[<-hn];exact ρ.gC l
   refine⟨by simp[bQ.push,hn],?_⟩
   simp only[cC];exact⟨q2,q3,q4,q5,ad,rfl,sa⟩
end
theorem RA.trans{n0:Nat}{ρ ρ1 ρ2:bQ}{m m1 m2:Mem}(a:RA n0 ρ m ρ1 m1)(b:RA n0 ρ1 m1 ρ2 m2):RA n0 ρ m ρ2 m2 where
 aV id h:=(b.aV id h).trans (a.aV id h)
 S x h:=b.S x (a.S x h)
 S' x h:=by
  rcases b.S' x h with h|⟨k,hk,he⟩
  .exact a.S' x h
  .obtain⟨k0,h0,e0⟩:=a.aQ k hk;exact .inr ⟨k0,h0,e0.trans he⟩
 aQ k h:=by obtain⟨k1,h1,e1⟩:=b.aQ k h;obtain⟨k0,h0,e0⟩:=a.aQ k1 h1;exact⟨k0,h0,e0.trans e1⟩
theorem View.trans{n0:Nat}{s s1 s2:St}(a:View n0 s s1)(b:View n0 s1 s2):View n0 s s2:=by
 refine⟨b.hn,b.len.trans a.len,fun ρ w hM=>?_⟩
 obtain⟨ρ1,uC,Dv,xh⟩:=a.go ρ w hM;obtain⟨ρ2,DX,vd,C5⟩:=b.go ρ1 w uC;refine⟨ρ2,DX,Dv.trans vd,fun i c' hi=>?_⟩
 obtain⟨c1,Qs,h1⟩:=C5 i c' hi;obtain⟨c0,uy,h0⟩:=xh i c1 Qs;exact⟨c0,uy,fun v hv=>h1 v (h0 v hv)⟩
def CC.aO(σ:Nat->Nat):CC->CC
 | .ptr id j=>.ptr (σ id) j
 | .mM id e i j=>.mM (σ id) e i j
 | .row id e lo hi=>.row (σ id) e lo hi
 | .map id=>.map (σ id)
 | .fn f ei=>.fn f (ei.map σ)
 |c=>c
def jz.aO(σ:Nat->Nat):jz->jz
 | .ar id=>.ar (σ id)
 | .sub id i j=>.sub (σ id) i j
inductive D2:Dt->Dt->Prop
 |refl (d:Dt):D2 d d
 |no (s:Nat):D2 (.val (.slice none 0 0)) (.sl s [])
 |sl (s:Nat) {es c6:List (List Dt)} (hl:es.length=c6.length) (hs:∀(i:Nat)cs eh,es[i]? =some cs->c6[i]? =some eh->cs.length=eh.length)
   (h:∀(i:Nat)cs eh(j:Nat)d d',es[i]? =some cs->c6[i]? =some eh->cs[j]? =some d->eh[j]? =some d'->D2 d d'):D2 (.sl s es) (.sl s c6)
theorem D2.k9{S:Nat->Prop}{w:World}{d d':Dt}(h:D2 d d'):∀{v:Value},dv S w d v->dv S w d' v:=by
 induction h with
 |refl d=>exact fun h=>h
 |no s=>
  intro v h;cases h with
  |val _ h=>simp[cZ]at h
  |no a=>exact .nil s a 0 (Wi _)
 | @sl s es c6 hl hs h ih=>
  intro v hd;cases hd with
  |nil _ a cap hc=>
   have:c6=[]:=Z1 hl.symm;subst this;exact .nil s a cap hc
  |sl _ _ b off cap u hS rP bq dN hc hd=>
   have get:∀(i:Nat)eh,c6[i]? =some eh->∃cs,es[i]? =some cs:=fun i eh hi=>by have:=(Mh.1 hi).1;exact⟨_,IE om⟩
   have VB:∀(i:Nat)cs eh(j:Nat)d',es[i]? =some cs->c6[i]? =some eh->eh[j]? =some d'->∃d,cs[j]? =some d:=fun i cs eh j d' hi eu hj=>by have h1:=(Mh.1 hj).1;have h2:=hs i cs eh hi eu;exact⟨_,IE om⟩
   rw[hl];refine .sl s c6 b off cap u hS om bq (fun eh hm=>?_) (fun i eh j d' hi hj=>?_) (fun i eh j d' hi hj=>?_)
   .obtain⟨i,hi⟩:=Xf hm;obtain⟨cs,eJ⟩:=get i eh hi;rw[<-hs i cs eh eJ hi];exact dN cs (Rq eJ)
   .obtain⟨cs,eJ⟩:=get i eh hi;obtain⟨d,XN⟩:=VB i cs eh j d' eJ hi hj;exact hc i cs j d eJ XN
   .obtain⟨cs,eJ⟩:=get i eh hi;obtain⟨d,XN⟩:=VB i cs eh j d' eJ hi hj;exact ih i cs eh j d d' eJ hi XN hj (hd i cs j d eJ XN)
inductive dC(m:Mem)(Z:Nat->Prop):Option Nat->CC->Dt->Prop
 |aa {p:Option Nat} (d:Dt):dC m Z p (.aa d) d
 |gO {id:Nat} (s:Nat) (e:List (List Dt)) (hz:Z id):dC m Z (some id) (.gO s e) (.sl s e)
 |aI {p:Option Nat} (s:Nat):dC m Z p .aI (.sl s [])
 |no {p:Option Nat}:dC m Z p .aI (.val (.slice none 0 0))
 |le {p:Option Nat} {d d':Dt} (h:D2 d d'):dC m Z p (.aa d) d'
 |row {p:Option Nat} (id esz lo:Nat) (hi:Option Nat) (elems:List (List CC)) (ds:List (List Dt)) (hz:Z id) (h:m[id]? =some (.row esz elems)) (hl:elems.length=ds.length)
   (hs:∀(i:Nat)cs es,elems[i]? =some cs->ds[i]? =some es->cs.length=es.length)
   (hd:∀(i:Nat)cs es(j:Nat)c d,elems[i]? =some cs->ds[i]? =some es->cs[j]? =some c->es[j]? =some d->dC m Z (some id) c d):dC m Z p (.row id esz lo hi) (.sl esz (cD ds lo hi))
inductive qA(σ:Nat->Nat)(m:Mem)(Z:Nat->Prop):Option Nat->CC->CC->Prop
 |aq {p:Option Nat} (c:CC):qA σ m Z p c .aq
 |aO {p:Option Nat} (c:CC):qA σ m Z p (c.aO σ) c
 |e8 {p:Option Nat} {c:CC} {d:Dt} (h:dC m Z p c d):qA σ m Z p c (.aa d)
 |un {p:Option Nat}:qA σ m Z p (.aa (.val (.slice none 0 0))) .aI
 |hi {p:Option Nat} (id e lo:Nat) {esz:Nat} {elems:List (List CC)} (h:m[σ id]? =some (.row esz elems)):qA σ m Z p (.row (σ id) e lo none) (.row id e lo (some elems.length))
 |lo {p:Option Nat} (id e lo:Nat) {esz:Nat} {elems:List (List CC)} (h:m[σ id]? =some (.row esz elems)):qA σ m Z p (.row (σ id) e lo (some elems.length)) (.row id e lo none)
inductive wZ(σ:Nat->Nat)(m:Mem)(Z:Nat->Prop):RV->RV->Prop
 |one {c c':CC} (h:qA σ m Z none c c'):wZ σ m Z (.one c) (.one c')
 |agg {cs eh:List CC} (hl:cs.length=eh.length) (h:∀(i:Nat)c c',cs[i]? =some c->eh[i]? =some c'->qA σ m Z none c c'):wZ σ m Z (.agg cs) (.agg eh)
inductive pW(σ:Nat->Nat)(m:Mem)(Z:Nat->Prop):CV->CV->Prop
 |aq (v:CV):pW σ m Z v .aq
 |undef:pW σ m Z .undef .undef
 |rv {r r':RV} (h:wZ σ m Z r r'):pW σ m Z (.rv r) (.rv r')
 |bK {rs H3:List RV} (hl:rs.length=H3.length) (h:∀(i:Nat)r r',rs[i]? =some r->H3[i]? =some r'->wZ σ m Z r r'):pW σ m Z (.bK rs) (.bK H3)
inductive mK(σ:Nat->Nat)(m:Mem)(Z:Nat->Prop)(id:Nat):Bk->Bk->Prop
 |var {cs eh:List CC} (h:∀(i:Nat)c',eh[i]? =some c'->∃c,cs[i]? =some c/\qA σ m Z (some id) c c'):mK σ m Z id (.var cs) (.var eh)
 |row (esz:Nat) {es c6:List (List CC)} (hl:es.length=c6.length) (hs:∀(i:Nat)cs eh,es[i]? =some cs->c6[i]? =some eh->cs.length=eh.length)
   (h:∀(i:Nat)cs eh(j:Nat)c c',es[i]? =some cs->c6[i]? =some eh->cs[j]? =some c->eh[j]? =some c'->qA σ m Z (some id) c c'):mK σ m Z id (.row esz es) (.row esz c6)
 |mp {es c6:List ME} (hl:es.length=c6.length) (h:∀(i:Nat)e e',es[i]? =some e->c6[i]? =some e'->e'.key=e.key/\wZ σ m Z e.val e'.val):mK σ m Z id (.mp es) (.mp c6)
 |it (cur left:List (Value×Value)):mK σ m Z id (.it cur left) (.it cur left)
section
variable {n0:Nat} {σ:Nat->Nat} {Z:Nat->Prop} {ρ:bQ} {m:Mem} {w:World}
def bQ.vw(ρ:bQ)(σ:Nat->Nat)(Z:Nat->Prop)(m:Mem)(n:Nat):bQ:=
 {n:=n,aV:=fun k=>ρ.aV (k.aO σ),S:=fun b=>ρ.S b\/∃k,Live ρ m k/\Z k.id/\(ρ.aV k).b=b}
theorem dC.k9(hM:aL ρ m w){pos:Option (Nat×Nat×Nat)}{p:Option Nat}{c:CC}{d:Dt}(h:dC m Z p c d)(hp:∀id,p=some id->∀s e,c= .gO s e->∃i j,pos=some (id,i,j)/\fJ m id i j s e){v:Value}(hd:bC ρ w pos c v){n:Nat}:dv (ρ.vw σ Z m n).S w d v:=by
 induction h generalizing pos v with
 |aa d=>exact hd.mono (fun _ h=>.inl h) (fun _ _=>rfl)
 |aI s=>
  obtain⟨a,rfl⟩:=hd;exact .nil s a 0 (Wi _)
 |no=>
  obtain⟨a,rfl⟩:=hd;exact .no a
 |le h=>exact(h.k9 hd).mono (fun _ h=>.inl h) (fun _ _=>rfl)
 | @gO id s e hz=>
  obtain⟨i,j,ue,mh⟩:=hp id rfl s e rfl;obtain⟨jH,i',j',yb,q1,q2,a',rfl,q3⟩:=hd;rw[ue]at yb;simp only[aag,Prod.mk.injEq]at yb;obtain⟨rfl,rfl,rfl⟩:=yb;rcases abB e.length with he|he
  .rw[Z1 he];exact .nil s a' _ om
  .obtain⟨gq,Bn,w1,w2,w3⟩:=hM.gO _ _ _ _ _ mh om;rw[q3 om];have Bi:Live ρ m (.sub id i j):=⟨⟨_,_,mh⟩,om⟩;have ky:∀(i2:Nat)cs(j2:Nat)d2,e[i2]? =some cs->cs[j2]? =some d2->∃u,w.cell? ⟨(ρ.aV (.sub id i j)).b,(ρ.aV (.sub id i j)).aA+i2*s+j2,.none⟩=some u/\dv (ρ.vw σ Z m n).S w d2 u:=by
    intro i2 cs j2 d2 eC kj;obtain⟨u,hu,hd⟩:=w3 i2 cs j2 d2 eC kj;exact⟨u,by rw[Bn.cell];exact hu,hd.mono (fun _ h=>.inl h) (fun _ _=>rfl)⟩
   exact dv.sl s e _ _ _ (fun i2 j2=>(w.cell? ⟨(ρ.aV (.sub id i j)).b,(ρ.aV (.sub id i j)).aA+i2*s+j2,.none⟩).getD Go.undef) (.inr ⟨_,Bi,hz,rfl⟩) q1 q2 w2
    (fun i2 cs j2 d2 eC kj=>by obtain⟨u,hu,_⟩:=ky i2 cs j2 d2 eC kj;rw[hu];rfl)
    (fun i2 cs j2 d2 eC kj=>by obtain⟨u,hu,hd⟩:=ky i2 cs j2 d2 eC kj;rw[hu];exact hd)
 |row id esz lo hi elems ds hz hb hl hs HY ih=>
  obtain⟨h1,h2,h3,h4,h5,a,rfl,ha⟩:=hd;obtain⟨g1,g2,g3,g4,g5⟩:=hM.bk id _ hb;have lH:ds.length=(ρ.aV (.ar id)).len:=om;have hlen:(cD ds lo hi).length=hi.getD (ρ.aV (.ar id)).len-lo:=by
   rw[<-lH];exact Bz ds lo hi (by rw[lH];exact h2) (by rw[lH];exact h3)
  rw[<-hlen];rcases abB (cD ds lo hi).length with h0|dz
  .rw[h0,Z1 h0];exact .nil esz a _ om
  .have ic:lo<(ρ.aV (.ar id)).cap:=om;obtain⟨cur,cj,dN,ek⟩:=g5 om;rw[ha ic];have key:∀(i:Nat)es(j:Nat)d,(cD ds lo hi)[i]? =some es->es[j]? =some d->∃u,w.cell? ⟨(ρ.aV (.ar id)).b,(ρ.aV (.ar id)).aA+lo*esz+i*esz+j,.none⟩=some u/\dv (ρ.vw σ Z m n).S w d u:=by
    intro i es j d eu hj;have eC:=q9 ds lo hi i es eu;have aB:lo+i<elems.length:=by rw[hl];exact(Mh.1 eC).1
    have JT:=IE aB;have da:j<elems[lo+i].length:=by rw[hs _ _ _ JT eC];exact(Mh.1 hj).1
    have QM:=IE da;obtain⟨u,hu,cz⟩:=ek _ _ _ _ JT QM;refine⟨u,?_,?_⟩
    .rw[cj.cell,<-hu];congr 1;rw[abE];omega
    .refine ih _ _ _ _ _ _ JT eC QM hj ?_ cz;intro jH hid s e he;cases hid;exact⟨_,_,rfl,_,_,_,hb,JT,by rw[QM,he]⟩
   refine dv.sl esz (cD ds lo hi) _ _ _ (fun i j=>(w.cell? ⟨(ρ.aV (.ar id)).b,(ρ.aV (.ar id)).aA+lo*esz+i*esz+j,.none⟩).getD Go.undef) (.inr ⟨.ar id,⟨_,hb,aG,fun _=>om⟩,hz,rfl⟩) om om (fun es nV=>?_)
    (fun i cs j d eu hj=>by obtain⟨u,hu,_⟩:=key i cs j d eu hj;rw[hu];rfl)
    (fun i cs j d eu hj=>by obtain⟨u,hu,hd⟩:=key i cs j d eu hj;rw[hu];exact hd)
   obtain⟨i,eu⟩:=Xf nV;have eC:=q9 ds lo hi i es eu;have aB:lo+i<elems.length:=by rw[hl];exact(Mh.1 eC).1
   have JT:=IE aB;rw[<-hs _ _ _ JT eC];exact g4 _ (Z0 aB)
theorem qA.k9(hM:aL ρ m w){n:Nat}(gD:∀i,σ i<m.length->i<n){jH i j:Nat}{pos pos':Option (Nat×Nat×Nat)}{p:Option Nat}(hpp:(pos=none/\pos'=none/\p=none)\/(pos=some (σ jH,i,j)/\pos'=some (jH,i,j)/\p=some (σ jH))){c c':CC}(h:qA σ m Z p c c')(mh:∀s e,c= .gO s e->pos=some (σ jH,i,j)->fJ m (σ jH) i j s e){v:Value}(hd:bC ρ w pos c v):bC (ρ.vw σ Z m n) w pos' c' v:=by
 cases h with
 |aq c=>exact hd.one
 |un=>
  cases(show dv ρ.S w (.val (.slice none 0 0)) v from hd)with
  |val _ h=>simp[cZ]at h
  |no a=>exact⟨a,rfl⟩
 |hi id e lo hb=>
  have hn:=hM.n;obtain⟨g1,_⟩:=hM.bk _ _ hb;obtain⟨h1,h2,h3,h4,h5,a,rfl,ha⟩:=hd;simp only[acy]at h2 h3;refine⟨gD id (by rw[<-hn];exact h1),?_⟩
  simp only[abI,bQ.vw,jz.aO,g1];exact⟨h2,h3,h4,h5,a,rfl,ha⟩
 |lo id e lo hb=>
  have hn:=hM.n;obtain⟨g1,_⟩:=hM.bk _ _ hb;obtain⟨h1,h2,h3,h4,h5,a,rfl,ha⟩:=hd;simp only[abI,g1]at h2 h3;refine⟨gD id (by rw[<-hn];exact h1),?_⟩
  simp only[acy,abI,bQ.vw,jz.aO,g1];exact⟨h2,h3,h4,h5,a,rfl,ha⟩
 |e8 h=>
  refine h.k9 hM ?_ hd;intro id hid s e he;rcases hpp with⟨_,_,rfl⟩|⟨rfl,rfl,rfl⟩
  .cases hid
  .cases hid;exact⟨i,j,rfl,mh s e he rfl⟩
 |aO=>
  have hn:=hM.n;cases c'<;>simp only[CC.aO,bC]at hd⊢
  case aq=>exact hd
  case aa=>exact hd.mono (fun _ h=>.inl h) (fun _ _=>rfl)
  case ptr id k=>exact⟨gD id (by rw[<-hn];exact hd.1),hd.2⟩
  case mM id _ _ _=>exact⟨gD id (by rw[<-hn];exact hd.1),hd.2⟩
  case qB=>
   obtain⟨b,off,h1,h2,h3⟩:=hd;refine⟨b,off,h1,.inl h2,fun j d hj=>?_⟩
   obtain⟨u,hu,cz⟩:=h3 j d hj;exact⟨u,hu,cz.mono (fun _ h=>.inl h) (fun _ _=>rfl)⟩
  case row id _ _ _=>exact⟨gD id (by rw[<-hn];exact hd.1),hd.2⟩
  case aI=>exact hd
  case map id=>exact⟨gD id (by rw[<-hn];exact hd.1),hd.2⟩
  case fn f ei=>
   refine⟨fun id hid=>gD id (by rw[<-hn];exact hd.1 _ (aaQ.2 ⟨id,hid,rfl⟩)),?_⟩
   rw[hd.2,abW];rfl
  case gO s e=>
   obtain⟨a,b,c,h1,h2⟩:=hd;rcases hpp with⟨rfl,rfl,rfl⟩|⟨rfl,rfl,rfl⟩
   .cases h1
   .cases h1;exact⟨jH,i,j,rfl,h2⟩
theorem qA.H8(hM:aL ρ m w){n:Nat}(gD:∀i,σ i<m.length->i<n){c c':CC}(h:qA σ m Z none c c'){v:Value}(hd:bC ρ w none c v):bC (ρ.vw σ Z m n) w none c' v:=
 qA.k9 (jH:=0) (i:=0) (j:=0) hM gD (.inl ⟨rfl,rfl,rfl⟩) h (fun _ _ _ h=>by cases h) hd
theorem wZ.k9(hM:aL ρ m w){n:Nat}(gD:∀i,σ i<m.length->i<n){c c':RV}(h:wZ σ m Z c c'){v:Value}(hd:dP ρ w c v):dP (ρ.vw σ Z m n) w c' v:=by
 cases h with
 |one h=>exact h.H8 hM gD hd
 |agg hl h=>
  obtain⟨vs,rfl,h1,h2⟩:=hd;refine⟨vs,rfl,h1.trans hl,fun i c' hi=>?_⟩
  rename_i cs eh;have aB:i<cs.length:=by rw[hl];exact(Mh.1 hi).1
  obtain⟨u,hu,hd⟩:=h2 i _ (IE aB);exact⟨u,hu,(h i _ _ (IE aB) hi).H8 hM gD hd⟩
theorem pW.k9(hM:aL ρ m w){n:Nat}(gD:∀i,σ i<m.length->i<n){c c':CV}(h:pW σ m Z c c'){v:Value}(hd:cm ρ w c v):cm (ρ.vw σ Z m n) w c' v:=by
 cases h with
 |aq=>trivial
 |undef=>exact hd
 |rv h=>exact h.k9 hM gD hd
 |bK hl h=>
  obtain⟨vs,rfl,h1,h2⟩:=hd;refine⟨vs,rfl,h1.trans hl,fun i c' hi=>?_⟩
  rename_i cs eh;have aB:i<cs.length:=by rw[hl];exact(Mh.1 hi).1
  obtain⟨u,hu,hd⟩:=h2 i _ (IE aB);exact⟨u,hu,(h i _ _ (IE aB) hi).k9 hM gD hd⟩
theorem mK.k9(hM:aL ρ m w){n:Nat}(gD:∀i,σ i<m.length->i<n){id:Nat}{b b':Bk}(hb:m[σ id]? =some b)(h:mK σ m Z (σ id) b b'):d8 (ρ.vw σ Z m n) w id b':=by
 have hd:=hM.bk _ _ hb;cases h with
 | @var cs eh h=>
  obtain⟨cur,hc,hd⟩:=hd;refine⟨cur,hc,fun j c' hj=>?_⟩
  obtain⟨c,pP,hv⟩:=h j c' hj;obtain⟨u,hu,cz⟩:=hd j c pP;refine⟨u,hu,?_⟩;cases hv with
  |aq c=>exact cz.one
  |aO=>exact qA.H8 hM gD (.aO c') cz
  |un=>exact qA.H8 hM gD .un cz
  |hi jH e lo r9=>exact qA.H8 hM gD (.hi jH e lo r9) cz
  |lo jH e lo r9=>exact qA.H8 hM gD (.lo jH e lo r9) cz
  |e8 hf=>exact hf.k9 hM (fun jH _ s e he=>by rw[he]at cz;obtain⟨_,_,_,hx,_⟩:=cz;cases hx) cz
 | @row esz es c6 hl hs h=>
  obtain⟨h2,h3,h4,h5,cj⟩:=hd;refine⟨hl.symm.trans h2,h3,h4,fun eh Kv=>?_,fun dz=>?_⟩
  .obtain⟨i,hi⟩:=Xf Kv;have aB:i<es.length:=by rw[hl];exact(Mh.1 hi).1
   rw[<-hs i _ _ (IE aB) hi];exact h5 _ (Z0 aB)
  .obtain⟨cur,hc,h1,h6⟩:=cj dz;refine⟨cur,hc,h1,fun i eh j c' hi hj=>?_⟩
   have aB:i<es.length:=by rw[hl];exact(Mh.1 hi).1
   have eu:=IE aB;have da:j<es[i].length:=by rw[hs i _ _ eu hi];exact(Mh.1 hj).1
   have pP:=IE da;obtain⟨u,hu,cz⟩:=h6 _ _ _ _ eu pP;refine⟨u,hu,qA.k9 (jH:=id) (i:=i) (j:=j) hM gD (.inr ⟨rfl,rfl,rfl⟩) (h i _ _ j _ _ eu hi pP hj) (fun s e he _=>⟨_,_,_,hb,eu,by rw[pP,he]⟩) cz⟩
 |it cur left=>
  obtain⟨mb,seen,ck,c6,h2,h3,h4,h5,h6⟩:=hd;exact⟨mb,seen,ck,c6,h2,h3,.inl h4,h5,h6⟩
 | @mp es c6 hl h=>
  obtain⟨ae,clock,hc,h1,h2⟩:=hd;refine⟨ae,clock,hc,h1.trans hl,fun i e' hi=>?_⟩
  have aB:i<es.length:=by rw[hl];exact(Mh.1 hi).1
  obtain⟨VC,VD,hk,uA⟩:=h2 i _ (IE aB);obtain⟨gK,hv⟩:=h i _ _ (IE aB) hi;exact⟨VC,VD,hk.trans gK.symm,hv.k9 hM gD uA⟩
theorem zB{m':Mem}(hM:aL ρ m w)(jU:∀i,i<n0->σ i=i)(rZ:∀i j,i<m'.length->j<m'.length->σ i=σ j->i=j)(gD:∀i,σ i<m.length->i<m'.length)(kL:∀(i:Nat)b',m'[i]? =some b'->b'= .aW\/(¬Z (σ i)/\∃b,m[σ i]? =some b/\mK σ m Z (σ i) b b')):
  aL (ρ.vw σ Z m m'.length) m' w/\RA n0 ρ m (ρ.vw σ Z m m'.length) m'/\∀k,Live (ρ.vw σ Z m m'.length) m' k->Live ρ m (k.aO σ):=by
 have mh:∀{id i j s1 e},fJ m' id i j s1 e->¬Z (σ id)/\fJ m (σ id) i j s1 e:=by
  rintro id i j s1 e ⟨c6,lC,eh,r9,eu,pP⟩;rcases kL id _ r9 with h|⟨hz,b,hb,hv⟩
  .cases h
  .cases hv with
   | @row _ es _ hl hs h=>
    have aB:i<es.length:=by rw[hl];exact(Mh.1 eu).1
    have hi:=IE aB;have da:j<es[i].length:=by rw[hs i _ _ hi eu];exact(Mh.1 pP).1
    have hj:=IE da;have hv:=h i _ _ j _ _ hi eu hj pP;have hc:es[i][j]= .gO s1 e:=by
     generalize es[i][j]=c at hv;cases hv with
     |aO=>rfl
    exact⟨hz,_,_,_,hb,hi,by rw[hj,hc]⟩
 have cG:∀k,Live (ρ.vw σ Z m m'.length) m' k->¬Z (σ k.id)/\Live ρ m (k.aO σ):=by
  intro k hk;cases k with
  |ar k=>
   obtain⟨b',r9,qz,bq⟩:=hk;rcases kL k _ r9 with h|⟨hz,b,hb,hv⟩
   .exact absurd h qz
   .refine⟨hz,b,hb,?_,?_⟩
    .rintro rfl;cases hv
    .rintro⟨esz,es,rfl⟩;cases hv with
     |row=>exact bq ⟨_,_,rfl⟩
  |sub k i j=>
   obtain⟨⟨esz,e,ho⟩,bq⟩:=hk;exact⟨(mh ho).1,⟨_,_,(mh ho).2⟩,bq⟩
 refine⟨⟨rfl,?_,fun k hk=>?_,fun k k' hk gK he=>?_,fun id b' r9=>?_,fun id i j esz e ho bq=>?_⟩,⟨fun id hid=>?_,fun b h=>.inl h,?_,fun k hk=>⟨_,(cG k hk).2,rfl⟩⟩,fun k hk=>(cG k hk).2⟩
 .rintro b (hb|⟨k,hk,_,rfl⟩)
  .exact hM.S b hb
  .exact(hM.aQ k hk).1
 .obtain⟨hz,hl⟩:=cG k hk;refine⟨(hM.aQ _ hl).1,?_⟩;rintro(hb|⟨k0,JW,C6,he⟩)
  .exact(hM.aQ _ hl).2 hb
  .have:=hM.inj k0 (k.aO σ) JW hl he;subst this;apply hz;cases k<;>exact C6
 .have Bf:=hk.fS;have Zd:=gK.fS;have:=hM.inj _ _ (cG k hk).2 (cG k' gK).2 he;cases k<;>cases k'<;>simp only[jz.aO,jz.ar.injEq,jz.sub.injEq,jz.id,reduceCtorEq]at this Bf Zd
  .rw[rZ _ _ Bf Zd this]
  .obtain⟨h1,rfl,rfl⟩:=this;rw[rZ _ _ Bf Zd h1]
 .rcases kL id b' r9 with rfl|⟨hz,b,hb,hv⟩
  .trivial
  .exact mK.k9 hM gD hb hv
 .obtain⟨cur,hc,h1,h2,h3⟩:=hM.gO _ _ _ _ _ (mh ho).2 bq;refine⟨cur,hc,h1,h2,fun i2 cs j2 d eC kj=>?_⟩
  obtain⟨u,hu,cz⟩:=h3 i2 cs j2 d eC kj;exact⟨u,hu,cz.mono (fun _ h=>.inl h) (fun _ _=>rfl)⟩
 .show ρ.aV (.ar (σ id))=_;rw[jU id hid]
 .rintro b (hb|⟨k,hk,_,he⟩)
  .exact .inl hb
  .exact .inr ⟨k,hk,he⟩
theorem View.mk'{s s':St}(σ:Nat->Nat)(Z:Nat->Prop)(Og:n0<=s'.mem.length)(hlen:s'.a8.length=s.a8.length)(jU:∀i,i<n0->σ i=i)(rZ:∀i j,i<s'.mem.length->j<s'.mem.length->σ i=σ j->i=j)(gD:∀i,σ i<s.mem.length->i<s'.mem.length)(BD:∀(i:Nat)c',s'.a8[i]? =some c'->∃c,s.a8[i]? =some c/\pW σ s.mem Z c c')(kL:∀(i:Nat)b',s'.mem[i]? =some b'->b'= .aW\/(¬Z (σ i)/\∃b,s.mem[σ i]? =some b/\mK σ s.mem Z (σ i) b b')):View n0 s s':=by
 refine⟨Og,hlen,fun ρ w hM=>?_⟩
 obtain⟨h1,h2,_⟩:=zB (n0:=n0) (σ:=σ) (Z:=Z) hM jU rZ gD kL;refine⟨_,h1,h2,fun i c' hi=>?_⟩
 obtain⟨c,hc,hv⟩:=BD i c' hi;exact⟨c,hc,fun v hd=>hv.k9 hM gD hd⟩
end
section
variable {P:Program} {n0:Nat} {σ:Nat->Nat} {Z:Nat->Prop} {ρ:bQ} {m:Mem} {w:World}
def sg(l:List Nat)(n:Nat)(i:Nat):Nat:=match dd l i with|some x=>x|none=>n+(i-l.length)
def bz:List Nat->Nat->Bool
 | [],_=>false
 |x::r,k=>Nat.beq x k||bz r k
def gu:List Nat->Bool
 | []=>true
 |x::r=>!(bz r x)&&gu r
def eO(n:Nat):List Nat->Bool
 | []=>true
 |x::r=>Nat.blt x n&&eO n r
def H9(l:List Nat):Nat->Bool
 |0=>true
 |k+1=>(match dd l k with|some x=>Nat.beq x k|none=>false)&&H9 l k
theorem vy:∀{l:List Nat}{k:Nat},bz l k=true↔k∈l
 | [],k=>by simp[bz]
 |x::r,k=>by
  simp only[bz,abZ,abo,vy];constructor
  .rintro(h|h)
   .exact .inl (Z2 h).symm
   .exact .inr h
  .rintro(rfl|h)
   .exact .inl (ac1 _)
   .exact .inr h
theorem vz:∀{l:List Nat},gu l=true->∀i j:Nat,i<l.length->j<l.length->l[i]? =l[j]? ->i=j
 | [],_,i,j,hi,_,_=>by simp at hi
 |x::r,h,i,j,hi,hj,he=>by
  simp only[gu,ZM,abX]at h;have hx:∀k:Nat,r[k]? ≠some x:=fun k hk=>by have:=vy.2 (Rq hk);rw[h.1]at this;cases this
  cases i with
  |zero=>
   cases j with
   |zero=>rfl
   |succ j=>simp at he;exact absurd he.symm (hx j)
  |succ i=>
   cases j with
   |zero=>simp at he;exact absurd he (hx i)
   |succ j=>
    simp at he hi hj;rw[vz h.2 i j hi hj he]
theorem oW{n:Nat}:∀{l:List Nat},eO n l=true->∀x,x∈l->x<n
 | [],_,x,hx=>by simp at hx
 |y::r,h,x,hx=>by
  simp only[eO,ZM]at h;rcases abo.1 hx with rfl|hx
  .exact X5 h.1
  .exact oW h.2 x hx
theorem BE{l:List Nat}:∀{k:Nat},H9 l k=true->∀i,i<k->l[i]? =some i
 |0,_,i,hi=>om
 |k+1,h,i,hi=>by
  simp only[H9,ZM]at h;rcases ZX i k with h1|h1
  .exact BE h.2 i h1
  .have:i=k:=om;subst this;rw[<-aZ];cases hn:dd l i with
   |none=>rw[hn]at h;simp at h
   |some x=>rw[hn]at h;simp only at h;rw[Z2 h.1]
theorem tN{l:List Nat}{n i:Nat}(h:i<l.length):sg l n i=l[i]:=by simp[sg,aZ,IE h]
theorem tO{l:List Nat}{n i:Nat}(h:l.length<=i):sg l n i=n+(i-l.length):=by simp[sg,aZ,abg h]
theorem K6{l:List Nat}{n:Nat}(hd:gu l=true)(hl:eO n l=true){i j:Nat}(h:sg l n i=sg l n j):i=j:=by
 rcases ZX i l.length with hi|hi<;>rcases ZX j l.length with hj|hj
 .rw[tN hi,tN hj]at h;exact vz hd i j hi hj (by rw[IE hi,IE hj,h])
 .rw[tN hi,tO hj]at h;have:=oW hl _ (Z0 hi);omega
 .rw[tO hi,tN hj]at h;have:=oW hl _ (Z0 hj);omega
 .rw[tO hi,tO hj]at h;omega
def RV.aO(σ:Nat->Nat):RV->RV
 | .one c=>.one (c.aO σ)
 | .agg cs=>.agg (cs.map (CC.aO σ))
def CV.aO(σ:Nat->Nat):CV->CV
 | .rv r=>.rv (r.aO σ)
 | .bK rs=>.bK (rs.map (RV.aO σ))
 | .aq=>.aq
 | .undef=>.undef
def Bk.aO(σ:Nat->Nat):Bk->Bk
 | .aW=>.aW
 | .var cs=>.var (cs.map (CC.aO σ))
 | .row s es=>.row s (es.map fun cs=>cs.map (CC.aO σ))
 | .mp es=>.mp (es.map fun e=>⟨e.key,e.val.aO σ⟩)
 | .it cur left=>.it cur left
theorem wZ.aO(r:RV):wZ σ m Z (r.aO σ) r:=by
 cases r with
 |one c=>exact .one (.aO c)
 |agg cs=>
  refine .agg aG fun i c c' h h'=>?_
  rw[Q8,h']at h;cases h;exact .aO c'
theorem pW.Ia(v:CV):pW σ m Z (v.aO σ) v:=by
 cases v with
 |rv r=>exact .rv (.aO r)
 |bK rs=>
  refine .bK aG fun i c c' h h'=>?_
  rw[Q8,h']at h;cases h;exact .aO c'
 |aq=>exact .aq _
 |undef=>exact .undef
theorem pW.aO{v v':CV}(h:v'.aO σ=v):pW σ m Z v v':=h▸ .Ia v'
theorem mK.Ia{id:Nat}(b:Bk)(hb:b≠.aW):mK σ m Z id (b.aO σ) b:=by
 cases b with
 |aW=>exact absurd rfl hb
 |var cs=>
  refine .var fun i c' h=>⟨c'.aO σ,by rw[Q8,h];rfl,.aO c'⟩
 |row s es=>
  refine .row s aG (fun i cs eh h h'=>?_) fun i cs eh j c c' h h' g g'=>?_
  .rw[Q8,h']at h;cases h;simp
  .rw[Q8,h']at h;cases h;rw[Q8,g']at g;cases g;exact .aO c'
 |mp es=>
  refine .mp aG fun i e e' h h'=>?_
  rw[Q8,h']at h;cases h;exact⟨rfl,.aO _⟩
 |it cur left=>exact .it cur left
def af(ds:List (List Dt)):List (List CC):=ds.map fun es=>es.map .aa
theorem db(ds:List (List Dt)):(af ds).map (fun cs=>cs.map (CC.aO σ))=af ds:=by simp[af,CC.aO]
theorem Bk.kn(s:Nat)(ds:List (List Dt)):(Bk.row s (af ds)).aO σ= .row s (af ds):=by simp only[Bk.aO,db]
theorem dC.dJ{p:Option Nat}{id esz:Nat}{ds:List (List Dt)}(hz:Z id)(h:m[id]? =some (.row esz (af ds)))(lo:Nat)(hi:Option Nat):dC m Z p (.row id esz lo hi) (.sl esz (cD ds lo hi)):=by
 refine .row id esz lo hi _ ds hz h (by simp[af]) (fun i cs es h1 h2=>?_) fun i cs es j c d h1 h2 h3 h4=>?_
 .simp only[af,Q8,h2,aaG,aag]at h1;subst h1;simp
 .simp only[af,Q8,h2,aaG,aag]at h1;subst h1;simp only[Q8,h4,aaG,aag]at h3;subst h3;exact .aa d
inductive ir(σ:Nat->Nat)(m:Mem)(Z:Nat->Prop):List CV->List CV->Prop
 |nil:ir σ m Z [] []
 |aq {v:CV} {e e':List CV} (h:ir σ m Z e e'):ir σ m Z (v::e) (.aq::e')
 |put {v v':CV} {e e':List CV} (hv:pW σ m Z v v') (h:ir σ m Z e e'):ir σ m Z (v::e) (v'::e')
theorem ir.len{e e':List CV}(h:ir σ m Z e e'):e'.length=e.length:=by
 induction h<;>simp[*]
theorem ir.get{e e':List CV}(h:ir σ m Z e e'):∀(i:Nat)c',e'[i]? =some c'->∃c,e[i]? =some c/\pW σ m Z c c':=by
 induction h with
 |nil=>intro i v h;simp at h
 |aq h ih=>
  intro i v hv;cases i with
  |zero=>simp at hv;subst hv;exact⟨_,rfl,.aq _⟩
  |succ i=>simpa using ih i v (by simpa using hv)
 |put hx h ih=>
  intro i v hv;cases i with
  |zero=>simp at hv;subst hv;exact⟨_,rfl,hx⟩
  |succ i=>simpa using ih i v (by simpa using hv)
theorem ir.eq{v v':CV}{e e':List CV}(hv:v'.aO σ=v)(h:ir σ m Z e e'):ir σ m Z (v::e) (v'::e'):= .put (.aO hv) h
inductive dV(σ:Nat->Nat)(m:Mem)(Z:Nat->Prop):Nat->Mem->Prop
 |nil (k:Nat):dV σ m Z k []
 |aW {k:Nat} {r:Mem} (h:dV σ m Z (k+1) r):dV σ m Z k (.aW::r)
 |put {k:Nat} {b b':Bk} {r:Mem} (hz:¬Z (σ k)) (hb:dd m (σ k)=some b) (hv:mK σ m Z (σ k) b b') (h:dV σ m Z (k+1) r):dV σ m Z k (b'::r)
theorem dV.get{k:Nat}{m':Mem}(h:dV σ m Z k m'):∀(i:Nat)b',m'[i]? =some b'->b'= .aW\/(¬Z (σ (k+i))/\∃b,m[σ (k+i)]? =some b/\mK σ m Z (σ (k+i)) b b'):=by
 induction h with
 |nil k=>intro i b' h;simp at h
 | @aW k r h ih=>
  intro i b' hi;cases i with
  |zero=>simp at hi;exact .inl hi.symm
  |succ i=>
   have:=ih i b' (by simpa using hi)
   rwa [show k+1+i=k+(i+1) by omega]at this
 | @put k b b1 r hz hb hv h ih=>
  intro i b' hi;cases i with
  |zero=>simp at hi;subst hi;exact .inr ⟨hz,_,by rw[<-aZ];exact hb,hv⟩
  |succ i=>
   have:=ih i b' (by simpa using hi)
   rwa [show k+1+i=k+(i+1) by omega]at this
theorem View.of{e e':List CV}{m m':Mem}(n:Nat)(l F:List Nat)(hn:m.length=n)(hl:m'.length=l.length)(h0:Nat.ble n0 l.length=true)(hi:H9 l n0=true)(hd:gu l=true)(ha:eO n l=true)(BD:ir (sg l n) m (fun k=>bz F k=true) e e')(kL:dV (sg l n) m (fun k=>bz F k=true) 0 m'):View n0 ⟨e,m⟩ ⟨e',m'⟩:=by
 have h0':n0<=l.length:=X5 h0;refine View.mk' (sg l n) _ (by simp only;omega) BD.len (fun i aB=>?_) (fun i j _ _ h=>K6 hd ha h) (fun i aB=>?_) (fun i c' h=>BD.get i c' h) (fun i b' h=>by have:=kL.get i b' h;simpa using this)
 .rw[tN om];have:=BE hi i aB;rw[IE om]at this;simpa using this
 .rcases ZX i l.length with h|h
  .simp only;omega
  .rw[tO h]at aB;simp only at aB;omega
theorem bJ{f:Nat}{args:List CV}{m:Mem}{K0 K:CV->Mem->Prop}(h:au P f args m K0)(hK:∀r m1,K0 r m1->∃r' m',View m.length ⟨[r],m1⟩ ⟨[r'],m'⟩/\K r' m'):au P f args m K:=by
 refine⟨h.1,fun ρ w vs hM hl hd=>?_⟩
 refine(h.2 ρ w vs hM hl hd).mono fun e w'⟨v,r,m1,ρ1,he,hk,uC,xh,hx⟩=>?_
 obtain⟨r',m',hv,gK⟩:=hK r m1 hk;obtain⟨ρ',lU,hc,uA⟩:=hv.go ρ1 w' uC;have hn:=hM.n;refine⟨v,r',m',ρ',he,gK,lU,?_,⟨by rw[hn,lU.n];exact hv.hn,fun id hid=>(hc.aV id (by rw[<-hn];exact hid)).trans (hx.aV id hid),fun b hb=>hc.S b (hx.S b hb),fun b hb=>?_,fun k hk=>?_,hx.frame,hx.size,hx.os,hx.tape,hx.output⟩⟩
 .obtain⟨c,qH,HY⟩:=uA 0 r' rfl;simp at qH;subst qH;exact HY v xh
 .rcases hc.S' b hb with h|⟨k,hk,rfl⟩
  .exact hx.S' b h
  .exact .inr (hx.aQ k hk)
 .obtain⟨k0,h0,e0⟩:=hc.aQ k hk;rw[<-e0];exact hx.aQ k0 h0
def rd(σ:Nat->Nat):Mem->Mem
 | []=>[]
 |b::r=>b.aO σ::rd σ r
theorem zC(σ:Nat->Nat):∀m,rd σ m=m.map (Bk.aO σ)
 | []=>rfl
 |b::r=>by simp[rd,zC σ r]
def dp:Mem->List Nat->Mem->Mem
 |m,[],ms=>gh m ms
 |m,_::_,[]=>m
 |m,id::l,b::ms=>dp (bb m id b) l ms
theorem yf:∀(l:List Nat)(m ms:Mem),l.length<=ms.length->(dp m l ms).length=m.length+(ms.length-l.length)
 | [],m,ms,_=>by simp[dp,b9]
 |_::l,m,[],h=>by simp at h
 |id::l,m,b::ms,h=>by simp at h;rw[dp,yf l _ _ h,bj];simp
theorem so:∀(l:List Nat)(m ms:Mem)(j:Nat),j<m.length->j∉l->(dp m l ms)[j]? =m[j]?
 | [],m,ms,j,hj,_=>by simp[dp,b9,ZY hj]
 |_::l,m,[],j,_,_=>by simp[dp]
 |id::l,m,b::ms,j,hj,hn=>by
  simp at hn;rw[dp,so l _ _ j (by rw[bj];simpa using hj) hn.2,bj,ZZ (fun h=>hn.1 h.symm)]
theorem yg:∀(l:List Nat)(m ms:Mem),gu l=true->eO m.length l=true->l.length<=ms.length->∀(i:Nat),i<ms.length->(dp m l ms)[sg l m.length i]? =ms[i]?
 | [],m,ms,_,_,_,i,hi=>by simp only[dp,b9,sg,dd,aby,aci];rw[ZW om];simp
 |_::l,m,[],_,_,h,_,_=>by simp at h
 |id::l,m,b::ms,hd,ha,h,i,hi=>by
  simp only[gu,ZM,abX]at hd;simp only[eO,ZM]at ha;simp at h hi;have hlen:(bb m id b).length=m.length:=by rw[bj];simp
  have hid:id<m.length:=X5 ha.1;cases i with
  |zero=>
   rw[dp];show(dp (bb m id b) l ms)[id]? =some b;rw[so l _ _ id (by rw[hlen];exact hid) (fun h=>by rw[vy.2 h]at hd;cases hd.1),bj]
   simp[hid]
  |succ i=>
   have:=yg l (bb m id b) ms hd.2 (by rw[hlen];exact ha.2) h i om
   rw[hlen]at this;rw[dp];have e:sg (id::l) m.length (i+1)=sg l m.length i:=by simp[sg,dd]
   rw[e,this];simp
theorem bC.pos{ρ:bQ}{w:World}{pos pos':Option (Nat×Nat×Nat)}{c:CC}{v:Value}(hc:∀s e,c≠.gO s e)(h:bC ρ w pos c v):bC ρ w pos' c v:=by
 cases c<;>simp only[bC]at h⊢
 case gO=>exact absurd rfl (hc _ _)
 all_goals exact h
theorem bC.Ze{ρ ρ':bQ}{w:World}{pos:Option (Nat×Nat×Nat)}(hn:ρ.n<=ρ'.n)(cC:∀id,id<ρ.n->ρ'.aV (.ar id)=ρ.aV (.ar id))(r8:∀id i j,pos=some (id,i,j)->ρ'.aV (.sub id i j)=ρ.aV (.sub id i j))(hS:∀b,ρ.S b->ρ'.S b){w':World}(lB:∀b,ρ.S b->w'.heap[b]? =w.heap[b]?){c:CC}{v:Value}(h:bC ρ w pos c v):bC ρ' w' pos c v:=by
 let ρ1:bQ:={n:=ρ'.n,aV:=fun k=>match k with| .ar id=>ρ'.aV (.ar id)|k=>ρ.aV k,S:=ρ'.S}
 have g:iD ρ w ρ1 w':=⟨hn,fun k hk=>by
  cases k with
  |ar id=>exact cC id hk
  |sub id i j=>rfl,hS,lB⟩
 by_cases hc:∃s e,c= .gO s e
 .obtain⟨esz,elems,rfl⟩:=hc;obtain⟨id,i,j,dz,hr⟩:=h;refine⟨id,i,j,dz,?_⟩;rw[r8 id i j dz];exact hr
 .have hc:∀s e,c≠.gO s e:=fun s e h=>hc ⟨s,e,h⟩
  have h1:=bC.pos (pos':=pos) hc (bC.cQ g aG (bC.pos (pos':=none) hc h));cases c<;>simp only[bC]at h1⊢
  case gO=>exact absurd rfl (hc _ _)
  all_goals exact h1
theorem bC.aO{ρ ρ':bQ}{τ:Nat->Nat}{w:World}{pos pos':Option (Nat×Nat×Nat)}(hτ:∀i,i<ρ.n->τ i<ρ'.n)(fX:∀i,i<ρ.n->ρ'.aV (.ar (τ i))=ρ.aV (.ar i))(hS:∀b,ρ.S b->ρ'.S b)(dz:∀id i j,pos=some (id,i,j)->pos'=some (τ id,i,j)/\ρ'.aV (.sub (τ id) i j)=ρ.aV (.sub id i j)){c:CC}{v:Value}(h:bC ρ w pos c v):bC ρ' w pos' (c.aO τ) v:=by
 cases c<;>simp only[bC,CC.aO]at h⊢
 case aq=>exact h
 case aa=>exact h.mono hS (fun _ _=>rfl)
 case ptr id _=>rw[fX id h.1];exact⟨hτ id h.1,h.2⟩
 case mM id _ _ _=>rw[fX id h.1];exact⟨hτ id h.1,h.2⟩
 case qB=>
  obtain⟨b,off,h1,h2,h3⟩:=h;refine⟨b,off,h1,hS _ h2,fun j d hj=>?_⟩
  obtain⟨u,hu,cz⟩:=h3 j d hj;exact⟨u,hu,cz.mono hS (fun _ _=>rfl)⟩
 case row id _ _ _=>rw[fX id h.1];exact⟨hτ id h.1,h.2⟩
 case aI=>exact h
 case map id=>rw[fX id h.1];exact⟨hτ id h.1,h.2⟩
 case fn f ei=>
  refine⟨fun id hid=>?_,?_⟩
  .obtain⟨i,hi,rfl⟩:=aaQ.1 hid;exact hτ i (h.1 i hi)
  .rw[h.2];congr 2;rw[abW];exact ach fun id hid=>by simp only[Function.comp];rw[fX id (h.1 id hid)]
 case gO s e=>
  obtain⟨a,b,c,h1,h2⟩:=h;obtain⟨h3,h4⟩:=dz a b c h1;refine⟨τ a,b,c,h3,?_⟩;rw[h4];exact h2
theorem dP.aO{ρ ρ':bQ}{τ:Nat->Nat}{w:World}(hτ:∀i,i<ρ.n->τ i<ρ'.n)(fX:∀i,i<ρ.n->ρ'.aV (.ar (τ i))=ρ.aV (.ar i))(hS:∀b,ρ.S b->ρ'.S b){c:RV}{v:Value}(h:dP ρ w c v):dP ρ' w (c.aO τ) v:=by
 cases c with
 |one c=>exact bC.aO hτ fX hS (fun _ _ _ h=>by cases h) h
 |agg cs=>
  obtain⟨vs,rfl,h1,h2⟩:=h;refine⟨vs,rfl,by simpa using h1,fun i c hi=>?_⟩
  rw[Q8]at hi;obtain⟨c0,h0,rfl⟩:=aaI.1 hi;obtain⟨u,hu,hd⟩:=h2 i c0 h0;exact⟨u,hu,bC.aO hτ fX hS (fun _ _ _ h=>by cases h) hd⟩
theorem cm.aO{ρ ρ':bQ}{τ:Nat->Nat}{w:World}(hτ:∀i,i<ρ.n->τ i<ρ'.n)(fX:∀i,i<ρ.n->ρ'.aV (.ar (τ i))=ρ.aV (.ar i))(hS:∀b,ρ.S b->ρ'.S b){c:CV}{v:Value}(h:cm ρ w c v):cm ρ' w (c.aO τ) v:=by
 cases c with
 |aq=>trivial
 |undef=>exact h
 |rv r=>exact dP.aO hτ fX hS h
 |bK cs=>
  obtain⟨vs,rfl,h1,h2⟩:=h;refine⟨vs,rfl,by simpa using h1,fun i c hi=>?_⟩
  rw[Q8]at hi;obtain⟨c0,h0,rfl⟩:=aaI.1 hi;obtain⟨u,hu,hd⟩:=h2 i c0 h0;exact⟨u,hu,dP.aO hτ fX hS hd⟩
theorem d8.aO{ρ ρ':bQ}{τ:Nat->Nat}{w:World}(hτ:∀i,i<ρ.n->τ i<ρ'.n)(fX:∀i,i<ρ.n->ρ'.aV (.ar (τ i))=ρ.aV (.ar i))(hS:∀b,ρ.S b->ρ'.S b){id:Nat}(hid:id<ρ.n)(r8:∀i j,ρ'.aV (.sub (τ id) i j)=ρ.aV (.sub id i j)){b:Bk}(h:d8 ρ w id b):d8 ρ' w (τ id) (b.aO τ):=by
 cases b with
 |aW=>trivial
 |var cs=>
  obtain⟨cur,hc,hd⟩:=h;simp only[Bk.aO,d8,fX id hid];refine⟨cur,hc,fun j c hj=>?_⟩
  rw[Q8]at hj;obtain⟨c0,h0,rfl⟩:=aaI.1 hj;obtain⟨u,hu,cz⟩:=hd j c0 h0;exact⟨u,hu,bC.aO hτ fX hS (fun _ _ _ h=>by cases h) cz⟩
 |row s es=>
  obtain⟨h2,h3,h4,h5,cj⟩:=h;simp only[Bk.aO,d8,fX id hid];refine⟨by simpa using h2,h3,h4,fun cs eJ=>?_,fun dz=>?_⟩
  .obtain⟨AV,h0,rfl⟩:=aaQ.1 eJ;simpa using h5 AV h0
  .obtain⟨cur,hc,h1,h6⟩:=cj dz;refine⟨cur,hc,h1,fun i cs j c hi hj=>?_⟩
   rw[Q8]at hi;obtain⟨AV,h0,rfl⟩:=aaI.1 hi;rw[Q8]at hj;obtain⟨c0,h00,rfl⟩:=aaI.1 hj;obtain⟨u,hu,cz⟩:=h6 i AV j c0 h0 h00;exact⟨u,hu,bC.aO hτ fX hS (fun a b c h=>by cases h;exact⟨rfl,r8 _ _⟩) cz⟩
 |mp es=>
  obtain⟨ae,clock,hc,h1,h2⟩:=h;simp only[Bk.aO,d8,fX id hid];refine⟨ae,clock,hc,by simpa using h1,fun i e hi=>?_⟩
  rw[Q8]at hi;obtain⟨e0,h0,rfl⟩:=aaI.1 hi;obtain⟨VC,VD,hk,uA⟩:=h2 i e0 h0;exact⟨VC,VD,hk,dP.aO hτ fX hS uA⟩
 |it cur left=>
  obtain⟨mb,seen,ck,c6,h2,h3,h4,h5,h6⟩:=h;simp only[Bk.aO,d8,fX id hid];exact⟨mb,seen,ck,c6,h2,h3,hS _ h4,h5,h6⟩
end
section
variable {P:Program}
theorem D3{l:List Nat}{n i:Nat}(hi:sg l n i<n):i<l.length:=by
 rcases ZX i l.length with h|h
 .exact h
 .rw[tO h]at hi;omega
theorem bu{f:Nat}{args args0:List CV}{m m0:Mem}{K0 K:CV->Mem->Prop}(l:List Nat)(n:Nat)(hn:m.length=n)(hl:m0.length=l.length)(hd:gu l=true)(ha:eO n l=true)(e7:args=args0.map (CV.aO (sg l n)))(hm:∀(i:Nat)b',m0[i]? =some b'->b'= .aW\/(¬False/\∃b,m[sg l n i]? =some b/\mK (sg l n) m (fun _=>False) (sg l n i) b b'))(h:au P f args0 m0 K0)(hK:∀r m1,K0 r m1->l.length<=m1.length/\K (r.aO (sg l n)) (dp m l (rd (sg l n) m1))):au P f args m K:=by
 subst hn;refine⟨h.1,fun ρ w vs hM uB Zf=>?_⟩
 have rZ:∀i j,sg l m.length i=sg l m.length j->i=j:=fun i j h=>K6 hd ha h
 obtain⟨lF,hC0,Sc⟩:=zB (n0:=0) (σ:=sg l m.length) (Z:=fun _=>False) (m':=m0) hM (fun i h=>absurd h (abb i)) (fun i j _ _ h=>rZ i j h) (fun i h=>by rw[hl];exact D3 h) hm
 have XO:∀b,(ρ.vw (sg l m.length) (fun _=>False) m m0.length).S b↔ρ.S b:=fun b=>⟨fun h=>h.elim id fun⟨k,_,hf,_⟩=>hf.elim,.inl⟩
 have ld:ρ.n=m.length:=hM.n;refine(h.2 _ w vs lF (by rw[uB,e7];simp) fun i c hi=>?_).mono fun e w'⟨v,r,m1,ρ1,he,hk,uC,xh,hx⟩=>?_
 .obtain⟨v,hv,uA⟩:=Zf i (c.aO (sg l m.length)) (by rw[e7,Q8,hi];rfl)
  exact⟨v,hv,pW.k9 hM (fun i h=>by rw[hl];exact D3 h) (.Ia c) uA⟩
 .obtain⟨hle,gK⟩:=hK r m1 hk;have pQ:ρ1.n=m1.length:=uC.n;let back:Nat->Option Nat:=fun j=>(List.range m1.length).find? fun i=>sg l m.length i==j
  have kq:∀{j i},back j=some i->i<m1.length/\sg l m.length i=j:=by
   intro j i hb;have h1:=List.mem_of_find?_eq_some hb;have h2:=List.find?_some hb;exact⟨by simpa using h1,by simpa using h2⟩
  have Gp:∀{i},i<m1.length->back (sg l m.length i)=some i:=by
   intro i hi;cases hb:back (sg l m.length i)with
   |none=>
    have:=ac8.1 hb i (by simpa using hi)
    simp at this
   |some j=>rw[rZ _ _ (kq hb).2]
  have oX:∀{j},j<m.length+(m1.length-l.length)->back j=none->j<m.length/\j∉l:=by
   intro j hj hb;have jc:=ac8.1 hb;refine⟨?_,fun km=>?_⟩
   .rcases ZX j m.length with h|h
    .exact h
    .have:=jc (l.length+(j-m.length)) (by simp;omega)
     rw[tO om]at this;simp at this;omega
   .obtain⟨i,hi⟩:=Xf km;obtain⟨aB,rfl⟩:=Mh.1 hi;have:=jc i (by simp;omega)
    rw[tN aB]at this;simp at this
  let ρ':bQ:={n:=m.length+(m1.length-l.length),aV:=fun k=>match back k.id with
   |some i=>(match k with| .ar _=>ρ1.aV (.ar i)| .sub _ a b=>ρ1.aV (.sub i a b))
   |none=>ρ.aV k,S:=ρ1.S}
  have OF:∀i,i<ρ1.n->ρ'.aV (.ar (sg l m.length i))=ρ1.aV (.ar i):=by intro i hi;rw[pQ]at hi;simp only[ρ',jz.id,Gp hi]
  have Sd:∀i a b,i<ρ1.n->ρ'.aV (.sub (sg l m.length i) a b)=ρ1.aV (.sub i a b):=by intro i a b hi;rw[pQ]at hi;simp only[ρ',jz.id,Gp hi]
  have Ib:∀k:jz,back k.id=none->ρ'.aV k=ρ.aV k:=by intro k hb;simp only[ρ',hb]
  have K7:∀id,id<ρ.n->ρ'.aV (.ar id)=ρ.aV (.ar id):=by
   intro id hid;cases hb:back id with
   |none=>exact Ib (.ar id) hb
   |some i=>
    obtain⟨h1,h2⟩:=kq hb;have hi:i<l.length:=D3 (by rw[h2,<-ld];exact hid)
    rw[<-h2,OF i (by rw[pQ];exact h1),hx.aV i (by show i<m0.length;omega)]
    rfl
  have zh:∀i,i<ρ1.n->sg l m.length i<ρ'.n:=by
   intro i hi;rw[pQ]at hi;show _<m.length+(m1.length-l.length);rcases ZX i l.length with h|h
   .rw[tN h];have:=oW ha _ (Z0 h);omega
   .rw[tO h];omega
  have Gq:(rd (sg l m.length) m1).length=m1.length:=by rw[zC];simp
  have XP:(dp m l (rd (sg l m.length) m1)).length=m.length+(m1.length-l.length):=by
   rw[yf l m _ (by rw[Gq];exact hle),Gq]
  have XQ:∀i,i<m1.length->(dp m l (rd (sg l m.length) m1))[sg l m.length i]? =(m1[i]?).map (Bk.aO (sg l m.length)):=by
   intro i hi;rw[yg l m _ hd ha (by rw[Gq];exact hle) i (by rw[Gq];exact hi),zC,Q8]
  have Zg:∀j,back j=none->j<m.length+(m1.length-l.length)->(dp m l (rd (sg l m.length) m1))[j]? =m[j]? :=by intro j hb hj;obtain⟨h1,h2⟩:=oX hj hb;exact so l m _ j h1 h2
  have wY:∀k,Live ρ m k->(k.id<m.length->k.id∉l)->(∀k0,Live (ρ.vw (sg l m.length) (fun _=>False) m m0.length) m0 k0->((ρ.vw (sg l m.length) (fun _=>False) m m0.length).aV k0).b≠(ρ.aV k).b):=by
   intro k hk K8 k0 JW he;have h1:=Sc k0 JW;have h2:=hM.inj _ _ h1 hk he;have h3:=JW.fS;rw[hl]at h3;apply K8 hk.fS;rw[<-h2];cases k0<;>simp only[jz.aO,jz.id]at h3⊢<;>rw[tN h3]<;>exact Z0 h3
  have lB:∀k,Live ρ m k->(k.id<m.length->k.id∉l)->w'.heap[(ρ.aV k).b]? =w.heap[(ρ.aV k).b]? :=fun k hk K8=>hx.frame _ (hM.aQ k hk).1 (wY k hk K8)
  have u6:∀b,ρ.S b->w'.heap[b]? =w.heap[b]? :=fun b hb=>hx.frame b (hM.S b hb) fun k hk he=>(lF.aQ k hk).2 (he▸(XO b).2 hb)
  have XR:∀b,ρ.S b->ρ1.S b:=fun b hb=>hx.S b ((XO b).2 hb)
  have VE:∀k,Live ρ m k->(k.id<m.length->k.id∉l)->¬ρ1.S (ρ.aV k).b:=by
   intro k hk K8 hs;rcases hx.S' _ hs with h|h|⟨k0,JW,he⟩
   .exact(hM.aQ k hk).2 ((XO _).1 h)
   .have:=(hM.aQ k hk).1;omega
   .exact wY k hk K8 k0 JW he
  have nB:∀k,Live ρ' (dp m l (rd (sg l m.length) m1)) k->(∃k1,k1.id<m1.length/\k=k1.aO (sg l m.length)/\Live ρ1 m1 k1/\ρ'.aV k=ρ1.aV k1)\/(back k.id=none/\k.id<m.length/\k.id∉l/\Live ρ m k/\ρ'.aV k=ρ.aV k):=by
   intro k hk;have aB:=hk.fS;rw[XP]at aB;cases hb:back k.id with
   |none=>
    obtain⟨h1,h2⟩:=oX aB hb;have Se:=Zg k.id hb aB;refine .inr ⟨rfl,h1,h2,?_,Ib k hb⟩;have cC:=Ib k hb;cases k with
    |ar id=>
     obtain⟨bk,eY,qz,bq⟩:=hk;simp only[jz.id]at Se;rw[Se]at eY;rw[cC]at bq;exact⟨bk,eY,qz,bq⟩
    |sub id a b=>
     obtain⟨⟨s,e,es,rows,cs,eY,hi,hj⟩,bq⟩:=hk;simp only[jz.id]at Se;rw[Se]at eY;rw[cC]at bq;exact⟨⟨s,e,es,rows,cs,eY,hi,hj⟩,bq⟩
   |some i=>
    obtain⟨h1,h2⟩:=kq hb;have Se:=XQ i h1;cases k with
    |ar id=>
     simp only[jz.id]at h2;subst h2;have cC:=OF i (by rw[pQ];exact h1)
     refine .inl ⟨.ar i,h1,rfl,?_,cC⟩;obtain⟨bk,eY,qz,bq⟩:=hk;rw[Se]at eY;obtain⟨b0,h0,rfl⟩:=aaI.1 eY;rw[cC]at bq;refine⟨b0,h0,?_,?_⟩
     .rintro rfl;exact qz rfl
     .rintro⟨s,es,rfl⟩;exact bq ⟨_,_,rfl⟩
    |sub id a b=>
     simp only[jz.id]at h2;subst h2;have cC:=Sd i a b (by rw[pQ];exact h1)
     refine .inl ⟨.sub i a b,h1,rfl,?_,cC⟩;obtain⟨⟨s,e,es,rows,cs,eY,hi,hj⟩,bq⟩:=hk;rw[Se]at eY;obtain⟨b0,h0,xg⟩:=aaI.1 eY;rw[cC]at bq;cases b0 with
     |row s0 es0=>
      simp only[Bk.aO,Bk.row.injEq]at xg;obtain⟨rfl,rfl⟩:=xg;rw[Q8]at hi;obtain⟨AV,uy,rfl⟩:=aaI.1 hi;rw[Q8]at hj;obtain⟨c0,Zh,JR⟩:=aaI.1 hj;have:c0= .gO s e:=by cases c0<;>simp[CC.aO]at JR⊢;exact JR
      subst this;exact⟨⟨s,e,_,_,_,h0,uy,Zh⟩,bq⟩
     |_=>simp[Bk.aO]at xg
  have Zi:∀{j i},back j=some i->i<ρ1.n/\sg l m.length i=j:=fun hb=>by rw[pQ];exact kq hb
  refine⟨v,r.aO (sg l m.length),dp m l (rd (sg l m.length) m1),ρ',he,gK,⟨XP.symm,fun b hb=>uC.S b hb,fun k hk=>?_,fun k k' hk pd mU=>?_,fun id b hb=>?_,fun id i j esz e ho bq=>?_⟩,cm.aO zh OF (fun _ h=>h) xh,
   ⟨by show ρ.n<=_;rw[ld];exact Nat.le_add_right _ _,K7,XR,fun b hb=>?_,fun k hk=>?_,fun b hb hnk=>hx.frame b hb fun k hk he=>hnk _ (Sc k hk) he,hx.size,hx.os,hx.tape,hx.output⟩⟩
  .rcases nB k hk with⟨k1,_,_,jI,cC⟩|⟨_,h1,h2,jI,cC⟩
   .rw[cC];exact uC.aQ k1 jI
   .rw[cC];exact⟨abh (hM.aQ k jI).1 hx.size,VE k jI fun _=>h2⟩
  .have mixed:∀k1 k2,Live ρ1 m1 k1->Live ρ m k2->k2.id∉l->(ρ1.aV k1).b≠(ρ.aV k2).b:=by
    intro k1 k2 jI pd Zj oT;rcases hx.aQ k1 jI with h|⟨k0,JW,e0⟩
    .have:=(hM.aQ k2 pd).1;omega
    .exact wY k2 pd (fun _=>Zj) k0 JW (e0.trans oT)
   rcases nB k hk with⟨k1,_,rfl,jI,cC⟩|⟨_,h1,h2,jI,cC⟩<;>rcases nB k' pd with⟨k1',_,rfl,K9,jm⟩|⟨_,OG,QO,K9,jm⟩
   .rw[cC,jm]at mU;rw[uC.inj k1 k1' jI K9 mU]
   .rw[cC,jm]at mU;exact absurd mU (mixed k1 k' jI K9 QO)
   .rw[cC,jm]at mU;exact absurd mU.symm (mixed k1' k K9 jI h2)
   .rw[cC,jm]at mU;exact hM.inj k k' jI K9 mU
  .have aB:id<m.length+(m1.length-l.length):=by rw[<-XP];exact(Mh.1 hb).1
   cases eY:back id with
   |some i=>
    obtain⟨h1,rfl⟩:=kq eY;rw[XQ i h1]at hb;obtain⟨b0,h0,rfl⟩:=aaI.1 hb;exact d8.aO zh OF (fun _ h=>h) (by rw[pQ];exact h1) (fun a b=>Sd i a b (by rw[pQ];exact h1)) (uC.bk i b0 h0)
   |none=>
    obtain⟨h1,h2⟩:=oX aB eY;rw[Zg id eY aB]at hb;have qS:=hM.bk id b hb;have cC:ρ'.aV (.ar id)=ρ.aV (.ar id):=Ib (.ar id) eY;have ew:ρ.n<=ρ'.n:=by rw[ld];exact Nat.le_add_right _ _
    have jj:∀{p c u},(∀a i j,p=some (a,i,j)->a=id)->bC ρ w p c u->bC ρ' w' p c u:=fun{p c u}hp hd=>bC.Ze ew K7 (fun a i j ue=>by rw[hp a i j ue];exact Ib (.sub id i j) eY) XR u6 hd
    have jl:∀{c u},dP ρ w c u->dP ρ' w' c u:=by
     intro c u hd;cases c with
     |one c=>exact jj (fun _ _ _ h=>by cases h) hd
     |agg cs=>
      obtain⟨vs,hv,Bi,hc⟩:=hd;exact⟨vs,hv,Bi,fun i c hi=>let⟨u,hu,hd⟩:=hc i c hi;⟨u,hu,jj (fun _ _ _ h=>by cases h) hd⟩⟩
    have hh:b≠.aW->((∃esz elems,b= .row esz elems)->0<(ρ.aV (.ar id)).cap)->w'.heap[(ρ.aV (.ar id)).b]? =w.heap[(ρ.aV (.ar id)).b]? :=fun qz bq=>lB (.ar id) ⟨b,hb,qz,bq⟩ fun _=>h2
    cases b with
    |aW=>trivial
    |var cs=>
     obtain⟨cur,hc,zm⟩:=qS;simp only[d8,cC];refine⟨cur,hc.dn (hh aG (by rintro⟨_,_,h⟩;cases h)),fun j c hj=>?_⟩
     obtain⟨u,hu,cz⟩:=zm j c hj;exact⟨u,hu,jj (fun _ _ _ h=>by cases h) cz⟩
    |row esz elems=>
     obtain⟨g2,g3,g4,g5,cj⟩:=qS;simp only[d8,cC];refine⟨g2,g3,g4,g5,fun dz=>?_⟩
     obtain⟨cur,hc,q1,q6⟩:=cj dz;refine⟨cur,hc.dn (hh aG (fun _=>dz)),q1,fun i cs j c hi hj=>?_⟩
     obtain⟨u,hu,cz⟩:=q6 i cs j c hi hj;exact⟨u,hu,jj (fun _ _ _ h=>by cases h;rfl) cz⟩
    |mp es=>
     obtain⟨ae,clock,hc,q1,q2⟩:=qS;simp only[d8,cC];refine⟨ae,clock,⟨(hh aG (by rintro⟨_,_,h⟩;cases h)).trans hc.1,hc.2⟩,q1,fun i e hi=>?_⟩
     obtain⟨VC,VD,x4,uA⟩:=q2 i e hi;exact⟨VC,VD,x4,jl uA⟩
    |it cur left=>
     obtain⟨mb,seen,ck,c6,q2,q3,q4,q5,q6⟩:=qS;simp only[d8,cC];exact⟨mb,seen,ck,c6,(hh aG (by rintro⟨_,_,h⟩;cases h)).trans q2,q3,XR _ q4,(u6 mb q4).trans q5,q6⟩
  .have hk:Live ρ' (dp m l (rd (sg l m.length) m1)) (.sub id i j):=⟨⟨_,_,ho⟩,bq⟩;obtain⟨es,rows,cs,hb,hi,hj⟩:=ho;have aB:id<m.length+(m1.length-l.length):=by rw[<-XP];exact(Mh.1 hb).1
   cases eY:back id with
   |some i0=>
    obtain⟨h1,rfl⟩:=kq eY;have cC:=Sd i0 i j (by rw[pQ];exact h1)
    rw[cC]at bq⊢;rw[XQ i0 h1]at hb;obtain⟨b0,h0,xg⟩:=aaI.1 hb;cases b0 with
    |row s0 es0=>
     simp only[Bk.aO,Bk.row.injEq]at xg;obtain⟨rfl,rfl⟩:=xg;rw[Q8]at hi;obtain⟨AV,uy,rfl⟩:=aaI.1 hi;rw[Q8]at hj;obtain⟨c0,Zh,JR⟩:=aaI.1 hj;have:c0= .gO esz e:=by cases c0<;>simp[CC.aO]at JR⊢;exact JR
     subst this;exact uC.gO i0 i j esz e ⟨_,_,_,h0,uy,Zh⟩ bq
    |_=>simp[Bk.aO]at xg
   |none=>
    obtain⟨h1,h2⟩:=oX aB eY;have cC:=Ib (.sub id i j) eY;rw[cC]at bq⊢;rw[Zg id eY aB]at hb;have mh:fJ m id i j esz e:=⟨_,_,_,hb,hi,hj⟩;obtain⟨cur,hc,q1,q2,q3⟩:=hM.gO id i j esz e mh bq;refine⟨cur,hc.dn (lB (.sub id i j) ⟨⟨_,_,mh⟩,bq⟩ fun _=>h2),q1,q2,fun i2 Kp j2 d eC kj=>?_⟩
    obtain⟨u,hu,cz⟩:=q3 i2 Kp j2 d eC kj;exact⟨u,hu,cz.mono XR u6⟩
  .rcases hx.S' b hb with h|h|⟨k0,JW,he⟩
   .exact .inl ((XO b).1 h)
   .exact .inr (.inl h)
   .exact .inr (.inr ⟨_,Sc k0 JW,he⟩)
  .rcases nB k hk with⟨k1,_,_,jI,cC⟩|⟨_,h1,h2,jI,cC⟩
   .rw[cC];rcases hx.aQ k1 jI with h|⟨k0,JW,e0⟩
    .exact .inl h
    .exact .inr ⟨_,Sc k0 JW,e0⟩
   .rw[cC];exact .inr ⟨k,jI,rfl⟩
end
section
variable {P:Program}
theorem View.aI{n0:Nat}{e:List CV}{m:Mem}(t esz n:Nat)(hn:m.length=n)(he:jQ e t= .rv (.one .aI))(h0:Nat.ble n0 n=true):
  View n0 ⟨e,m⟩ ⟨bb e t (.rv (.one (.row n esz 0 none))),gh m [.row esz []]⟩:=by
 subst hn;have h0:=X5 h0;rw[bj,b9];refine⟨by simp;omega,aG,fun ρ w hM=>?_⟩
 have hn:ρ.n=m.length:=hM.n;let ρ':bQ:={n:=m.length+1,aV:=fun k=>if k.id=m.length then⟨0,0,0,0⟩else ρ.aV k,S:=ρ.S}
 have cC:∀k:jz,k.id<ρ.n->ρ'.aV k=ρ.aV k:=fun k hk=>by simp only[ρ'];rw[if_neg om]
 have g:iD ρ w ρ' w:=⟨by show ρ.n<=m.length+1;omega,cC,fun _ h=>h,fun _ _=>rfl⟩
 have cG:∀k,Live ρ' (m++ [.row esz []]) k->Live ρ m k:=by
  intro k hk;have aB:=hk.fS;simp at aB;cases k with
  |ar id=>
   obtain⟨bk,hb,qz,bq⟩:=hk;simp only[jz.id]at aB;rcases ZX id m.length with h|h
   .rw[ZY h]at hb;rw[cC (.ar id) (by simp only[jz.id];omega)]at bq
    exact⟨bk,hb,qz,bq⟩
   .have:id=m.length:=om;subst this;simp at hb;subst hb;have:=bq ⟨_,_,rfl⟩;simp[ρ',jz.id]at this
  |sub id i j=>
   obtain⟨⟨s,el,es,rows,cs,hb,hi,hj⟩,bq⟩:=hk;simp only[jz.id]at aB;rcases ZX id m.length with h|h
   .rw[ZY h]at hb;rw[cC (.sub id i j) (by simp only[jz.id];omega)]at bq
    exact⟨⟨s,el,es,rows,cs,hb,hi,hj⟩,bq⟩
   .have:id=m.length:=om;subst this;simp at hb;obtain⟨_,rfl⟩:=hb;simp at hi
 have jm:∀k,Live ρ m k->ρ'.aV k=ρ.aV k:=fun k hk=>cC k (by rw[hn];exact hk.fS)
 refine⟨ρ',⟨by simp[ρ'],hM.S,fun k hk=>?_,fun k k' hk gK mU=>?_,fun id b hb=>?_,fun id i j s el ho bq=>?_⟩,⟨fun id hid=>cC (.ar id) (by simp only[jz.id];omega),fun _ h=>h,fun _ h=>.inl h,fun k hk=>⟨k,cG k hk,(by rw[jm k (cG k hk)])⟩⟩,fun i c' hi=>?_⟩
 .rw[jm k (cG k hk)];exact hM.aQ k (cG k hk)
 .rw[jm k (cG k hk),jm k' (cG k' gK)]at mU;exact hM.inj k k' (cG k hk) (cG k' gK) mU
 .rcases ZX id m.length with h|h
  .rw[ZY h]at hb;exact(hM.bk id b hb).cQ g om fun _ _=>rfl
  .have aB:=(Mh.1 hb).1;simp at aB;have:id=m.length:=om;subst this;simp at hb;subst hb;simp[d8,ρ',jz.id]
 .have hk:Live ρ m (.sub id i j):=cG (.sub id i j) ⟨⟨_,_,ho⟩,bq⟩;have hid:=hk.fS;simp only[jz.id]at hid;rw[jm _ hk]at bq⊢;obtain⟨es,rows,cs,hb,hi,hj⟩:=ho;rw[ZY hid]at hb;obtain⟨cur,hc,q1,q2,q3⟩:=hM.gO id i j s el ⟨es,rows,cs,hb,hi,hj⟩ bq;exact⟨cur,hc,q1,q2,q3⟩
 .simp only at hi;have aB:=(Mh.1 hi).1;simp at aB;rw[abw]at hi;split at hi
  .rename_i La;subst La;rw[if_pos aB]at hi;cases hi;refine⟨.rv (.one .aI),?_,fun v hd=>?_⟩
   .rw[lv,IE aB]at he;rw[IE aB];simpa using he
   .obtain⟨a,rfl⟩:=hd;simp[cm,dP,bC,ρ',jz.id]
  .exact⟨c',hi,fun v hd=>cm.cQ g hd⟩
theorem vA{n0:Nat}{b:LC}{K:Ex->St->Prop}{s:St}{α:Type}(J:α->Prop)(f:α->List (Nat×CV))(M:α->Mem)(μ:α->Nat)(a0:α)(h0:J a0)(start:View n0 s ⟨By s.a8 (f a0),M a0⟩)(round:∀a,J a->aw P n0 b (F6 n0 J (fun a=>⟨By s.a8 (f a),M a⟩) μ (μ a) K) ⟨By s.a8 (f a),M a⟩):aw P n0 (.loop b) K s:=
 ⟨α,J,fun a=>⟨By s.a8 (f a),M a⟩,μ,⟨a0,h0,start⟩,round⟩
theorem yh:∀{cs:List CC}{k:Nat}{c:CC},cs[k]? =some c->iJ cs k 1=some [c]
 | [],k,c,h=>by simp at h
 |x::r,0,c,h=>by simp at h;subst h;cases r<;>rfl
 |x::r,k+1,c,h=>by
  show iJ r k 1=_;exact yh (by simpa using h)
theorem mK.bM{σ:Nat->Nat}{m:Mem}{Z:Nat->Prop}{id s:Nat}{es:List (List CC)}{ds:List (List Dt)}(h:es=af ds):mK σ m Z id (.row s es) (.row s (af ds)):=by subst h;have:=mK.Ia (σ:=σ) (m:=m) (Z:=Z) (id:=id) (.row s (af ds)) aG;rwa [Bk.kn]at this
theorem e9{F:List Nat}{k:Nat}(h:bz F k=false):¬bz F k=true:=by rw[h];simp
theorem mK.eq{σ:Nat->Nat}{m:Mem}{Z:Nat->Prop}{id:Nat}{b b':Bk}(h:b'.aO σ=b)(hd:b'≠.aW):mK σ m Z id b b':=h▸ .Ia b' hd
theorem mK.jn{σ:Nat->Nat}{m:Mem}{Z:Nat->Prop}{id:Nat}{cs:List CC}{ds:List Dt}(h:cs=ds.map .aa):mK σ m Z id (.var cs) (.var (ds.map .aa)):=by subst h;have:=mK.Ia (σ:=σ) (m:=m) (Z:=Z) (id:=id) (.var (ds.map .aa)) aG;simpa[Bk.aO,CC.aO,acf]using this
theorem pW.hi{σ:Nat->Nat}{m:Mem}{Z:Nat->Prop}{jH id e lo n esz:Nat}{elems:List (List CC)}(hσ:σ id=jH)(hb:dd m jH=some (.row esz elems))(hn:elems.length=n):
  pW σ m Z (.rv (.one (.row jH e lo none))) (.rv (.one (.row id e lo (some n)))):=by
 subst hσ;subst hn;exact .rv (.one (.hi id e lo (by rw[<-aZ];exact hb)))
inductive lV:List CV->List CV->Prop
 |nil:lV [] []
 |dn {c:CV} {r r':List CV} (h:lV r r'):lV (c::r) (c::r')
 |aI (esz:Nat) {r r':List CV} (h:lV r r'):lV (.rv (.one .aI)::r) (.rv (.one (.aa (.sl esz [])))::r')
theorem lV.len{a b:List CV}(h:lV a b):a.length=b.length:=by
 induction h<;>simp[*]
theorem lV.get{a b:List CV}(h:lV a b):∀(i:Nat)c',b[i]? =some c'->∃c,a[i]? =some c/\∀ρ w v,cm ρ w c v->cm ρ w c' v:=by
 induction h with
 |nil=>intro i c' h;simp at h
 |dn h ih=>
  intro i c' hi;cases i with
  |zero=>simp at hi;subst hi;exact⟨_,rfl,fun _ _ _ h=>h⟩
  |succ i=>simpa using ih i c' (by simpa using hi)
 |aI esz h ih=>
  intro i c' hi;cases i with
  |zero=>
   simp at hi;subst hi;refine⟨_,rfl,fun ρ w v hd=>?_⟩
   obtain⟨a,rfl⟩:=hd;exact .nil esz a 0 (Wi _)
  |succ i=>simpa using ih i c' (by simpa using hi)
theorem Ic{f:Nat}{args lI:List CV}{m:Mem}{K:CV->Mem->Prop}(ha:lV args lI)(h:au P f lI m K):au P f args m K:=by
 refine⟨h.1,fun ρ w vs hM hl hd=>h.2 ρ w vs hM (hl.trans ha.len) fun i c' hi=>?_⟩
 obtain⟨c,hc,HY⟩:=ha.get i c' hi;obtain⟨v,hv,uA⟩:=hd i c hc;exact⟨v,hv,HY _ _ _ uA⟩
theorem ay{p:Prop}{i:Decidable p}{A B:Prop}(ha:p->A)(hb:¬p->B): @Bool.rec (fun _=>Prop) B A (@decide p i):=by
 cases hd: @decide p i
 .exact hb (of_decide_eq_false hd)
 .exact ha (of_decide_eq_true hd)
theorem bI{a b:Int}{A B:Prop}(ha:a=b->A)(hb:a≠b->B): @Bool.rec (fun _=>Prop) B A (a==b):=by
 cases hd:(a==b)
 .exact hb (by simpa using hd)
 .exact ha (by simpa using hd)
theorem bG{a b:Int}{A B:Prop}(ha:a≠b->A)(hb:a=b->B): @Bool.rec (fun _=>Prop) B A (a !=b):=by
 cases hd:(a !=b)
 .exact hb (by simpa using hd)
 .exact ha (by simpa using hd)
theorem pW.e8{σ:Nat->Nat}{m:Mem}{F:List Nat}(id:Nat)(ds:List (List Dt)){esz:Nat}(hz:bz F id=true)(hb:dd m id=some (.row esz (af ds))):
  pW σ m (fun k=>bz F k=true) (.rv (.one (.row id esz 0 none))) (.rv (.one (.aa (.sl esz ds)))):=
 .rv (.one (.e8 (dC.dJ (Z:=fun k=>bz F k=true) hz (by rw[<-aZ];exact hb) 0 none)))
def QP(i:Nat):List (Nat×CV)->Option CV
 | []=>none
 |(j,x)::r=>match Nat.beq i j with|true=>some x|false=>QP i r
def kpV(eS:List Nat)(f:List (Nat×CV))(i:Nat)(v:CV):CV:=
 match QP i f with
 |some x=>x
 |none=>match bz eS i with|true=>v|false=>.aq
def VF(eS:List Nat)(f:List (Nat×CV)):Nat->List CV->(List CV->List CV)->List CV
 |_,[],k=>k []
 |i,v::r,k=>fV (kpV eS f i v) fun v'=>VF eS f (i+1) r fun r'=>k (v'::r')
def QQ(eS:List Nat)(e:List CV)(f:List (Nat×CV)):List CV:=VF eS f 0 e fun e=>e
theorem aK{n0:Nat}{b:LC}{K:Ex->St->Prop}{s:St}{α:Type}(J:α->Prop)(eS:List Nat)(f:α->List (Nat×CV))(M:α->Mem)(μ:α->Nat)(a0:α)(h0:J a0)(start:View n0 s ⟨QQ eS s.a8 (f a0),M a0⟩)(round:∀a,J a->aw P n0 b (F6 n0 J (fun a=>⟨QQ eS s.a8 (f a),M a⟩) μ (μ a) K) ⟨QQ eS s.a8 (f a),M a⟩):aw P n0 (.loop b) K s:=
 ⟨α,J,fun a=>⟨QQ eS s.a8 (f a),M a⟩,μ,⟨a0,h0,start⟩,round⟩
theorem eE{n0:Nat}{b:LC}{K:Ex->St->Prop}{s:St}(eS:List Nat)(f:List (Nat×CV))(M:Mem)(hv:View n0 s ⟨QQ eS s.a8 f,M⟩)(h:aw P n0 b K ⟨QQ eS s.a8 f,M⟩):aw P n0 (.cu b) K s:=⟨_,hv,h⟩
end
theorem View.o{n0:Nat}{e e':List CV}{m m':Mem}(n:Nat)(l F:List Nat)(BD:ir (sg l n) m (fun k=>bz F k=true) e e')(kL:dV (sg l n) m (fun k=>bz F k=true) 0 m')(hn:m.length=n:=by exact rfl)(hl:m'.length=l.length:=by exact rfl)(h0:Nat.ble n0 l.length=true:=by exact rfl)(hi:H9 l n0=true:=by exact rfl)(hd:gu l=true:=by exact rfl)(ha:eO n l=true:=by exact rfl):View n0 ⟨e,m⟩ ⟨e',m'⟩:=View.of n l F hn hl h0 hi hd ha BD kL
theorem View.o1{n0:Nat}{e e':List CV}{m m':Mem}(n:Nat)(l F:List Nat)(kL:dV (sg l n) m (fun k=>bz F k=true) 0 m')(hn:m.length=n:=by exact rfl)(hl:m'.length=l.length:=by exact rfl)(h0:Nat.ble n0 l.length=true:=by exact rfl)(hi:H9 l n0=true:=by exact rfl)(hd:gu l=true:=by exact rfl)(ha:eO n l=true:=by exact rfl)(BD:ir (sg l n) m (fun k=>bz F k=true) e e':=by repeat(first|exact .nil|refine .aq ?_|refine .eq rfl ?_)):View n0 ⟨e,m⟩ ⟨e',m'⟩:=View.of n l F hn hl h0 hi hd ha BD kL
theorem dV.pt{σ:Nat->Nat}{m:Mem}{F:List Nat}{k:Nat}{b b':Bk}{r:Mem}(hz:bz F (σ k)=false)(hb:dd m (σ k)=some b)(hv:mK σ m (fun k=>bz F k=true) (σ k) b b')(h:dV σ m (fun k=>bz F k=true) (k+1) r):dV σ m (fun k=>bz F k=true) k (b' ::r):=.put (e9 hz) hb hv h
theorem dV.pe{σ:Nat->Nat}{m:Mem}{F:List Nat}{k:Nat}{b b':Bk}{r:Mem}(hz:bz F (σ k)=false)(hb:dd m (σ k)=some b)(hv:b'.aO σ=b)(h:dV σ m (fun k=>bz F k=true) (k+1) r)(hd:b'≠.aW:=by simp):dV σ m (fun k=>bz F k=true) k (b' ::r):=.put (e9 hz) hb (.eq hv hd) h
theorem dV.pm{σ:Nat->Nat}{m:Mem}{F:List Nat}{k:Nat}{b b':Bk}(hz:bz F (σ k)=false)(hb:dd m (σ k)=some b)(hv:b'.aO σ=b)(hd:b'≠.aW:=by simp):dV σ m (fun k=>bz F k=true) k [b']:=.put (e9 hz) hb (.eq hv hd) (.nil _)
theorem dV.pr{σ:Nat->Nat}{m:Mem}{F:List Nat}{k:Nat}{esz:Nat}{es:List (List CC)}{ds:List (List Dt)}{r:Mem}(hz:bz F (σ k)=false)(hb:dd m (σ k)=some (.row esz es))(he:es=af ds)(h:dV σ m (fun k=>bz F k=true) (k+1) r):dV σ m (fun k=>bz F k=true) k (.row esz (af ds) ::r):=.put (e9 hz) hb (.bM he) h
theorem dV.pn{σ:Nat->Nat}{m:Mem}{F:List Nat}{k:Nat}{esz:Nat}{es:List (List CC)}{ds:List (List Dt)}(hz:bz F (σ k)=false)(hb:dd m (σ k)=some (.row esz es))(he:es=af ds):dV σ m (fun k=>bz F k=true) k [.row esz (af ds)]:=.put (e9 hz) hb (.bM he) (.nil _)
theorem aX{P:Program}{f:Nat}{fn:Func}{lf:LF}{args:List CV}{m:Mem}{K:CV->Mem->Prop}(hf:P.funcs[f]? =some fn)(hl:bx P fn=some lf)(h:body P lf args m K)(hn:(fn.name== "runtime.NumGoroutine")=false:=by exact rfl)(hle:Nat.ble args.length lf.n=true:=by exact rfl):au P f args m K:=vq hf hl hn (X5 hle) h
theorem cg{P:Program}{f:Nat}{fn:Func}{lf:LF}{args:List CV}{m:Mem}{K:CV->Mem->Prop}(hf:P.funcs[f]? =some fn)(hl:bx P fn=some lf.er)(h:body P lf args m K)(hn:(fn.name== "runtime.NumGoroutine")=false:=by exact rfl)(hle:Nat.ble args.length lf.n=true:=by exact rfl):au P f args m K:=mS hf hl hn (X5 hle) h
theorem Dt.Lb(d:Dt):1<=d.size:=by
 cases d with
 |val v=>cases v<;>simp[Dt.size]
 |sl e l=>simp[Dt.size]
theorem Dt.Ie{l:List Dt}(h:l≠[]):1<=Dt.fB l:=by
 cases l with
 |nil=>exact absurd rfl h
 |cons d r=>simp only[Dt.fB];have:=d.Lb;omega
theorem Dt.kM:∀(l:List (List Dt)),(∀e,e∈l->e≠[])->l.length<=Dt.dE l
 | [],_=>aG
 |e::r,h=>by
  have h1:=Dt.Ie (h e aG);have h2:=Dt.kM r fun x hx=>h x (by simp[hx])
  simp only[Dt.dE,aar];omega
theorem ig.ne{ls:List Lf}{ds:List Dt}(h:ig ls ds)(hl:ls≠[]):ds≠[]:=by
 cases h<;>simp_all
theorem mt{α:Type}{es:List Lf}(enc:α->List Dt)(p:α->Prop)(dec:∀e,ig es e->∃a,p a/\e=enc a):∀{elems:List (List Dt)},(∀e,e∈elems->ig es e)->∃l:List α,(∀a,a∈l->p a)/\elems=l.map enc
 | [],_=>⟨[],aG,rfl⟩
 |e::r,h=>by
  obtain⟨a,ha,rfl⟩:=dec e (h e aG);obtain⟨l,hl,rfl⟩:=mt enc p dec (elems:=r) fun x hx=>h x (by simp[hx])
  exact⟨a::l,by simpa using⟨ha,hl⟩,rfl⟩
section
variable {P:Program}
def CC.gP:CC->Bool
 | .aa (.val _)=>true
 |_=>false
def zD:List CC->Bool
 | []=>true
 |c::r=>c.gP&&zD r
def RV.gP:RV->Bool
 | .one c=>c.gP
 | .agg cs=>zD cs
def uE:List RV->Bool
 | []=>true
 |c::r=>c.gP&&uE r
def CV.gP:CV->Bool
 | .rv r=>r.gP
 | .bK rs=>uE rs
 |_=>false
theorem vB:∀{l:List CC},zD l=true->∀c,c∈l->c.gP=true
 | [],_,c,h=>by simp at h
 |x::r,h,c,hc=>by
  simp only[zD,ZM]at h;rcases abo.1 hc with rfl|hc
  .exact h.1
  .exact vB h.2 c hc
theorem tP:∀{l:List RV},uE l=true->∀c,c∈l->c.gP=true
 | [],_,c,h=>by simp at h
 |x::r,h,c,hc=>by
  simp only[uE,ZM]at h;rcases abo.1 hc with rfl|hc
  .exact h.1
  .exact tP h.2 c hc
theorem CC.iV{ρ ρ':bQ}{w:World}{c:CC}{v:Value}(h:c.gP=true)(hd:bC ρ w .none c v):bC ρ' w .none c v:=by
 cases c with
 |aa d=>
  cases d with
  |val x=>
   cases hd with
   |val v hp=>exact .val _ hp
   |no a=>exact .no a
  |sl=>simp[CC.gP]at h
 |_=>simp[CC.gP]at h
theorem RV.iV{ρ ρ':bQ}{w:World}{c:RV}{v:Value}(h:c.gP=true)(hd:dP ρ w c v):dP ρ' w c v:=by
 cases c with
 |one c=>exact CC.iV h hd
 |agg cs=>
  obtain⟨vs,rfl,h1,h2⟩:=hd;exact⟨vs,rfl,h1,fun i c hi=>let⟨u,hu,hd⟩:=h2 i c hi;⟨u,hu,CC.iV (vB h c (Rq hi)) hd⟩⟩
theorem CV.iV{ρ ρ':bQ}{w:World}{c:CV}{v:Value}(h:c.gP=true)(hd:cm ρ w c v):cm ρ' w c v:=by
 cases c with
 |rv r=>exact RV.iV h hd
 |bK rs=>
  obtain⟨vs,rfl,h1,h2⟩:=hd;exact⟨vs,rfl,h1,fun i c hi=>let⟨u,hu,hd⟩:=h2 i c hi;⟨u,hu,RV.iV (tP h c (Rq hi)) hd⟩⟩
 |_=>simp[CV.gP]at h
theorem BF{f:Nat}{args args0:List CV}{m:Mem}{K0 K:CV->Mem->Prop}(F:List Nat)(h:au P f args0 [] K0)(e7:ir (sg [] m.length) m (fun k=>bz F k=true) args args0)(hK:∀r m1,K0 r m1->r.gP=true/\K r m):au P f args m K:=by
 refine⟨h.1,fun ρ w vs hM uB Zf=>?_⟩
 have gD:∀i,sg [] m.length i<m.length->i<0:=fun i h=>by simp[sg,dd]at h;omega
 obtain⟨lF,hC0,_⟩:=zB (n0:=0) (σ:=sg [] m.length) (Z:=fun k=>bz F k=true) (m':=[]) hM (fun i h=>absurd h (abb i)) (fun i j h _ _=>absurd h (abb i)) gD (fun i b' h=>by simp at h)
 refine(h.2 _ w vs lF (uB.trans e7.len.symm) fun i c hi=>?_).mono fun e w'⟨v,r,m1,ρ1,he,hk,uC,xh,hx⟩=>?_
 .obtain⟨c0,JR,hv⟩:=e7.get i c hi;obtain⟨v,zg,hd⟩:=Zf i c0 JR;exact⟨v,zg,hv.k9 hM gD hd⟩
 .obtain⟨hp,JS⟩:=hK r m1 hk;have ld:∀k,¬Live (ρ.vw (sg [] m.length) (fun k=>bz F k=true) m 0) [] k:=fun k h=>by have:=h.fS;simp at this
  have OD:eD w w':=⟨fun b hb=>hx.frame b hb fun k hk=>absurd hk (ld k),hx.size,hx.os,hx.tape,hx.output⟩
  obtain⟨h1,h2⟩:=hM.K4 OD;exact⟨v,r,m,ρ,he,JS,h1,CV.iV hp xh,h2⟩
end
section
variable {P:Program}
theorem CC.re{σ:Nat->Nat}{c:CC}(h:c.dm=true):c.aO σ=c:=by
 cases c
 case fn f ei=>
  cases ei with
  |nil=>rfl
  |cons c r=>simp[CC.dm]at h
 all_goals first|rfl|simp[CC.dm]at h
theorem RV.re{σ:Nat->Nat}{r:RV}(h:r.dm=true):r.aO σ=r:=by
 cases r with
 |one c=>exact congrArg RV.one (CC.re h)
 |agg cs=>
  refine congrArg RV.agg ?_
  conv=>rhs;rw[<-List.map_id cs]
  exact ach fun c hc=>CC.re (abH.1 h c hc)
theorem CV.BG{σ:Nat->Nat}{v:CV}(h:v.BA=true):v.aO σ=v:=by
 cases v with
 |rv r=>exact congrArg CV.rv (RV.re h)
 |bK rs=>
  refine congrArg CV.bK ?_
  conv=>rhs;rw[<-List.map_id rs]
  exact ach fun c hc=>RV.re (abH.1 h c hc)
 |_=>rfl
theorem Bk.Lc{σ:Nat->Nat}(ds:List Dt):(Bk.var (ds.map .aa)).aO σ= .var (ds.map .aa):=by simp[Bk.aO,CC.aO,acf]
theorem D4{m:Mem}{id:Nat}{b:Bk}(h:dd m id=some b):dp m [id] [b]=m:=by
 rw[aZ]at h;simp only[dp,b9,ab5,bj];exact abF fun i=>by
  rw[abw];split
  .rename_i hi;subst hi;have:=(Mh.1 h).1;rw[if_pos this,h]
  .rfl
theorem fe{f:Nat}{args args0:List CV}{m:Mem}{cs:List Dt}{r0:CV}{K:CV->Mem->Prop}(id:Nat)(hb:dd m id=some (.var (cs.map .aa)))(e7:args=args0.map (CV.aO (sg [id] m.length)))(hr:r0.BA=true)(h:∀K:CV->Mem->Prop,K r0 [.var (cs.map .aa)]->au P f args0 [.var (cs.map .aa)] K)(hK:K r0 m):au P f args m K:=by
 have hid:id<m.length:=by rw[aZ]at hb;exact(Mh.1 hb).1
 refine bu (K0:=fun r m1=>r=r0/\m1=[.var (cs.map .aa)]) [id] m.length rfl rfl rfl ?_ e7 (fun i b' hi=>?_) (h _ ⟨rfl,rfl⟩) (fun r m1 AW=>?_)
 .simp[eO,hid]
 .cases i with
  |zero=>
   simp at hi;subst hi;refine .inr ⟨fun h=>h,.var (cs.map .aa),?_,.jn rfl⟩
   rw[aZ]at hb;exact hb
  |succ i=>simp at hi
 .obtain⟨rfl,rfl⟩:=AW;refine⟨SS _,?_⟩;rw[CV.BG hr];have:dp m [id] (rd (sg [id] m.length) [.var (cs.map .aa)])=m:=by show dp m [id] [Bk.aO _ _]=m;rw[Bk.Lc];exact D4 hb
  rw[this];exact hK
theorem eF{f:Nat}{args:List CV}{cs:List Dt}{r0:CV}{K:CV->Mem->Prop}(hr:r0.BA=true)(h:au P f args [.var (cs.map .aa)] fun r m=>r=r0/\∃ex,m= .var (cs.map .aa)::ex)(hK:K r0 [.var (cs.map .aa)]):au P f args [.var (cs.map .aa)] K:=by
 refine bJ h fun r m1⟨h1,ex,h2⟩=>⟨r0,[.var (cs.map .aa)],?_,hK⟩
 subst h1;subst h2;refine View.of (ex.length+1) [0] [] aG rfl rfl rfl rfl (by simp[eO]) ?_ ?_
 .exact .eq (CV.BG hr) .nil
 .exact .put (by simp[bz]) rfl (.jn rfl) (.nil _)
theorem mK.zE{σ:Nat->Nat}{m:Mem}{Z:Nat->Prop}{id s:Nat}{R R':List (List CC)}{x y:List CC}(hR:R'.map (fun cs=>cs.map (CC.aO σ))=R)(hx:x.length=y.length)(KO:∀(j:Nat)c c',x[j]? =some c->y[j]? =some c'->qA σ m Z (some id) c c'):mK σ m Z id (.row s (R++ [x])) (.row s (R'++ [y])):=by
 subst hR;refine .row s aG (fun i cs eh h1 h2=>?_) (fun i cs eh j c c' h1 h2 h3 h4=>?_)
 .rcases ZX i R'.length with h|h
  .rw[ZY (by simpa using h),Q8]at h1
   rw[ZY h]at h2;rw[h2]at h1;cases h1;simp
  .rw[ZW (by simpa using h),Nq]at h1
   rw[ZW h]at h2;cases hi:i-R'.length with
   |zero=>
    rw[hi]at h1 h2;cases h1;cases h2;exact hx
   |succ n=>rw[hi]at h1;simp at h1
 .rcases ZX i R'.length with h|h
  .rw[ZY (by simpa using h),Q8]at h1
   rw[ZY h]at h2;rw[h2]at h1;cases h1;rw[Q8,h4]at h3;cases h3;exact .aO c'
  .rw[ZW (by simpa using h),Nq]at h1
   rw[ZW h]at h2;cases hi:i-R'.length with
   |zero=>
    rw[hi]at h1 h2;cases h1;cases h2;exact KO j c c' h3 h4
   |succ n=>rw[hi]at h1;simp at h1
theorem dV.yi{σ:Nat->Nat}{m:Mem}{Z:Nat->Prop}{k:Nat}{b:Bk}{r:Mem}(hz:¬Z (σ k))(hb:dd m (σ k)=some b)(hr:b.aO σ=b)(h:dV σ m Z (k+1) r):dV σ m Z k (b::r):=by
 cases b with
 |aW=>exact .aW h
 |_=>exact .put hz hb (.eq hr aG) h
inductive BH:CC->CC->Prop
 |dn (c:CC):BH c c
 |aI (s:Nat):BH .aI (.aa (.sl s []))
 |no:BH .aI (.aa (.val (.slice none 0 0)))
theorem BH.k9{c c':CC}(h:BH c c'){ρ:bQ}{w:World}{v:Value}(hd:bC ρ w none c v):bC ρ w none c' v:=by
 cases h with
 |dn=>exact hd
 |aI s=>
  obtain⟨a,rfl⟩:=hd;exact .nil s a 0 (Wi _)
 |no=>
  obtain⟨a,rfl⟩:=hd;exact .no a
inductive BI:List CC->List CC->Prop
 |nil:BI [] []
 |cons {c c':CC} {r r':List CC} (h:BH c c') (t:BI r r'):BI (c::r) (c'::r')
theorem BI.len{a b:List CC}(h:BI a b):a.length=b.length:=by
 induction h<;>simp[*]
theorem BI.get{a b:List CC}(h:BI a b):∀(i:Nat)c',b[i]? =some c'->∃c,a[i]? =some c/\BH c c':=by
 induction h with
 |nil=>intro i c' h;simp at h
 |cons h t ih=>
  intro i c' hi;cases i with
  |zero=>simp at hi;subst hi;exact⟨_,rfl,h⟩
  |succ i=>simpa using ih i c' (by simpa using hi)
inductive kN:List CV->List CV->Prop
 |nil:kN [] []
 |dn (c:CV) {r r':List CV} (t:kN r r'):kN (c::r) (c::r')
 |one {c c':CC} {r r':List CV} (h:BH c c') (t:kN r r'):kN (.rv (.one c)::r) (.rv (.one c')::r')
 |agg {cs eh:List CC} {r r':List CV} (h:BI cs eh) (t:kN r r'):kN (.rv (.agg cs)::r) (.rv (.agg eh)::r')
theorem kN.len{a b:List CV}(h:kN a b):a.length=b.length:=by
 induction h<;>simp[*]
theorem kN.get{a b:List CV}(h:kN a b):∀(i:Nat)c',b[i]? =some c'->∃c,a[i]? =some c/\∀ρ w v,cm ρ w c v->cm ρ w c' v:=by
 induction h with
 |nil=>intro i c' h;simp at h
 |dn c t ih=>
  intro i c' hi;cases i with
  |zero=>simp at hi;subst hi;exact⟨_,rfl,fun _ _ _ h=>h⟩
  |succ i=>simpa using ih i c' (by simpa using hi)
 |one h t ih=>
  intro i c' hi;cases i with
  |zero=>simp at hi;subst hi;exact⟨_,rfl,fun _ _ _ hd=>h.k9 hd⟩
  |succ i=>simpa using ih i c' (by simpa using hi)
 |agg h t ih=>
  intro i c' hi;cases i with
  |zero=>
   simp at hi;subst hi;refine⟨_,rfl,fun ρ w v hd=>?_⟩
   obtain⟨vs,hv,hl,hc⟩:=hd;exact⟨vs,hv,hl.trans h.len,fun i c' hi=>let⟨c,qH,hle⟩:=h.get i c' hi;let⟨u,hu,cz⟩:=hc i c qH;⟨u,hu,hle.k9 cz⟩⟩
  |succ i=>simpa using ih i c' (by simpa using hi)
theorem mw{f:Nat}{args lI:List CV}{m:Mem}{K:CV->Mem->Prop}(ha:kN args lI)(h:au P f lI m K):au P f args m K:=by
 refine⟨h.1,fun ρ w vs hM hl hd=>h.2 ρ w vs hM (hl.trans ha.len) fun i c' hi=>?_⟩
 obtain⟨c,hc,HY⟩:=ha.get i c' hi;obtain⟨v,hv,uA⟩:=hd i c hc;exact⟨v,hv,HY _ _ _ uA⟩
theorem my{f:Nat}{args lI:List CV}{m m':Mem}{K:CV->Mem->Prop}(hv:View m.length ⟨args,m⟩ ⟨lI,m'⟩)(h:au P f lI m' K):au P f args m K:=by
 refine⟨h.1,fun ρ w vs hM hl hd=>?_⟩
 obtain⟨ρ',lU,hc,uA⟩:=hv.go ρ w hM;have hlen:lI.length=args.length:=hv.len;refine(h.2 ρ' w vs lU (hl.trans hlen.symm) fun i c' hi=>?_).mono fun e w'⟨v,r,m1,ρ1,he,hk,uC,xh,hx⟩=>?_
 .obtain⟨c,JR,zm⟩:=uA i c' hi;obtain⟨v,hv,cw⟩:=hd i c JR;exact⟨v,hv,zm v cw⟩
 .have UX:Ext ρ m w ρ' m' w:=⟨by rw[hM.n,lU.n];exact hv.hn,fun id hid=>hc.aV id (by rw[<-hM.n];exact hid),hc.S,fun b hb=>(hc.S' b hb).elim .inl fun h=>.inr (.inr h),fun k hk=>.inr (hc.aQ k hk),fun _ _ _=>rfl,SS _,rfl,rfl,rfl⟩
  exact⟨v,r,m1,ρ1,he,hk,uC,xh,UX.trans hx⟩
end
end Go.AM
