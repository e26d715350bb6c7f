/- Part 11 of 16. -/
import Derived.Test.YtodckkkbiidffaaGreatDoorG09
import Derived.Test.YtodckkkbiidffaaGreatDoorG10
import Derived.Carry
import Derived.ProofKit
set_option linter.unusedVariables false
set_option linter.unusedSimpArgs false
set_option maxRecDepth 100000
set_option maxHeartbeats 0
namespace Go.AM
open Go.ChangeShapes Go.WideShapes Go.ChangeAt Go.RowKit
section
variable {H:Type} {enc:TypeId×Value->H} {P:Program} {W:World}
theorem SK{ar:Nat}{t:TypeId}{v:Value}{agg:Bool}(ha:ek P t=some agg){d:Nat}{ls:List Lf}(hl:ov P d t=some ls)(gO:Value.okWide P W .any ar t v):
  (agg=true->∃vs,v= .agg vs)/\(agg=false->v.oneCell'=true):=by
 cases d with
 |zero=>simp[ov]at hl
 |succ d=>
  simp only[ov]at hl;unfold ek at ha;unfold Value.okWide at gO;split at hl
  .rename_i ht;rw[ht]at ha gO;simp at ha;subst ha;refine⟨aC,λ_=>?_⟩
   simp only[Cell.okWide,ht,Cell.ok]at gO;cases v<;>simp_all[Value.oneCell']
  .rename_i k ht;rw[ht]at ha gO;simp at ha;subst ha;refine⟨aC,λ_=>?_⟩
   simp only[Cell.okWide,ht,Cell.ok]at gO;cases v<;>simp_all[Value.oneCell']
  .rename_i ht;rw[ht]at ha gO;simp at ha;subst ha;refine⟨aC,λ_=>?_⟩
   simp only[Cell.okWide,ht,Cell.ok]at gO;cases v<;>simp_all[Value.oneCell']
  .rename_i e ht;rw[ht]at ha gO;simp at ha;subst ha;refine⟨aC,λ_=>?_⟩
   simp only[Cell.okWide,ht,Cell.ok]at gO;cases v<;>simp_all[Value.oneCell']
  .rename_i fs ht;rw[ht]at ha gO;simp at ha;subst ha;obtain⟨cs,rfl,_⟩:=gO;exact⟨λ_=>⟨cs,rfl⟩,aC⟩
  .rename_i n e ht;rw[ht]at ha gO;simp at ha;subst ha;obtain⟨cs,rfl,_⟩:=gO;exact⟨λ_=>⟨cs,rfl⟩,aC⟩
  .cases hl
structure Sh where
 agg:Bool
 ls:List Lf
def Iw(P:Program):List TypeId->Option (List Sh)
 | []=>some []
 |t::r=>match ek P t,ov P 12 t,Iw P r with
  |some a,some ls,some r=>some (⟨a,ls⟩::r)
  |_,_,_=>none
inductive yU:List Sh->List (List Dt)->Prop
 |nil:yU [] []
 |cons {s:Sh} {ds:List Dt} {r:List Sh} {l:List (List Dt)} (h:ir s.ls ds) (hr:yU r l):yU (s::r) (ds::l)
def rD:List Sh->List (List Dt)->List CV
 |s::r,ds::l=>VW s.agg ds::rD r l
 |_,_=>[]
theorem yV(bk:Pi H){ar b2:Nat}:∀(ts:List TypeId)(vs:List Value)(dw:List (DataW H))(ps:List MemPlace)(LG:List Sh),Iw P ts=some LG->DataW.TrodAll enc P W ar (λ_=>true) true ts vs dw ps->
  (∀(j:Nat)t v,ts[j]? =some t->vs[j]? =some v->Value.okWide P W .any b2 t v)->
  ∃qn,yU LG qn/\vs.length=(rD LG qn).length/\(∀(i:Nat)c,(rD LG qn)[i]? =some c->∃v,vs[i]? =some v/\bZ (Iu W) W c v)/\Dt.dE qn<=lF bk.f dw
 | [],[],[],ps,LG,hs,h,gO=>by
  simp[Iw]at hs;subst hs;exact⟨[],.nil,rfl,by simp[rD],by simp[Dt.dE]⟩
 | [],_::_,_,_,_,_,h,_=>by cases h
 | [],[],_::_,_,_,_,h,_=>by cases h
 |_::_,[],_,_,_,_,h,_=>by cases h
 |_::_,_::_,[],_,_,_,h,_=>by cases h
 |t::ts,v::vs,d::dw,ps,LG,hs,h,gO=>by
  obtain⟨p,q,⟨fuel,h1⟩,h2,_⟩:=h;simp only[Iw]at hs;split at hs
  .rename_i a ls r ha hl hr;cases hs;obtain⟨ds,f1,r1,s1⟩:=EH bk 12 t ls hl fuel _ _ h1;obtain⟨qn,f2,l2,d2,s2⟩:=yV bk ts vs dw q r hr h2 λj t' v' ht hv=>gO (j+1) t' v' (by simpa using ht) (by simpa using hv)
   obtain⟨g1,g2⟩:=SK ha hl (gO 0 t v rfl rfl);refine⟨ds::qn,.cons f1 f2,by simp[rD,l2],λi c hi=>?_,by simp only[Dt.dE,lF];simp only at s1;omega⟩
   cases i with
   |zero=>
    simp[rD]at hi;subst hi;exact⟨v,rfl,LD r1 g1 g2⟩
   |succ i=>simpa using d2 i c (by simpa[rD]using hi)
  .cases hs
theorem yW(hl:laidOutB P=true){W':World}(hb:Below W.heap.size W W'):∀(ts:List TypeId)(vs:List Value)(dw:List (DataW H))(ps:List MemPlace),(ts.all λt=>P.readableRec t&&decide (t<P.types.size))=true->
  DataW.TrodAll enc P W 0 (λ_=>true) true ts vs dw ps->(∀x,x∈ps->x.block<W.heap.size)->DataW.TrodAll enc P W' 0 (λb=>decide (b<W.heap.size)) true ts vs dw ps
 | [],[],[],_,_,h,_=>h
 | [],_::_,_,_,_,h,_=>by cases h
 | [],[],_::_,_,_,h,_=>by cases h
 |_::_,[],_,_,_,h,_=>by cases h
 |_::_,_::_,[],_,_,h,_=>by cases h
 |t::ts,v::vs,d::dw,ps,ht,h,aD=>by obtain⟨p,q,h1,h2,rfl⟩:=h;simp only[List.all_cons,aab,decide_eq_true_eq]at ht;exact⟨p,q,Below.trod hl ht.1.1 ht.1.2 h1 hb (λx hx=>aD x (by simp[hx])),yW hl hb ts vs dw q (by simpa using ht.2) h2 (λx hx=>aD x (by simp[hx])),rfl⟩
theorem As{f:Nat}{fn:Func}{s:ChangeSpec}{args:Array Value}{ds gs:List (DataW H)}{before:List MemPlace}{ar:Nat}(bk:Pi H)(hl:laidOutB P=true){tb:TypeId}(htb:P.underlying tb=some .bool)(Zv:fn.resultTypes= #[tb])(Rc:s.vars=[])(GN:∀ds:List (DataW H),ds.length=fn.params.size->s.fn H ds={results:=[.lit (.bool true)],args:=ds}){LG:List Sh}(YW:Iw P fn.params.toList=some LG)(hts:(fn.params.toList.all λt=>P.readableRec t&&decide (t<P.types.size))=true)(walk:∀qn,yU LG qn->Dt.dE qn<=lF bk.f ds->aq P f (rD LG qn) [] λr _=>r=aE true)(jF:∀(j:Nat)t v,fn.params[j]? =some t->args[j]? =some v->Value.okWide P W .any ar t v)(hW:DataW.Whole enc P fn.params.toList s.vars false W args.toList ds gs before):
  Calls P f args W λe W'=>∃v,e= .returned v/\s.post enc P fn false true false false W args v W':=by
 have hW':=hW;obtain⟨p,q,hA,hV,rfl,VX,lB⟩:=hW;obtain⟨qn,hf,hlen,cq,dn⟩:=yV bk fn.params.toList args.toList ds p LG YW hA λj t v ht hv=>jF j t v (by simpa using ht) (by simpa using hv)
 have Af:=ou (u:= .bool true) (walk qn hf dn) W args.toList hlen cq aC (λr m h=>h)
 have aD:∀x,x∈p->x.block<W.heap.size:=λx hx=>by simpa using hW'.lt x (by simp[hx])
 rw[Rc]at hV;obtain⟨rfl,rfl⟩:=trodVars_none hV;have lT:ds.length=fn.params.size:=by
  have:∀(ts:List TypeId)(vs:List Value)(dw:List (DataW H))(ps:List MemPlace),DataW.TrodAll enc P W 0 (λ_=>true) true ts vs dw ps->dw.length=ts.length:=by
   intro ts
   induction ts with
   |nil=>intro vs dw ps h;obtain⟨_,rfl,_⟩:=trodAll_nil h;rfl
   |cons t ts ih=>
    intro vs dw ps h;obtain⟨v,Ue,d,XV,a,b,rfl,rfl,rfl,h1,h2⟩:=trodAll_cons h;simp[ih _ _ _ h2]
  simpa using this _ _ _ _ hA
 refine Af.mono λe W'⟨he,hb⟩=>?_
 subst he;have hs:s.fn H (ds++ [])={results:=[.lit (.bool true)],args:=ds}:=by rw[abO];exact GN ds lT
 refine⟨_,rfl,ds,[],p++ [],[],p,[],hW',?_,?_,?_,hb.frame _,λh=>by cases h⟩
 .rw[hs,Zv];exact trodAll_cons_mk (shut_bool htb _) trodAll_mk0
 .rw[hs];exact yW hl hb _ _ _ _ hts hA aD
 .rw[hs,Rc];rfl
end
end Go.AM
namespace Go.AM
section
variable {P:Program}
theorem au.LH{U:bF}{m:Mem}{w w':World}(hM:au U m w)(hw:eu w w'):au U m w'/\Ext U m w U m w':=by
 have hn:=hM.n;have g:iz U w U w':=⟨Ts _,λ_ _=>rfl,λ_ h=>h,λb hb=>hw.heap b (hM.S b hb)⟩
 refine⟨⟨hn,λb hb=>aa0 (hM.S b hb) hw.size,λk hk=>⟨aa0 (hM.aQ k hk).1 hw.size,(hM.aQ k hk).2⟩,hM.inj,λid b hb=>?_,λid i j esz e ho bc=>?_⟩,
  ⟨Ts _,λ_ _=>rfl,λ_ h=>h,λ_ h=>.inl h,λk hk=>.inr ⟨k,hk,rfl⟩,λb hb _=>hw.heap b hb,hw.size,hw.os,hw.tape,hw.output⟩⟩
 .exact(hM.bk id b hb).cm g (by rw[hn];exact(I4.1 hb).1) λdt bc=>hw.heap _ (hM.aQ (.al id) ⟨b,hb,dt,bc⟩).1
 .exact(hM.dV id i j esz e ho bc).cm g (hw.heap _ (hM.aQ (.sub id i j) ⟨⟨esz,e,ho⟩,bc⟩).1)
theorem Ix{f:Nat}{args:List CV}{m:Mem}{K0 K:CV->Mem->Prop}(h:aq P f args [] K0)(ha:∀c,c∈args->c.du=true)(hK:∀r m1,K0 r m1->(r= .rv (.one .aO)/\K (.rv (.one .aO)) m)\/
   ∃id esz elems,r= .rv (.one (.row id esz 0 none))/\m1[id]? =some (.row esz elems)/\(∀cs,cs∈elems->∀c,c∈cs->∃d,c= .aa d)/\
    (∀(i:Nat)cs(j:Nat)d,elems[i]? =some cs->cs[j]? =some (.aa d)->∃v,d= .val v)/\
    K (.rv (.one (.row m.length esz 0 none))) (m++ [.row esz elems])):aq P f args m K:=by
 refine⟨h.1,λU w vs hM hl hd=>?_⟩
 let ρ0:bF:={n:=0,aH:=λ_=>⟨0,0,0,0⟩,S:=U.S}
 have lR:au ρ0 [] w:={
  n:=rfl
  S:=hM.S
  aQ:=λk h=>by have:=h.eC;simp at this
  inj:=λk k' h=>by have:=h.eC;simp at this
  bk:=λid b h=>by simp at h
  dV:=λid i j esz elems h=>by obtain⟨_,h,_⟩:=h;simp at h}
 refine(h.2 ρ0 w vs lR hl λi c hi=>?_).mono λe w'⟨v,r,m1,ρ1,he,hk,rk,uM,hx⟩=>?_
 .obtain⟨v,hv,hd⟩:=hd i c hi;exact⟨v,hv,CV.rB (U:=U) (U':=ρ0) (ha c (RD hi)) (λ_ h=>h) hd⟩
 .have jT:∀k,¬Live ρ0 [] k:=λk h=>by have:=h.eC;simp at this
  have va:∀b,b<w.heap.size->w'.heap[b]? =w.heap[b]? :=λb hb=>hx.frame b hb λk hk=>absurd hk (jT k)
  have Pj:eu w w':=by
   refine⟨?_,?_,?_,?_,?_⟩;all_goals first|exact hx.size|exact va|exact hx.os|exact hx.tape|exact hx.output
  rcases hK r m1 hk with⟨rfl,fU⟩|⟨id,esz,elems,rfl,hb,Pk,jF,fU⟩
  .obtain⟨ad,rfl⟩:=uM;obtain⟨ED,ow⟩:=hM.LH Pj;exact⟨_,_,m,U,he,fU,ED,⟨ad,rfl⟩,ow⟩
  .obtain⟨g1,g2,g3,g4,g5⟩:=rk.bk id _ hb;obtain⟨q1,q2,q3,q4,q5,ad,rfl,sY⟩:=uM;have hn:=hM.n;let l:=ρ1.aH (.al id);have de:cI (U.push l) w' m.length (.row esz elems):=by
    have bM:(U.push l).aH (.al m.length)=l:=by rw[<-hn];exact U.fN l
    simp only[cI,bM];refine⟨g1,g2,g3,g4,λhp=>?_⟩
    obtain⟨cur,bT,h7,h8⟩:=g5 hp;refine⟨cur,bT,h7,λi cs j c hi hj=>?_⟩
    obtain⟨u,hu,ct⟩:=h8 i cs j c hi hj;obtain⟨d,rfl⟩:=Pk cs (RD hi) c (RD hj);obtain⟨v,rfl⟩:=jF i cs j d hi hj;refine⟨u,hu,?_⟩;cases ct with
    |val _ jD=>exact c7.val _ jD
    |no a=>exact .no a
   have LI:Bk.zU (.row esz elems):=by intro i cs j c hi hj s e hce;obtain⟨d,hd⟩:=Pk cs (RD hi) c (RD hj);rw[hd]at hce;cases hce
   obtain⟨ED,ow⟩:=hM.QQ Pj (λb7=>by
    obtain⟨bk,fx,dt,bc⟩:=b7;have VY:0<l.cap:=by rw[hn,WH (Ts _)]at fx;simp at fx;have:=bc ⟨esz,elems,fx.symm⟩;rwa [U.fN l]at this
    have VZ:Live ρ1 m1 (.al id):=⟨_,hb,aC,λ_=>VY⟩
    refine⟨?_,(rk.aQ _ VZ).1⟩;rcases hx.aQ _ VZ with h|⟨k0,h0,_⟩
    .exact h
    .exact absurd h0 (jT k0)) de LI
   refine⟨_,_,_,_,he,fU,ED,?_,ow⟩;have bM:(U.push l).aH (.al m.length)=l:=by rw[<-hn];exact U.fN l
   refine⟨by simp[bF.push,hn],?_⟩
   simp only[bM];exact⟨q2,q3,q4,q5,ad,rfl,sY⟩
end
theorem R7.trans{n0:Nat}{U ρ1 ρ2:bF}{m m1 m2:Mem}(a:R7 n0 U m ρ1 m1)(b:R7 n0 ρ1 m1 ρ2 m2):R7 n0 U m ρ2 m2 where
 aH id h:=(b.aH id h).trans (a.aH id h)
 S x h:=b.S x (a.S x h)
 S' x h:=by
  rcases b.S' x h with h|⟨k,hk,he⟩
  .exact a.S' x h
  .obtain⟨k0,h0,e0⟩:=a.aQ k hk;exact .inr ⟨k0,h0,e0.trans he⟩
 aQ k h:=by obtain⟨k1,h1,e1⟩:=b.aQ k h;obtain⟨k0,h0,e0⟩:=a.aQ k1 h1;exact⟨k0,h0,e0.trans e1⟩
theorem View.trans{n0:Nat}{s s1 s2:St}(a:View n0 s s1)(b:View n0 s1 s2):View n0 s s2:=by
 refine⟨b.hn,b.len.trans a.len,λU w hM=>?_⟩
 obtain⟨ρ1,rk,BD,uM⟩:=a.go U w hM;obtain⟨ρ2,ED,vQ,xQ⟩:=b.go ρ1 w rk;refine⟨ρ2,ED,BD.trans vQ,λi c' hi=>?_⟩
 obtain⟨c1,KR,h1⟩:=xQ i c' hi;obtain⟨c0,u7,h0⟩:=uM i c1 KR;exact⟨c0,u7,λv hv=>h1 v (h0 v hv)⟩
def CC.aU(Y:Nat->Nat):CC->CC
 | .ptr id j=>.ptr (Y id) j
 | .nb id e i j=>.nb (Y id) e i j
 | .row id e lo hi=>.row (Y id) e lo hi
 | .map id=>.map (Y id)
 | .fn f eh=>.fn f (eh.map Y)
 |c=>c
def MO.aU(Y:Nat->Nat)(e:MO):MO:=match e with|⟨k,.dV l⟩=>⟨k,.dV l⟩|⟨k,.row n⟩=>⟨k,.row (Y n)⟩
def fY.aU(Y:Nat->Nat):fY->fY
 | .al id=>.al (Y id)
 | .sub id i j=>.sub (Y id) i j
inductive EJ:Dt->Dt->Prop
 |refl (d:Dt):EJ d d
 |no (s:Nat):EJ (.val (.slice none 0 0)) (.sl s [])
 |sl (s:Nat) {es bx:List (List Dt)} (hl:es.length=bx.length) (hs:∀(i:Nat)cs eR,es[i]? =some cs->bx[i]? =some eR->cs.length=eR.length)
   (h:∀(i:Nat)cs eR(j:Nat)d d',es[i]? =some cs->bx[i]? =some eR->cs[j]? =some d->eR[j]? =some d'->EJ d d'):EJ (.sl s es) (.sl s bx)
theorem EJ.jR{S:Nat->Prop}{w:World}{d d':Dt}(h:EJ d d'):∀{v:Value},c7 S w d v->c7 S w d' v:=by
 induction h with
 |refl d=>exact λh=>h
 |no s=>
  intro v h;cases h with
  |val _ h=>simp[cE]at h
  |no a=>exact .nil s a 0 (aaj _)
 | @sl s es bx hl hs h ih=>
  intro v hd;cases hd with
  |nil _ a cap hc=>
   have:bx=[]:=aag hl.symm;subst this;exact .nil s a cap hc
  |sl _ _ b off cap u hS oh bc dn hc hd=>
   have get:∀(i:Nat)eR,bx[i]? =some eR->∃cs,es[i]? =some cs:=λi eR hi=>by have:=(I4.1 hi).1;exact⟨_,uX om⟩
   have V0:∀(i:Nat)cs eR(j:Nat)d',es[i]? =some cs->bx[i]? =some eR->eR[j]? =some d'->∃d,cs[j]? =some d:=λi cs eR j d' hi ew hj=>by have h1:=(I4.1 hj).1;have h2:=hs i cs eR hi ew;exact⟨_,uX om⟩
   rw[hl];refine .sl s bx b off cap u hS om bc (λeR hm=>?_) (λi eR j d' hi hj=>?_) (λi eR j d' hi hj=>?_)
   .obtain⟨i,hi⟩:=Xt hm;obtain⟨cs,eB⟩:=get i eR hi;rw[<-hs i cs eR eB hi];exact dn cs (RD eB)
   .obtain⟨cs,eB⟩:=get i eR hi;obtain⟨d,SL⟩:=V0 i cs eR j d' eB hi hj;exact hc i cs j d eB SL
   .obtain⟨cs,eB⟩:=get i eR hi;obtain⟨d,SL⟩:=V0 i cs eR j d' eB hi hj;exact ih i cs eR j d d' eB hi SL hj (hd i cs j d eB SL)
inductive dO(m:Mem)(Z:Nat->Prop):Option Nat->CC->Dt->Prop
 |aa {p:Option Nat} (d:Dt):dO m Z p (.aa d) d
 |dV {id:Nat} (s:Nat) (e:List (List Dt)) (hz:Z id):dO m Z (some id) (.dV s e) (.sl s e)
 |aO {p:Option Nat} (s:Nat):dO m Z p .aO (.sl s [])
 |no {p:Option Nat}:dO m Z p .aO (.val (.slice none 0 0))
 |le {p:Option Nat} {d d':Dt} (h:EJ d d'):dO m Z p (.aa d) d'
 |row {p:Option Nat} (id esz lo:Nat) (hi:Option Nat) (elems:List (List CC)) (ds:List (List Dt)) (hz:Z id) (h:m[id]? =some (.row esz elems)) (hl:elems.length=ds.length)
   (hs:∀(i:Nat)cs es,elems[i]? =some cs->ds[i]? =some es->cs.length=es.length)
   (hd:∀(i:Nat)cs es(j:Nat)c d,elems[i]? =some cs->ds[i]? =some es->cs[j]? =some c->es[j]? =some d->dO m Z (some id) c d):dO m Z p (.row id esz lo hi) (.sl esz (bV ds lo hi))
inductive sK(Y:Nat->Nat)(m:Mem)(Z:Nat->Prop):Option Nat->CC->CC->Prop
 |ap {p:Option Nat} (c:CC):sK Y m Z p c .ap
 |aU {p:Option Nat} (c:CC):sK Y m Z p (c.aU Y) c
 |fy {p:Option Nat} {c:CC} {d:Dt} (h:dO m Z p c d):sK Y m Z p c (.aa d)
 |un {p:Option Nat}:sK Y m Z p (.aa (.val (.slice none 0 0))) .aO
 |hi {p:Option Nat} (id e lo:Nat) {esz:Nat} {elems:List (List CC)} (h:m[Y id]? =some (.row esz elems)):sK Y m Z p (.row (Y id) e lo none) (.row id e lo (some elems.length))
 |lo {p:Option Nat} (id e lo:Nat) {esz:Nat} {elems:List (List CC)} (h:m[Y id]? =some (.row esz elems)):sK Y m Z p (.row (Y id) e lo (some elems.length)) (.row id e lo none)
inductive xS(Y:Nat->Nat)(m:Mem)(Z:Nat->Prop):RV->RV->Prop
 |one {c c':CC} (h:sK Y m Z none c c'):xS Y m Z (.one c) (.one c')
 |agg {cs eR:List CC} (hl:cs.length=eR.length) (h:∀(i:Nat)c c',cs[i]? =some c->eR[i]? =some c'->sK Y m Z none c c'):xS Y m Z (.agg cs) (.agg eR)
inductive qQ(Y:Nat->Nat)(m:Mem)(Z:Nat->Prop):CV->CV->Prop
 |ap (v:CV):qQ Y m Z v .ap
 |undef:qQ Y m Z .undef .undef
 |rv {r r':RV} (h:xS Y m Z r r'):qQ Y m Z (.rv r) (.rv r')
 |bz {rs It:List RV} (hl:rs.length=It.length) (h:∀(i:Nat)r r',rs[i]? =some r->It[i]? =some r'->xS Y m Z r r'):qQ Y m Z (.bz rs) (.bz It)
inductive l9(Y:Nat->Nat)(m:Mem)(Z:Nat->Prop)(id:Nat):Bk->Bk->Prop
 |var {cs eR:List CC} (h:∀(i:Nat)c',eR[i]? =some c'->∃c,cs[i]? =some c/\sK Y m Z (some id) c c'):l9 Y m Z id (.var cs) (.var eR)
 |row (esz:Nat) {es bx:List (List CC)} (hl:es.length=bx.length) (hs:∀(i:Nat)cs eR,es[i]? =some cs->bx[i]? =some eR->cs.length=eR.length)
   (h:∀(i:Nat)cs eR(j:Nat)c c',es[i]? =some cs->bx[i]? =some eR->cs[j]? =some c->eR[j]? =some c'->sK Y m Z (some id) c c'):l9 Y m Z id (.row esz es) (.row esz bx)
 |mp {es bx:List ME} (hl:es.length=bx.length) (h:∀(i:Nat)e e',es[i]? =some e->bx[i]? =some e'->e'.key=e.key/\xS Y m Z e.val e'.val):l9 Y m Z id (.mp es) (.mp bx)
 |it (cur left:List (Value×Value)):l9 Y m Z id (.it cur left) (.it cur left)
 |mo (esz:Nat) (es:List MO) (so:Option (List Nat×Nat)):l9 Y m Z id (.mo esz (es.map (MO.aU Y)) so) (.mo esz es so)
 |Zw (esz:Nat):l9 Y m Z id (.mp []) (.mo esz [] none)
 |iw (mid gU:Nat) (seen:List Nat):l9 Y m Z id (.iw (Y mid) gU seen) (.iw mid gU seen)
section
variable {n0:Nat} {Y:Nat->Nat} {Z:Nat->Prop} {U:bF} {m:Mem} {w:World}
def bF.vw(U:bF)(Y:Nat->Nat)(Z:Nat->Prop)(m:Mem)(n:Nat):bF:=
 {n:=n,aH:=λk=>U.aH (k.aU Y),S:=λb=>U.S b\/∃k,Live U m k/\Z k.id/\(U.aH k).b=b}
theorem dO.jR(hM:au U m w){pos:Option (Nat×Nat×Nat)}{p:Option Nat}{c:CC}{d:Dt}(h:dO m Z p c d)(hp:∀id,p=some id->∀s e,c= .dV s e->∃i j,pos=some (id,i,j)/\dM m id i j s e){v:Value}(hd:bh U w pos c v){n:Nat}:c7 (U.vw Y Z m n).S w d v:=by
 induction h generalizing pos v with
 |aa d=>exact hd.mono (λ_ h=>.inl h) (λ_ _=>rfl)
 |aO s=>
  obtain⟨a,rfl⟩:=hd;exact .nil s a 0 (aaj _)
 |no=>
  obtain⟨a,rfl⟩:=hd;exact .no a
 |le h=>exact(h.jR hd).mono (λ_ h=>.inl h) (λ_ _=>rfl)
 | @dV id s e hz=>
  obtain⟨i,j,x5,jQ⟩:=hp id rfl s e rfl;obtain⟨jX,i',j',yT,q1,q2,a',rfl,q3⟩:=hd;rw[x5]at yT;simp only[aam,acz]at yT;obtain⟨rfl,rfl,rfl⟩:=yT;rcases abu e.length with he|he
  .rw[aag he];exact .nil s a' _ om
  .obtain⟨gH,Ca,w1,w2,w3⟩:=hM.dV _ _ _ _ _ jQ om;rw[q3 om];have B6:Live U m (.sub id i j):=⟨⟨_,_,jQ⟩,om⟩;have ky:∀(i2:Nat)cs(j2:Nat)d2,e[i2]? =some cs->cs[j2]? =some d2->∃u,w.cell? ⟨(U.aH (.sub id i j)).b,(U.aH (.sub id i j)).ar+i2*s+j2,.none⟩=some u/\c7 (U.vw Y Z m n).S w d2 u:=by
    intro i2 cs j2 d2 eO lA;obtain⟨u,hu,hd⟩:=w3 i2 cs j2 d2 eO lA;exact⟨u,by rw[Ca.cell];exact hu,hd.mono (λ_ h=>.inl h) (λ_ _=>rfl)⟩
   exact c7.sl s e _ _ _ (λi2 j2=>(w.cell? ⟨(U.aH (.sub id i j)).b,(U.aH (.sub id i j)).ar+i2*s+j2,.none⟩).getD Go.undef) (.inr ⟨_,B6,hz,rfl⟩) q1 q2 w2
    (λi2 cs j2 d2 eO lA=>by obtain⟨u,hu,_⟩:=ky i2 cs j2 d2 eO lA;rw[hu];rfl)
    (λi2 cs j2 d2 eO lA=>by obtain⟨u,hu,hd⟩:=ky i2 cs j2 d2 eO lA;rw[hu];exact hd)
 |row id esz lo hi elems ds hz hb hl hs Lm ih=>
  obtain⟨h1,h2,h3,h4,h5,a,rfl,ha⟩:=hd;obtain⟨g1,g2,g3,g4,g5⟩:=hM.bk id _ hb;have lT:ds.length=(U.aH (.al id)).len:=om;have hlen:(bV ds lo hi).length=hi.getD (U.aH (.al id)).len-lo:=by
   rw[<-lT];exact Cn ds lo hi (by rw[lT];exact h2) (by rw[lT];exact h3)
  rw[<-hlen];rcases abu (bV ds lo hi).length with h0|cH
  .rw[h0,aag h0];exact .nil esz a _ om
  .have gY:lo<(U.aH (.al id)).cap:=om;obtain⟨cur,bT,dn,dD⟩:=g5 om;rw[ha gY];have key:∀(i:Nat)es(j:Nat)d,(bV ds lo hi)[i]? =some es->es[j]? =some d->∃u,w.cell? ⟨(U.aH (.al id)).b,(U.aH (.al id)).ar+lo*esz+i*esz+j,.none⟩=some u/\c7 (U.vw Y Z m n).S w d u:=by
    intro i es j d ew hj;have eO:=rA ds lo hi i es ew;have aD:lo+i<elems.length:=by rw[hl];exact(I4.1 eO).1
    have Kh:=uX aD;have d8:j<elems[lo+i].length:=by rw[hs _ _ _ Kh eO];exact(I4.1 hj).1
    have Rb:=uX d8;obtain⟨u,hu,ct⟩:=dD _ _ _ _ Kh Rb;refine⟨u,?_,?_⟩
    .rw[bT.cell,<-hu];congr 1;rw[abr];omega
    .refine ih _ _ _ _ _ _ Kh eO Rb hj ?_ ct;intro jX hid s e he;cases hid;exact⟨_,_,rfl,_,hb,.row Kh (by rw[Rb,he])⟩
   refine c7.sl esz (bV ds lo hi) _ _ _ (λi j=>(w.cell? ⟨(U.aH (.al id)).b,(U.aH (.al id)).ar+lo*esz+i*esz+j,.none⟩).getD Go.undef) (.inr ⟨.al id,⟨_,hb,aC,λ_=>om⟩,hz,rfl⟩) om om (λes nX=>?_)
    (λi cs j d ew hj=>by obtain⟨u,hu,_⟩:=key i cs j d ew hj;rw[hu];rfl)
    (λi cs j d ew hj=>by obtain⟨u,hu,hd⟩:=key i cs j d ew hj;rw[hu];exact hd)
   obtain⟨i,ew⟩:=Xt nX;have eO:=rA ds lo hi i es ew;have aD:lo+i<elems.length:=by rw[hl];exact(I4.1 eO).1
   have Kh:=uX aD;rw[<-hs _ _ _ Kh eO];exact g4 _ (aal aD)
theorem sK.jR(hM:au U m w){n:Nat}(fZ:∀i,Y i<m.length->i<n){jX i j:Nat}{pos pos':Option (Nat×Nat×Nat)}{p:Option Nat}(V1:(pos=none/\pos'=none/\p=none)\/(pos=some (Y jX,i,j)/\pos'=some (jX,i,j)/\p=some (Y jX))){c c':CC}(h:sK Y m Z p c c')(jQ:∀s e,c= .dV s e->pos=some (Y jX,i,j)->dM m (Y jX) i j s e){v:Value}(hd:bh U w pos c v):bh (U.vw Y Z m n) w pos' c' v:=by
 cases h with
 |ap c=>exact hd.one
 |un=>
  cases(show c7 U.S w (.val (.slice none 0 0)) v from hd)with
  |val _ h=>simp[cE]at h
  |no a=>exact⟨a,rfl⟩
 |hi id e lo hb=>
  have hn:=hM.n;obtain⟨g1,_⟩:=hM.bk _ _ hb;obtain⟨h1,h2,h3,h4,h5,a,rfl,ha⟩:=hd;simp only[acw]at h2 h3;refine⟨fZ id (by rw[<-hn];exact h1),?_⟩
  simp only[abC,bF.vw,fY.aU,g1];exact⟨h2,h3,h4,h5,a,rfl,ha⟩
 |lo id e lo hb=>
  have hn:=hM.n;obtain⟨g1,_⟩:=hM.bk _ _ hb;obtain⟨h1,h2,h3,h4,h5,a,rfl,ha⟩:=hd;simp only[abC,g1]at h2 h3;refine⟨fZ id (by rw[<-hn];exact h1),?_⟩
  simp only[acw,abC,bF.vw,fY.aU,g1];exact⟨h2,h3,h4,h5,a,rfl,ha⟩
 |fy h=>
  refine h.jR hM ?_ hd;intro id hid s e he;rcases V1 with⟨_,_,rfl⟩|⟨rfl,rfl,rfl⟩
  .cases hid
  .cases hid;exact⟨i,j,rfl,jQ s e he rfl⟩
 |aU=>
  have hn:=hM.n;cases c'<;>simp only[CC.aU,bh]at hd|-
  case ap=>exact hd
  case aa=>exact hd.mono (λ_ h=>.inl h) (λ_ _=>rfl)
  case ptr id k=>exact⟨fZ id (by rw[<-hn];exact hd.1),hd.2⟩
  case nb id _ _ _=>exact⟨fZ id (by rw[<-hn];exact hd.1),hd.2⟩
  case qS=>
   obtain⟨b,off,h1,h2,h3⟩:=hd;refine⟨b,off,h1,.inl h2,λj d hj=>?_⟩
   obtain⟨u,hu,ct⟩:=h3 j d hj;exact⟨u,hu,ct.mono (λ_ h=>.inl h) (λ_ _=>rfl)⟩
  case row id _ _ _=>exact⟨fZ id (by rw[<-hn];exact hd.1),hd.2⟩
  case aO=>exact hd
  case map id=>exact⟨fZ id (by rw[<-hn];exact hd.1),hd.2⟩
  case fn f eh=>
   refine⟨λid hid=>fZ id (by rw[<-hn];exact hd.1 _ (aak.2 ⟨id,hid,rfl⟩)),?_⟩
   rw[hd.2,abM];rfl
  case dV s e=>
   obtain⟨a,b,c,h1,h2⟩:=hd;rcases V1 with⟨rfl,rfl,rfl⟩|⟨rfl,rfl,rfl⟩
   .cases h1
   .cases h1;exact⟨jX,i,j,rfl,h2⟩
theorem sK.Iy(hM:au U m w){n:Nat}(fZ:∀i,Y i<m.length->i<n){c c':CC}(h:sK Y m Z none c c'){v:Value}(hd:bh U w none c v):bh (U.vw Y Z m n) w none c' v:=
 sK.jR (jX:=0) (i:=0) (j:=0) hM fZ (.inl ⟨rfl,rfl,rfl⟩) h (λ_ _ _ h=>by cases h) hd
theorem xS.jR(hM:au U m w){n:Nat}(fZ:∀i,Y i<m.length->i<n){c c':RV}(h:xS Y m Z c c'){v:Value}(hd:dq U w c v):dq (U.vw Y Z m n) w c' v:=by
 cases h with
 |one h=>exact h.Iy hM fZ hd
 |agg hl h=>
  obtain⟨vs,rfl,h1,h2⟩:=hd;refine⟨vs,rfl,h1.trans hl,λi c' hi=>?_⟩
  rename_i cs eR;have aD:i<cs.length:=by rw[hl];exact(I4.1 hi).1
  obtain⟨u,hu,hd⟩:=h2 i _ (uX aD);exact⟨u,hu,(h i _ _ (uX aD) hi).Iy hM fZ hd⟩
theorem qQ.jR(hM:au U m w){n:Nat}(fZ:∀i,Y i<m.length->i<n){c c':CV}(h:qQ Y m Z c c'){v:Value}(hd:bZ U w c v):bZ (U.vw Y Z m n) w c' v:=by
 cases h with
 |ap=>trivial
 |undef=>exact hd
 |rv h=>exact h.jR hM fZ hd
 |bz hl h=>
  obtain⟨vs,rfl,h1,h2⟩:=hd;refine⟨vs,rfl,h1.trans hl,λi c' hi=>?_⟩
  rename_i cs eR;have aD:i<cs.length:=by rw[hl];exact(I4.1 hi).1
  obtain⟨u,hu,hd⟩:=h2 i _ (uX aD);exact⟨u,hu,(h i _ _ (uX aD) hi).jR hM fZ hd⟩
theorem l9.jR(hM:au U m w){n:Nat}(fZ:∀i,Y i<m.length->i<n){id:Nat}{b b':Bk}(hb:m[Y id]? =some b)(h:l9 Y m Z (Y id) b b'):cI (U.vw Y Z m n) w id b':=by
 have hd:=hM.bk _ _ hb;cases h with
 | @var cs eR h=>
  obtain⟨cur,hc,hd⟩:=hd;refine⟨cur,hc,λj c' hj=>?_⟩
  obtain⟨c,pu,hv⟩:=h j c' hj;obtain⟨u,hu,ct⟩:=hd j c pu;refine⟨u,hu,?_⟩;cases hv with
  |ap c=>exact ct.one
  |aU=>exact sK.Iy hM fZ (.aU c') ct
  |un=>exact sK.Iy hM fZ .un ct
  |hi jX e lo sX=>exact sK.Iy hM fZ (.hi jX e lo sX) ct
  |lo jX e lo sX=>exact sK.Iy hM fZ (.lo jX e lo sX) ct
  |fy hf=>exact hf.jR hM (λjX _ s e he=>by rw[he]at ct;obtain⟨_,_,_,hx,_⟩:=ct;cases hx) ct
 | @row esz es bx hl hs h=>
  obtain⟨h2,h3,h4,h5,bT⟩:=hd;refine⟨hl.symm.trans h2,h3,h4,λeR KX=>?_,λcH=>?_⟩
  .obtain⟨i,hi⟩:=Xt KX;have aD:i<es.length:=by rw[hl];exact(I4.1 hi).1
   rw[<-hs i _ _ (uX aD) hi];exact h5 _ (aal aD)
  .obtain⟨cur,hc,h1,h6⟩:=bT cH;refine⟨cur,hc,h1,λi eR j c' hi hj=>?_⟩
   have aD:i<es.length:=by rw[hl];exact(I4.1 hi).1
   have ew:=uX aD;have d8:j<es[i].length:=by rw[hs i _ _ ew hi];exact(I4.1 hj).1
   have pu:=uX d8;obtain⟨u,hu,ct⟩:=h6 _ _ _ _ ew pu;refine⟨u,hu,sK.jR (jX:=id) (i:=i) (j:=j) hM fZ (.inr ⟨rfl,rfl,rfl⟩) (h i _ _ j _ _ ew hi pu hj) (λs e he _=>⟨_,hb,.row ew (by rw[pu,he])⟩) ct⟩
 |it cur left=>
  obtain⟨mb,seen,ck,bx,h2,h3,h4,h5,h6⟩:=hd;exact⟨mb,seen,ck,bx,h2,h3,.inl h4,h5,h6⟩
 |mo esz es so=>
  obtain⟨ae,clock,hc,⟨h1,h2⟩,h3⟩:=hd;refine⟨ae,clock,hc,⟨by simpa using h1,λi e hi=>?_⟩,h3⟩
  obtain⟨Ki,Kj,hk,hp,pI⟩:=h2 i (e.aU Y) (by rw[RA,hi];rfl)
  obtain⟨k,v⟩:=e;cases v with
  |dV l=>
   refine⟨Ki,Kj,hk,hp,?_⟩;obtain⟨a,b,c,q1,q2⟩:=pI;cases q1;exact⟨id,i,0,rfl,q2⟩
  |row n=>
   refine⟨Ki,Kj,hk,hp,?_⟩;have hn:=hM.n;exact⟨fZ n (by rw[<-hn];exact pI.1),pI.2⟩
 |Zw esz=>
  obtain⟨ae,clock,hc,h1,h2⟩:=hd;exact⟨ae,clock,hc,⟨h1,aC⟩,aC⟩
 |iw mid gU seen=>
  obtain⟨h1,h2,s,h3,h4⟩:=hd;have hn:=hM.n;exact⟨fZ mid (by rw[<-hn];exact h1),h2,s,h3,h4⟩
 | @mp es bx hl h=>
  obtain⟨ae,clock,hc,h1,h2⟩:=hd;refine⟨ae,clock,hc,h1.trans hl,λi e' hi=>?_⟩
  have aD:i<es.length:=by rw[hl];exact(I4.1 hi).1
  obtain⟨Ki,Kj,hk,pI⟩:=h2 i _ (uX aD);obtain⟨fU,hv⟩:=h i _ _ (uX aD) hi;exact⟨Ki,Kj,hk.trans fU.symm,hv.jR hM fZ pI⟩
theorem Live.Rd{U:bF}{m:Mem}{k:fY}(h:Live U m k):m[k.id]? ≠some .aS:=by
 cases k with
 |al id=>obtain⟨bk,h1,h2,_⟩:=h;intro e;rw[fY.id,h1]at e;cases e;exact h2 rfl
 |sub id i j=>obtain⟨⟨s,e,bk,h1,ho⟩,_⟩:=h;intro e;rw[fY.id,h1]at e;cases e;cases ho
theorem vd{m':Mem}(hM:au U m w)(jE:∀i,i<n0->Y i=i)(oi:∀i j,i<m'.length->j<m'.length->m'[i]? ≠some .aS->m'[j]? ≠some .aS->Y i=Y j->i=j)(fZ:∀i,Y i<m.length->i<m'.length)(iD:∀(i:Nat)b',m'[i]? =some b'->b'= .aS\/(¬Z (Y i)/\∃b,m[Y i]? =some b/\l9 Y m Z (Y i) b b')):
  au (U.vw Y Z m m'.length) m' w/\R7 n0 U m (U.vw Y Z m m'.length) m'/\∀k,Live (U.vw Y Z m m'.length) m' k->Live U m (k.aU Y):=by
 have jQ:∀{id i j s1 e},dM m' id i j s1 e->¬Z (Y id)/\dM m (Y id) i j s1 e:=by
  rintro id i j s1 e ⟨b',sX,fj⟩;rcases iD id _ sX with h|⟨hz,b,hb,hv⟩
  .subst h;cases fj
  .cases hv with
   |var=>cases fj
   |mp=>cases fj
   |it=>cases fj
   |iw=>cases fj
   |Zw=>obtain⟨k,hi,_⟩:=fj.QL;simp at hi
   |mo esz es so=>
    obtain⟨k,hi,rfl,rfl⟩:=fj.QL;exact⟨hz,_,hb,.mo (k:=k) (by rw[RA,hi];rfl)⟩
   | @row _ es _ hl hs h=>
    obtain⟨eR,ew,pu⟩:=fj.xV;have aD:i<es.length:=by rw[hl];exact(I4.1 ew).1
    have hi:=uX aD;have d8:j<es[i].length:=by rw[hs i _ _ hi ew];exact(I4.1 pu).1
    have hj:=uX d8;have hv:=h i _ _ j _ _ hi ew hj pu;have hc:es[i][j]= .dV s1 e:=by
     generalize es[i][j]=c at hv;cases hv with
     |aU=>rfl
    exact⟨hz,_,hb,.row hi (by rw[hj,hc])⟩
 have bY:∀k,Live (U.vw Y Z m m'.length) m' k->¬Z (Y k.id)/\Live U m (k.aU Y):=by
  intro k hk;cases k with
  |al k=>
   obtain⟨b',sX,lB,bc⟩:=hk;rcases iD k _ sX with h|⟨hz,b,hb,hv⟩
   .exact absurd h lB
   .refine⟨hz,b,hb,?_,?_⟩
    .rintro rfl;cases hv
    .rintro⟨esz,es,rfl⟩;cases hv with
     |row=>exact bc ⟨_,_,rfl⟩
  |sub k i j=>
   obtain⟨⟨esz,e,ho⟩,bc⟩:=hk;exact⟨(jQ ho).1,⟨_,_,(jQ ho).2⟩,bc⟩
 refine⟨⟨rfl,?_,λk hk=>?_,λk k' hk fU he=>?_,λid b' sX=>?_,λid i j esz e ho bc=>?_⟩,⟨λid hid=>?_,λb h=>.inl h,?_,λk hk=>⟨_,(bY k hk).2,rfl⟩⟩,λk hk=>(bY k hk).2⟩
 .rintro b (hb|⟨k,hk,_,rfl⟩)
  .exact hM.S b hb
  .exact(hM.aQ k hk).1
 .obtain⟨hz,hl⟩:=bY k hk;refine⟨(hM.aQ _ hl).1,?_⟩;rintro(hb|⟨k0,GX,DN,he⟩)
  .exact(hM.aQ _ hl).2 hb
  .have:=hM.inj k0 (k.aU Y) GX hl he;subst this;apply hz;cases k<;>exact DN
 .have yB:=hk.eC;have V2:=fU.eC;have uM:=hk.Rd;have xQ:=fU.Rd;have:=hM.inj _ _ (bY k hk).2 (bY k' fU).2 he;cases k<;>cases k'<;>simp only[fY.aU,fY.al.injEq,fY.sub.injEq,fY.id,reduceCtorEq]at this yB V2 uM xQ
  .rw[oi _ _ yB V2 uM xQ this]
  .obtain⟨h1,rfl,rfl⟩:=this;rw[oi _ _ yB V2 uM xQ h1]
 .rcases iD id b' sX with rfl|⟨hz,b,hb,hv⟩
  .trivial
  .exact l9.jR hM fZ hb hv
 .obtain⟨cur,hc,h1,h2,h3⟩:=hM.dV _ _ _ _ _ (jQ ho).2 bc;refine⟨cur,hc,h1,h2,λi2 cs j2 d eO lA=>?_⟩
  obtain⟨u,hu,ct⟩:=h3 i2 cs j2 d eO lA;exact⟨u,hu,ct.mono (λ_ h=>.inl h) (λ_ _=>rfl)⟩
 .show U.aH (.al (Y id))=_;rw[jE id hid]
 .rintro b (hb|⟨k,hk,_,he⟩)
  .exact .inl hb
  .exact .inr ⟨k,hk,he⟩
theorem View.mk'{s s':St}(Y:Nat->Nat)(Z:Nat->Prop)(GD:n0<=s'.mem.length)(hlen:s'.aX.length=s.aX.length)(jE:∀i,i<n0->Y i=i)(oi:∀i j,i<s'.mem.length->j<s'.mem.length->Y i=Y j->i=j)(fZ:∀i,Y i<s.mem.length->i<s'.mem.length)(qp:∀(i:Nat)c',s'.aX[i]? =some c'->∃c,s.aX[i]? =some c/\qQ Y s.mem Z c c')(iD:∀(i:Nat)b',s'.mem[i]? =some b'->b'= .aS\/(¬Z (Y i)/\∃b,s.mem[Y i]? =some b/\l9 Y s.mem Z (Y i) b b')):View n0 s s':=by
 refine⟨GD,hlen,λU w hM=>?_⟩
 obtain⟨h1,h2,_⟩:=vd (n0:=n0) (Y:=Y) (Z:=Z) hM jE (λi j a b _ _=>oi i j a b) fZ iD
 refine⟨_,h1,h2,λi c' hi=>?_⟩
 obtain⟨c,hc,hv⟩:=qp i c' hi;exact⟨c,hc,λv hd=>hv.jR hM fZ hd⟩
theorem View.mk2{s s':St}(Y:Nat->Nat)(GD:n0<=s'.mem.length)(hlen:s'.aX.length=s.aX.length)(jE:∀i,i<n0->Y i=i)(oi:∀i j,i<s'.mem.length->j<s'.mem.length->s'.mem[i]? ≠some .aS->s'.mem[j]? ≠some .aS->Y i=Y j->i=j)(fZ:∀i,Y i<s.mem.length->i<s'.mem.length)(qp:∀(i:Nat)c',s'.aX[i]? =some c'->∃c,s.aX[i]? =some c/\qQ Y s.mem (λ_=>False) c c')(iD:∀(i:Nat)b',s'.mem[i]? =some b'->b'= .aS\/∃b,s.mem[Y i]? =some b/\l9 Y s.mem (λ_=>False) (Y i) b b'):View n0 s s':=by
 refine⟨GD,hlen,λU w hM=>?_⟩
 obtain⟨h1,h2,_⟩:=vd (n0:=n0) (Y:=Y) (Z:=λ_=>False) hM jE oi fZ (λi b' h=>(iD i b' h).imp id λh=>⟨λh=>h,h⟩)
 refine⟨_,h1,h2,λi c' hi=>?_⟩
 obtain⟨c,hc,hv⟩:=qp i c' hi;exact⟨c,hc,λv hd=>hv.jR hM fZ hd⟩
end
section
variable {P:Program} {n0:Nat} {Y:Nat->Nat} {Z:Nat->Prop} {U:bF} {m:Mem} {w:World}
def sg(l:List Nat)(n:Nat)(i:Nat):Nat:=match cD l i with|some x=>x|none=>n+(i-l.length)
def bw:List Nat->Nat->Bool
 | [],_=>false
 |x::r,k=>Nat.beq x k||bw r k
def fJ:List Nat->Bool
 | []=>true
 |x::r=>!(bw r x)&&fJ r
def eG(n:Nat):List Nat->Bool
 | []=>true
 |x::r=>Nat.blt x n&&eG n r
def EK(l:List Nat):Nat->Bool
 |0=>true
 |k+1=>(match cD l k with|some x=>Nat.beq x k|none=>false)&&EK l k
theorem wh:∀{l:List Nat}{k:Nat},bw l k=true↔k∈l
 | [],k=>by simp[bw]
 |x::r,k=>by
  simp only[bw,abU,aa1,wh];constructor
  .rintro(h|h)
   .exact .inl (aai h).symm
   .exact .inr h
  .rintro(rfl|h)
   .exact .inl (acY _)
   .exact .inr h
theorem wi:∀{l:List Nat},fJ l=true->∀i j:Nat,i<l.length->j<l.length->l[i]? =l[j]? ->i=j
 | [],_,i,j,hi,_,_=>by simp at hi
 |x::r,h,i,j,hi,hj,he=>by
  simp only[fJ,aab,abP]at h;have hx:∀k:Nat,r[k]? ≠some x:=λk hk=>by have:=wh.2 (RD hk);rw[h.1]at this;cases this
  cases i with
  |zero=>
   cases j with
   |zero=>rfl
   |succ j=>simp at he;exact absurd he.symm (hx j)
  |succ i=>
   cases j with
   |zero=>simp at he;exact absurd he (hx i)
   |succ j=>
    simp at he hi hj;rw[wi h.2 i j hi hj he]
theorem mJ{n:Nat}:∀{l:List Nat},eG n l=true->∀x,x∈l->x<n
 | [],_,x,hx=>by simp at hx
 |y::r,h,x,hx=>by
  simp only[eG,aab]at h;rcases aa1.1 hx with rfl|hx
  .exact aae h.1
  .exact mJ h.2 x hx
theorem rE{l:List Nat}:∀{k:Nat},EK l k=true->∀i,i<k->l[i]? =some i
 |0,_,i,hi=>om
 |k+1,h,i,hi=>by
  simp only[EK,aab]at h;rcases aad i k with h1|h1
  .exact rE h.2 i h1
  .have:i=k:=om;subst this;rw[<-aT];cases hn:cD l i with
   |none=>rw[hn]at h;simp at h
   |some x=>rw[hn]at h;simp only at h;rw[aai h.1]
theorem mK{l:List Nat}{n i:Nat}(h:i<l.length):sg l n i=l[i]:=by simp[sg,aT,uX h]
theorem rF{l:List Nat}{n i:Nat}(h:l.length<=i):sg l n i=n+(i-l.length):=by simp[sg,aT,aaZ h]
theorem Au{l:List Nat}{n:Nat}(hd:fJ l=true)(hl:eG n l=true){i j:Nat}(h:sg l n i=sg l n j):i=j:=by
 rcases aad i l.length with hi|hi<;>rcases aad j l.length with hj|hj
 .rw[mK hi,mK hj]at h;exact wi hd i j hi hj (by rw[uX hi,uX hj,h])
 .rw[mK hi,rF hj]at h;have:=mJ hl _ (aal hi);omega
 .rw[rF hi,mK hj]at h;have:=mJ hl _ (aal hj);omega
 .rw[rF hi,rF hj]at h;omega
def RV.aU(Y:Nat->Nat):RV->RV
 | .one c=>.one (c.aU Y)
 | .agg cs=>.agg (cs.map (CC.aU Y))
def CV.aU(Y:Nat->Nat):CV->CV
 | .rv r=>.rv (r.aU Y)
 | .bz rs=>.bz (rs.map (RV.aU Y))
 | .ap=>.ap
 | .undef=>.undef
def Bk.aU(Y:Nat->Nat):Bk->Bk
 | .aS=>.aS
 | .var cs=>.var (cs.map (CC.aU Y))
 | .row s es=>.row s (es.map λcs=>cs.map (CC.aU Y))
 | .mp es=>.mp (es.map λe=>⟨e.key,e.val.aU Y⟩)
 | .it cur left=>.it cur left
 | .mo esz es so=>.mo esz (es.map (MO.aU Y)) so
 | .iw mid gU seen=>.iw (Y mid) gU seen
theorem xS.aU(r:RV):xS Y m Z (r.aU Y) r:=by
 cases r with
 |one c=>exact .one (.aU c)
 |agg cs=>
  refine .agg aC λi c c' h h'=>?_
  rw[RA,h']at h;cases h;exact .aU c'
theorem qQ.EL(v:CV):qQ Y m Z (v.aU Y) v:=by
 cases v with
 |rv r=>exact .rv (.aU r)
 |bz rs=>
  refine .bz aC λi c c' h h'=>?_
  rw[RA,h']at h;cases h;exact .aU c'
 |ap=>exact .ap _
 |undef=>exact .undef
theorem qQ.aU{v v':CV}(h:v'.aU Y=v):qQ Y m Z v v':=h▸ .EL v'
theorem l9.EL{id:Nat}(b:Bk)(hb:b≠.aS):l9 Y m Z id (b.aU Y) b:=by
 cases b with
 |aS=>exact absurd rfl hb
 |var cs=>
  refine .var λi c' h=>⟨c'.aU Y,by rw[RA,h];rfl,.aU c'⟩
 |row s es=>
  refine .row s aC (λi cs eR h h'=>?_) λi cs eR j c c' h h' g g'=>?_
  .rw[RA,h']at h;cases h;simp
  .rw[RA,h']at h;cases h;rw[RA,g']at g;cases g;exact .aU c'
 |mp es=>
  refine .mp aC λi e e' h h'=>?_
  rw[RA,h']at h;cases h;exact⟨rfl,.aU _⟩
 |it cur left=>exact .it cur left
 |mo esz es so=>exact .mo esz es so
 |iw mid gU seen=>exact .iw mid gU seen
theorem pE.Re{Y:Nat->Nat}{b:Bk}{i j s:Nat}{e:List (List Dt)}(h:pE (b.aU Y) i j s e):pE b i j s e:=by
 cases b with
 |row s0 YP=>
  obtain⟨cs,hi,hj⟩:=h.xV;rw[RA]at hi;obtain⟨Cp,u7,rfl⟩:=aao.1 hi;rw[RA]at hj;obtain⟨c0,hj0,K4⟩:=aao.1 hj;have:c0= .dV s e:=by cases c0<;>simp[CC.aU]at K4|-;exact K4
  subst this;exact .row u7 hj0
 |mo esz es so=>
  obtain⟨k,hi,rfl,rfl⟩:=h.QL;rw[RA]at hi;obtain⟨e0,u7,he⟩:=aao.1 hi;obtain⟨k0,v0⟩:=e0;cases v0 with
  |dV l=>simp only[MO.aU,MO.mk.injEq,MV.dV.injEq]at he;obtain⟨rfl,rfl⟩:=he;exact .mo u7
  |row n=>simp[MO.aU]at he
 |_=>cases h
def af(ds:List (List Dt)):List (List CC):=ds.map λes=>es.map .aa
theorem dp(ds:List (List Dt)):(af ds).map (λcs=>cs.map (CC.aU Y))=af ds:=by simp[af,CC.aU]
theorem Bk.jk(s:Nat)(ds:List (List Dt)):(Bk.row s (af ds)).aU Y= .row s (af ds):=by simp only[Bk.aU,dp]
theorem dO.eU{p:Option Nat}{id esz:Nat}{ds:List (List Dt)}(hz:Z id)(h:m[id]? =some (.row esz (af ds)))(lo:Nat)(hi:Option Nat):dO m Z p (.row id esz lo hi) (.sl esz (bV ds lo hi)):=by
 refine .row id esz lo hi _ ds hz h (by simp[af]) (λi cs es h1 h2=>?_) λi cs es j c d h1 h2 h3 h4=>?_
 .simp only[af,RA,h2,aaz,aam]at h1;subst h1;simp
 .simp only[af,RA,h2,aaz,aam]at h1;subst h1;simp only[RA,h4,aaz,aam]at h3;subst h3;exact .aa d
inductive iF(Y:Nat->Nat)(m:Mem)(Z:Nat->Prop):List CV->List CV->Prop
 |nil:iF Y m Z [] []
 |ap {v:CV} {e e':List CV} (h:iF Y m Z e e'):iF Y m Z (v::e) (.ap::e')
 |put {v v':CV} {e e':List CV} (hv:qQ Y m Z v v') (h:iF Y m Z e e'):iF Y m Z (v::e) (v'::e')
theorem iF.len{e e':List CV}(h:iF Y m Z e e'):e'.length=e.length:=by
 induction h<;>simp[*]
theorem iF.get{e e':List CV}(h:iF Y m Z e e'):∀(i:Nat)c',e'[i]? =some c'->∃c,e[i]? =some c/\qQ Y m Z c c':=by
 induction h with
 |nil=>intro i v h;simp at h
 |ap h ih=>
  intro i v hv;cases i with
  |zero=>simp at hv;subst hv;exact⟨_,rfl,.ap _⟩
  |succ i=>simpa using ih i v (by simpa using hv)
 |put hx h ih=>
  intro i v hv;cases i with
  |zero=>simp at hv;subst hv;exact⟨_,rfl,hx⟩
  |succ i=>simpa using ih i v (by simpa using hv)
theorem iF.eq{v v':CV}{e e':List CV}(hv:v'.aU Y=v)(h:iF Y m Z e e'):iF Y m Z (v::e) (v'::e'):= .put (.aU hv) h
inductive e8(Y:Nat->Nat)(m:Mem)(Z:Nat->Prop):Nat->Mem->Prop
 |nil (k:Nat):e8 Y m Z k []
 |aS {k:Nat} {r:Mem} (h:e8 Y m Z (k+1) r):e8 Y m Z k (.aS::r)
 |put {k:Nat} {b b':Bk} {r:Mem} (hz:¬Z (Y k)) (hb:cD m (Y k)=some b) (hv:l9 Y m Z (Y k) b b') (h:e8 Y m Z (k+1) r):e8 Y m Z k (b'::r)
theorem e8.get{k:Nat}{m':Mem}(h:e8 Y m Z k m'):∀(i:Nat)b',m'[i]? =some b'->b'= .aS\/(¬Z (Y (k+i))/\∃b,m[Y (k+i)]? =some b/\l9 Y m Z (Y (k+i)) b b'):=by
 induction h with
 |nil k=>intro i b' h;simp at h
 | @aS k r h ih=>
  intro i b' hi;cases i with
  |zero=>simp at hi;exact .inl hi.symm
  |succ i=>
   have:=ih i b' (by simpa using hi)
   rwa [show k+1+i=k+(i+1) by omega]at this
 | @put k b b1 r hz hb hv h ih=>
  intro i b' hi;cases i with
  |zero=>simp at hi;subst hi;exact .inr ⟨hz,_,by rw[<-aT];exact hb,hv⟩
  |succ i=>
   have:=ih i b' (by simpa using hi)
   rwa [show k+1+i=k+(i+1) by omega]at this
theorem View.of{e e':List CV}{m m':Mem}(n:Nat)(l F:List Nat)(hn:m.length=n)(hl:m'.length=l.length)(h0:Nat.ble n0 l.length=true)(hi:EK l n0=true)(hd:fJ l=true)(ha:eG n l=true)(qp:iF (sg l n) m (λk=>bw F k=true) e e')(iD:e8 (sg l n) m (λk=>bw F k=true) 0 m'):View n0 ⟨e,m⟩ ⟨e',m'⟩:=by
 have h0':n0<=l.length:=aae h0;refine View.mk' (sg l n) _ (by simp only;omega) qp.len (λi aD=>?_) (λi j _ _ h=>Au hd ha h) (λi aD=>?_) (λi c' h=>qp.get i c' h) (λi b' h=>by have:=iD.get i b' h;simpa using this)
 .rw[mK om];have:=rE hi i aD;rw[uX om]at this;simpa using this
 .rcases aad i l.length with h|h
  .simp only;omega
  .rw[rF h]at aD;simp only at aD;omega
theorem View.of2{e e':List CV}{m m':Mem}(n x:Nat)(l:List Nat)(hn:m.length=n)(hl:m'.length=l.length+1)(h0:Nat.ble n0 l.length=true)(hi:EK l n0=true)(hd:fJ l=true)(ha:eG n l=true)(hx:Nat.blt x n0=true)(i3:cD m' x=some .aS)(qp:iF (sg (gh l [x]) n) m (λk=>bw [] k=true) e e')(iD:e8 (sg (gh l [x]) n) m (λk=>bw [] k=true) 0 m'):View n0 ⟨e,m⟩ ⟨e',m'⟩:=by
 have h0':n0<=l.length:=aae h0;have sW:x<n0:=aae hx;have Zx:l[x]? =some x:=rE hi x sW;have hxn:x<n:=mJ ha x (RD Zx);rw[bX]at qp iD;rw[aT]at i3;have hz:(λk=>bw [] k=true)=λ_=>False:=by funext k;simp[bw]
 rw[hz]at qp iD;have hL:(l++ [x]).length=l.length+1:=aC;have old:∀i,i<l.length->sg (l++ [x]) n i=sg l n i:=λi h=>by rw[mK om,mK h,List.getElem_append_left h]
 have new:sg (l++ [x]) n l.length=x:=by rw[mK om];simp
 refine View.mk2 (sg (l++ [x]) n) (by simp only;omega) qp.len (λi aD=>?_) (λi j KR ya DO SL h=>?_) (λi aD=>?_) (λi c' h=>qp.get i c' h) (λi b' h=>by have:=iD.get i b' h;simpa using this)
 .rw[old i om,mK om];have:=rE hi i aD;rw[uX om]at this;simpa using this
 .have key:∀i,i<l.length->m'[i]? ≠some .aS->sg (l++ [x]) n i=x->False:=by
   intro i h DO he;rw[old i h]at he;have:sg l n i=sg l n x:=by rw[he,mK om];rw[uX om]at Zx;simpa using Zx.symm
   have:=Au hd ha this;subst this;exact DO i3
  simp only at KR ya DO SL;rw[hl]at KR ya;by_cases h1:i=l.length<;>by_cases h2:j=l.length
  .rw[h1,h2]
  .rw[h1,new]at h;exact(key j om SL h.symm).elim
  .rw[h2,new]at h;exact(key i om DO h).elim
  .rw[old i om,old j om]at h;exact Au hd ha h
 .rcases aad i (l.length+1)with h|h
  .simp only;omega
  .rw[rF om]at aD;simp only at aD;omega
theorem bG{f:Nat}{args:List CV}{m:Mem}{K0 K:CV->Mem->Prop}(h:aq P f args m K0)(hK:∀r m1,K0 r m1->∃r' m',View m.length ⟨[r],m1⟩ ⟨[r'],m'⟩/\K r' m'):aq P f args m K:=by
 refine⟨h.1,λU w vs hM hl hd=>?_⟩
 refine(h.2 U w vs hM hl hd).mono λe w'⟨v,r,m1,ρ1,he,hk,rk,uM,hx⟩=>?_
 obtain⟨r',m',hv,fU⟩:=hK r m1 hk;obtain⟨U',jc,hc,pI⟩:=hv.go ρ1 w' rk;have hn:=hM.n;refine⟨v,r',m',U',he,fU,jc,?_,⟨by rw[hn,jc.n];exact hv.hn,λid hid=>(hc.aH id (by rw[<-hn];exact hid)).trans (hx.aH id hid),λb hb=>hc.S b (hx.S b hb),λb hb=>?_,λk hk=>?_,hx.frame,hx.size,hx.os,hx.tape,hx.output⟩⟩
 .obtain⟨c,q8,Lm⟩:=pI 0 r' rfl;simp at q8;subst q8;exact Lm v uM
 .rcases hc.S' b hb with h|⟨k,hk,rfl⟩
  .exact hx.S' b h
  .exact .inr (hx.aQ k hk)
 .obtain⟨k0,h0,e0⟩:=hc.aQ k hk;rw[<-e0];exact hx.aQ k0 h0
def mL(Y:Nat->Nat):Mem->Mem
 | []=>[]
 |b::r=>b.aU Y::mL Y r
theorem Av(Y:Nat->Nat):∀m,mL Y m=m.map (Bk.aU Y)
 | []=>rfl
 |b::r=>by simp[mL,Av Y r]
def cV:Mem->List Nat->Mem->Mem
 |m,[],ms=>gh m ms
 |m,_::_,[]=>m
 |m,id::l,b::ms=>cV (aW m id b) l ms
theorem yX:∀(l:List Nat)(m ms:Mem),l.length<=ms.length->(cV m l ms).length=m.length+(ms.length-l.length)
 | [],m,ms,_=>by simp[cV,bX]
 |_::l,m,[],h=>by simp at h
 |id::l,m,b::ms,h=>by simp at h;rw[cV,yX l _ _ h,a8];simp
theorem te:∀(l:List Nat)(m ms:Mem)(j:Nat),j<m.length->j∉l->(cV m l ms)[j]? =m[j]?
 | [],m,ms,j,hj,_=>by simp[cV,bX,Yf hj]
 |_::l,m,[],j,_,_=>by simp[cV]
 |id::l,m,b::ms,j,hj,hn=>by
  simp at hn;rw[cV,te l _ _ j (by rw[a8];simpa using hj) hn.2,a8,WE (λh=>hn.1 h.symm)]
theorem yY:∀(l:List Nat)(m ms:Mem),fJ l=true->eG m.length l=true->l.length<=ms.length->∀(i:Nat),i<ms.length->(cV m l ms)[sg l m.length i]? =ms[i]?
 | [],m,ms,_,_,_,i,hi=>by simp only[cV,bX,sg,cD,abv,acb];rw[WH om];simp
 |_::l,m,[],_,_,h,_,_=>by simp at h
 |id::l,m,b::ms,hd,ha,h,i,hi=>by
  simp only[fJ,aab,abP]at hd;simp only[eG,aab]at ha;simp at h hi;have hlen:(aW m id b).length=m.length:=by rw[a8];simp
  have hid:id<m.length:=aae ha.1;cases i with
  |zero=>
   rw[cV];show(cV (aW m id b) l ms)[id]? =some b;rw[te l _ _ id (by rw[hlen];exact hid) (λh=>by rw[wh.2 h]at hd;cases hd.1),a8]
   simp[hid]
  |succ i=>
   have:=yY l (aW m id b) ms hd.2 (by rw[hlen];exact ha.2) h i om
   rw[hlen]at this;rw[cV];have e:sg (id::l) m.length (i+1)=sg l m.length i:=by simp[sg,cD]
   rw[e,this];simp
theorem bh.pos{U:bF}{w:World}{pos pos':Option (Nat×Nat×Nat)}{c:CC}{v:Value}(hc:∀s e,c≠.dV s e)(h:bh U w pos c v):bh U w pos' c v:=by
 cases c<;>simp only[bh]at h|-
 case dV=>exact absurd rfl (hc _ _)
 all_goals exact h
theorem bh.Zy{U U':bF}{w:World}{pos:Option (Nat×Nat×Nat)}(hn:U.n<=U'.n)(bM:∀id,id<U.n->U'.aH (.al id)=U.aH (.al id))(iq:∀id i j,pos=some (id,i,j)->U'.aH (.sub id i j)=U.aH (.sub id i j))(hS:∀b,U.S b->U'.S b){w':World}(d6:∀b,U.S b->w'.heap[b]? =w.heap[b]?){c:CC}{v:Value}(h:bh U w pos c v):bh U' w' pos c v:=by
 let ρ1:bF:={n:=U'.n,aH:=λk=>match k with| .al id=>U'.aH (.al id)|k=>U.aH k,S:=U'.S}
 have g:iz U w ρ1 w':=⟨hn,λk hk=>by
  cases k with
  |al id=>exact bM id hk
  |sub id i j=>rfl,hS,d6⟩
 by_cases hc:∃s e,c= .dV s e
 .obtain⟨esz,elems,rfl⟩:=hc;obtain⟨id,i,j,cH,hr⟩:=h;refine⟨id,i,j,cH,?_⟩;rw[iq id i j cH];exact hr
 .have hc:∀s e,c≠.dV s e:=λs e h=>hc ⟨s,e,h⟩
  have h1:=bh.pos (pos':=pos) hc (bh.cm g aC (bh.pos (pos':=none) hc h));cases c<;>simp only[bh]at h1|-
  case dV=>exact absurd rfl (hc _ _)
  all_goals exact h1
theorem bh.aU{U U':bF}{τ:Nat->Nat}{w:World}{pos pos':Option (Nat×Nat×Nat)}(hτ:∀i,i<U.n->τ i<U'.n)(dB:∀i,i<U.n->U'.aH (.al (τ i))=U.aH (.al i))(hS:∀b,U.S b->U'.S b)(cH:∀id i j,pos=some (id,i,j)->pos'=some (τ id,i,j)/\U'.aH (.sub (τ id) i j)=U.aH (.sub id i j)){c:CC}{v:Value}(h:bh U w pos c v):bh U' w pos' (c.aU τ) v:=by
 cases c<;>simp only[bh,CC.aU]at h|-
 case ap=>exact h
 case aa=>exact h.mono hS (λ_ _=>rfl)
 case ptr id _=>rw[dB id h.1];exact⟨hτ id h.1,h.2⟩
 case nb id _ _ _=>rw[dB id h.1];exact⟨hτ id h.1,h.2⟩
 case qS=>
  obtain⟨b,off,h1,h2,h3⟩:=h;refine⟨b,off,h1,hS _ h2,λj d hj=>?_⟩
  obtain⟨u,hu,ct⟩:=h3 j d hj;exact⟨u,hu,ct.mono hS (λ_ _=>rfl)⟩
 case row id _ _ _=>rw[dB id h.1];exact⟨hτ id h.1,h.2⟩
 case aO=>exact h
 case map id=>rw[dB id h.1];exact⟨hτ id h.1,h.2⟩
 case fn f eh=>
  refine⟨λid hid=>?_,?_⟩
  .obtain⟨i,hi,rfl⟩:=aak.1 hid;exact hτ i (h.1 i hi)
  .rw[h.2];congr 2;rw[abM];exact acp λid hid=>by simp only[Function.comp];rw[dB id (h.1 id hid)]
 case dV s e=>
  obtain⟨a,b,c,h1,h2⟩:=h;obtain⟨h3,h4⟩:=cH a b c h1;refine⟨τ a,b,c,h3,?_⟩;rw[h4];exact h2
theorem dq.aU{U U':bF}{τ:Nat->Nat}{w:World}(hτ:∀i,i<U.n->τ i<U'.n)(dB:∀i,i<U.n->U'.aH (.al (τ i))=U.aH (.al i))(hS:∀b,U.S b->U'.S b){c:RV}{v:Value}(h:dq U w c v):dq U' w (c.aU τ) v:=by
 cases c with
 |one c=>exact bh.aU hτ dB hS (λ_ _ _ h=>by cases h) h
 |agg cs=>
  obtain⟨vs,rfl,h1,h2⟩:=h;refine⟨vs,rfl,by simpa using h1,λi c hi=>?_⟩
  rw[RA]at hi;obtain⟨c0,h0,rfl⟩:=aao.1 hi;obtain⟨u,hu,hd⟩:=h2 i c0 h0;exact⟨u,hu,bh.aU hτ dB hS (λ_ _ _ h=>by cases h) hd⟩
theorem bZ.aU{U U':bF}{τ:Nat->Nat}{w:World}(hτ:∀i,i<U.n->τ i<U'.n)(dB:∀i,i<U.n->U'.aH (.al (τ i))=U.aH (.al i))(hS:∀b,U.S b->U'.S b){c:CV}{v:Value}(h:bZ U w c v):bZ U' w (c.aU τ) v:=by
 cases c with
 |ap=>trivial
 |undef=>exact h
 |rv r=>exact dq.aU hτ dB hS h
 |bz cs=>
  obtain⟨vs,rfl,h1,h2⟩:=h;refine⟨vs,rfl,by simpa using h1,λi c hi=>?_⟩
  rw[RA]at hi;obtain⟨c0,h0,rfl⟩:=aao.1 hi;obtain⟨u,hu,hd⟩:=h2 i c0 h0;exact⟨u,hu,dq.aU hτ dB hS hd⟩
theorem cI.aU{U U':bF}{τ:Nat->Nat}{w:World}(hτ:∀i,i<U.n->τ i<U'.n)(dB:∀i,i<U.n->U'.aH (.al (τ i))=U.aH (.al i))(hS:∀b,U.S b->U'.S b){id:Nat}(hid:id<U.n)(iq:∀i j,U'.aH (.sub (τ id) i j)=U.aH (.sub id i j)){b:Bk}(h:cI U w id b):cI U' w (τ id) (b.aU τ):=by
 cases b with
 |aS=>trivial
 |var cs=>
  obtain⟨cur,hc,hd⟩:=h;simp only[Bk.aU,cI,dB id hid];refine⟨cur,hc,λj c hj=>?_⟩
  rw[RA]at hj;obtain⟨c0,h0,rfl⟩:=aao.1 hj;obtain⟨u,hu,ct⟩:=hd j c0 h0;exact⟨u,hu,bh.aU hτ dB hS (λ_ _ _ h=>by cases h) ct⟩
 |row s es=>
  obtain⟨h2,h3,h4,h5,bT⟩:=h;simp only[Bk.aU,cI,dB id hid];refine⟨by simpa using h2,h3,h4,λcs eB=>?_,λcH=>?_⟩
  .obtain⟨Cp,h0,rfl⟩:=aak.1 eB;simpa using h5 Cp h0
  .obtain⟨cur,hc,h1,h6⟩:=bT cH;refine⟨cur,hc,h1,λi cs j c hi hj=>?_⟩
   rw[RA]at hi;obtain⟨Cp,h0,rfl⟩:=aao.1 hi;rw[RA]at hj;obtain⟨c0,Um,rfl⟩:=aao.1 hj;obtain⟨u,hu,ct⟩:=h6 i Cp j c0 h0 Um;exact⟨u,hu,bh.aU hτ dB hS (λa b c h=>by cases h;exact⟨rfl,iq _ _⟩) ct⟩
 |mp es=>
  obtain⟨ae,clock,hc,h1,h2⟩:=h;simp only[Bk.aU,cI,dB id hid];refine⟨ae,clock,hc,by simpa using h1,λi e hi=>?_⟩
  rw[RA]at hi;obtain⟨e0,h0,rfl⟩:=aao.1 hi;obtain⟨Ki,Kj,hk,pI⟩:=h2 i e0 h0;exact⟨Ki,Kj,hk,dq.aU hτ dB hS pI⟩
 |it cur left=>
  obtain⟨mb,seen,ck,bx,h2,h3,h4,h5,h6⟩:=h;simp only[Bk.aU,cI,dB id hid];exact⟨mb,seen,ck,bx,h2,h3,hS _ h4,h5,h6⟩
 |mo esz es so=>
  obtain⟨ae,clock,hc,⟨h1,h2⟩,h3⟩:=h;simp only[Bk.aU,cI,dB id hid];refine⟨ae,clock,hc,⟨by simpa using h1,λi e hi=>?_⟩,h3⟩
  rw[RA]at hi;obtain⟨e0,h0,rfl⟩:=aao.1 hi;obtain⟨Ki,Kj,hk,hp,pI⟩:=h2 i e0 h0;have xQ:=bh.aU (pos':=some (τ id,i,0)) hτ dB hS (λa b c h=>by cases h;exact⟨rfl,iq _ _⟩) pI
  obtain⟨k,v⟩:=e0;cases v<;>exact⟨Ki,Kj,hk,hp,xQ⟩
 |iw mid gU seen=>
  obtain⟨h1,h2,s,h3,h4⟩:=h;simp only[Bk.aU,cI,dB id hid,dB mid h1];exact⟨hτ mid h1,h2,s,h3,h4⟩
end
section
variable {P:Program}
theorem EM{l:List Nat}{n i:Nat}(hi:sg l n i<n):i<l.length:=by
 rcases aad i l.length with h|h
 .exact h
 .rw[rF h]at hi;omega
theorem bq{f:Nat}{args args0:List CV}{m m0:Mem}{K0 K:CV->Mem->Prop}(l:List Nat)(n:Nat)(hn:m.length=n)(hl:m0.length=l.length)(hd:fJ l=true)(ha:eG n l=true)(eF:args=args0.map (CV.aU (sg l n)))(hm:∀(i:Nat)b',m0[i]? =some b'->b'= .aS\/(¬False/\∃b,m[sg l n i]? =some b/\l9 (sg l n) m (λ_=>False) (sg l n i) b b'))(h:aq P f args0 m0 K0)(hK:∀r m1,K0 r m1->l.length<=m1.length/\K (r.aU (sg l n)) (cV m l (mL (sg l n) m1))):aq P f args m K:=by
 subst hn;refine⟨h.1,λU w vs hM x9 Zz=>?_⟩
 have oi:∀i j,sg l m.length i=sg l m.length j->i=j:=λi j h=>Au hd ha h
 obtain⟨lR,hC0,Ox⟩:=vd (n0:=0) (Y:=sg l m.length) (Z:=λ_=>False) (m':=m0) hM (λi h=>absurd h (abi i)) (λi j _ _ _ _ h=>oi i j h) (λi h=>by rw[hl];exact EM h) hm
 have XW:∀b,(U.vw (sg l m.length) (λ_=>False) m m0.length).S b↔U.S b:=λb=>⟨λh=>h.elim id λ⟨k,_,hf,_⟩=>hf.elim,.inl⟩
 have jT:U.n=m.length:=hM.n;refine(h.2 _ w vs lR (by rw[x9,eF];simp) λi c hi=>?_).mono λe w'⟨v,r,m1,ρ1,he,hk,rk,uM,hx⟩=>?_
 .obtain⟨v,hv,pI⟩:=Zz i (c.aU (sg l m.length)) (by rw[eF,RA,hi];rfl)
  exact⟨v,hv,qQ.jR hM (λi h=>by rw[hl];exact EM h) (.EL c) pI⟩
 .obtain⟨hle,fU⟩:=hK r m1 hk;have p8:ρ1.n=m1.length:=rk.n;let back:Nat->Option Nat:=λj=>(List.range m1.length).find? λi=>sg l m.length i==j
  have kK:∀{j i},back j=some i->i<m1.length/\sg l m.length i=j:=by
   intro j i hb;have h1:=List.mem_of_find?_eq_some hb;have h2:=List.find?_some hb;exact⟨by simpa using h1,by simpa using h2⟩
  have GY:∀{i},i<m1.length->back (sg l m.length i)=some i:=by
   intro i hi;cases hb:back (sg l m.length i)with
   |none=>
    have:=ac3.1 hb i (by simpa using hi)
    simp at this
   |some j=>rw[oi _ _ (kK hb).2]
  have o9:∀{j},j<m.length+(m1.length-l.length)->back j=none->j<m.length/\j∉l:=by
   intro j hj hb;have jS:=ac3.1 hb;refine⟨?_,λna=>?_⟩
   .rcases aad j m.length with h|h
    .exact h
    .have:=jS (l.length+(j-m.length)) (by simp;omega)
     rw[rF om]at this;simp at this;omega
   .obtain⟨i,hi⟩:=Xt na;obtain⟨aD,rfl⟩:=I4.1 hi;have:=jS i (by simp;omega)
    rw[mK aD]at this;simp at this
  let U':bF:={n:=m.length+(m1.length-l.length),aH:=λk=>match back k.id with
   |some i=>(match k with| .al _=>ρ1.aH (.al i)| .sub _ a b=>ρ1.aH (.sub i a b))
   |none=>U.aH k,S:=ρ1.S}
  have Pl:∀i,i<ρ1.n->U'.aH (.al (sg l m.length i))=ρ1.aH (.al i):=by intro i hi;rw[p8]at hi;simp only[U',fY.id,GY hi]
  have SM:∀i a b,i<ρ1.n->U'.aH (.sub (sg l m.length i) a b)=ρ1.aH (.sub i a b):=by intro i a b hi;rw[p8]at hi;simp only[U',fY.id,GY hi]
  have Iz:∀k:fY,back k.id=none->U'.aH k=U.aH k:=by intro k hb;simp only[U',hb]
  have EN:∀id,id<U.n->U'.aH (.al id)=U.aH (.al id):=by
   intro id hid;cases hb:back id with
   |none=>exact Iz (.al id) hb
   |some i=>
    obtain⟨h1,h2⟩:=kK hb;have hi:i<l.length:=EM (by rw[h2,<-jT];exact hid)
    rw[<-h2,Pl i (by rw[p8];exact h1),hx.aH i (by show i<m0.length;omega)]
    rfl
  have mE:∀i,i<ρ1.n->sg l m.length i<U'.n:=by
   intro i hi;rw[p8]at hi;show _<m.length+(m1.length-l.length);rcases aad i l.length with h|h
   .rw[mK h];have:=mJ ha _ (aal h);omega
   .rw[rF h];omega
  have GZ:(mL (sg l m.length) m1).length=m1.length:=by rw[Av];simp
  have XX:(cV m l (mL (sg l m.length) m1)).length=m.length+(m1.length-l.length):=by
   rw[yX l m _ (by rw[GZ];exact hle),GZ]
  have XY:∀i,i<m1.length->(cV m l (mL (sg l m.length) m1))[sg l m.length i]? =(m1[i]?).map (Bk.aU (sg l m.length)):=by
   intro i hi;rw[yY l m _ hd ha (by rw[GZ];exact hle) i (by rw[GZ];exact hi),Av,RA]
  have ZA:∀j,back j=none->j<m.length+(m1.length-l.length)->(cV m l (mL (sg l m.length) m1))[j]? =m[j]? :=by intro j hb hj;obtain⟨h1,h2⟩:=o9 hj hb;exact te l m _ j h1 h2
  have va:∀k,Live U m k->(k.id<m.length->k.id∉l)->(∀k0,Live (U.vw (sg l m.length) (λ_=>False) m m0.length) m0 k0->((U.vw (sg l m.length) (λ_=>False) m m0.length).aH k0).b≠(U.aH k).b):=by
   intro k hk LJ k0 GX he;have h1:=Ox k0 GX;have h2:=hM.inj _ _ h1 hk he;have h3:=GX.eC;rw[hl]at h3;apply LJ hk.eC;rw[<-h2];cases k0<;>simp only[fY.aU,fY.id]at h3|-<;>rw[mK h3]<;>exact aal h3
  have d6:∀k,Live U m k->(k.id<m.length->k.id∉l)->w'.heap[(U.aH k).b]? =w.heap[(U.aH k).b]? :=λk hk LJ=>hx.frame _ (hM.aQ k hk).1 (va k hk LJ)
  have vL:∀b,U.S b->w'.heap[b]? =w.heap[b]? :=λb hb=>hx.frame b (hM.S b hb) λk hk he=>(lR.aQ k hk).2 (he▸(XW b).2 hb)
  have XZ:∀b,U.S b->ρ1.S b:=λb hb=>hx.S b ((XW b).2 hb)
  have V3:∀k,Live U m k->(k.id<m.length->k.id∉l)->¬ρ1.S (U.aH k).b:=by
   intro k hk LJ hs;rcases hx.S' _ hs with h|h|⟨k0,GX,he⟩
   .exact(hM.aQ k hk).2 ((XW _).1 h)
   .have:=(hM.aQ k hk).1;omega
   .exact va k hk LJ k0 GX he
  have gI:∀k,Live U' (cV m l (mL (sg l m.length) m1)) k->(∃k1,k1.id<m1.length/\k=k1.aU (sg l m.length)/\Live ρ1 m1 k1/\U'.aH k=ρ1.aH k1)\/(back k.id=none/\k.id<m.length/\k.id∉l/\Live U m k/\U'.aH k=U.aH k):=by
   intro k hk;have aD:=hk.eC;rw[XX]at aD;cases hb:back k.id with
   |none=>
    obtain⟨h1,h2⟩:=o9 aD hb;have SN:=ZA k.id hb aD;refine .inr ⟨rfl,h1,h2,?_,Iz k hb⟩;have bM:=Iz k hb;cases k with
    |al id=>
     obtain⟨bk,de,lB,bc⟩:=hk;simp only[fY.id]at SN;rw[SN]at de;rw[bM]at bc;exact⟨bk,de,lB,bc⟩
    |sub id a b=>
     obtain⟨⟨s,e,b2,de,ho⟩,bc⟩:=hk;simp only[fY.id]at SN;rw[SN]at de;rw[bM]at bc;exact⟨⟨s,e,b2,de,ho⟩,bc⟩
   |some i=>
    obtain⟨h1,h2⟩:=kK hb;have SN:=XY i h1;cases k with
    |al id=>
     simp only[fY.id]at h2;subst h2;have bM:=Pl i (by rw[p8];exact h1)
     refine .inl ⟨.al i,h1,rfl,?_,bM⟩;obtain⟨bk,de,lB,bc⟩:=hk;rw[SN]at de;obtain⟨b0,h0,rfl⟩:=aao.1 de;rw[bM]at bc;refine⟨b0,h0,?_,?_⟩
     .rintro rfl;exact lB rfl
     .rintro⟨s,es,rfl⟩;exact bc ⟨_,_,rfl⟩
    |sub id a b=>
     simp only[fY.id]at h2;subst h2;have bM:=SM i a b (by rw[p8];exact h1)
     refine .inl ⟨.sub i a b,h1,rfl,?_,bM⟩;obtain⟨⟨s,e,b2,de,ho⟩,bc⟩:=hk;rw[SN]at de;obtain⟨b0,h0,rfl⟩:=aao.1 de;rw[bM]at bc;exact⟨⟨s,e,_,h0,ho.Re⟩,bc⟩
  have ZB:∀{j i},back j=some i->i<ρ1.n/\sg l m.length i=j:=λhb=>by rw[p8];exact kK hb
  refine⟨v,r.aU (sg l m.length),cV m l (mL (sg l m.length) m1),U',he,fU,⟨XX.symm,λb hb=>rk.S b hb,λk hk=>?_,λk k' hk oo nr=>?_,λid b hb=>?_,λid i j esz e ho bc=>?_⟩,bZ.aU mE Pl (λ_ h=>h) uM,
   ⟨by show U.n<=_;rw[jT];exact Nat.le_add_right _ _,EN,XZ,λb hb=>?_,λk hk=>?_,λb hb ZC=>hx.frame b hb λk hk he=>ZC _ (Ox k hk) he,hx.size,hx.os,hx.tape,hx.output⟩⟩
  .rcases gI k hk with⟨k1,_,_,jZ,bM⟩|⟨_,h1,h2,jZ,bM⟩
   .rw[bM];exact rk.aQ k1 jZ
   .rw[bM];exact⟨aa0 (hM.aQ k jZ).1 hx.size,V3 k jZ λ_=>h2⟩
  .have mixed:∀k1 k2,Live ρ1 m1 k1->Live U m k2->k2.id∉l->(ρ1.aH k1).b≠(U.aH k2).b:=by
    intro k1 k2 jZ oo So jY;rcases hx.aQ k1 jZ with h|⟨k0,GX,e0⟩
    .have:=(hM.aQ k2 oo).1;omega
    .exact va k2 oo (λ_=>So) k0 GX (e0.trans jY)
   rcases gI k hk with⟨k1,_,rfl,jZ,bM⟩|⟨_,h1,h2,jZ,bM⟩<;>rcases gI k' oo with⟨k1',_,rfl,LK,jG⟩|⟨_,B5,Kc,LK,jG⟩
   .rw[bM,jG]at nr;rw[rk.inj k1 k1' jZ LK nr]
   .rw[bM,jG]at nr;exact absurd nr (mixed k1 k' jZ LK Kc)
   .rw[bM,jG]at nr;exact absurd nr.symm (mixed k1' k LK jZ h2)
   .rw[bM,jG]at nr;exact hM.inj k k' jZ LK nr
  .have aD:id<m.length+(m1.length-l.length):=by rw[<-XX];exact(I4.1 hb).1
   cases de:back id with
   |some i=>
    obtain⟨h1,rfl⟩:=kK de;rw[XY i h1]at hb;obtain⟨b0,h0,rfl⟩:=aao.1 hb;exact cI.aU mE Pl (λ_ h=>h) (by rw[p8];exact h1) (λa b=>SM i a b (by rw[p8];exact h1)) (rk.bk i b0 h0)
   |none=>
    obtain⟨h1,h2⟩:=o9 aD de;rw[ZA id de aD]at hb;have fe:=hM.bk id b hb;have bM:U'.aH (.al id)=U.aH (.al id):=Iz (.al id) de;have d7:U.n<=U'.n:=by rw[jT];exact Nat.le_add_right _ _
    have iZ:∀{p c u},(∀a i j,p=some (a,i,j)->a=id)->bh U w p c u->bh U' w' p c u:=λ{p c u}hp hd=>bh.Zy d7 EN (λa i j x5=>by rw[hp a i j x5];exact Iz (.sub id i j) de) XZ vL hd
    have jF:∀{c u},dq U w c u->dq U' w' c u:=by
     intro c u hd;cases c with
     |one c=>exact iZ (λ_ _ _ h=>by cases h) hd
     |agg cs=>
      obtain⟨vs,hv,B6,hc⟩:=hd;exact⟨vs,hv,B6,λi c hi=>let⟨u,hu,hd⟩:=hc i c hi;⟨u,hu,iZ (λ_ _ _ h=>by cases h) hd⟩⟩
    have hh:b≠.aS->((∃esz elems,b= .row esz elems)->0<(U.aH (.al id)).cap)->w'.heap[(U.aH (.al id)).b]? =w.heap[(U.aH (.al id)).b]? :=λlB bc=>d6 (.al id) ⟨b,hb,lB,bc⟩ λ_=>h2
    cases b with
    |aS=>trivial
    |var cs=>
     obtain⟨cur,hc,x7⟩:=fe;simp only[cI,bM];refine⟨cur,hc.dv (hh aC (by rintro⟨_,_,h⟩;cases h)),λj c hj=>?_⟩
     obtain⟨u,hu,ct⟩:=x7 j c hj;exact⟨u,hu,iZ (λ_ _ _ h=>by cases h) ct⟩
    |row esz elems=>
     obtain⟨g2,g3,g4,g5,bT⟩:=fe;simp only[cI,bM];refine⟨g2,g3,g4,g5,λcH=>?_⟩
     obtain⟨cur,hc,q1,q6⟩:=bT cH;refine⟨cur,hc.dv (hh aC (λ_=>cH)),q1,λi cs j c hi hj=>?_⟩
     obtain⟨u,hu,ct⟩:=q6 i cs j c hi hj;exact⟨u,hu,iZ (λ_ _ _ h=>by cases h;rfl) ct⟩
    |mp es=>
     obtain⟨ae,clock,hc,q1,q2⟩:=fe;simp only[cI,bM];refine⟨ae,clock,⟨(hh aC (by rintro⟨_,_,h⟩;cases h)).trans hc.1,hc.2⟩,q1,λi e hi=>?_⟩
     obtain⟨Ki,Kj,BE,pI⟩:=q2 i e hi;exact⟨Ki,Kj,BE,jF pI⟩
    |it cur left=>
     obtain⟨mb,seen,ck,bx,q2,q3,q4,q5,q6⟩:=fe;simp only[cI,bM];exact⟨mb,seen,ck,bx,(hh aC (by rintro⟨_,_,h⟩;cases h)).trans q2,q3,XZ _ q4,(vL mb q4).trans q5,q6⟩
    |mo esz es so=>
     obtain⟨ae,clock,hc,⟨q1,q2⟩,q3⟩:=fe;simp only[cI,bM];refine⟨ae,clock,⟨(hh aC (by rintro⟨_,_,h⟩;cases h)).trans hc.1,hc.2⟩,⟨q1,λi e hi=>?_⟩,q3⟩
     obtain⟨Ki,Kj,BE,hp,pI⟩:=q2 i e hi;exact⟨Ki,Kj,BE,hp,iZ (λ_ _ _ h=>by cases h;rfl) pI⟩
    |iw mid gU seen=>
     obtain⟨q1,q2,s,q3,q4⟩:=fe;simp only[cI,bM];refine⟨aa0 q1 d7,q2,s,(hh aC (by rintro⟨_,_,h⟩;cases h)).trans ?_,q4⟩
     rw[q3,EN mid q1]
  .have hk:Live U' (cV m l (mL (sg l m.length) m1)) (.sub id i j):=⟨⟨_,_,ho⟩,bc⟩;obtain⟨b2,hb,Oy⟩:=ho;have aD:id<m.length+(m1.length-l.length):=by rw[<-XX];exact(I4.1 hb).1
   cases de:back id with
   |some i0=>
    obtain⟨h1,rfl⟩:=kK de;have bM:=SM i0 i j (by rw[p8];exact h1)
    rw[bM]at bc|-;rw[XY i0 h1]at hb;obtain⟨b0,h0,rfl⟩:=aao.1 hb;exact rk.dV i0 i j esz e ⟨_,h0,Oy.Re⟩ bc
   |none=>
    obtain⟨h1,h2⟩:=o9 aD de;have bM:=Iz (.sub id i j) de;rw[bM]at bc|-;rw[ZA id de aD]at hb;have jQ:dM m id i j esz e:=⟨_,hb,Oy⟩;obtain⟨cur,hc,q1,q2,q3⟩:=hM.dV id i j esz e jQ bc;refine⟨cur,hc.dv (d6 (.sub id i j) ⟨⟨_,_,jQ⟩,bc⟩ λ_=>h2),q1,q2,λi2 XM j2 d eO lA=>?_⟩
    obtain⟨u,hu,ct⟩:=q3 i2 XM j2 d eO lA;exact⟨u,hu,ct.mono XZ vL⟩
  .rcases hx.S' b hb with h|h|⟨k0,GX,he⟩
   .exact .inl ((XW b).1 h)
   .exact .inr (.inl h)
   .exact .inr (.inr ⟨_,Ox k0 GX,he⟩)
  .rcases gI k hk with⟨k1,_,_,jZ,bM⟩|⟨_,h1,h2,jZ,bM⟩
   .rw[bM];rcases hx.aQ k1 jZ with h|⟨k0,GX,e0⟩
    .exact .inl h
    .exact .inr ⟨_,Ox k0 GX,e0⟩
   .rw[bM];exact .inr ⟨k,jZ,rfl⟩
end
section
variable {P:Program}
theorem View.aO{n0:Nat}{e:List CV}{m:Mem}(t esz n:Nat)(hn:m.length=n)(he:kh e t= .rv (.one .aO))(h0:Nat.ble n0 n=true):
  View n0 ⟨e,m⟩ ⟨aW e t (.rv (.one (.row n esz 0 none))),gh m [.row esz []]⟩:=by
 subst hn;have h0:=aae h0;rw[a8,bX];refine⟨by simp;omega,aC,λU w hM=>?_⟩
 have hn:U.n=m.length:=hM.n;let U':bF:={n:=m.length+1,aH:=λk=>if k.id=m.length then⟨0,0,0,0⟩else U.aH k,S:=U.S}
 have bM:∀k:fY,k.id<U.n->U'.aH k=U.aH k:=λk hk=>by simp only[U'];rw[if_neg om]
 have g:iz U w U' w:=⟨by show U.n<=m.length+1;omega,bM,λ_ h=>h,λ_ _=>rfl⟩
 have bY:∀k,Live U' (m++ [.row esz []]) k->Live U m k:=by
  intro k hk;have aD:=hk.eC;simp at aD;cases k with
  |al id=>
   obtain⟨bk,hb,lB,bc⟩:=hk;simp only[fY.id]at aD;rcases aad id m.length with h|h
   .rw[Yf h]at hb;rw[bM (.al id) (by simp only[fY.id];omega)]at bc
    exact⟨bk,hb,lB,bc⟩
   .have:id=m.length:=om;subst this;simp at hb;subst hb;have:=bc ⟨_,_,rfl⟩;simp[U',fY.id]at this
  |sub id i j=>
   obtain⟨⟨s,el,b2,hb,ho⟩,bc⟩:=hk;simp only[fY.id]at aD;rcases aad id m.length with h|h
   .rw[Yf h]at hb;rw[bM (.sub id i j) (by simp only[fY.id];omega)]at bc
    exact⟨⟨s,el,b2,hb,ho⟩,bc⟩
   .have:id=m.length:=om;subst this;simp at hb;subst hb;obtain⟨cs,hi,hj⟩:=ho.xV;simp at hi
 have jG:∀k,Live U m k->U'.aH k=U.aH k:=λk hk=>bM k (by rw[hn];exact hk.eC)
 refine⟨U',⟨by simp[U'],hM.S,λk hk=>?_,λk k' hk fU nr=>?_,λid b hb=>?_,λid i j s el ho bc=>?_⟩,⟨λid hid=>bM (.al id) (by simp only[fY.id];omega),λ_ h=>h,λ_ h=>.inl h,λk hk=>⟨k,bY k hk,(by rw[jG k (bY k hk)])⟩⟩,λi c' hi=>?_⟩
 .rw[jG k (bY k hk)];exact hM.aQ k (bY k hk)
 .rw[jG k (bY k hk),jG k' (bY k' fU)]at nr;exact hM.inj k k' (bY k hk) (bY k' fU) nr
 .rcases aad id m.length with h|h
  .rw[Yf h]at hb;exact(hM.bk id b hb).cm g om λ_ _=>rfl
  .have aD:=(I4.1 hb).1;simp at aD;have:id=m.length:=om;subst this;simp at hb;subst hb;simp[cI,U',fY.id]
 .have hk:Live U m (.sub id i j):=bY (.sub id i j) ⟨⟨_,_,ho⟩,bc⟩;have hid:=hk.eC;simp only[fY.id]at hid;rw[jG _ hk]at bc|-;obtain⟨b2,hb,ho⟩:=ho;rw[Yf hid]at hb;obtain⟨cur,hc,q1,q2,q3⟩:=hM.dV id i j s el ⟨b2,hb,ho⟩ bc;exact⟨cur,hc,q1,q2,q3⟩
 .simp only at hi;have aD:=(I4.1 hi).1;simp at aD;rw[abl]at hi;split at hi
  .rename_i LL;subst LL;rw[if_pos aD]at hi;cases hi;refine⟨.rv (.one .aO),?_,λv hd=>?_⟩
   .rw[lN,uX aD]at he;rw[uX aD];simpa using he
   .obtain⟨a,rfl⟩:=hd;simp[bZ,dq,bh,U',fY.id]
  .exact⟨c',hi,λv hd=>bZ.cm g hd⟩
theorem rG{n0:Nat}{b:LC}{K:Ex->St->Prop}{s:St}{α:Type}(J:α->Prop)(f:α->List (Nat×CV))(M:α->Mem)(μ:α->Nat)(a0:α)(h0:J a0)(start:View n0 s ⟨Cm s.aX (f a0),M a0⟩)(round:∀a,J a->aw P n0 b (GA n0 J (λa=>⟨Cm s.aX (f a),M a⟩) μ (μ a) K) ⟨Cm s.aX (f a),M a⟩):aw P n0 (.loop b) K s:=
 ⟨α,J,λa=>⟨Cm s.aX (f a),M a⟩,μ,⟨a0,h0,start⟩,round⟩
theorem yZ:∀{cs:List CC}{k:Nat}{c:CC},cs[k]? =some c->iX cs k 1=some [c]
 | [],k,c,h=>by simp at h
 |x::r,0,c,h=>by simp at h;subst h;cases r<;>rfl
 |x::r,k+1,c,h=>by
  show iX r k 1=_;exact yZ (by simpa using h)
theorem l9.bI{Y:Nat->Nat}{m:Mem}{Z:Nat->Prop}{id s:Nat}{es:List (List CC)}{ds:List (List Dt)}(h:es=af ds):l9 Y m Z id (.row s es) (.row s (af ds)):=by subst h;have:=l9.EL (Y:=Y) (m:=m) (Z:=Z) (id:=id) (.row s (af ds)) aC;rwa [Bk.jk]at this
theorem dy{F:List Nat}{k:Nat}(h:bw F k=false):¬bw F k=true:=by rw[h];simp
theorem l9.eq{Y:Nat->Nat}{m:Mem}{Z:Nat->Prop}{id:Nat}{b b':Bk}(h:b'.aU Y=b)(hd:b'≠.aS):l9 Y m Z id b b':=h▸ .EL b' hd
theorem l9.lU{Y:Nat->Nat}{m:Mem}{Z:Nat->Prop}{id:Nat}{cs:List CC}{ds:List Dt}(h:cs=ds.map .aa):l9 Y m Z id (.var cs) (.var (ds.map .aa)):=by subst h;have:=l9.EL (Y:=Y) (m:=m) (Z:=Z) (id:=id) (.var (ds.map .aa)) aC;simpa[Bk.aU,CC.aU,acP]using this
theorem qQ.hi{Y:Nat->Nat}{m:Mem}{Z:Nat->Prop}{jX id e lo n esz:Nat}{elems:List (List CC)}(hσ:Y id=jX)(hb:cD m jX=some (.row esz elems))(hn:elems.length=n):
  qQ Y m Z (.rv (.one (.row jX e lo none))) (.rv (.one (.row id e lo (some n)))):=by
 subst hσ;subst hn;exact .rv (.one (.hi id e lo (by rw[<-aT];exact hb)))
theorem aL{p:Prop}{i:Decidable p}{A B:Prop}(ha:p->A)(hb:¬p->B): @Bool.rec (λ_=>Prop) B A (@decide p i):=by
 cases hd: @decide p i
 .exact hb (of_decide_eq_false hd)
 .exact ha (of_decide_eq_true hd)
theorem bp{a b:Int}{A B:Prop}(ha:a=b->A)(hb:a≠b->B): @Bool.rec (λ_=>Prop) B A (a==b):=by
 cases hd:(a==b)
 .exact hb (by simpa using hd)
 .exact ha (by simpa using hd)
theorem bs{a b:Int}{A B:Prop}(ha:a≠b->A)(hb:a=b->B): @Bool.rec (λ_=>Prop) B A (a !=b):=by
 cases hd:(a !=b)
 .exact hb (by simpa using hd)
 .exact ha (by simpa using hd)
theorem qQ.fy{Y:Nat->Nat}{m:Mem}{F:List Nat}(id:Nat)(ds:List (List Dt)){esz:Nat}(hz:bw F id=true)(hb:cD m id=some (.row esz (af ds))):
  qQ Y m (λk=>bw F k=true) (.rv (.one (.row id esz 0 none))) (.rv (.one (.aa (.sl esz ds)))):=
 .rv (.one (.fy (dO.eU (Z:=λk=>bw F k=true) hz (by rw[<-aT];exact hb) 0 none)))
def Rf(i:Nat):List (Nat×CV)->Option CV
 | []=>none
 |(j,x)::r=>match Nat.beq i j with|true=>some x|false=>Rf i r
def kpV(eE:List Nat)(f:List (Nat×CV))(i:Nat)(v:CV):CV:=
 match Rf i f with
 |some x=>x
 |none=>match bw eE i with|true=>v|false=>.ap
def V4(eE:List Nat)(f:List (Nat×CV)):Nat->List CV->(List CV->List CV)->List CV
 |_,[],k=>k []
 |i,v::r,k=>fV (kpV eE f i v) λv'=>V4 eE f (i+1) r λr'=>k (v'::r')
def Ur(eE:List Nat)(e:List CV)(f:List (Nat×CV)):List CV:=V4 eE f 0 e λe=>e
theorem bb{n0:Nat}{b:LC}{K:Ex->St->Prop}{s:St}{α:Type}(J:α->Prop)(eE:List Nat)(f:α->List (Nat×CV))(M:α->Mem)(μ:α->Nat)(a0:α)(h0:J a0)(start:View n0 s ⟨Ur eE s.aX (f a0),M a0⟩)(round:∀a,J a->aw P n0 b (GA n0 J (λa=>⟨Ur eE s.aX (f a),M a⟩) μ (μ a) K) ⟨Ur eE s.aX (f a),M a⟩):aw P n0 (.loop b) K s:=
 ⟨α,J,λa=>⟨Ur eE s.aX (f a),M a⟩,μ,⟨a0,h0,start⟩,round⟩
theorem gj{n0:Nat}{b:LC}{K:Ex->St->Prop}{s:St}(eE:List Nat)(f:List (Nat×CV))(M:Mem)(hv:View n0 s ⟨Ur eE s.aX f,M⟩)(h:aw P n0 b K ⟨Ur eE s.aX f,M⟩):aw P n0 (.cS b) K s:=⟨_,hv,h⟩
end
theorem View.o{n0:Nat}{e e':List CV}{m m':Mem}(n:Nat)(l F:List Nat)(qp:iF (sg l n) m (λk=>bw F k=true) e e')(iD:e8 (sg l n) m (λk=>bw F k=true) 0 m')(hn:m.length=n:=by exact rfl)(hl:m'.length=l.length:=by exact rfl)(h0:Nat.ble n0 l.length=true:=by exact rfl)(hi:EK l n0=true:=by exact rfl)(hd:fJ l=true:=by exact rfl)(ha:eG n l=true:=by exact rfl):View n0 ⟨e,m⟩ ⟨e',m'⟩:=View.of n l F hn hl h0 hi hd ha qp iD
theorem View.o1{n0:Nat}{e e':List CV}{m m':Mem}(n:Nat)(l F:List Nat)(iD:e8 (sg l n) m (λk=>bw F k=true) 0 m')(hn:m.length=n:=by exact rfl)(hl:m'.length=l.length:=by exact rfl)(h0:Nat.ble n0 l.length=true:=by exact rfl)(hi:EK l n0=true:=by exact rfl)(hd:fJ l=true:=by exact rfl)(ha:eG n l=true:=by exact rfl)(qp:iF (sg l n) m (λk=>bw F k=true) e e':=by repeat(first|exact .nil|refine .ap ?_|refine .eq rfl ?_)):View n0 ⟨e,m⟩ ⟨e',m'⟩:=View.of n l F hn hl h0 hi hd ha qp iD
theorem e8.pt{Y:Nat->Nat}{m:Mem}{F:List Nat}{k:Nat}{b b':Bk}{r:Mem}(hz:bw F (Y k)=false)(hb:cD m (Y k)=some b)(hv:l9 Y m (λk=>bw F k=true) (Y k) b b')(h:e8 Y m (λk=>bw F k=true) (k+1) r):e8 Y m (λk=>bw F k=true) k (b' ::r):=.put (dy hz) hb hv h
theorem e8.pe{Y:Nat->Nat}{m:Mem}{F:List Nat}{k:Nat}{b b':Bk}{r:Mem}(hz:bw F (Y k)=false)(hb:cD m (Y k)=some b)(hv:b'.aU Y=b)(h:e8 Y m (λk=>bw F k=true) (k+1) r)(hd:b'≠.aS:=by simp):e8 Y m (λk=>bw F k=true) k (b' ::r):=.put (dy hz) hb (.eq hv hd) h
theorem e8.pm{Y:Nat->Nat}{m:Mem}{F:List Nat}{k:Nat}{b b':Bk}(hz:bw F (Y k)=false)(hb:cD m (Y k)=some b)(hv:b'.aU Y=b)(hd:b'≠.aS:=by simp):e8 Y m (λk=>bw F k=true) k [b']:=.put (dy hz) hb (.eq hv hd) (.nil _)
theorem e8.pr{Y:Nat->Nat}{m:Mem}{F:List Nat}{k:Nat}{esz:Nat}{es:List (List CC)}{ds:List (List Dt)}{r:Mem}(hz:bw F (Y k)=false)(hb:cD m (Y k)=some (.row esz es))(he:es=af ds)(h:e8 Y m (λk=>bw F k=true) (k+1) r):e8 Y m (λk=>bw F k=true) k (.row esz (af ds) ::r):=.put (dy hz) hb (.bI he) h
theorem e8.pn{Y:Nat->Nat}{m:Mem}{F:List Nat}{k:Nat}{esz:Nat}{es:List (List CC)}{ds:List (List Dt)}(hz:bw F (Y k)=false)(hb:cD m (Y k)=some (.row esz es))(he:es=af ds):e8 Y m (λk=>bw F k=true) k [.row esz (af ds)]:=.put (dy hz) hb (.bI he) (.nil _)
theorem aY{P:Program}{f:Nat}{fn:Func}{lf:LF}{args:List CV}{m:Mem}{K:CV->Mem->Prop}(hf:P.funcs[f]? =some fn)(hl:bu P fn=some lf)(h:body P lf args m K)(hn:(fn.name== "runtime.NumGoroutine")=false:=by exact rfl)(hle:Nat.ble args.length lf.n=true:=by exact rfl):aq P f args m K:=wd hf hl hn (aae hle) h
theorem b8{P:Program}{f:Nat}{fn:Func}{lf:LF}{args:List CV}{m:Mem}{K:CV->Mem->Prop}(hf:P.funcs[f]? =some fn)(hl:bu P fn=some lf.er)(h:body P lf args m K)(hn:(fn.name== "runtime.NumGoroutine")=false:=by exact rfl)(hle:Nat.ble args.length lf.n=true:=by exact rfl):aq P f args m K:=nk hf hl hn (aae hle) h
theorem Dt.LM(d:Dt):1<=d.size:=by
 cases d with
 |val v=>cases v<;>simp[Dt.size]
 |sl e l=>simp[Dt.size]
theorem Dt.IA{l:List Dt}(h:l≠[]):1<=Dt.fz l:=by
 cases l with
 |nil=>exact absurd rfl h
 |cons d r=>simp only[Dt.fz];have:=d.LM;omega
theorem Dt.kU:∀(l:List (List Dt)),(∀e,e∈l->e≠[])->l.length<=Dt.dE l
 | [],_=>aC
 |e::r,h=>by
  have h1:=Dt.IA (h e aC);have h2:=Dt.kU r λx hx=>h x (by simp[hx])
  simp only[Dt.dE,aah];omega
theorem ir.ne{ls:List Lf}{ds:List Dt}(h:ir ls ds)(hl:ls≠[]):ds≠[]:=by
 cases h<;>simp_all
theorem mM{α:Type}{es:List Lf}(enc:α->List Dt)(p:α->Prop)(dec:∀e,ir es e->∃a,p a/\e=enc a):∀{elems:List (List Dt)},(∀e,e∈elems->ir es e)->∃l:List α,(∀a,a∈l->p a)/\elems=l.map enc
 | [],_=>⟨[],aC,rfl⟩
 |e::r,h=>by
  obtain⟨a,ha,rfl⟩:=dec e (h e aC);obtain⟨l,hl,rfl⟩:=mM enc p dec (elems:=r) λx hx=>h x (by simp[hx])
  exact⟨a::l,by simpa using⟨ha,hl⟩,rfl⟩
section
variable {P:Program}
def CC.gZ:CC->Bool
 | .aa (.val _)=>true
 |_=>false
def Aw:List CC->Bool
 | []=>true
 |c::r=>c.gZ&&Aw r
def RV.gZ:RV->Bool
 | .one c=>c.gZ
 | .agg cs=>Aw cs
def ve:List RV->Bool
 | []=>true
 |c::r=>c.gZ&&ve r
def CV.gZ:CV->Bool
 | .rv r=>r.gZ
 | .bz rs=>ve rs
 |_=>false
theorem wj:∀{l:List CC},Aw l=true->∀c,c∈l->c.gZ=true
 | [],_,c,h=>by simp at h
 |x::r,h,c,hc=>by
  simp only[Aw,aab]at h;rcases aa1.1 hc with rfl|hc
  .exact h.1
  .exact wj h.2 c hc
theorem uB:∀{l:List RV},ve l=true->∀c,c∈l->c.gZ=true
 | [],_,c,h=>by simp at h
 |x::r,h,c,hc=>by
  simp only[ve,aab]at h;rcases aa1.1 hc with rfl|hc
  .exact h.1
  .exact uB h.2 c hc
theorem CC.jl{U U':bF}{w:World}{c:CC}{v:Value}(h:c.gZ=true)(hd:bh U w .none c v):bh U' w .none c v:=by
 cases c with
 |aa d=>
  cases d with
  |val x=>
   cases hd with
   |val v hp=>exact .val _ hp
   |no a=>exact .no a
  |sl=>simp[CC.gZ]at h
 |_=>simp[CC.gZ]at h
theorem RV.jl{U U':bF}{w:World}{c:RV}{v:Value}(h:c.gZ=true)(hd:dq U w c v):dq U' w c v:=by
 cases c with
 |one c=>exact CC.jl h hd
 |agg cs=>
  obtain⟨vs,rfl,h1,h2⟩:=hd;exact⟨vs,rfl,h1,λi c hi=>let⟨u,hu,hd⟩:=h2 i c hi;⟨u,hu,CC.jl (wj h c (RD hi)) hd⟩⟩
theorem CV.jl{U U':bF}{w:World}{c:CV}{v:Value}(h:c.gZ=true)(hd:bZ U w c v):bZ U' w c v:=by
 cases c with
 |rv r=>exact RV.jl h hd
 |bz rs=>
  obtain⟨vs,rfl,h1,h2⟩:=hd;exact⟨vs,rfl,h1,λi c hi=>let⟨u,hu,hd⟩:=h2 i c hi;⟨u,hu,RV.jl (uB h c (RD hi)) hd⟩⟩
 |_=>simp[CV.gZ]at h
theorem LP{f:Nat}{args args0:List CV}{m:Mem}{K0 K:CV->Mem->Prop}(F:List Nat)(h:aq P f args0 [] K0)(eF:iF (sg [] m.length) m (λk=>bw F k=true) args args0)(hK:∀r m1,K0 r m1->r.gZ=true/\K r m):aq P f args m K:=by
 refine⟨h.1,λU w vs hM x9 Zz=>?_⟩
 have fZ:∀i,sg [] m.length i<m.length->i<0:=λi h=>by simp[sg,cD]at h;omega
 obtain⟨lR,hC0,_⟩:=vd (n0:=0) (Y:=sg [] m.length) (Z:=λk=>bw F k=true) (m':=[]) hM (λi h=>absurd h (abi i)) (λi j h _ _ _ _=>absurd h (abi i)) fZ (λi b' h=>by simp at h)
 refine(h.2 _ w vs lR (x9.trans eF.len.symm) λi c hi=>?_).mono λe w'⟨v,r,m1,ρ1,he,hk,rk,uM,hx⟩=>?_
 .obtain⟨c0,K4,hv⟩:=eF.get i c hi;obtain⟨v,uR,hd⟩:=Zz i c0 K4;exact⟨v,uR,hv.jR hM fZ hd⟩
 .obtain⟨hp,Kg⟩:=hK r m1 hk;have jT:∀k,¬Live (U.vw (sg [] m.length) (λk=>bw F k=true) m 0) [] k:=λk h=>by have:=h.eC;simp at this
  have Pj:eu w w':=⟨λb hb=>hx.frame b hb λk hk=>absurd hk (jT k),hx.size,hx.os,hx.tape,hx.output⟩
  obtain⟨h1,h2⟩:=hM.LH Pj;exact⟨v,r,m,U,he,Kg,h1,CV.jl hp uM,h2⟩
end
section
variable {P:Program}
theorem CC.rH{Y:Nat->Nat}{c:CC}(h:c.du=true):c.aU Y=c:=by
 cases c
 case fn f eh=>
  cases eh with
  |nil=>rfl
  |cons c r=>simp[CC.du]at h
 all_goals first|rfl|simp[CC.du]at h
theorem RV.rH{Y:Nat->Nat}{r:RV}(h:r.du=true):r.aU Y=r:=by
 cases r with
 |one c=>exact congrArg RV.one (CC.rH h)
 |agg cs=>
  refine congrArg RV.agg ?_
  conv=>rhs;rw[<-List.map_id cs]
  exact acp λc hc=>CC.rH (aby.1 h c hc)
theorem CV.Cr{Y:Nat->Nat}{v:CV}(h:v.Co=true):v.aU Y=v:=by
 cases v with
 |rv r=>exact congrArg CV.rv (RV.rH h)
 |bz rs=>
  refine congrArg CV.bz ?_
  conv=>rhs;rw[<-List.map_id rs]
  exact acp λc hc=>RV.rH (aby.1 h c hc)
 |_=>rfl
theorem Bk.LQ{Y:Nat->Nat}(ds:List Dt):(Bk.var (ds.map .aa)).aU Y= .var (ds.map .aa):=by simp[Bk.aU,CC.aU,acP]
theorem EO{m:Mem}{id:Nat}{b:Bk}(h:cD m id=some b):cV m [id] [b]=m:=by
 rw[aT]at h;simp only[cV,bX,abO,a8];exact abF λi=>by
  rw[abl];split
  .rename_i hi;subst hi;have:=(I4.1 h).1;rw[if_pos this,h]
  .rfl
theorem ff{f:Nat}{args args0:List CV}{m:Mem}{cs:List Dt}{r0:CV}{K:CV->Mem->Prop}(id:Nat)(hb:cD m id=some (.var (cs.map .aa)))(eF:args=args0.map (CV.aU (sg [id] m.length)))(hr:r0.Co=true)(h:∀K:CV->Mem->Prop,K r0 [.var (cs.map .aa)]->aq P f args0 [.var (cs.map .aa)] K)(hK:K r0 m):aq P f args m K:=by
 have hid:id<m.length:=by rw[aT]at hb;exact(I4.1 hb).1
 refine bq (K0:=λr m1=>r=r0/\m1=[.var (cs.map .aa)]) [id] m.length rfl rfl rfl ?_ eF (λi b' hi=>?_) (h _ ⟨rfl,rfl⟩) (λr m1 rC=>?_)
 .simp[eG,hid]
 .cases i with
  |zero=>
   simp at hi;subst hi;refine .inr ⟨λh=>h,.var (cs.map .aa),?_,.lU rfl⟩
   rw[aT]at hb;exact hb
  |succ i=>simp at hi
 .obtain⟨rfl,rfl⟩:=rC;refine⟨Ts _,?_⟩;rw[CV.Cr hr];have:cV m [id] (mL (sg [id] m.length) [.var (cs.map .aa)])=m:=by show cV m [id] [Bk.aU _ _]=m;rw[Bk.LQ];exact EO hb
  rw[this];exact hK
theorem eH{f:Nat}{args:List CV}{cs:List Dt}{r0:CV}{K:CV->Mem->Prop}(hr:r0.Co=true)(h:aq P f args [.var (cs.map .aa)] λr m=>r=r0/\∃ex,m= .var (cs.map .aa)::ex)(hK:K r0 [.var (cs.map .aa)]):aq P f args [.var (cs.map .aa)] K:=by
 refine bG h λr m1⟨h1,ex,h2⟩=>⟨r0,[.var (cs.map .aa)],?_,hK⟩
 subst h1;subst h2;refine View.of (ex.length+1) [0] [] aC rfl rfl rfl rfl (by simp[eG]) ?_ ?_
 .exact .eq (CV.Cr hr) .nil
 .exact .put (by simp[bw]) rfl (.lU rfl) (.nil _)
theorem l9.IB{Y:Nat->Nat}{m:Mem}{Z:Nat->Prop}{id s:Nat}{R R':List (List CC)}{x y:List CC}(hR:R'.map (λcs=>cs.map (CC.aU Y))=R)(hx:x.length=y.length)(Ir:∀(j:Nat)c c',x[j]? =some c->y[j]? =some c'->sK Y m Z (some id) c c'):l9 Y m Z id (.row s (R++ [x])) (.row s (R'++ [y])):=by
 subst hR;refine .row s aC (λi cs eR h1 h2=>?_) (λi cs eR j c c' h1 h2 h3 h4=>?_)
 .rcases aad i R'.length with h|h
  .rw[Yf (by simpa using h),RA]at h1
   rw[Yf h]at h2;rw[h2]at h1;cases h1;simp
  .rw[WH (by simpa using h),ML]at h1
   rw[WH h]at h2;cases hi:i-R'.length with
   |zero=>
    rw[hi]at h1 h2;cases h1;cases h2;exact hx
   |succ n=>rw[hi]at h1;simp at h1
 .rcases aad i R'.length with h|h
  .rw[Yf (by simpa using h),RA]at h1
   rw[Yf h]at h2;rw[h2]at h1;cases h1;rw[RA,h4]at h3;cases h3;exact .aU c'
  .rw[WH (by simpa using h),ML]at h1
   rw[WH h]at h2;cases hi:i-R'.length with
   |zero=>
    rw[hi]at h1 h2;cases h1;cases h2;exact Ir j c c' h3 h4
   |succ n=>rw[hi]at h1;simp at h1
theorem e8.fO{Y:Nat->Nat}{m:Mem}{Z:Nat->Prop}{k:Nat}{b:Bk}{r:Mem}(hz:¬Z (Y k))(hb:cD m (Y k)=some b)(hr:b.aU Y=b)(h:e8 Y m Z (k+1) r):e8 Y m Z k (b::r):=by
 cases b with
 |aS=>exact .aS h
 |_=>exact .put hz hb (.eq hr aC) h
inductive Cs:CC->CC->Prop
 |dv (c:CC):Cs c c
 |aO (s:Nat):Cs .aO (.aa (.sl s []))
 |no:Cs .aO (.aa (.val (.slice none 0 0)))
theorem Cs.jR{c c':CC}(h:Cs c c'){U:bF}{w:World}{v:Value}(hd:bh U w none c v):bh U w none c' v:=by
 cases h with
 |dv=>exact hd
 |aO s=>
  obtain⟨a,rfl⟩:=hd;exact .nil s a 0 (aaj _)
 |no=>
  obtain⟨a,rfl⟩:=hd;exact .no a
inductive Ct:List CC->List CC->Prop
 |nil:Ct [] []
 |cons {c c':CC} {r r':List CC} (h:Cs c c') (t:Ct r r'):Ct (c::r) (c'::r')
theorem Ct.len{a b:List CC}(h:Ct a b):a.length=b.length:=by
 induction h<;>simp[*]
theorem Ct.get{a b:List CC}(h:Ct a b):∀(i:Nat)c',b[i]? =some c'->∃c,a[i]? =some c/\Cs c c':=by
 induction h with
 |nil=>intro i c' h;simp at h
 |cons h t ih=>
  intro i c' hi;cases i with
  |zero=>simp at hi;subst hi;exact⟨_,rfl,h⟩
  |succ i=>simpa using ih i c' (by simpa using hi)
inductive kV:List CV->List CV->Prop
 |nil:kV [] []
 |dv (c:CV) {r r':List CV} (t:kV r r'):kV (c::r) (c::r')
 |one {c c':CC} {r r':List CV} (h:Cs c c') (t:kV r r'):kV (.rv (.one c)::r) (.rv (.one c')::r')
 |agg {cs eR:List CC} {r r':List CV} (h:Ct cs eR) (t:kV r r'):kV (.rv (.agg cs)::r) (.rv (.agg eR)::r')
theorem kV.len{a b:List CV}(h:kV a b):a.length=b.length:=by
 induction h<;>simp[*]
theorem kV.get{a b:List CV}(h:kV a b):∀(i:Nat)c',b[i]? =some c'->∃c,a[i]? =some c/\∀U w v,bZ U w c v->bZ U w c' v:=by
 induction h with
 |nil=>intro i c' h;simp at h
 |dv c t ih=>
  intro i c' hi;cases i with
  |zero=>simp at hi;subst hi;exact⟨_,rfl,λ_ _ _ h=>h⟩
  |succ i=>simpa using ih i c' (by simpa using hi)
 |one h t ih=>
  intro i c' hi;cases i with
  |zero=>simp at hi;subst hi;exact⟨_,rfl,λ_ _ _ hd=>h.jR hd⟩
  |succ i=>simpa using ih i c' (by simpa using hi)
 |agg h t ih=>
  intro i c' hi;cases i with
  |zero=>
   simp at hi;subst hi;refine⟨_,rfl,λU w v hd=>?_⟩
   obtain⟨vs,hv,hl,hc⟩:=hd;exact⟨vs,hv,hl.trans h.len,λi c' hi=>let⟨c,q8,hle⟩:=h.get i c' hi;let⟨u,hu,ct⟩:=hc i c q8;⟨u,hu,hle.jR ct⟩⟩
  |succ i=>simpa using ih i c' (by simpa using hi)
theorem mN{f:Nat}{args pM:List CV}{m:Mem}{K:CV->Mem->Prop}(ha:kV args pM)(h:aq P f pM m K):aq P f args m K:=by
 refine⟨h.1,λU w vs hM hl hd=>h.2 U w vs hM (hl.trans ha.len) λi c' hi=>?_⟩
 obtain⟨c,hc,Lm⟩:=ha.get i c' hi;obtain⟨v,hv,pI⟩:=hd i c hc;exact⟨v,hv,Lm _ _ _ pI⟩
theorem pa{f:Nat}{args pM:List CV}{m m':Mem}{K:CV->Mem->Prop}(hv:View m.length ⟨args,m⟩ ⟨pM,m'⟩)(h:aq P f pM m' K):aq P f args m K:=by
 refine⟨h.1,λU w vs hM hl hd=>?_⟩
 obtain⟨U',jc,hc,pI⟩:=hv.go U w hM;have hlen:pM.length=args.length:=hv.len;refine(h.2 U' w vs jc (hl.trans hlen.symm) λi c' hi=>?_).mono λe w'⟨v,r,m1,ρ1,he,hk,rk,uM,hx⟩=>?_
 .obtain⟨c,K4,x7⟩:=pI i c' hi;obtain⟨v,hv,cq⟩:=hd i c K4;exact⟨v,hv,x7 v cq⟩
 .have Vj:Ext U m w U' m' w:=⟨by rw[hM.n,jc.n];exact hv.hn,λid hid=>hc.aH id (by rw[<-hM.n];exact hid),hc.S,λb hb=>(hc.S' b hb).elim .inl λh=>.inr (.inr h),λk hk=>.inr (hc.aQ k hk),λ_ _ _=>rfl,Ts _,rfl,rfl,rfl⟩
  exact⟨v,r,m1,ρ1,he,hk,rk,uM,Vj.trans hx⟩
end
end Go.AM
