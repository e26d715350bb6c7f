/- Part 15 of 43: what the law stands on. -/
import Derived.Test.YtojhmadmlnfpcaaGreatDoorK13
import Derived.Test.YtojhmadmlnfpcaaGreatDoorK14
import Derived.Carry
import Derived.ProofKit
set_option linter.unusedVariables false
set_option linter.unusedSimpArgs false
set_option linter.unnecessarySimpa false
set_option maxRecDepth 100000
set_option maxHeartbeats 64000000
namespace Go.AM
open Go.ChangeShapes Go.WideShapes Go.ChangeAt Go.RowKit
section
variable {H:Type} {enc:TypeId×Value->H} {P:Program} {W:World}
theorem RY{ax:Nat}{t:TypeId}{v:Value}{agg:Bool}(ha:eB P t=some agg){d:Nat}{ls:List Lf}(hl:n8 P d t=some ls)(jz:Value.okWide P W .any ax t v):
  (agg=true->∃vs,v= .agg vs)/\(agg=false->v.oneCell'=true):=by
 cases d with
 |zero=>simp[n8]at hl
 |succ d=>
  simp only[n8]at hl;unfold eB at ha;unfold Value.okWide at jz;split at hl
  .rename_i ht;rw[ht]at ha jz;simp at ha;subst ha;refine⟨aG,fun _=>?_⟩
   simp only[Cell.okWide,ht,Cell.ok]at jz;cases v<;>simp_all[Value.oneCell']
  .rename_i k ht;rw[ht]at ha jz;simp at ha;subst ha;refine⟨aG,fun _=>?_⟩
   simp only[Cell.okWide,ht,Cell.ok]at jz;cases v<;>simp_all[Value.oneCell']
  .rename_i ht;rw[ht]at ha jz;simp at ha;subst ha;refine⟨aG,fun _=>?_⟩
   simp only[Cell.okWide,ht,Cell.ok]at jz;cases v<;>simp_all[Value.oneCell']
  .rename_i e ht;rw[ht]at ha jz;simp at ha;subst ha;refine⟨aG,fun _=>?_⟩
   simp only[Cell.okWide,ht,Cell.ok]at jz;cases v<;>simp_all[Value.oneCell']
  .rename_i fs ht;rw[ht]at ha jz;simp at ha;subst ha;obtain⟨cs,rfl,_⟩:=jz;exact⟨fun _=>⟨cs,rfl⟩,aG⟩
  .rename_i n e ht;rw[ht]at ha jz;simp at ha;subst ha;obtain⟨cs,rfl,_⟩:=jz;exact⟨fun _=>⟨cs,rfl⟩,aG⟩
  .cases hl
structure Sh where
 agg:Bool
 ls:List Lf
def zV(P:Program):List TypeId->Option (List Sh)
 | []=>some []
 |t::r=>match eB P t,n8 P 12 t,zV P r with
  |some a,some ls,some r=>some (⟨a,ls⟩::r)
  |_,_,_=>none
inductive ra:List Sh->List (List Dt)->Prop
 |nil:ra [] []
 |cons {s:Sh} {ds:List Dt} {r:List Sh} {l:List (List Dt)} (h:ff s.ls ds) (hr:ra r l):ra (s::r) (ds::l)
def nt:List Sh->List (List Dt)->List CV
 |s::r,ds::l=>US s.agg ds::nt r l
 |_,_=>[]
theorem yM(bk:EB H){ax b2:Nat}:∀(ts:List TypeId)(vs:List Value)(dw:List (DataW H))(ps:List MemPlace)(Lp:List Sh),zV P ts=some Lp->DataW.TrodAll enc P W ax (fun _=>true) true ts vs dw ps->
  (∀(j:Nat)t v,ts[j]? =some t->vs[j]? =some v->Value.okWide P W .any b2 t v)->
  ∃jX,ra Lp jX/\vs.length=(nt Lp jX).length/\(∀(i:Nat)c,(nt Lp jX)[i]? =some c->∃v,vs[i]? =some v/\b8 (Iy W) W c v)/\Dt.bA jX<=gi bk.f dw
 | [],[],[],ps,Lp,hs,h,jz=>by
  simp[zV]at hs;subst hs;exact⟨[],.nil,rfl,by simp[nt],by simp[Dt.bA]⟩
 | [],_::_,_,_,_,_,h,_=>by cases h
 | [],[],_::_,_,_,_,h,_=>by cases h
 |_::_,[],_,_,_,_,h,_=>by cases h
 |_::_,_::_,[],_,_,_,h,_=>by cases h
 |t::ts,v::vs,d::dw,ps,Lp,hs,h,jz=>by
  obtain⟨p,q,⟨fuel,h1⟩,h2,_⟩:=h;simp only[zV]at hs;split at hs
  .rename_i a ls r ha hl hr;cases hs;obtain⟨ds,f1,r1,s1⟩:=EC bk 12 t ls hl fuel _ _ h1;obtain⟨jX,f2,l2,d2,s2⟩:=yM bk ts vs dw q r hr h2 fun j t' v' ht hv=>jz (j+1) t' v' (by simpa using ht) (by simpa using hv)
   obtain⟨g1,g2⟩:=RY ha hl (jz 0 t v rfl rfl);refine⟨ds::jX,.cons f1 f2,by simp[nt,l2],fun i c hi=>?_,by simp only[Dt.bA,gi];simp only at s1;omega⟩
   cases i with
   |zero=>
    simp[nt]at hi;subst hi;exact⟨v,rfl,Lo r1 g1 g2⟩
   |succ i=>simpa using d2 i c (by simpa[nt]using hi)
  .cases hs
theorem yN(hl:laidOutB P=true){W':World}(hb:Below W.heap.size W W'):∀(ts:List TypeId)(vs:List Value)(dw:List (DataW H))(ps:List MemPlace),(ts.all fun t=>P.readableRec t&&decide (t<P.types.size))=true->
  DataW.TrodAll enc P W 0 (fun _=>true) true ts vs dw ps->(∀x,x∈ps->x.block<W.heap.size)->DataW.TrodAll enc P W' 0 (fun b=>decide (b<W.heap.size)) true ts vs dw ps
 | [],[],[],_,_,h,_=>h
 | [],_::_,_,_,_,h,_=>by cases h
 | [],[],_::_,_,_,h,_=>by cases h
 |_::_,[],_,_,_,h,_=>by cases h
 |_::_,_::_,[],_,_,h,_=>by cases h
 |t::ts,v::vs,d::dw,ps,ht,h,aC=>by obtain⟨p,q,h1,h2,rfl⟩:=h;simp only[List.all_cons,aap,decide_eq_true_eq]at ht;exact⟨p,q,Below.trod hl ht.1.1 ht.1.2 h1 hb (fun x hx=>aC x (by simp[hx])),yN hl hb ts vs dw q (by simpa using ht.2) h2 (fun x hx=>aC x (by simp[hx])),rfl⟩
theorem jY{f:Nat}{fn:Func}{s:ChangeSpec}{args:Array Value}{ds gs:List (DataW H)}{before:List MemPlace}{ax:Nat}(bk:EB H)(hl:laidOutB P=true){tb:TypeId}(htb:P.underlying tb=some .bool)(Ys:fn.resultTypes= #[tb])(QI:s.vars=[])(GU:∀ds:List (DataW H),ds.length=fn.params.size->s.fn H ds={results:=[.lit (.bool true)],args:=ds}){Lp:List Sh}(XU:zV P fn.params.toList=some Lp)(hts:(fn.params.toList.all fun t=>P.readableRec t&&decide (t<P.types.size))=true)(walk:∀jX,ra Lp jX->Dt.bA jX<=gi bk.f ds->ar P f (nt Lp jX) [] fun r _=>r=ay true)(fJ:∀(j:Nat)t v,fn.params[j]? =some t->args[j]? =some v->Value.okWide P W .any ax t v)(hW:DataW.Whole enc P fn.params.toList s.vars false W args.toList ds gs before):
  Calls P f args W fun e W'=>∃v,e= .returned v/\s.post enc P fn false true false false W args v W':=by
 have hW':=hW;obtain⟨p,q,hA,hV,rfl,UT,nY⟩:=hW;obtain⟨jX,hf,hlen,cj,dI⟩:=yM bk fn.params.toList args.toList ds p Lp XU hA fun j t v ht hv=>fJ j t v (by simpa using ht) (by simpa using hv)
 have zJ:=nZ (u:= .bool true) (walk jX hf dI) W args.toList hlen cj aG (fun r m h=>h)
 have aC:∀x,x∈p->x.block<W.heap.size:=fun x hx=>by simpa using hW'.lt x (by simp[hx])
 rw[QI]at hV;obtain⟨rfl,rfl⟩:=trodVars_none hV;have lJ:ds.length=fn.params.size:=by
  have:∀(ts:List TypeId)(vs:List Value)(dw:List (DataW H))(ps:List MemPlace),DataW.TrodAll enc P W 0 (fun _=>true) true ts vs dw ps->dw.length=ts.length:=by
   intro ts
   induction ts with
   |nil=>intro vs dw ps h;obtain⟨_,rfl,_⟩:=trodAll_nil h;rfl
   |cons t ts ih=>
    intro vs dw ps h;obtain⟨v,Tf,d,WW,a,b,rfl,rfl,rfl,h1,h2⟩:=trodAll_cons h;simp[ih _ _ _ h2]
  simpa using this _ _ _ _ hA
 refine zJ.mono fun e W'⟨he,hb⟩=>?_
 subst he;have hs:s.fn H (ds++ [])={results:=[.lit (.bool true)],args:=ds}:=by rw[abI];exact GU ds lJ
 refine⟨_,rfl,ds,[],p++ [],[],p,[],hW',?_,?_,?_,hb.frame _,fun h=>by cases h⟩
 .rw[hs,Ys];exact trodAll_cons_mk (shut_bool htb _) trodAll_mk0
 .rw[hs];exact yN hl hb _ _ _ _ hts hA aC
 .rw[hs,QI];rfl
end
end Go.AM
namespace Go.AM
section
variable {P:Program}
theorem aH.Lq{ρ:bL}{m:Mem}{w w':World}(hM:aH ρ m w)(hw:eG w w'):aH ρ m w'/\Ext ρ m w ρ m w':=by
 have hn:=hM.n;have g:iT ρ w ρ w':=⟨aaj _,fun _ _=>rfl,fun _ h=>h,fun b hb=>hw.heap b (hM.S b hb)⟩
 refine⟨⟨hn,fun b hb=>aaH (hM.S b hb) hw.size,fun k hk=>⟨aaH (hM.aV k hk).1 hw.size,(hM.aV k hk).2⟩,hM.inj,fun id b hb=>?_,fun id i j esz e ho bp=>?_⟩,
  ⟨aaj _,fun _ _=>rfl,fun _ h=>h,fun _ h=>.inl h,fun k hk=>.inr ⟨k,hk,rfl⟩,fun b hb _=>hw.heap b hb,hw.size,hw.os,hw.tape,hw.output⟩⟩
 .exact(hM.bk id b hb).cM g (by rw[hn];exact(aac.1 hb).1) fun eW bp=>hw.heap _ (hM.aV (.au id) ⟨b,hb,eW,bp⟩).1
 .exact(hM.gX id i j esz e ho bp).cM g (hw.heap _ (hM.aV (.sub id i j) ⟨⟨esz,e,ho⟩,bp⟩).1)
theorem IC{f:Nat}{args:List CV}{m:Mem}{K0 K:CV->Mem->Prop}(h:ar P f args [] K0)(ha:∀c,c∈args->c.dx=true)(hK:∀r m1,K0 r m1->(r= .rv (.one .aI)/\K (.rv (.one .aI)) m)\/
   ∃id esz elems,r= .rv (.one (.row id esz 0 none))/\m1[id]? =some (.row esz elems)/\(∀cs,cs∈elems->∀c,c∈cs->∃d,c= .aa d)/\
    (∀(i:Nat)cs(j:Nat)d,elems[i]? =some cs->cs[j]? =some (.aa d)->∃v,d= .val v)/\
    K (.rv (.one (.row m.length esz 0 none))) (m++ [.row esz elems])):ar P f args m K:=by
 refine⟨h.1,fun ρ w vs hM hl hd=>?_⟩
 let ρ0:bL:={n:=0,aR:=fun _=>⟨0,0,0,0⟩,S:=ρ.S}
 have lH:aH ρ0 [] w:={
  n:=rfl
  S:=hM.S
  aV:=fun k h=>by have:=h.gB;simp at this
  inj:=fun k k' h=>by have:=h.gB;simp at this
  bk:=fun id b h=>by simp at h
  gX:=fun id i j esz elems h=>by obtain⟨_,_,_,h,_⟩:=h;simp at h}
 refine(h.2 ρ0 w vs lH hl fun i c hi=>?_).mono fun e w'⟨v,r,m1,ρ1,he,hk,uQ,xP,hx⟩=>?_
 .obtain⟨v,hv,hd⟩:=hd i c hi;exact⟨v,hv,CV.q9 (ρ:=ρ) (ρ':=ρ0) (ha c (aag hi)) (fun _ h=>h) hd⟩
 .have kM:∀k,¬Live ρ0 [] k:=fun k h=>by have:=h.gB;simp at this
  have xG:∀b,b<w.heap.size->w'.heap[b]? =w.heap[b]? :=fun b hb=>hx.frame b hb fun k hk=>absurd hk (kM k)
  have OP:eG w w':=by
   refine⟨?_,?_,?_,?_,?_⟩;all_goals first|exact hx.size|exact xG|exact hx.os|exact hx.tape|exact hx.output
  rcases hK r m1 hk with⟨rfl,ij⟩|⟨id,esz,elems,rfl,hb,OQ,fJ,ij⟩
  .obtain⟨ad,rfl⟩:=xP;obtain⟨Ew,n9⟩:=hM.Lq OP;exact⟨_,_,m,ρ,he,ij,Ew,⟨ad,rfl⟩,n9⟩
  .obtain⟨g1,g2,g3,g4,g5⟩:=uQ.bk id _ hb;obtain⟨q1,q2,q3,q4,q5,ad,rfl,se⟩:=xP;have hn:=hM.n;let l:=ρ1.aR (.au id);have fj:eF (ρ.push l) w' m.length (.row esz elems):=by
    have cE:(ρ.push l).aR (.au m.length)=l:=by rw[<-hn];exact ρ.gD l
    simp only[eF,cE];refine⟨g1,g2,g3,g4,fun hp=>?_⟩
    obtain⟨cur,b9,h7,h8⟩:=g5 hp;refine⟨cur,b9,h7,fun i cs j c hi hj=>?_⟩
    obtain⟨u,hu,cn⟩:=h8 i cs j c hi hj;obtain⟨d,rfl⟩:=OQ cs (aag hi) c (aag hj);obtain⟨v,rfl⟩:=fJ i cs j d hi hj;refine⟨u,hu,?_⟩;cases cn with
    |val _ gE=>exact dz.val _ gE
    |no a=>exact .no a
   have Lr:Bk.KJ (.row esz elems):=by intro i cs j c hi hj s e hce;obtain⟨d,hd⟩:=OQ cs (aag hi) c (aag hj);rw[hd]at hce;cases hce
   obtain⟨Ew,n9⟩:=hM.Ql OP (fun dh=>by
    obtain⟨bk,jD,eW,bp⟩:=dh;have UU:0<l.cap:=by rw[hn,aan (aaj _)]at jD;simp at jD;have:=bp ⟨esz,elems,jD.symm⟩;rwa [ρ.gD l]at this
    have UW:Live ρ1 m1 (.au id):=⟨_,hb,aG,fun _=>UU⟩
    refine⟨?_,(uQ.aV _ UW).1⟩;rcases hx.aV _ UW with h|⟨k0,h0,_⟩
    .exact h
    .exact absurd h0 (kM k0)) fj Lr
   refine⟨_,_,_,_,he,ij,Ew,?_,n9⟩;have cE:(ρ.push l).aR (.au m.length)=l:=by rw[<-hn];exact ρ.gD l
   refine⟨by simp[bL.push,hn],?_⟩
   simp only[cE];exact⟨q2,q3,q4,q5,ad,rfl,se⟩
end
theorem Rr.trans{n0:Nat}{ρ ρ1 ρ2:bL}{m m1 m2:Mem}(a:Rr n0 ρ m ρ1 m1)(b:Rr n0 ρ1 m1 ρ2 m2):Rr n0 ρ m ρ2 m2 where
 aR id h:=(b.aR id h).trans (a.aR id h)
 S x h:=b.S x (a.S x h)
 S' x h:=by
  rcases b.S' x h with h|⟨k,hk,he⟩
  .exact a.S' x h
  .obtain⟨k0,h0,e0⟩:=a.aV k hk;exact .inr ⟨k0,h0,e0.trans he⟩
 aV k h:=by obtain⟨k1,h1,e1⟩:=b.aV k h;obtain⟨k0,h0,e0⟩:=a.aV k1 h1;exact⟨k0,h0,e0.trans e1⟩
theorem View.trans{n0:Nat}{s s1 s2:St}(a:View n0 s s1)(b:View n0 s1 s2):View n0 s s2:=by
 refine⟨b.hn,b.len.trans a.len,fun ρ w hM=>?_⟩
 obtain⟨ρ1,uQ,D1,xP⟩:=a.go ρ w hM;obtain⟨ρ2,Ew,vp,DA⟩:=b.go ρ1 w uQ;refine⟨ρ2,Ew,D1.trans vp,fun i c' hi=>?_⟩
 obtain⟨c1,Qn,h1⟩:=DA i c' hi;obtain⟨c0,uN,h0⟩:=xP i c1 Qn;exact⟨c0,uN,fun v hv=>h1 v (h0 v hv)⟩
def CC.aQ(σ:Nat->Nat):CC->CC
 | .ptr id j=>.ptr (σ id) j
 | .mQ id e i j=>.mQ (σ id) e i j
 | .row id e lo hi=>.row (σ id) e lo hi
 | .map id=>.map (σ id)
 | .fn f ew=>.fn f (ew.map σ)
 |c=>c
def lT.aQ(σ:Nat->Nat):lT->lT
 | .au id=>.au (σ id)
 | .sub id i j=>.sub (σ id) i j
inductive ED:Dt->Dt->Prop
 |refl (d:Dt):ED d d
 |no (s:Nat):ED (.val (.slice none 0 0)) (.sl s [])
 |sl (s:Nat) {es cV:List (List Dt)} (hl:es.length=cV.length) (hs:∀(i:Nat)cs eu,es[i]? =some cs->cV[i]? =some eu->cs.length=eu.length)
   (h:∀(i:Nat)cs eu(j:Nat)d d',es[i]? =some cs->cV[i]? =some eu->cs[j]? =some d->eu[j]? =some d'->ED d d'):ED (.sl s es) (.sl s cV)
theorem ED.lg{S:Nat->Prop}{w:World}{d d':Dt}(h:ED d d'):∀{v:Value},dz S w d v->dz S w d' v:=by
 induction h with
 |refl d=>exact fun h=>h
 |no s=>
  intro v h;cases h with
  |val _ h=>simp[cT]at h
  |no a=>exact .nil s a 0 (aao _)
 | @sl s es cV hl hs h ih=>
  intro v hd;cases hd with
  |nil _ a cap hc=>
   have:cV=[]:=aat hl.symm;subst this;exact .nil s a cap hc
  |sl _ _ b off cap u hS rP bp dI hc hd=>
   have get:∀(i:Nat)eu,cV[i]? =some eu->∃cs,es[i]? =some cs:=fun i eu hi=>by have:=(aac.1 hi).1;exact⟨_,aab om⟩
   have UX:∀(i:Nat)cs eu(j:Nat)d',es[i]? =some cs->cV[i]? =some eu->eu[j]? =some d'->∃d,cs[j]? =some d:=fun i cs eu j d' hi eC hj=>by have h1:=(aac.1 hj).1;have h2:=hs i cs eu hi eC;exact⟨_,aab om⟩
   rw[hl];refine .sl s cV b off cap u hS om bp (fun eu hm=>?_) (fun i eu j d' hi hj=>?_) (fun i eu j d' hi hj=>?_)
   .obtain⟨i,hi⟩:=aam hm;obtain⟨cs,dG⟩:=get i eu hi;rw[<-hs i cs eu dG hi];exact dI cs (aag dG)
   .obtain⟨cs,dG⟩:=get i eu hi;obtain⟨d,WX⟩:=UX i cs eu j d' dG hi hj;exact hc i cs j d dG WX
   .obtain⟨cs,dG⟩:=get i eu hi;obtain⟨d,WX⟩:=UX i cs eu j d' dG hi hj;exact ih i cs eu j d d' dG hi WX hj (hd i cs j d dG WX)
inductive dP(m:Mem)(Z:Nat->Prop):Option Nat->CC->Dt->Prop
 |aa {p:Option Nat} (d:Dt):dP m Z p (.aa d) d
 |gX {id:Nat} (s:Nat) (e:List (List Dt)) (hz:Z id):dP m Z (some id) (.gX s e) (.sl s e)
 |aI {p:Option Nat} (s:Nat):dP m Z p .aI (.sl s [])
 |no {p:Option Nat}:dP m Z p .aI (.val (.slice none 0 0))
 |le {p:Option Nat} {d d':Dt} (h:ED d d'):dP m Z p (.aa d) d'
 |row {p:Option Nat} (id esz lo:Nat) (hi:Option Nat) (elems:List (List CC)) (ds:List (List Dt)) (hz:Z id) (h:m[id]? =some (.row esz elems)) (hl:elems.length=ds.length)
   (hs:∀(i:Nat)cs es,elems[i]? =some cs->ds[i]? =some es->cs.length=es.length)
   (hd:∀(i:Nat)cs es(j:Nat)c d,elems[i]? =some cs->ds[i]? =some es->cs[j]? =some c->es[j]? =some d->dP m Z (some id) c d):dP m Z p (.row id esz lo hi) (.sl esz (cw ds lo hi))
inductive qt(σ:Nat->Nat)(m:Mem)(Z:Nat->Prop):Option Nat->CC->CC->Prop
 |ap {p:Option Nat} (c:CC):qt σ m Z p c .ap
 |aQ {p:Option Nat} (c:CC):qt σ m Z p (c.aQ σ) c
 |fv {p:Option Nat} {c:CC} {d:Dt} (h:dP m Z p c d):qt σ m Z p c (.aa d)
 |un {p:Option Nat}:qt σ m Z p (.aa (.val (.slice none 0 0))) .aI
 |hi {p:Option Nat} (id e lo:Nat) {esz:Nat} {elems:List (List CC)} (h:m[σ id]? =some (.row esz elems)):qt σ m Z p (.row (σ id) e lo none) (.row id e lo (some elems.length))
 |lo {p:Option Nat} (id e lo:Nat) {esz:Nat} {elems:List (List CC)} (h:m[σ id]? =some (.row esz elems)):qt σ m Z p (.row (σ id) e lo (some elems.length)) (.row id e lo none)
inductive xH(σ:Nat->Nat)(m:Mem)(Z:Nat->Prop):RV->RV->Prop
 |one {c c':CC} (h:qt σ m Z none c c'):xH σ m Z (.one c) (.one c')
 |agg {cs eu:List CC} (hl:cs.length=eu.length) (h:∀(i:Nat)c c',cs[i]? =some c->eu[i]? =some c'->qt σ m Z none c c'):xH σ m Z (.agg cs) (.agg eu)
inductive qv(σ:Nat->Nat)(m:Mem)(Z:Nat->Prop):CV->CV->Prop
 |ap (v:CV):qv σ m Z v .ap
 |undef:qv σ m Z .undef .undef
 |rv {r r':RV} (h:xH σ m Z r r'):qv σ m Z (.rv r) (.rv r')
 |bF {rs Ix:List RV} (hl:rs.length=Ix.length) (h:∀(i:Nat)r r',rs[i]? =some r->Ix[i]? =some r'->xH σ m Z r r'):qv σ m Z (.bF rs) (.bF Ix)
inductive mZ(σ:Nat->Nat)(m:Mem)(Z:Nat->Prop)(id:Nat):Bk->Bk->Prop
 |var {cs eu:List CC} (h:∀(i:Nat)c',eu[i]? =some c'->∃c,cs[i]? =some c/\qt σ m Z (some id) c c'):mZ σ m Z id (.var cs) (.var eu)
 |row (esz:Nat) {es cV:List (List CC)} (hl:es.length=cV.length) (hs:∀(i:Nat)cs eu,es[i]? =some cs->cV[i]? =some eu->cs.length=eu.length)
   (h:∀(i:Nat)cs eu(j:Nat)c c',es[i]? =some cs->cV[i]? =some eu->cs[j]? =some c->eu[j]? =some c'->qt σ m Z (some id) c c'):mZ σ m Z id (.row esz es) (.row esz cV)
 |mp {es cV:List ME} (hl:es.length=cV.length) (h:∀(i:Nat)e e',es[i]? =some e->cV[i]? =some e'->e'.key=e.key/\xH σ m Z e.val e'.val):mZ σ m Z id (.mp es) (.mp cV)
 |it (cur left:List (Value×Value)):mZ σ m Z id (.it cur left) (.it cur left)
section
variable {n0:Nat} {σ:Nat->Nat} {Z:Nat->Prop} {ρ:bL} {m:Mem} {w:World}
def bL.vw(ρ:bL)(σ:Nat->Nat)(Z:Nat->Prop)(m:Mem)(n:Nat):bL:=
 {n:=n,aR:=fun k=>ρ.aR (k.aQ σ),S:=fun b=>ρ.S b\/∃k,Live ρ m k/\Z k.id/\(ρ.aR k).b=b}
theorem dP.lg(hM:aH ρ m w){pos:Option (Nat×Nat×Nat)}{p:Option Nat}{c:CC}{d:Dt}(h:dP m Z p c d)(hp:∀id,p=some id->∀s e,c= .gX s e->∃i j,pos=some (id,i,j)/\fI m id i j s e){v:Value}(hd:bz ρ w pos c v){n:Nat}:dz (ρ.vw σ Z m n).S w d v:=by
 induction h generalizing pos v with
 |aa d=>exact hd.mono (fun _ h=>.inl h) (fun _ _=>rfl)
 |aI s=>
  obtain⟨a,rfl⟩:=hd;exact .nil s a 0 (aao _)
 |no=>
  obtain⟨a,rfl⟩:=hd;exact .no a
 |le h=>exact(h.lg hd).mono (fun _ h=>.inl h) (fun _ _=>rfl)
 | @gX id s e hz=>
  obtain⟨i,j,BK,mr⟩:=hp id rfl s e rfl;obtain⟨jL,i',j',yL,q1,q2,a',rfl,q3⟩:=hd;rw[BK]at yL;simp only[aaA,acG]at yL;obtain⟨rfl,rfl,rfl⟩:=yL;rcases aaY e.length with he|he
  .rw[aat he];exact .nil s a' _ om
  .obtain⟨gn,BQ,w1,w2,w3⟩:=hM.gX _ _ _ _ _ mr om;rw[q3 om];have Ei:Live ρ m (.sub id i j):=⟨⟨_,_,mr⟩,om⟩;have ky:∀(i2:Nat)cs(j2:Nat)d2,e[i2]? =some cs->cs[j2]? =some d2->∃u,w.cell? ⟨(ρ.aR (.sub id i j)).b,(ρ.aR (.sub id i j)).ax+i2*s+j2,.none⟩=some u/\dz (ρ.vw σ Z m n).S w d2 u:=by
    intro i2 cs j2 d2 eL km;obtain⟨u,hu,hd⟩:=w3 i2 cs j2 d2 eL km;exact⟨u,by rw[BQ.cell];exact hu,hd.mono (fun _ h=>.inl h) (fun _ _=>rfl)⟩
   exact dz.sl s e _ _ _ (fun i2 j2=>(w.cell? ⟨(ρ.aR (.sub id i j)).b,(ρ.aR (.sub id i j)).ax+i2*s+j2,.none⟩).getD Go.undef) (.inr ⟨_,Ei,hz,rfl⟩) q1 q2 w2
    (fun i2 cs j2 d2 eL km=>by obtain⟨u,hu,_⟩:=ky i2 cs j2 d2 eL km;rw[hu];rfl)
    (fun i2 cs j2 d2 eL km=>by obtain⟨u,hu,hd⟩:=ky i2 cs j2 d2 eL km;rw[hu];exact hd)
 |row id esz lo hi elems ds hz hb hl hs It ih=>
  obtain⟨h1,h2,h3,h4,h5,a,rfl,ha⟩:=hd;obtain⟨g1,g2,g3,g4,g5⟩:=hM.bk id _ hb;have lJ:ds.length=(ρ.aR (.au id)).len:=om;have hlen:(cw ds lo hi).length=hi.getD (ρ.aR (.au id)).len-lo:=by
   rw[<-lJ];exact B5 ds lo hi (by rw[lJ];exact h2) (by rw[lJ];exact h3)
  rw[<-hlen];rcases aaY (cw ds lo hi).length with h0|dD
  .rw[h0,aat h0];exact .nil esz a _ om
  .have gR:lo<(ρ.aR (.au id)).cap:=om;obtain⟨cur,b9,dI,ez⟩:=g5 om;rw[ha gR];have key:∀(i:Nat)es(j:Nat)d,(cw ds lo hi)[i]? =some es->es[j]? =some d->∃u,w.cell? ⟨(ρ.aR (.au id)).b,(ρ.aR (.au id)).ax+lo*esz+i*esz+j,.none⟩=some u/\dz (ρ.vw σ Z m n).S w d u:=by
    intro i es j d eC hj;have eL:=q8 ds lo hi i es eC;have aC:lo+i<elems.length:=by rw[hl];exact(aac.1 eL).1
    have Kg:=aab aC;have dA:j<elems[lo+i].length:=by rw[hs _ _ _ Kg eL];exact(aac.1 hj).1
    have QH:=aab dA;obtain⟨u,hu,cn⟩:=ez _ _ _ _ Kg QH;refine⟨u,?_,?_⟩
    .rw[b9.cell,<-hu];congr 1;rw[aa2];omega
    .refine ih _ _ _ _ _ _ Kg eL QH hj ?_ cn;intro jL hid s e he;cases hid;exact⟨_,_,rfl,_,_,_,hb,Kg,by rw[QH,he]⟩
   refine dz.sl esz (cw ds lo hi) _ _ _ (fun i j=>(w.cell? ⟨(ρ.aR (.au id)).b,(ρ.aR (.au id)).ax+lo*esz+i*esz+j,.none⟩).getD Go.undef) (.inr ⟨.au id,⟨_,hb,aG,fun _=>om⟩,hz,rfl⟩) om om (fun es qn=>?_)
    (fun i cs j d eC hj=>by obtain⟨u,hu,_⟩:=key i cs j d eC hj;rw[hu];rfl)
    (fun i cs j d eC hj=>by obtain⟨u,hu,hd⟩:=key i cs j d eC hj;rw[hu];exact hd)
   obtain⟨i,eC⟩:=aam qn;have eL:=q8 ds lo hi i es eC;have aC:lo+i<elems.length:=by rw[hl];exact(aac.1 eL).1
   have Kg:=aab aC;rw[<-hs _ _ _ Kg eL];exact g4 _ (aau aC)
theorem qt.lg(hM:aH ρ m w){n:Nat}(gF:∀i,σ i<m.length->i<n){jL i j:Nat}{pos pos':Option (Nat×Nat×Nat)}{p:Option Nat}(hpp:(pos=none/\pos'=none/\p=none)\/(pos=some (σ jL,i,j)/\pos'=some (jL,i,j)/\p=some (σ jL))){c c':CC}(h:qt σ m Z p c c')(mr:∀s e,c= .gX s e->pos=some (σ jL,i,j)->fI m (σ jL) i j s e){v:Value}(hd:bz ρ w pos c v):bz (ρ.vw σ Z m n) w pos' c' v:=by
 cases h with
 |ap c=>exact hd.one
 |un=>
  cases(show dz ρ.S w (.val (.slice none 0 0)) v from hd)with
  |val _ h=>simp[cT]at h
  |no a=>exact⟨a,rfl⟩
 |hi id e lo hb=>
  have hn:=hM.n;obtain⟨g1,_⟩:=hM.bk _ _ hb;obtain⟨h1,h2,h3,h4,h5,a,rfl,ha⟩:=hd;simp only[abY]at h2 h3;refine⟨gF id (by rw[<-hn];exact h1),?_⟩
  simp only[aa5,bL.vw,lT.aQ,g1];exact⟨h2,h3,h4,h5,a,rfl,ha⟩
 |lo id e lo hb=>
  have hn:=hM.n;obtain⟨g1,_⟩:=hM.bk _ _ hb;obtain⟨h1,h2,h3,h4,h5,a,rfl,ha⟩:=hd;simp only[aa5,g1]at h2 h3;refine⟨gF id (by rw[<-hn];exact h1),?_⟩
  simp only[abY,aa5,bL.vw,lT.aQ,g1];exact⟨h2,h3,h4,h5,a,rfl,ha⟩
 |fv h=>
  refine h.lg hM ?_ hd;intro id hid s e he;rcases hpp with⟨_,_,rfl⟩|⟨rfl,rfl,rfl⟩
  .cases hid
  .cases hid;exact⟨i,j,rfl,mr s e he rfl⟩
 |aQ=>
  have hn:=hM.n;cases c'<;>simp only[CC.aQ,bz]at hd⊢
  case ap=>exact hd
  case aa=>exact hd.mono (fun _ h=>.inl h) (fun _ _=>rfl)
  case ptr id k=>exact⟨gF id (by rw[<-hn];exact hd.1),hd.2⟩
  case mQ id _ _ _=>exact⟨gF id (by rw[<-hn];exact hd.1),hd.2⟩
  case qx=>
   obtain⟨b,off,h1,h2,h3⟩:=hd;refine⟨b,off,h1,.inl h2,fun j d hj=>?_⟩
   obtain⟨u,hu,cn⟩:=h3 j d hj;exact⟨u,hu,cn.mono (fun _ h=>.inl h) (fun _ _=>rfl)⟩
  case row id _ _ _=>exact⟨gF id (by rw[<-hn];exact hd.1),hd.2⟩
  case aI=>exact hd
  case map id=>exact⟨gF id (by rw[<-hn];exact hd.1),hd.2⟩
  case fn f ew=>
   refine⟨fun id hid=>gF id (by rw[<-hn];exact hd.1 _ (aay.2 ⟨id,hid,rfl⟩)),?_⟩
   rw[hd.2,abd];rfl
  case gX s e=>
   obtain⟨a,b,c,h1,h2⟩:=hd;rcases hpp with⟨rfl,rfl,rfl⟩|⟨rfl,rfl,rfl⟩
   .cases h1
   .cases h1;exact⟨jL,i,j,rfl,h2⟩
theorem qt.ID(hM:aH ρ m w){n:Nat}(gF:∀i,σ i<m.length->i<n){c c':CC}(h:qt σ m Z none c c'){v:Value}(hd:bz ρ w none c v):bz (ρ.vw σ Z m n) w none c' v:=
 qt.lg (jL:=0) (i:=0) (j:=0) hM gF (.inl ⟨rfl,rfl,rfl⟩) h (fun _ _ _ h=>by cases h) hd
theorem xH.lg(hM:aH ρ m w){n:Nat}(gF:∀i,σ i<m.length->i<n){c c':RV}(h:xH σ m Z c c'){v:Value}(hd:dW ρ w c v):dW (ρ.vw σ Z m n) w c' v:=by
 cases h with
 |one h=>exact h.ID hM gF hd
 |agg hl h=>
  obtain⟨vs,rfl,h1,h2⟩:=hd;refine⟨vs,rfl,h1.trans hl,fun i c' hi=>?_⟩
  rename_i cs eu;have aC:i<cs.length:=by rw[hl];exact(aac.1 hi).1
  obtain⟨u,hu,hd⟩:=h2 i _ (aab aC);exact⟨u,hu,(h i _ _ (aab aC) hi).ID hM gF hd⟩
theorem qv.lg(hM:aH ρ m w){n:Nat}(gF:∀i,σ i<m.length->i<n){c c':CV}(h:qv σ m Z c c'){v:Value}(hd:b8 ρ w c v):b8 (ρ.vw σ Z m n) w c' v:=by
 cases h with
 |ap=>trivial
 |undef=>exact hd
 |rv h=>exact h.lg hM gF hd
 |bF hl h=>
  obtain⟨vs,rfl,h1,h2⟩:=hd;refine⟨vs,rfl,h1.trans hl,fun i c' hi=>?_⟩
  rename_i cs eu;have aC:i<cs.length:=by rw[hl];exact(aac.1 hi).1
  obtain⟨u,hu,hd⟩:=h2 i _ (aab aC);exact⟨u,hu,(h i _ _ (aab aC) hi).lg hM gF hd⟩
theorem mZ.lg(hM:aH ρ m w){n:Nat}(gF:∀i,σ i<m.length->i<n){id:Nat}{b b':Bk}(hb:m[σ id]? =some b)(h:mZ σ m Z (σ id) b b'):eF (ρ.vw σ Z m n) w id b':=by
 have hd:=hM.bk _ _ hb;cases h with
 | @var cs eu h=>
  obtain⟨cur,hc,hd⟩:=hd;refine⟨cur,hc,fun j c' hj=>?_⟩
  obtain⟨c,xD,hv⟩:=h j c' hj;obtain⟨u,hu,cn⟩:=hd j c xD;refine⟨u,hu,?_⟩;cases hv with
  |ap c=>exact cn.one
  |aQ=>exact qt.ID hM gF (.aQ c') cn
  |un=>exact qt.ID hM gF .un cn
  |hi jL e lo sb=>exact qt.ID hM gF (.hi jL e lo sb) cn
  |lo jL e lo sb=>exact qt.ID hM gF (.lo jL e lo sb) cn
  |fv hf=>exact hf.lg hM (fun jL _ s e he=>by rw[he]at cn;obtain⟨_,_,_,hx,_⟩:=cn;cases hx) cn
 | @row esz es cV hl hs h=>
  obtain⟨h2,h3,h4,h5,b9⟩:=hd;refine⟨hl.symm.trans h2,h3,h4,fun eu KT=>?_,fun dD=>?_⟩
  .obtain⟨i,hi⟩:=aam KT;have aC:i<es.length:=by rw[hl];exact(aac.1 hi).1
   rw[<-hs i _ _ (aab aC) hi];exact h5 _ (aau aC)
  .obtain⟨cur,hc,h1,h6⟩:=b9 dD;refine⟨cur,hc,h1,fun i eu j c' hi hj=>?_⟩
   have aC:i<es.length:=by rw[hl];exact(aac.1 hi).1
   have eC:=aab aC;have dA:j<es[i].length:=by rw[hs i _ _ eC hi];exact(aac.1 hj).1
   have xD:=aab dA;obtain⟨u,hu,cn⟩:=h6 _ _ _ _ eC xD;refine⟨u,hu,qt.lg (jL:=id) (i:=i) (j:=j) hM gF (.inr ⟨rfl,rfl,rfl⟩) (h i _ _ j _ _ eC hi xD hj) (fun s e he _=>⟨_,_,_,hb,eC,by rw[xD,he]⟩) cn⟩
 |it cur left=>
  obtain⟨mb,seen,ck,cV,h2,h3,h4,h5,h6⟩:=hd;exact⟨mb,seen,ck,cV,h2,h3,.inl h4,h5,h6⟩
 | @mp es cV hl h=>
  obtain⟨ae,clock,hc,h1,h2⟩:=hd;refine⟨ae,clock,hc,h1.trans hl,fun i e' hi=>?_⟩
  have aC:i<es.length:=by rw[hl];exact(aac.1 hi).1
  obtain⟨UY,UZ,hk,uP⟩:=h2 i _ (aab aC);obtain⟨ij,hv⟩:=h i _ _ (aab aC) hi;exact⟨UY,UZ,hk.trans ij.symm,hv.lg hM gF uP⟩
theorem zW{m':Mem}(hM:aH ρ m w)(jV:∀i,i<n0->σ i=i)(r9:∀i j,i<m'.length->j<m'.length->σ i=σ j->i=j)(gF:∀i,σ i<m.length->i<m'.length)(kN:∀(i:Nat)b',m'[i]? =some b'->b'= .bh\/(¬Z (σ i)/\∃b,m[σ i]? =some b/\mZ σ m Z (σ i) b b')):
  aH (ρ.vw σ Z m m'.length) m' w/\Rr n0 ρ m (ρ.vw σ Z m m'.length) m'/\∀k,Live (ρ.vw σ Z m m'.length) m' k->Live ρ m (k.aQ σ):=by
 have mr:∀{id i j s1 e},fI m' id i j s1 e->¬Z (σ id)/\fI m (σ id) i j s1 e:=by
  rintro id i j s1 e ⟨cV,lE,eu,sb,eC,xD⟩;rcases kN id _ sb with h|⟨hz,b,hb,hv⟩
  .cases h
  .cases hv with
   | @row _ es _ hl hs h=>
    have aC:i<es.length:=by rw[hl];exact(aac.1 eC).1
    have hi:=aab aC;have dA:j<es[i].length:=by rw[hs i _ _ hi eC];exact(aac.1 xD).1
    have hj:=aab dA;have hv:=h i _ _ j _ _ hi eC hj xD;have hc:es[i][j]= .gX s1 e:=by
     generalize es[i][j]=c at hv;cases hv with
     |aQ=>rfl
    exact⟨hz,_,_,_,hb,hi,by rw[hj,hc]⟩
 have dg:∀k,Live (ρ.vw σ Z m m'.length) m' k->¬Z (σ k.id)/\Live ρ m (k.aQ σ):=by
  intro k hk;cases k with
  |au k=>
   obtain⟨b',sb,nY,bp⟩:=hk;rcases kN k _ sb with h|⟨hz,b,hb,hv⟩
   .exact absurd h nY
   .refine⟨hz,b,hb,?_,?_⟩
    .rintro rfl;cases hv
    .rintro⟨esz,es,rfl⟩;cases hv with
     |row=>exact bp ⟨_,_,rfl⟩
  |sub k i j=>
   obtain⟨⟨esz,e,ho⟩,bp⟩:=hk;exact⟨(mr ho).1,⟨_,_,(mr ho).2⟩,bp⟩
 refine⟨⟨rfl,?_,fun k hk=>?_,fun k k' hk ij he=>?_,fun id b' sb=>?_,fun id i j esz e ho bp=>?_⟩,⟨fun id hid=>?_,fun b h=>.inl h,?_,fun k hk=>⟨_,(dg k hk).2,rfl⟩⟩,fun k hk=>(dg k hk).2⟩
 .rintro b (hb|⟨k,hk,_,rfl⟩)
  .exact hM.S b hb
  .exact(hM.aV k hk).1
 .obtain⟨hz,hl⟩:=dg k hk;refine⟨(hM.aV _ hl).1,?_⟩;rintro(hb|⟨k0,G1,DB,he⟩)
  .exact(hM.aV _ hl).2 hb
  .have:=hM.inj k0 (k.aQ σ) G1 hl he;subst this;apply hz;cases k<;>exact DB
 .have BI:=hk.gB;have RZ:=ij.gB;have:=hM.inj _ _ (dg k hk).2 (dg k' ij).2 he;cases k<;>cases k'<;>simp only[lT.aQ,lT.au.injEq,lT.sub.injEq,lT.id,reduceCtorEq]at this BI RZ
  .rw[r9 _ _ BI RZ this]
  .obtain⟨h1,rfl,rfl⟩:=this;rw[r9 _ _ BI RZ h1]
 .rcases kN id b' sb with rfl|⟨hz,b,hb,hv⟩
  .trivial
  .exact mZ.lg hM gF hb hv
 .obtain⟨cur,hc,h1,h2,h3⟩:=hM.gX _ _ _ _ _ (mr ho).2 bp;refine⟨cur,hc,h1,h2,fun i2 cs j2 d eL km=>?_⟩
  obtain⟨u,hu,cn⟩:=h3 i2 cs j2 d eL km;exact⟨u,hu,cn.mono (fun _ h=>.inl h) (fun _ _=>rfl)⟩
 .show ρ.aR (.au (σ id))=_;rw[jV id hid]
 .rintro b (hb|⟨k,hk,_,he⟩)
  .exact .inl hb
  .exact .inr ⟨k,hk,he⟩
theorem View.mk'{s s':St}(σ:Nat->Nat)(Z:Nat->Prop)(Ov:n0<=s'.mem.length)(hlen:s'.aY.length=s.aY.length)(jV:∀i,i<n0->σ i=i)(r9:∀i j,i<s'.mem.length->j<s'.mem.length->σ i=σ j->i=j)(gF:∀i,σ i<s.mem.length->i<s'.mem.length)(B8:∀(i:Nat)c',s'.aY[i]? =some c'->∃c,s.aY[i]? =some c/\qv σ s.mem Z c c')(kN:∀(i:Nat)b',s'.mem[i]? =some b'->b'= .bh\/(¬Z (σ i)/\∃b,s.mem[σ i]? =some b/\mZ σ s.mem Z (σ i) b b')):View n0 s s':=by
 refine⟨Ov,hlen,fun ρ w hM=>?_⟩
 obtain⟨h1,h2,_⟩:=zW (n0:=n0) (σ:=σ) (Z:=Z) hM jV r9 gF kN;refine⟨_,h1,h2,fun i c' hi=>?_⟩
 obtain⟨c,hc,hv⟩:=B8 i c' hi;exact⟨c,hc,fun v hd=>hv.lg hM gF hd⟩
end
section
variable {P:Program} {n0:Nat} {σ:Nat->Nat} {Z:Nat->Prop} {ρ:bL} {m:Mem} {w:World}
def sg(l:List Nat)(n:Nat)(i:Nat):Nat:=match df l i with|some x=>x|none=>n+(i-l.length)
def bq:List Nat->Nat->Bool
 | [],_=>false
 |x::r,k=>Nat.beq x k||bq r k
def gp:List Nat->Bool
 | []=>true
 |x::r=>!(bq r x)&&gp r
def fm(n:Nat):List Nat->Bool
 | []=>true
 |x::r=>Nat.blt x n&&fm n r
def IE(l:List Nat):Nat->Bool
 |0=>true
 |k+1=>(match df l k with|some x=>Nat.beq x k|none=>false)&&IE l k
theorem vI:∀{l:List Nat}{k:Nat},bq l k=true↔k∈l
 | [],k=>by simp[bq]
 |x::r,k=>by
  simp only[bq,abk,aaJ,vI];constructor
  .rintro(h|h)
   .exact .inl (aav h).symm
   .exact .inr h
  .rintro(rfl|h)
   .exact .inl (acs _)
   .exact .inr h
theorem vJ:∀{l:List Nat},gp l=true->∀i j:Nat,i<l.length->j<l.length->l[i]? =l[j]? ->i=j
 | [],_,i,j,hi,_,_=>by simp at hi
 |x::r,h,i,j,hi,hj,he=>by
  simp only[gp,aap,abg]at h;have hx:∀k:Nat,r[k]? ≠some x:=fun k hk=>by have:=vI.2 (aag hk);rw[h.1]at this;cases this
  cases i with
  |zero=>
   cases j with
   |zero=>rfl
   |succ j=>simp at he;exact absurd he.symm (hx j)
  |succ i=>
   cases j with
   |zero=>simp at he;exact absurd he (hx i)
   |succ j=>
    simp at he hi hj;rw[vJ h.2 i j hi hj he]
theorem oN{n:Nat}:∀{l:List Nat},fm n l=true->∀x,x∈l->x<n
 | [],_,x,hx=>by simp at hx
 |y::r,h,x,hx=>by
  simp only[fm,aap]at h;rcases aaJ.1 hx with rfl|hx
  .exact aak h.1
  .exact oN h.2 x hx
theorem B9{l:List Nat}:∀{k:Nat},IE l k=true->∀i,i<k->l[i]? =some i
 |0,_,i,hi=>om
 |k+1,h,i,hi=>by
  simp only[IE,aap]at h;rcases aaq i k with h1|h1
  .exact B9 h.2 i h1
  .have:i=k:=om;subst this;rw[<-aX];cases hn:df l i with
   |none=>rw[hn]at h;simp at h
   |some x=>rw[hn]at h;simp only at h;rw[aav h.1]
theorem tX{l:List Nat}{n i:Nat}(h:i<l.length):sg l n i=l[i]:=by simp[sg,aX,aab h]
theorem tY{l:List Nat}{n i:Nat}(h:l.length<=i):sg l n i=n+(i-l.length):=by simp[sg,aX,aaG h]
theorem Ls{l:List Nat}{n:Nat}(hd:gp l=true)(hl:fm n l=true){i j:Nat}(h:sg l n i=sg l n j):i=j:=by
 rcases aaq i l.length with hi|hi<;>rcases aaq j l.length with hj|hj
 .rw[tX hi,tX hj]at h;exact vJ hd i j hi hj (by rw[aab hi,aab hj,h])
 .rw[tX hi,tY hj]at h;have:=oN hl _ (aau hi);omega
 .rw[tY hi,tX hj]at h;have:=oN hl _ (aau hj);omega
 .rw[tY hi,tY hj]at h;omega
def RV.aQ(σ:Nat->Nat):RV->RV
 | .one c=>.one (c.aQ σ)
 | .agg cs=>.agg (cs.map (CC.aQ σ))
def CV.aQ(σ:Nat->Nat):CV->CV
 | .rv r=>.rv (r.aQ σ)
 | .bF rs=>.bF (rs.map (RV.aQ σ))
 | .ap=>.ap
 | .undef=>.undef
def Bk.aQ(σ:Nat->Nat):Bk->Bk
 | .bh=>.bh
 | .var cs=>.var (cs.map (CC.aQ σ))
 | .row s es=>.row s (es.map fun cs=>cs.map (CC.aQ σ))
 | .mp es=>.mp (es.map fun e=>⟨e.key,e.val.aQ σ⟩)
 | .it cur left=>.it cur left
theorem xH.aQ(r:RV):xH σ m Z (r.aQ σ) r:=by
 cases r with
 |one c=>exact .one (.aQ c)
 |agg cs=>
  refine .agg aG fun i c c' h h'=>?_
  rw[aaf,h']at h;cases h;exact .aQ c'
theorem qv.IF(v:CV):qv σ m Z (v.aQ σ) v:=by
 cases v with
 |rv r=>exact .rv (.aQ r)
 |bF rs=>
  refine .bF aG fun i c c' h h'=>?_
  rw[aaf,h']at h;cases h;exact .aQ c'
 |ap=>exact .ap _
 |undef=>exact .undef
theorem qv.aQ{v v':CV}(h:v'.aQ σ=v):qv σ m Z v v':=h▸ .IF v'
theorem mZ.IF{id:Nat}(b:Bk)(hb:b≠.bh):mZ σ m Z id (b.aQ σ) b:=by
 cases b with
 |bh=>exact absurd rfl hb
 |var cs=>
  refine .var fun i c' h=>⟨c'.aQ σ,by rw[aaf,h];rfl,.aQ c'⟩
 |row s es=>
  refine .row s aG (fun i cs eu h h'=>?_) fun i cs eu j c c' h h' g g'=>?_
  .rw[aaf,h']at h;cases h;simp
  .rw[aaf,h']at h;cases h;rw[aaf,g']at g;cases g;exact .aQ c'
 |mp es=>
  refine .mp aG fun i e e' h h'=>?_
  rw[aaf,h']at h;cases h;exact⟨rfl,.aQ _⟩
 |it cur left=>exact .it cur left
def af(ds:List (List Dt)):List (List CC):=ds.map fun es=>es.map .aa
theorem dC(ds:List (List Dt)):(af ds).map (fun cs=>cs.map (CC.aQ σ))=af ds:=by simp[af,CC.aQ]
theorem Bk.kn(s:Nat)(ds:List (List Dt)):(Bk.row s (af ds)).aQ σ= .row s (af ds):=by simp only[Bk.aQ,dC]
theorem dP.eE{p:Option Nat}{id esz:Nat}{ds:List (List Dt)}(hz:Z id)(h:m[id]? =some (.row esz (af ds)))(lo:Nat)(hi:Option Nat):dP m Z p (.row id esz lo hi) (.sl esz (cw ds lo hi)):=by
 refine .row id esz lo hi _ ds hz h (by simp[af]) (fun i cs es h1 h2=>?_) fun i cs es j c d h1 h2 h3 h4=>?_
 .simp only[af,aaf,h2,aaC,aaA]at h1;subst h1;simp
 .simp only[af,aaf,h2,aaC,aaA]at h1;subst h1;simp only[aaf,h4,aaC,aaA]at h3;subst h3;exact .aa d
inductive iO(σ:Nat->Nat)(m:Mem)(Z:Nat->Prop):List CV->List CV->Prop
 |nil:iO σ m Z [] []
 |ap {v:CV} {e e':List CV} (h:iO σ m Z e e'):iO σ m Z (v::e) (.ap::e')
 |put {v v':CV} {e e':List CV} (hv:qv σ m Z v v') (h:iO σ m Z e e'):iO σ m Z (v::e) (v'::e')
theorem iO.len{e e':List CV}(h:iO σ m Z e e'):e'.length=e.length:=by
 induction h<;>simp[*]
theorem iO.get{e e':List CV}(h:iO σ m Z e e'):∀(i:Nat)c',e'[i]? =some c'->∃c,e[i]? =some c/\qv σ m Z c c':=by
 induction h with
 |nil=>intro i v h;simp at h
 |ap h ih=>
  intro i v hv;cases i with
  |zero=>simp at hv;subst hv;exact⟨_,rfl,.ap _⟩
  |succ i=>simpa using ih i v (by simpa using hv)
 |put hx h ih=>
  intro i v hv;cases i with
  |zero=>simp at hv;subst hv;exact⟨_,rfl,hx⟩
  |succ i=>simpa using ih i v (by simpa using hv)
theorem iO.eq{v v':CV}{e e':List CV}(hv:v'.aQ σ=v)(h:iO σ m Z e e'):iO σ m Z (v::e) (v'::e'):= .put (.aQ hv) h
inductive fo(σ:Nat->Nat)(m:Mem)(Z:Nat->Prop):Nat->Mem->Prop
 |nil (k:Nat):fo σ m Z k []
 |bh {k:Nat} {r:Mem} (h:fo σ m Z (k+1) r):fo σ m Z k (.bh::r)
 |put {k:Nat} {b b':Bk} {r:Mem} (hz:¬Z (σ k)) (hb:df m (σ k)=some b) (hv:mZ σ m Z (σ k) b b') (h:fo σ m Z (k+1) r):fo σ m Z k (b'::r)
theorem fo.get{k:Nat}{m':Mem}(h:fo σ m Z k m'):∀(i:Nat)b',m'[i]? =some b'->b'= .bh\/(¬Z (σ (k+i))/\∃b,m[σ (k+i)]? =some b/\mZ σ m Z (σ (k+i)) b b'):=by
 induction h with
 |nil k=>intro i b' h;simp at h
 | @bh k r h ih=>
  intro i b' hi;cases i with
  |zero=>simp at hi;exact .inl hi.symm
  |succ i=>
   have:=ih i b' (by simpa using hi)
   rwa [show k+1+i=k+(i+1) by omega]at this
 | @put k b b1 r hz hb hv h ih=>
  intro i b' hi;cases i with
  |zero=>simp at hi;subst hi;exact .inr ⟨hz,_,by rw[<-aX];exact hb,hv⟩
  |succ i=>
   have:=ih i b' (by simpa using hi)
   rwa [show k+1+i=k+(i+1) by omega]at this
theorem View.of{e e':List CV}{m m':Mem}(n:Nat)(l F:List Nat)(hn:m.length=n)(hl:m'.length=l.length)(h0:Nat.ble n0 l.length=true)(hi:IE l n0=true)(hd:gp l=true)(ha:fm n l=true)(B8:iO (sg l n) m (fun k=>bq F k=true) e e')(kN:fo (sg l n) m (fun k=>bq F k=true) 0 m'):View n0 ⟨e,m⟩ ⟨e',m'⟩:=by
 have h0':n0<=l.length:=aak h0;refine View.mk' (sg l n) _ (by simp only;omega) B8.len (fun i aC=>?_) (fun i j _ _ h=>Ls hd ha h) (fun i aC=>?_) (fun i c' h=>B8.get i c' h) (fun i b' h=>by have:=kN.get i b' h;simpa using this)
 .rw[tX om];have:=B9 hi i aC;rw[aab om]at this;simpa using this
 .rcases aaq i l.length with h|h
  .simp only;omega
  .rw[tY h]at aC;simp only at aC;omega
theorem bN{f:Nat}{args:List CV}{m:Mem}{K0 K:CV->Mem->Prop}(h:ar P f args m K0)(hK:∀r m1,K0 r m1->∃r' m',View m.length ⟨[r],m1⟩ ⟨[r'],m'⟩/\K r' m'):ar P f args m K:=by
 refine⟨h.1,fun ρ w vs hM hl hd=>?_⟩
 refine(h.2 ρ w vs hM hl hd).mono fun e w'⟨v,r,m1,ρ1,he,hk,uQ,xP,hx⟩=>?_
 obtain⟨r',m',hv,ij⟩:=hK r m1 hk;obtain⟨ρ',lV,hc,uP⟩:=hv.go ρ1 w' uQ;have hn:=hM.n;refine⟨v,r',m',ρ',he,ij,lV,?_,⟨by rw[hn,lV.n];exact hv.hn,fun id hid=>(hc.aR id (by rw[<-hn];exact hid)).trans (hx.aR id hid),fun b hb=>hc.S b (hx.S b hb),fun b hb=>?_,fun k hk=>?_,hx.frame,hx.size,hx.os,hx.tape,hx.output⟩⟩
 .obtain⟨c,qG,It⟩:=uP 0 r' rfl;simp at qG;subst qG;exact It v xP
 .rcases hc.S' b hb with h|⟨k,hk,rfl⟩
  .exact hx.S' b h
  .exact .inr (hx.aV k hk)
 .obtain⟨k0,h0,e0⟩:=hc.aV k hk;rw[<-e0];exact hx.aV k0 h0
def rb(σ:Nat->Nat):Mem->Mem
 | []=>[]
 |b::r=>b.aQ σ::rb σ r
theorem zX(σ:Nat->Nat):∀m,rb σ m=m.map (Bk.aQ σ)
 | []=>rfl
 |b::r=>by simp[rb,zX σ r]
def dn:Mem->List Nat->Mem->Mem
 |m,[],ms=>iI m ms
 |m,_::_,[]=>m
 |m,id::l,b::ms=>dn (ba m id b) l ms
theorem yO:∀(l:List Nat)(m ms:Mem),l.length<=ms.length->(dn m l ms).length=m.length+(ms.length-l.length)
 | [],m,ms,_=>by simp[dn,cr]
 |_::l,m,[],h=>by simp at h
 |id::l,m,b::ms,h=>by simp at h;rw[dn,yO l _ _ h,bn];simp
theorem sr:∀(l:List Nat)(m ms:Mem)(j:Nat),j<m.length->j∉l->(dn m l ms)[j]? =m[j]?
 | [],m,ms,j,hj,_=>by simp[dn,cr,aar hj]
 |_::l,m,[],j,_,_=>by simp[dn]
 |id::l,m,b::ms,j,hj,hn=>by
  simp at hn;rw[dn,sr l _ _ j (by rw[bn];simpa using hj) hn.2,bn,aas (fun h=>hn.1 h.symm)]
theorem yP:∀(l:List Nat)(m ms:Mem),gp l=true->fm m.length l=true->l.length<=ms.length->∀(i:Nat),i<ms.length->(dn m l ms)[sg l m.length i]? =ms[i]?
 | [],m,ms,_,_,_,i,hi=>by simp only[dn,cr,sg,df,aaT,abC];rw[aan om];simp
 |_::l,m,[],_,_,h,_,_=>by simp at h
 |id::l,m,b::ms,hd,ha,h,i,hi=>by
  simp only[gp,aap,abg]at hd;simp only[fm,aap]at ha;simp at h hi;have hlen:(ba m id b).length=m.length:=by rw[bn];simp
  have hid:id<m.length:=aak ha.1;cases i with
  |zero=>
   rw[dn];show(dn (ba m id b) l ms)[id]? =some b;rw[sr l _ _ id (by rw[hlen];exact hid) (fun h=>by rw[vI.2 h]at hd;cases hd.1),bn]
   simp[hid]
  |succ i=>
   have:=yP l (ba m id b) ms hd.2 (by rw[hlen];exact ha.2) h i om
   rw[hlen]at this;rw[dn];have e:sg (id::l) m.length (i+1)=sg l m.length i:=by simp[sg,df]
   rw[e,this];simp
theorem bz.pos{ρ:bL}{w:World}{pos pos':Option (Nat×Nat×Nat)}{c:CC}{v:Value}(hc:∀s e,c≠.gX s e)(h:bz ρ w pos c v):bz ρ w pos' c v:=by
 cases c<;>simp only[bz]at h⊢
 case gX=>exact absurd rfl (hc _ _)
 all_goals exact h
theorem bz.Yt{ρ ρ':bL}{w:World}{pos:Option (Nat×Nat×Nat)}(hn:ρ.n<=ρ'.n)(cE:∀id,id<ρ.n->ρ'.aR (.au id)=ρ.aR (.au id))(sa:∀id i j,pos=some (id,i,j)->ρ'.aR (.sub id i j)=ρ.aR (.sub id i j))(hS:∀b,ρ.S b->ρ'.S b){w':World}(lD:∀b,ρ.S b->w'.heap[b]? =w.heap[b]?){c:CC}{v:Value}(h:bz ρ w pos c v):bz ρ' w' pos c v:=by
 let ρ1:bL:={n:=ρ'.n,aR:=fun k=>match k with| .au id=>ρ'.aR (.au id)|k=>ρ.aR k,S:=ρ'.S}
 have g:iT ρ w ρ1 w':=⟨hn,fun k hk=>by
  cases k with
  |au id=>exact cE id hk
  |sub id i j=>rfl,hS,lD⟩
 by_cases hc:∃s e,c= .gX s e
 .obtain⟨esz,elems,rfl⟩:=hc;obtain⟨id,i,j,dD,hr⟩:=h;refine⟨id,i,j,dD,?_⟩;rw[sa id i j dD];exact hr
 .have hc:∀s e,c≠.gX s e:=fun s e h=>hc ⟨s,e,h⟩
  have h1:=bz.pos (pos':=pos) hc (bz.cM g aG (bz.pos (pos':=none) hc h));cases c<;>simp only[bz]at h1⊢
  case gX=>exact absurd rfl (hc _ _)
  all_goals exact h1
theorem bz.aQ{ρ ρ':bL}{τ:Nat->Nat}{w:World}{pos pos':Option (Nat×Nat×Nat)}(hτ:∀i,i<ρ.n->τ i<ρ'.n)(fT:∀i,i<ρ.n->ρ'.aR (.au (τ i))=ρ.aR (.au i))(hS:∀b,ρ.S b->ρ'.S b)(dD:∀id i j,pos=some (id,i,j)->pos'=some (τ id,i,j)/\ρ'.aR (.sub (τ id) i j)=ρ.aR (.sub id i j)){c:CC}{v:Value}(h:bz ρ w pos c v):bz ρ' w pos' (c.aQ τ) v:=by
 cases c<;>simp only[bz,CC.aQ]at h⊢
 case ap=>exact h
 case aa=>exact h.mono hS (fun _ _=>rfl)
 case ptr id _=>rw[fT id h.1];exact⟨hτ id h.1,h.2⟩
 case mQ id _ _ _=>rw[fT id h.1];exact⟨hτ id h.1,h.2⟩
 case qx=>
  obtain⟨b,off,h1,h2,h3⟩:=h;refine⟨b,off,h1,hS _ h2,fun j d hj=>?_⟩
  obtain⟨u,hu,cn⟩:=h3 j d hj;exact⟨u,hu,cn.mono hS (fun _ _=>rfl)⟩
 case row id _ _ _=>rw[fT id h.1];exact⟨hτ id h.1,h.2⟩
 case aI=>exact h
 case map id=>rw[fT id h.1];exact⟨hτ id h.1,h.2⟩
 case fn f ew=>
  refine⟨fun id hid=>?_,?_⟩
  .obtain⟨i,hi,rfl⟩:=aay.1 hid;exact hτ i (h.1 i hi)
  .rw[h.2];congr 2;rw[abd];exact abA fun id hid=>by simp only[Function.comp];rw[fT id (h.1 id hid)]
 case gX s e=>
  obtain⟨a,b,c,h1,h2⟩:=h;obtain⟨h3,h4⟩:=dD a b c h1;refine⟨τ a,b,c,h3,?_⟩;rw[h4];exact h2
theorem dW.aQ{ρ ρ':bL}{τ:Nat->Nat}{w:World}(hτ:∀i,i<ρ.n->τ i<ρ'.n)(fT:∀i,i<ρ.n->ρ'.aR (.au (τ i))=ρ.aR (.au i))(hS:∀b,ρ.S b->ρ'.S b){c:RV}{v:Value}(h:dW ρ w c v):dW ρ' w (c.aQ τ) v:=by
 cases c with
 |one c=>exact bz.aQ hτ fT hS (fun _ _ _ h=>by cases h) h
 |agg cs=>
  obtain⟨vs,rfl,h1,h2⟩:=h;refine⟨vs,rfl,by simpa using h1,fun i c hi=>?_⟩
  rw[aaf]at hi;obtain⟨c0,h0,rfl⟩:=aaD.1 hi;obtain⟨u,hu,hd⟩:=h2 i c0 h0;exact⟨u,hu,bz.aQ hτ fT hS (fun _ _ _ h=>by cases h) hd⟩
theorem b8.aQ{ρ ρ':bL}{τ:Nat->Nat}{w:World}(hτ:∀i,i<ρ.n->τ i<ρ'.n)(fT:∀i,i<ρ.n->ρ'.aR (.au (τ i))=ρ.aR (.au i))(hS:∀b,ρ.S b->ρ'.S b){c:CV}{v:Value}(h:b8 ρ w c v):b8 ρ' w (c.aQ τ) v:=by
 cases c with
 |ap=>trivial
 |undef=>exact h
 |rv r=>exact dW.aQ hτ fT hS h
 |bF cs=>
  obtain⟨vs,rfl,h1,h2⟩:=h;refine⟨vs,rfl,by simpa using h1,fun i c hi=>?_⟩
  rw[aaf]at hi;obtain⟨c0,h0,rfl⟩:=aaD.1 hi;obtain⟨u,hu,hd⟩:=h2 i c0 h0;exact⟨u,hu,dW.aQ hτ fT hS hd⟩
theorem eF.aQ{ρ ρ':bL}{τ:Nat->Nat}{w:World}(hτ:∀i,i<ρ.n->τ i<ρ'.n)(fT:∀i,i<ρ.n->ρ'.aR (.au (τ i))=ρ.aR (.au i))(hS:∀b,ρ.S b->ρ'.S b){id:Nat}(hid:id<ρ.n)(sa:∀i j,ρ'.aR (.sub (τ id) i j)=ρ.aR (.sub id i j)){b:Bk}(h:eF ρ w id b):eF ρ' w (τ id) (b.aQ τ):=by
 cases b with
 |bh=>trivial
 |var cs=>
  obtain⟨cur,hc,hd⟩:=h;simp only[Bk.aQ,eF,fT id hid];refine⟨cur,hc,fun j c hj=>?_⟩
  rw[aaf]at hj;obtain⟨c0,h0,rfl⟩:=aaD.1 hj;obtain⟨u,hu,cn⟩:=hd j c0 h0;exact⟨u,hu,bz.aQ hτ fT hS (fun _ _ _ h=>by cases h) cn⟩
 |row s es=>
  obtain⟨h2,h3,h4,h5,b9⟩:=h;simp only[Bk.aQ,eF,fT id hid];refine⟨by simpa using h2,h3,h4,fun cs dG=>?_,fun dD=>?_⟩
  .obtain⟨Bo,h0,rfl⟩:=aay.1 dG;simpa using h5 Bo h0
  .obtain⟨cur,hc,h1,h6⟩:=b9 dD;refine⟨cur,hc,h1,fun i cs j c hi hj=>?_⟩
   rw[aaf]at hi;obtain⟨Bo,h0,rfl⟩:=aaD.1 hi;rw[aaf]at hj;obtain⟨c0,h00,rfl⟩:=aaD.1 hj;obtain⟨u,hu,cn⟩:=h6 i Bo j c0 h0 h00;exact⟨u,hu,bz.aQ hτ fT hS (fun a b c h=>by cases h;exact⟨rfl,sa _ _⟩) cn⟩
 |mp es=>
  obtain⟨ae,clock,hc,h1,h2⟩:=h;simp only[Bk.aQ,eF,fT id hid];refine⟨ae,clock,hc,by simpa using h1,fun i e hi=>?_⟩
  rw[aaf]at hi;obtain⟨e0,h0,rfl⟩:=aaD.1 hi;obtain⟨UY,UZ,hk,uP⟩:=h2 i e0 h0;exact⟨UY,UZ,hk,dW.aQ hτ fT hS uP⟩
 |it cur left=>
  obtain⟨mb,seen,ck,cV,h2,h3,h4,h5,h6⟩:=h;simp only[Bk.aQ,eF,fT id hid];exact⟨mb,seen,ck,cV,h2,h3,hS _ h4,h5,h6⟩
end
end Go.AM
