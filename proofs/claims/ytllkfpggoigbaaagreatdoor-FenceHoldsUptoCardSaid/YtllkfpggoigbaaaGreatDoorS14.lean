/- Part 14 of 35. -/
import Derived.Test.YtllkfpggoigbaaaGreatDoorS12
import Derived.Test.YtllkfpggoigbaaaGreatDoorS13
import Derived.Carry
import Derived.ProofKit
set_option linter.unusedVariables false
set_option linter.unusedSimpArgs false
set_option linter.unnecessarySimpa false
set_option maxRecDepth 100000
set_option maxHeartbeats 0
namespace Go.AM
open Go.ChangeShapes Go.WideShapes Go.ChangeAt Go.RowKit
section
variable {H:Type} {enc:TypeId×Value->H} {P:Program} {W:World}
theorem VY{aB:Nat}{t:TypeId}{v:Value}{agg:Bool}(ha:eL P t=some agg){d:Nat}{ls:List Lf}(hl:pE P d t=some ls)(km:Value.okWide P W .any aB t v):
  (agg=true->∃vs,v= .agg vs)/\(agg=false->v.oneCell'=true):=by
 cases d with
 |zero=>simp[pE]at hl
 |succ d=>
  simp only[pE]at hl;unfold eL at ha;unfold Value.okWide at km;split at hl
  .rename_i ht;rw[ht]at ha km;simp at ha;subst ha;refine⟨aD,λ_=>?_⟩
   simp only[Cell.okWide,ht,Cell.ok]at km;cases v<;>simp_all[Value.oneCell']
  .rename_i k ht;rw[ht]at ha km;simp at ha;subst ha;refine⟨aD,λ_=>?_⟩
   simp only[Cell.okWide,ht,Cell.ok]at km;cases v<;>simp_all[Value.oneCell']
  .rename_i ht;rw[ht]at ha km;simp at ha;subst ha;refine⟨aD,λ_=>?_⟩
   simp only[Cell.okWide,ht,Cell.ok]at km;cases v<;>simp_all[Value.oneCell']
  .rename_i e ht;rw[ht]at ha km;simp at ha;subst ha;refine⟨aD,λ_=>?_⟩
   simp only[Cell.okWide,ht,Cell.ok]at km;cases v<;>simp_all[Value.oneCell']
  .rename_i fs ht;rw[ht]at ha km;simp at ha;subst ha;obtain⟨cs,rfl,_⟩:=km;exact⟨λ_=>⟨cs,rfl⟩,aD⟩
  .rename_i n e ht;rw[ht]at ha km;simp at ha;subst ha;obtain⟨cs,rfl,_⟩:=km;exact⟨λ_=>⟨cs,rfl⟩,aD⟩
  .cases hl
structure Sh where
 agg:Bool
 ls:List Lf
def KT(P:Program):List TypeId->Option (List Sh)
 | []=>some []
 |t::r=>match eL P t,pE P 12 t,KT P r with
  |some a,some ls,some r=>some (⟨a,ls⟩::r)
  |_,_,_=>none
inductive AG:List Sh->List (List Dt)->Prop
 |nil:AG [] []
 |cons {s:Sh} {ds:List Dt} {r:List Sh} {l:List (List Dt)} (h:jF s.ls ds) (hr:AG r l):AG (s::r) (ds::l)
def sY:List Sh->List (List Dt)->List CV
 |s::r,ds::l=>Zt s.agg ds::sY r l
 |_,_=>[]
theorem AH(bk:R2 H){aB b2:Nat}:∀(ts:List TypeId)(vs:List Value)(dw:List (DataW H))(ps:List MemPlace)(N5:List Sh),KT P ts=some N5->DataW.TrodAll enc P W aB (λ_=>true) true ts vs dw ps->
  (∀(j:Nat)t v,ts[j]? =some t->vs[j]? =some v->Value.okWide P W .any b2 t v)->
  ∃rN,AG N5 rN/\vs.length=(sY N5 rN).length/\(∀(i:Nat)c,(sY N5 rN)[i]? =some c->∃v,vs[i]? =some v/\cw (KP W) W c v)/\Dt.eA rN<=mE bk.f dw
 | [],[],[],ps,N5,hs,h,km=>by
  simp[KT]at hs;subst hs;exact⟨[],.nil,rfl,by simp[sY],by simp[Dt.eA]⟩
 | [],_::_,_,_,_,_,h,_=>by cases h
 | [],[],_::_,_,_,_,h,_=>by cases h
 |_::_,[],_,_,_,_,h,_=>by cases h
 |_::_,_::_,[],_,_,_,h,_=>by cases h
 |t::ts,v::vs,d::dw,ps,N5,hs,h,km=>by
  obtain⟨p,q,⟨fuel,h1⟩,h2,_⟩:=h;simp only[KT]at hs;split at hs
  .rename_i a ls r ha hl hr;cases hs;obtain⟨ds,f1,r1,s1⟩:=Gm bk 12 t ls hl fuel _ _ h1;obtain⟨rN,f2,l2,d2,s2⟩:=AH bk ts vs dw q r hr h2 λj t' v' ht hv=>km (j+1) t' v' (by simpa using ht) (by simpa using hv)
   obtain⟨g1,g2⟩:=VY ha hl (km 0 t v rfl rfl);refine⟨ds::rN,.cons f1 f2,by simp[sY,l2],λi c hi=>?_,by simp only[Dt.eA,mE];simp only at s1;omega⟩
   cases i with
   |zero=>
    simp[sY]at hi;subst hi;exact⟨v,rfl,N4 r1 g1 g2⟩
   |succ i=>simpa using d2 i c (by simpa[sY]using hi)
  .cases hs
theorem AI(hl:laidOutB P=true){W':World}(hb:Below W.heap.size W W'):∀(ts:List TypeId)(vs:List Value)(dw:List (DataW H))(ps:List MemPlace),(ts.all λt=>P.readableRec t&&decide (t<P.types.size))=true->
  DataW.TrodAll enc P W 0 (λ_=>true) true ts vs dw ps->(∀x,x∈ps->x.block<W.heap.size)->DataW.TrodAll enc P W' 0 (λb=>decide (b<W.heap.size)) true ts vs dw ps
 | [],[],[],_,_,h,_=>h
 | [],_::_,_,_,_,h,_=>by cases h
 | [],[],_::_,_,_,h,_=>by cases h
 |_::_,[],_,_,_,h,_=>by cases h
 |_::_,_::_,[],_,_,h,_=>by cases h
 |t::ts,v::vs,d::dw,ps,ht,h,ax=>by obtain⟨p,q,h1,h2,rfl⟩:=h;simp only[List.all_cons,aaL,decide_eq_true_eq]at ht;exact⟨p,q,Below.trod hl ht.1.1 ht.1.2 h1 hb (λx hx=>ax x (by simp[hx])),AI hl hb ts vs dw q (by simpa using ht.2) h2 (λx hx=>ax x (by simp[hx])),rfl⟩
theorem BY{f:Nat}{fn:Func}{s:ChangeSpec}{args:Array Value}{ds gs:List (DataW H)}{before:List MemPlace}{aB:Nat}(bk:R2 H)(hl:laidOutB P=true){tb:TypeId}(htb:P.underlying tb=some .bool)(adz:fn.resultTypes= #[tb])(UG:s.vars=[])(Zu:∀ds:List (DataW H),ds.length=fn.params.size->s.fn H ds={results:=[.lit (.bool true)],args:=ds}){N5:List Sh}(hsh:KT P fn.params.toList=some N5)(hts:(fn.params.toList.all λt=>P.readableRec t&&decide (t<P.types.size))=true)(walk:∀rN,AG N5 rN->Dt.eA rN<=mE bk.f ds->ap P f (sY N5 rN) [] λr _=>r=aq true)(kH:∀(j:Nat)t v,fn.params[j]? =some t->args[j]? =some v->Value.okWide P W .any aB t v)(hW:DataW.Whole enc P fn.params.toList s.vars false W args.toList ds gs before):
  Calls P f args W λe W'=>∃v,e= .returned v/\s.post enc P fn false true false false W args v W':=by
 have hW':=hW;obtain⟨p,q,hA,hV,rfl,Zv,so⟩:=hW;obtain⟨rN,hf,hlen,cD,dQ⟩:=AH bk fn.params.toList args.toList ds p N5 hsh hA λj t v ht hv=>kH j t v (by simpa using ht) (by simpa using hv)
 have BO:=pD (u:= .bool true) (walk rN hf dQ) W args.toList hlen cD aD (λr m h=>h)
 have ax:∀x,x∈p->x.block<W.heap.size:=λx hx=>by simpa using hW'.lt x (by simp[hx])
 rw[UG]at hV;obtain⟨rfl,rfl⟩:=trodVars_none hV;have lH:ds.length=fn.params.size:=by
  have:∀(ts:List TypeId)(vs:List Value)(dw:List (DataW H))(ps:List MemPlace),DataW.TrodAll enc P W 0 (λ_=>true) true ts vs dw ps->dw.length=ts.length:=by
   intro ts
   induction ts with
   |nil=>intro vs dw ps h;obtain⟨_,rfl,_⟩:=trodAll_nil h;rfl
   |cons t ts ih=>
    intro vs dw ps h;obtain⟨v,X2,d,ds1,a,b,rfl,rfl,rfl,h1,h2⟩:=trodAll_cons h;simp[ih _ _ _ h2]
  simpa using this _ _ _ _ hA
 refine BO.mono λe W'⟨he,hb⟩=>?_
 subst he;have hs:s.fn H (ds++ [])={results:=[.lit (.bool true)],args:=ds}:=by rw[ab9];exact Zu ds lH
 refine⟨_,rfl,ds,[],p++ [],[],p,[],hW',?_,?_,?_,hb.frame _,λh=>by cases h⟩
 .rw[hs,adz];exact trodAll_cons_mk (shut_bool htb _) trodAll_mk0
 .rw[hs];exact AI hl hb _ _ _ _ hts hA ax
 .rw[hs,UG];rfl
end
end Go.AM
namespace Go.AM
section
variable {P:Program}
theorem aK.IY{ρ:bX}{m:Mem}{w w':World}(hM:aK ρ m w)(hw:eT w w'):aK ρ m w'/\Ext ρ m w ρ m w':=by
 have hn:=hM.n;have g:jC ρ w ρ w':=⟨aai _,λ_ _=>rfl,λ_ h=>h,λb hb=>hw.heap b (hM.S b hb)⟩
 refine⟨⟨hn,λb hb=>abL (hM.S b hb) hw.size,λk hk=>⟨abL (hM.aF k hk).1 hw.size,(hM.aF k hk).2⟩,hM.inj,λid b hb=>?_,λid i j esz e ho bv=>?_⟩,
  ⟨aai _,λ_ _=>rfl,λ_ h=>h,λ_ h=>.inl h,λk hk=>.inr ⟨k,hk,rfl⟩,λb hb _=>hw.heap b hb,hw.size,hw.os,hw.tape,hw.output⟩⟩
 .exact(hM.bk id b hb).cY g (by rw[hn];exact(Lw.1 hb).1) λfG bv=>hw.heap _ (hM.aF (.ay id) ⟨b,hb,fG,bv⟩).1
 .exact(hM.iJ id i j esz e ho bv).cY g (hw.heap _ (hM.aF (.sub id i j) ⟨⟨esz,e,ho⟩,bv⟩).1)
theorem KU{f:Nat}{args:List CV}{m:Mem}{K0 K:CV->Mem->Prop}(h:ap P f args [] K0)(ha:∀c,c∈args->c.cW=true)(hK:∀r m1,K0 r m1->(r= .rv (.one .bt)/\K (.rv (.one .bt)) m)\/
   ∃id esz elems,r= .rv (.one (.row id esz 0 none))/\m1[id]? =some (.row esz elems)/\(∀cs,cs∈elems->∀c,c∈cs->∃d,c= .ai d)/\
    (∀(i:Nat)cs(j:Nat)d,elems[i]? =some cs->cs[j]? =some (.ai d)->∃v,d= .val v)/\
    K (.rv (.one (.row m.length esz 0 none))) (m++ [.row esz elems])):ap P f args m K:=by
 refine⟨h.1,λρ w vs hM hl hd=>?_⟩
 let ρ0:bX:={n:=0,aV:=λ_=>⟨0,0,0,0⟩,S:=ρ.S}
 have mC:aK ρ0 [] w:={
  n:=rfl
  S:=hM.S
  aF:=λk h=>by have:=h.gO;simp at this
  inj:=λk k' h=>by have:=h.gO;simp at this
  bk:=λid b h=>by simp at h
  iJ:=λid i j esz elems h=>by obtain⟨_,_,_,h,_⟩:=h;simp at h}
 refine(h.2 ρ0 w vs mC hl λi c hi=>?_).mono λe w'⟨v,r,m1,ρ1,he,hk,xL,wI,hx⟩=>?_
 .obtain⟨v,hv,hd⟩:=hd i c hi;exact⟨v,hv,CV.sX (ρ:=ρ) (U':=ρ0) (ha c (Vm hi)) (λ_ h=>h) hd⟩
 .have k8:∀k,¬Live ρ0 [] k:=λk h=>by have:=h.gO;simp at this
  have tZ:∀b,b<w.heap.size->w'.heap[b]? =w.heap[b]? :=λb hb=>hx.frame b hb λk hk=>absurd hk (k8 k)
  have KV:eT w w':=by
   refine⟨?_,?_,?_,?_,?_⟩;all_goals first|exact hx.size|exact tZ|exact hx.os|exact hx.tape|exact hx.output
  rcases hK r m1 hk with⟨rfl,iG⟩|⟨id,esz,elems,rfl,hb,R3,kH,iG⟩
  .obtain⟨ad,rfl⟩:=wI;obtain⟨DI,pH⟩:=hM.IY KV;exact⟨_,_,m,ρ,he,iG,DI,⟨ad,rfl⟩,pH⟩
  .obtain⟨g1,g2,g3,g4,g5⟩:=xL.bk id _ hb;obtain⟨q1,q2,q3,q4,q5,ad,rfl,ul⟩:=wI;have hn:=hM.n;let l:=ρ1.aV (.ay id);have gv:eS (ρ.push l) w' m.length (.row esz elems):=by
    have cV:(ρ.push l).aV (.ay m.length)=l:=by rw[<-hn];exact ρ.ku l
    simp only[eS,cV];refine⟨g1,g2,g3,g4,λhp=>?_⟩
    obtain⟨cur,cn,h7,h8⟩:=g5 hp;refine⟨cur,cn,h7,λi cs j c hi hj=>?_⟩
    obtain⟨u,hu,cI⟩:=h8 i cs j c hi hj;obtain⟨d,rfl⟩:=R3 cs (Vm hi) c (Vm hj);obtain⟨v,rfl⟩:=kH i cs j d hi hj;refine⟨u,hu,?_⟩;cases cI with
    |val _ eF=>exact dx.val _ eF
    |no a=>exact .no a
   have N6:Bk.Ns (.row esz elems):=by intro i cs j c hi hj s e hce;obtain⟨d,hd⟩:=R3 cs (Vm hi) c (Vm hj);rw[hd]at hce;cases hce
   obtain⟨DI,pH⟩:=hM.Um KV (λbO=>by
    obtain⟨bk,kG,fG,bv⟩:=bO;have Zw:0<l.cap:=by rw[hn,aaS (aai _)]at kG;simp at kG;have:=bv ⟨esz,elems,kG.symm⟩;rwa [ρ.ku l]at this
    have Zx:Live ρ1 m1 (.ay id):=⟨_,hb,aD,λ_=>Zw⟩
    refine⟨?_,(xL.aF _ Zx).1⟩;rcases hx.aF _ Zx with h|⟨k0,h0,_⟩
    .exact h
    .exact absurd h0 (k8 k0)) gv N6
   refine⟨_,_,_,_,he,iG,DI,?_,pH⟩;have cV:(ρ.push l).aV (.ay m.length)=l:=by rw[<-hn];exact ρ.ku l
   refine⟨by simp[bX.push,hn],?_⟩
   simp only[cV];exact⟨q2,q3,q4,q5,ad,rfl,ul⟩
end
theorem VA.trans{n0:Nat}{ρ ρ1 ρ2:bX}{m m1 m2:Mem}(a:VA n0 ρ m ρ1 m1)(b:VA n0 ρ1 m1 ρ2 m2):VA n0 ρ m ρ2 m2 where
 aV id h:=(b.aV id h).trans (a.aV id h)
 S x h:=b.S x (a.S x h)
 S' x h:=by
  rcases b.S' x h with h|⟨k,hk,he⟩
  .exact a.S' x h
  .obtain⟨k0,h0,e0⟩:=a.aF k hk;exact .inr ⟨k0,h0,e0.trans he⟩
 aF k h:=by obtain⟨k1,h1,e1⟩:=b.aF k h;obtain⟨k0,h0,e0⟩:=a.aF k1 h1;exact⟨k0,h0,e0.trans e1⟩
theorem View.trans{n0:Nat}{s s1 s2:St}(a:View n0 s s1)(b:View n0 s1 s2):View n0 s s2:=by
 refine⟨b.hn,b.len.trans a.len,λρ w hM=>?_⟩
 obtain⟨ρ1,xL,FO,wI⟩:=a.go ρ w hM;obtain⟨ρ2,DI,xw,Fp⟩:=b.go ρ1 w xL;refine⟨ρ2,DI,FO.trans xw,λi c' hi=>?_⟩
 obtain⟨c1,Uo,h1⟩:=Fp i c' hi;obtain⟨c0,sj,h0⟩:=wI i c1 Uo;exact⟨c0,sj,λv hv=>h1 v (h0 v hv)⟩
def CC.aN(Y:Nat->Nat):CC->CC
 | .ptr id j=>.ptr (Y id) j
 | .oq id e i j=>.oq (Y id) e i j
 | .row id e lo hi=>.row (Y id) e lo hi
 | .map id=>.map (Y id)
 | .fn f eG=>.fn f (eG.map Y)
 |c=>c
def kN.aN(Y:Nat->Nat):kN->kN
 | .ay id=>.ay (Y id)
 | .sub id i j=>.sub (Y id) i j
inductive BZ:Dt->Dt->Prop
 |refl (d:Dt):BZ d d
 |no (s:Nat):BZ (.val (.slice none 0 0)) (.sl s [])
 |sl (s:Nat) {es fk:List (List Dt)} (hl:es.length=fk.length) (hs:∀(i:Nat)cs fg,es[i]? =some cs->fk[i]? =some fg->cs.length=fg.length)
   (h:∀(i:Nat)cs fg(j:Nat)d d',es[i]? =some cs->fk[i]? =some fg->cs[j]? =some d->fg[j]? =some d'->BZ d d'):BZ (.sl s es) (.sl s fk)
theorem BZ.lR{S:Nat->Prop}{w:World}{d d':Dt}(h:BZ d d'):∀{v:Value},dx S w d v->dx S w d' v:=by
 induction h with
 |refl d=>exact λh=>h
 |no s=>
  intro v h;cases h with
  |val _ h=>simp[dY]at h
  |no a=>exact .nil s a 0 (WG _)
 | @sl s es fk hl hs h ih=>
  intro v hd;cases hd with
  |nil _ a cap hc=>
   have:fk=[]:=aaX hl.symm;subst this;exact .nil s a cap hc
  |sl _ _ b off cap u hS tX bv dQ hc hd=>
   have get:∀(i:Nat)fg,fk[i]? =some fg->∃cs,es[i]? =some cs:=λi fg hi=>by have:=(Lw.1 hi).1;exact⟨_,wy om⟩
   have Zy:∀(i:Nat)cs fg(j:Nat)d',es[i]? =some cs->fk[i]? =some fg->fg[j]? =some d'->∃d,cs[j]? =some d:=λi cs fg j d' hi eM hj=>by have h1:=(Lw.1 hj).1;have h2:=hs i cs fg hi eM;exact⟨_,wy om⟩
   rw[hl];refine .sl s fk b off cap u hS om bv (λfg hm=>?_) (λi fg j d' hi hj=>?_) (λi fg j d' hi hj=>?_)
   .obtain⟨i,hi⟩:=aak hm;obtain⟨cs,fA⟩:=get i fg hi;rw[<-hs i cs fg fA hi];exact dQ cs (Vm fA)
   .obtain⟨cs,fA⟩:=get i fg hi;obtain⟨d,hdj⟩:=Zy i cs fg j d' fA hi hj;exact hc i cs j d fA hdj
   .obtain⟨cs,fA⟩:=get i fg hi;obtain⟨d,hdj⟩:=Zy i cs fg j d' fA hi hj;exact ih i cs fg j d d' fA hi hdj hj (hd i cs j d fA hdj)
inductive cS(m:Mem)(Z:Nat->Prop):Option Nat->CC->Dt->Prop
 |ai {p:Option Nat} (d:Dt):cS m Z p (.ai d) d
 |iJ {id:Nat} (s:Nat) (e:List (List Dt)) (hz:Z id):cS m Z (some id) (.iJ s e) (.sl s e)
 |bt {p:Option Nat} (s:Nat):cS m Z p .bt (.sl s [])
 |no {p:Option Nat}:cS m Z p .bt (.val (.slice none 0 0))
 |le {p:Option Nat} {d d':Dt} (h:BZ d d'):cS m Z p (.ai d) d'
 |row {p:Option Nat} (id esz lo:Nat) (hi:Option Nat) (elems:List (List CC)) (ds:List (List Dt)) (hz:Z id) (h:m[id]? =some (.row esz elems)) (hl:elems.length=ds.length)
   (hs:∀(i:Nat)cs es,elems[i]? =some cs->ds[i]? =some es->cs.length=es.length)
   (hd:∀(i:Nat)cs es(j:Nat)c d,elems[i]? =some cs->ds[i]? =some es->cs[j]? =some c->es[j]? =some d->cS m Z (some id) c d):cS m Z p (.row id esz lo hi) (.sl esz (bA ds lo hi))
inductive sZ(Y:Nat->Nat)(m:Mem)(Z:Nat->Prop):Option Nat->CC->CC->Prop
 |aH {p:Option Nat} (c:CC):sZ Y m Z p c .aH
 |aN {p:Option Nat} (c:CC):sZ Y m Z p (c.aN Y) c
 |dG {p:Option Nat} {c:CC} {d:Dt} (h:cS m Z p c d):sZ Y m Z p c (.ai d)
 |un {p:Option Nat}:sZ Y m Z p (.ai (.val (.slice none 0 0))) .bt
 |hi {p:Option Nat} (id e lo:Nat) {esz:Nat} {elems:List (List CC)} (h:m[Y id]? =some (.row esz elems)):sZ Y m Z p (.row (Y id) e lo none) (.row id e lo (some elems.length))
 |lo {p:Option Nat} (id e lo:Nat) {esz:Nat} {elems:List (List CC)} (h:m[Y id]? =some (.row esz elems)):sZ Y m Z p (.row (Y id) e lo (some elems.length)) (.row id e lo none)
inductive zu(Y:Nat->Nat)(m:Mem)(Z:Nat->Prop):RV->RV->Prop
 |one {c c':CC} (h:sZ Y m Z none c c'):zu Y m Z (.one c) (.one c')
 |agg {cs fg:List CC} (hl:cs.length=fg.length) (h:∀(i:Nat)c c',cs[i]? =some c->fg[i]? =some c'->sZ Y m Z none c c'):zu Y m Z (.agg cs) (.agg fg)
inductive sq(Y:Nat->Nat)(m:Mem)(Z:Nat->Prop):CV->CV->Prop
 |aH (v:CV):sq Y m Z v .aH
 |undef:sq Y m Z .undef .undef
 |rv {r r':RV} (h:zu Y m Z r r'):sq Y m Z (.rv r) (.rv r')
 |bG {rs KO:List RV} (hl:rs.length=KO.length) (h:∀(i:Nat)r r',rs[i]? =some r->KO[i]? =some r'->zu Y m Z r r'):sq Y m Z (.bG rs) (.bG KO)
inductive oC(Y:Nat->Nat)(m:Mem)(Z:Nat->Prop)(id:Nat):Bk->Bk->Prop
 |var {cs fg:List CC} (h:∀(i:Nat)c',fg[i]? =some c'->∃c,cs[i]? =some c/\sZ Y m Z (some id) c c'):oC Y m Z id (.var cs) (.var fg)
 |row (esz:Nat) {es fk:List (List CC)} (hl:es.length=fk.length) (hs:∀(i:Nat)cs fg,es[i]? =some cs->fk[i]? =some fg->cs.length=fg.length)
   (h:∀(i:Nat)cs fg(j:Nat)c c',es[i]? =some cs->fk[i]? =some fg->cs[j]? =some c->fg[j]? =some c'->sZ Y m Z (some id) c c'):oC Y m Z id (.row esz es) (.row esz fk)
 |mp {es fk:List ME} (hl:es.length=fk.length) (h:∀(i:Nat)e e',es[i]? =some e->fk[i]? =some e'->e'.key=e.key/\zu Y m Z e.val e'.val):oC Y m Z id (.mp es) (.mp fk)
section
variable {n0:Nat} {Y:Nat->Nat} {Z:Nat->Prop} {ρ:bX} {m:Mem} {w:World}
def bX.vw(ρ:bX)(Y:Nat->Nat)(Z:Nat->Prop)(m:Mem)(n:Nat):bX:=
 {n:=n,aV:=λk=>ρ.aV (k.aN Y),S:=λb=>ρ.S b\/∃k,Live ρ m k/\Z k.id/\(ρ.aV k).b=b}
theorem cS.lR(hM:aK ρ m w){pos:Option (Nat×Nat×Nat)}{p:Option Nat}{c:CC}{d:Dt}(h:cS m Z p c d)(hp:∀id,p=some id->∀s e,c= .iJ s e->∃i j,pos=some (id,i,j)/\gN m id i j s e){v:Value}(hd:bH ρ w pos c v){n:Nat}:dx (ρ.vw Y Z m n).S w d v:=by
 induction h generalizing pos v with
 |ai d=>exact hd.mono (λ_ h=>.inl h) (λ_ _=>rfl)
 |bt s=>
  obtain⟨a,rfl⟩:=hd;exact .nil s a 0 (WG _)
 |no=>
  obtain⟨a,rfl⟩:=hd;exact .no a
 |le h=>exact(h.lR hd).mono (λ_ h=>.inl h) (λ_ _=>rfl)
 | @iJ id s e hz=>
  obtain⟨i,j,vy,nv⟩:=hp id rfl s e rfl;obtain⟨kZ,i',j',AF,q1,q2,a',rfl,q3⟩:=hd;rw[vy]at AF;simp only[abe,Prod.mk.injEq]at AF;obtain⟨rfl,rfl,rfl⟩:=AF;rcases abY e.length with he|he
  .rw[aaX he];exact .nil s a' _ om
  .obtain⟨iq,Dy,w1,w2,w3⟩:=hM.iJ _ _ _ _ _ nv om;rw[q3 om];have Du:Live ρ m (.sub id i j):=⟨⟨_,_,nv⟩,om⟩;have ky:∀(i2:Nat)cs(j2:Nat)d2,e[i2]? =some cs->cs[j2]? =some d2->∃u,w.cell? ⟨(ρ.aV (.sub id i j)).b,(ρ.aV (.sub id i j)).aB+i2*s+j2,.none⟩=some u/\dx (ρ.vw Y Z m n).S w d2 u:=by
    intro i2 cs j2 d2 eR k6;obtain⟨u,hu,hd⟩:=w3 i2 cs j2 d2 eR k6;exact⟨u,by rw[Dy.cell];exact hu,hd.mono (λ_ h=>.inl h) (λ_ _=>rfl)⟩
   exact dx.sl s e _ _ _ (λi2 j2=>(w.cell? ⟨(ρ.aV (.sub id i j)).b,(ρ.aV (.sub id i j)).aB+i2*s+j2,.none⟩).getD Go.undef) (.inr ⟨_,Du,hz,rfl⟩) q1 q2 w2
    (λi2 cs j2 d2 eR k6=>by obtain⟨u,hu,_⟩:=ky i2 cs j2 d2 eR k6;rw[hu];rfl)
    (λi2 cs j2 d2 eR k6=>by obtain⟨u,hu,hd⟩:=ky i2 cs j2 d2 eR k6;rw[hu];exact hd)
 |row id esz lo hi elems ds hz hb hl hs NP ih=>
  obtain⟨h1,h2,h3,h4,h5,a,rfl,ha⟩:=hd;obtain⟨g1,g2,g3,g4,g5⟩:=hM.bk id _ hb;have lH:ds.length=(ρ.aV (.ay id)).len:=om;have hlen:(bA ds lo hi).length=hi.getD (ρ.aV (.ay id)).len-lo:=by
   rw[<-lH];exact DM ds lo hi (by rw[lH];exact h2) (by rw[lH];exact h3)
  rw[<-hlen];rcases abY (bA ds lo hi).length with h0|dD
  .rw[h0,aaX h0];exact .nil esz a _ om
  .have ix:lo<(ρ.aV (.ay id)).cap:=om;obtain⟨cur,cn,dQ,eI⟩:=g5 om;rw[ha ix];have key:∀(i:Nat)es(j:Nat)d,(bA ds lo hi)[i]? =some es->es[j]? =some d->∃u,w.cell? ⟨(ρ.aV (.ay id)).b,(ρ.aV (.ay id)).aB+lo*esz+i*esz+j,.none⟩=some u/\dx (ρ.vw Y Z m n).S w d u:=by
    intro i es j d eM hj;have eR:=sW ds lo hi i es eM;have ax:lo+i<elems.length:=by rw[hl];exact(Lw.1 eR).1
    have MY:=wy ax;have bQ:j<elems[lo+i].length:=by rw[hs _ _ _ MY eR];exact(Lw.1 hj).1
    have UF:=wy bQ;obtain⟨u,hu,cI⟩:=eI _ _ _ _ MY UF;refine⟨u,?_,?_⟩
    .rw[cn.cell,<-hu];congr 1;rw[ab3];omega
    .refine ih _ _ _ _ _ _ MY eR UF hj ?_ cI;intro kZ hid s e he;cases hid;exact⟨_,_,rfl,_,_,_,hb,MY,by rw[UF,he]⟩
   refine dx.sl esz (bA ds lo hi) _ _ _ (λi j=>(w.cell? ⟨(ρ.aV (.ay id)).b,(ρ.aV (.ay id)).aB+lo*esz+i*esz+j,.none⟩).getD Go.undef) (.inr ⟨.ay id,⟨_,hb,aD,λ_=>om⟩,hz,rfl⟩) om om (λes oh=>?_)
    (λi cs j d eM hj=>by obtain⟨u,hu,_⟩:=key i cs j d eM hj;rw[hu];rfl)
    (λi cs j d eM hj=>by obtain⟨u,hu,hd⟩:=key i cs j d eM hj;rw[hu];exact hd)
   obtain⟨i,eM⟩:=aak oh;have eR:=sW ds lo hi i es eM;have ax:lo+i<elems.length:=by rw[hl];exact(Lw.1 eR).1
   have MY:=wy ax;rw[<-hs _ _ _ MY eR];exact g4 _ (aaR ax)
theorem sZ.lR(hM:aK ρ m w){n:Nat}(gQ:∀i,Y i<m.length->i<n){kZ i j:Nat}{pos pos':Option (Nat×Nat×Nat)}{p:Option Nat}(s7:(pos=none/\pos'=none/\p=none)\/(pos=some (Y kZ,i,j)/\pos'=some (kZ,i,j)/\p=some (Y kZ))){c c':CC}(h:sZ Y m Z p c c')(nv:∀s e,c= .iJ s e->pos=some (Y kZ,i,j)->gN m (Y kZ) i j s e){v:Value}(hd:bH ρ w pos c v):bH (ρ.vw Y Z m n) w pos' c' v:=by
 cases h with
 |aH c=>exact hd.one
 |un=>
  cases(show dx ρ.S w (.val (.slice none 0 0)) v from hd)with
  |val _ h=>simp[dY]at h
  |no a=>exact⟨a,rfl⟩
 |hi id e lo hb=>
  have hn:=hM.n;obtain⟨g1,_⟩:=hM.bk _ _ hb;obtain⟨h1,h2,h3,h4,h5,a,rfl,ha⟩:=hd;simp only[adB]at h2 h3;refine⟨gQ id (by rw[<-hn];exact h1),?_⟩
  simp only[ab7,bX.vw,kN.aN,g1];exact⟨h2,h3,h4,h5,a,rfl,ha⟩
 |lo id e lo hb=>
  have hn:=hM.n;obtain⟨g1,_⟩:=hM.bk _ _ hb;obtain⟨h1,h2,h3,h4,h5,a,rfl,ha⟩:=hd;simp only[ab7,g1]at h2 h3;refine⟨gQ id (by rw[<-hn];exact h1),?_⟩
  simp only[adB,ab7,bX.vw,kN.aN,g1];exact⟨h2,h3,h4,h5,a,rfl,ha⟩
 |dG h=>
  refine h.lR hM ?_ hd;intro id hid s e he;rcases s7 with⟨_,_,rfl⟩|⟨rfl,rfl,rfl⟩
  .cases hid
  .cases hid;exact⟨i,j,rfl,nv s e he rfl⟩
 |aN=>
  have hn:=hM.n;cases c'<;>simp only[CC.aN,bH]at hd|-
  case aH=>exact hd
  case ai=>exact hd.mono (λ_ h=>.inl h) (λ_ _=>rfl)
  case ptr id k=>exact⟨gQ id (by rw[<-hn];exact hd.1),hd.2⟩
  case oq id _ _ _=>exact⟨gQ id (by rw[<-hn];exact hd.1),hd.2⟩
  case sr=>
   obtain⟨b,off,h1,h2,h3⟩:=hd;refine⟨b,off,h1,.inl h2,λj d hj=>?_⟩
   obtain⟨u,hu,cI⟩:=h3 j d hj;exact⟨u,hu,cI.mono (λ_ h=>.inl h) (λ_ _=>rfl)⟩
  case row id _ _ _=>exact⟨gQ id (by rw[<-hn];exact hd.1),hd.2⟩
  case bt=>exact hd
  case map id=>exact⟨gQ id (by rw[<-hn];exact hd.1),hd.2⟩
  case fn f eG=>
   refine⟨λid hid=>gQ id (by rw[<-hn];exact hd.1 _ (abl.2 ⟨id,hid,rfl⟩)),?_⟩
   rw[hd.2,acf];rfl
  case iJ s e=>
   obtain⟨a,b,c,h1,h2⟩:=hd;rcases s7 with⟨rfl,rfl,rfl⟩|⟨rfl,rfl,rfl⟩
   .cases h1
   .cases h1;exact⟨kZ,i,j,rfl,h2⟩
theorem sZ.KX(hM:aK ρ m w){n:Nat}(gQ:∀i,Y i<m.length->i<n){c c':CC}(h:sZ Y m Z none c c'){v:Value}(hd:bH ρ w none c v):bH (ρ.vw Y Z m n) w none c' v:=
 sZ.lR (kZ:=0) (i:=0) (j:=0) hM gQ (.inl ⟨rfl,rfl,rfl⟩) h (λ_ _ _ h=>by cases h) hd
theorem zu.lR(hM:aK ρ m w){n:Nat}(gQ:∀i,Y i<m.length->i<n){c c':RV}(h:zu Y m Z c c'){v:Value}(hd:ep ρ w c v):ep (ρ.vw Y Z m n) w c' v:=by
 cases h with
 |one h=>exact h.KX hM gQ hd
 |agg hl h=>
  obtain⟨vs,rfl,h1,h2⟩:=hd;refine⟨vs,rfl,h1.trans hl,λi c' hi=>?_⟩
  rename_i cs fg;have ax:i<cs.length:=by rw[hl];exact(Lw.1 hi).1
  obtain⟨u,hu,hd⟩:=h2 i _ (wy ax);exact⟨u,hu,(h i _ _ (wy ax) hi).KX hM gQ hd⟩
theorem sq.lR(hM:aK ρ m w){n:Nat}(gQ:∀i,Y i<m.length->i<n){c c':CV}(h:sq Y m Z c c'){v:Value}(hd:cw ρ w c v):cw (ρ.vw Y Z m n) w c' v:=by
 cases h with
 |aH=>trivial
 |undef=>exact hd
 |rv h=>exact h.lR hM gQ hd
 |bG hl h=>
  obtain⟨vs,rfl,h1,h2⟩:=hd;refine⟨vs,rfl,h1.trans hl,λi c' hi=>?_⟩
  rename_i cs fg;have ax:i<cs.length:=by rw[hl];exact(Lw.1 hi).1
  obtain⟨u,hu,hd⟩:=h2 i _ (wy ax);exact⟨u,hu,(h i _ _ (wy ax) hi).lR hM gQ hd⟩
theorem oC.lR(hM:aK ρ m w){n:Nat}(gQ:∀i,Y i<m.length->i<n){id:Nat}{b b':Bk}(hb:m[Y id]? =some b)(h:oC Y m Z (Y id) b b'):eS (ρ.vw Y Z m n) w id b':=by
 have hd:=hM.bk _ _ hb;cases h with
 | @var cs fg h=>
  obtain⟨cur,hc,hd⟩:=hd;refine⟨cur,hc,λj c' hj=>?_⟩
  obtain⟨c,rG,hv⟩:=h j c' hj;obtain⟨u,hu,cI⟩:=hd j c rG;refine⟨u,hu,?_⟩;cases hv with
  |aH c=>exact cI.one
  |aN=>exact sZ.KX hM gQ (.aN c') cI
  |un=>exact sZ.KX hM gQ .un cI
  |hi kZ e lo uj=>exact sZ.KX hM gQ (.hi kZ e lo uj) cI
  |lo kZ e lo uj=>exact sZ.KX hM gQ (.lo kZ e lo uj) cI
  |dG hf=>exact hf.lR hM (λkZ _ s e he=>by rw[he]at cI;obtain⟨_,_,_,hx,_⟩:=cI;cases hx) cI
 | @row esz es fk hl hs h=>
  obtain⟨h2,h3,h4,h5,cn⟩:=hd;refine⟨hl.symm.trans h2,h3,h4,λfg NB=>?_,λdD=>?_⟩
  .obtain⟨i,hi⟩:=aak NB;have ax:i<es.length:=by rw[hl];exact(Lw.1 hi).1
   rw[<-hs i _ _ (wy ax) hi];exact h5 _ (aaR ax)
  .obtain⟨cur,hc,h1,h6⟩:=cn dD;refine⟨cur,hc,h1,λi fg j c' hi hj=>?_⟩
   have ax:i<es.length:=by rw[hl];exact(Lw.1 hi).1
   have eM:=wy ax;have bQ:j<es[i].length:=by rw[hs i _ _ eM hi];exact(Lw.1 hj).1
   have rG:=wy bQ;obtain⟨u,hu,cI⟩:=h6 _ _ _ _ eM rG;refine⟨u,hu,sZ.lR (kZ:=id) (i:=i) (j:=j) hM gQ (.inr ⟨rfl,rfl,rfl⟩) (h i _ _ j _ _ eM hi rG hj) (λs e he _=>⟨_,_,_,hb,eM,by rw[rG,he]⟩) cI⟩
 | @mp es fk hl h=>
  obtain⟨ae,clock,hc,h1,h2⟩:=hd;refine⟨ae,clock,hc,h1.trans hl,λi e' hi=>?_⟩
  have ax:i<es.length:=by rw[hl];exact(Lw.1 hi).1
  obtain⟨Zz,ZA,hk,zq⟩:=h2 i _ (wy ax);obtain⟨iG,hv⟩:=h i _ _ (wy ax) hi;exact⟨Zz,ZA,hk.trans iG.symm,hv.lR hM gQ zq⟩
theorem wJ{m':Mem}(hM:aK ρ m w)(lv:∀i,i<n0->Y i=i)(uh:∀i j,i<m'.length->j<m'.length->Y i=Y j->i=j)(gQ:∀i,Y i<m.length->i<m'.length)(kR:∀(i:Nat)b',m'[i]? =some b'->b'= .aE\/(¬Z (Y i)/\∃b,m[Y i]? =some b/\oC Y m Z (Y i) b b')):
  aK (ρ.vw Y Z m m'.length) m' w/\VA n0 ρ m (ρ.vw Y Z m m'.length) m'/\∀k,Live (ρ.vw Y Z m m'.length) m' k->Live ρ m (k.aN Y):=by
 have nv:∀{id i j s1 e},gN m' id i j s1 e->¬Z (Y id)/\gN m (Y id) i j s1 e:=by
  rintro id i j s1 e ⟨fk,mQ,fg,uj,eM,rG⟩;rcases kR id _ uj with h|⟨hz,b,hb,hv⟩
  .cases h
  .cases hv with
   | @row _ es _ hl hs h=>
    have ax:i<es.length:=by rw[hl];exact(Lw.1 eM).1
    have hi:=wy ax;have bQ:j<es[i].length:=by rw[hs i _ _ hi eM];exact(Lw.1 rG).1
    have hj:=wy bQ;have hv:=h i _ _ j _ _ hi eM hj rG;have hc:es[i][j]= .iJ s1 e:=by
     generalize es[i][j]=c at hv;cases hv with
     |aN=>rfl
    exact⟨hz,_,_,_,hb,hi,by rw[hj,hc]⟩
 have cZ:∀k,Live (ρ.vw Y Z m m'.length) m' k->¬Z (Y k.id)/\Live ρ m (k.aN Y):=by
  intro k hk;cases k with
  |ay k=>
   obtain⟨b',uj,so,bv⟩:=hk;rcases kR k _ uj with h|⟨hz,b,hb,hv⟩
   .exact absurd h so
   .refine⟨hz,b,hb,?_,?_⟩
    .rintro rfl;cases hv
    .rintro⟨esz,es,rfl⟩;cases hv with
     |row=>exact bv ⟨_,_,rfl⟩
  |sub k i j=>
   obtain⟨⟨esz,e,ho⟩,bv⟩:=hk;exact⟨(nv ho).1,⟨_,_,(nv ho).2⟩,bv⟩
 refine⟨⟨rfl,?_,λk hk=>?_,λk k' hk iG he=>?_,λid b' uj=>?_,λid i j esz e ho bv=>?_⟩,⟨λid hid=>?_,λb h=>.inl h,?_,λk hk=>⟨_,(cZ k hk).2,rfl⟩⟩,λk hk=>(cZ k hk).2⟩
 .rintro b (hb|⟨k,hk,_,rfl⟩)
  .exact hM.S b hb
  .exact(hM.aF k hk).1
 .obtain⟨hz,hl⟩:=cZ k hk;refine⟨(hM.aF _ hl).1,?_⟩;rintro(hb|⟨k0,zw,CZ,he⟩)
  .exact(hM.aF _ hl).2 hb
  .have:=hM.inj k0 (k.aN Y) zw hl he;subst this;apply hz;cases k<;>exact CZ
 .have rH:=hk.gO;have hl2:=iG.gO;have:=hM.inj _ _ (cZ k hk).2 (cZ k' iG).2 he;cases k<;>cases k'<;>simp only[kN.aN,kN.ay.injEq,kN.sub.injEq,kN.id,reduceCtorEq]at this rH hl2
  .rw[uh _ _ rH hl2 this]
  .obtain⟨h1,rfl,rfl⟩:=this;rw[uh _ _ rH hl2 h1]
 .rcases kR id b' uj with rfl|⟨hz,b,hb,hv⟩
  .trivial
  .exact oC.lR hM gQ hb hv
 .obtain⟨cur,hc,h1,h2,h3⟩:=hM.iJ _ _ _ _ _ (nv ho).2 bv;refine⟨cur,hc,h1,h2,λi2 cs j2 d eR k6=>?_⟩
  obtain⟨u,hu,cI⟩:=h3 i2 cs j2 d eR k6;exact⟨u,hu,cI.mono (λ_ h=>.inl h) (λ_ _=>rfl)⟩
 .show ρ.aV (.ay (Y id))=_;rw[lv id hid]
 .rintro b (hb|⟨k,hk,_,he⟩)
  .exact .inl hb
  .exact .inr ⟨k,hk,he⟩
theorem View.mk'{s s':St}(Y:Nat->Nat)(Z:Nat->Prop)(RD:n0<=s'.mem.length)(hlen:s'.aY.length=s.aY.length)(lv:∀i,i<n0->Y i=i)(uh:∀i j,i<s'.mem.length->j<s'.mem.length->Y i=Y j->i=j)(gQ:∀i,Y i<s.mem.length->i<s'.mem.length)(zP:∀(i:Nat)c',s'.aY[i]? =some c'->∃c,s.aY[i]? =some c/\sq Y s.mem Z c c')(kR:∀(i:Nat)b',s'.mem[i]? =some b'->b'= .aE\/(¬Z (Y i)/\∃b,s.mem[Y i]? =some b/\oC Y s.mem Z (Y i) b b')):View n0 s s':=by
 refine⟨RD,hlen,λρ w hM=>?_⟩
 obtain⟨h1,h2,_⟩:=wJ (n0:=n0) (Y:=Y) (Z:=Z) hM lv uh gQ kR;refine⟨_,h1,h2,λi c' hi=>?_⟩
 obtain⟨c,hc,hv⟩:=zP i c' hi;exact⟨c,hc,λv hd=>hv.lR hM gQ hd⟩
end
section
variable {P:Program} {n0:Nat} {Y:Nat->Nat} {Z:Nat->Prop} {ρ:bX} {m:Mem} {w:World}
def sg(l:List Nat)(n:Nat)(i:Nat):Nat:=match dh l i with|some x=>x|none=>n+(i-l.length)
def bc:List Nat->Nat->Bool
 | [],_=>false
 |x::r,k=>Nat.beq x k||bc r k
def gR:List Nat->Bool
 | []=>true
 |x::r=>!(bc r x)&&gR r
def eh(n:Nat):List Nat->Bool
 | []=>true
 |x::r=>Nat.blt x n&&eh n r
def Gn(l:List Nat):Nat->Bool
 |0=>true
 |k+1=>(match dh l k with|some x=>Nat.beq x k|none=>false)&&Gn l k
theorem xN:∀{l:List Nat}{k:Nat},bc l k=true↔k∈l
 | [],k=>by simp[bc]
 |x::r,k=>by
  simp only[bc,acp,abI,xN];constructor
  .rintro(h|h)
   .exact .inl (aa1 h).symm
   .exact .inr h
  .rintro(rfl|h)
   .exact .inl (adU _)
   .exact .inr h
theorem xO:∀{l:List Nat},gR l=true->∀i j:Nat,i<l.length->j<l.length->l[i]? =l[j]? ->i=j
 | [],_,i,j,hi,_,_=>by simp at hi
 |x::r,h,i,j,hi,hj,he=>by
  simp only[gR,aaL,aco]at h;have hx:∀k:Nat,r[k]? ≠some x:=λk hk=>by have:=xN.2 (Vm hk);rw[h.1]at this;cases this
  cases i with
  |zero=>
   cases j with
   |zero=>rfl
   |succ j=>simp at he;exact absurd he.symm (hx j)
  |succ i=>
   cases j with
   |zero=>simp at he;exact absurd he (hx i)
   |succ j=>
    simp at he hi hj;rw[xO h.2 i j hi hj he]
theorem qA{n:Nat}:∀{l:List Nat},eh n l=true->∀x,x∈l->x<n
 | [],_,x,hx=>by simp at hx
 |y::r,h,x,hx=>by
  simp only[eh,aaL]at h;rcases abI.1 hx with rfl|hx
  .exact aav h.1
  .exact qA h.2 x hx
theorem DP{l:List Nat}:∀{k:Nat},Gn l k=true->∀i,i<k->l[i]? =some i
 |0,_,i,hi=>om
 |k+1,h,i,hi=>by
  simp only[Gn,aaL]at h;rcases aax i k with h1|h1
  .exact DP h.2 i h1
  .have:i=k:=om;subst this;rw[<-aW];cases hn:dh l i with
   |none=>rw[hn]at h;simp at h
   |some x=>rw[hn]at h;simp only at h;rw[aa1 h.1]
theorem vL{l:List Nat}{n i:Nat}(h:i<l.length):sg l n i=l[i]:=by simp[sg,aW,wy h]
theorem vM{l:List Nat}{n i:Nat}(h:l.length<=i):sg l n i=n+(i-l.length):=by simp[sg,aW,abj h]
theorem N7{l:List Nat}{n:Nat}(hd:gR l=true)(hl:eh n l=true){i j:Nat}(h:sg l n i=sg l n j):i=j:=by
 rcases aax i l.length with hi|hi<;>rcases aax j l.length with hj|hj
 .rw[vL hi,vL hj]at h;exact xO hd i j hi hj (by rw[wy hi,wy hj,h])
 .rw[vL hi,vM hj]at h;have:=qA hl _ (aaR hi);omega
 .rw[vM hi,vL hj]at h;have:=qA hl _ (aaR hj);omega
 .rw[vM hi,vM hj]at h;omega
def RV.aN(Y:Nat->Nat):RV->RV
 | .one c=>.one (c.aN Y)
 | .agg cs=>.agg (cs.map (CC.aN Y))
def CV.aN(Y:Nat->Nat):CV->CV
 | .rv r=>.rv (r.aN Y)
 | .bG rs=>.bG (rs.map (RV.aN Y))
 | .aH=>.aH
 | .undef=>.undef
def Bk.aN(Y:Nat->Nat):Bk->Bk
 | .aE=>.aE
 | .var cs=>.var (cs.map (CC.aN Y))
 | .row s es=>.row s (es.map λcs=>cs.map (CC.aN Y))
 | .mp es=>.mp (es.map λe=>⟨e.key,e.val.aN Y⟩)
theorem zu.aN(r:RV):zu Y m Z (r.aN Y) r:=by
 cases r with
 |one c=>exact .one (.aN c)
 |agg cs=>
  refine .agg aD λi c c' h h'=>?_
  rw[Qu,h']at h;cases h;exact .aN c'
theorem sq.KY(v:CV):sq Y m Z (v.aN Y) v:=by
 cases v with
 |rv r=>exact .rv (.aN r)
 |bG rs=>
  refine .bG aD λi c c' h h'=>?_
  rw[Qu,h']at h;cases h;exact .aN c'
 |aH=>exact .aH _
 |undef=>exact .undef
theorem sq.aN{v v':CV}(h:v'.aN Y=v):sq Y m Z v v':=h▸ .KY v'
theorem oC.KY{id:Nat}(b:Bk)(hb:b≠.aE):oC Y m Z id (b.aN Y) b:=by
 cases b with
 |aE=>exact absurd rfl hb
 |var cs=>
  refine .var λi c' h=>⟨c'.aN Y,by rw[Qu,h];rfl,.aN c'⟩
 |row s es=>
  refine .row s aD (λi cs fg h h'=>?_) λi cs fg j c c' h h' g g'=>?_
  .rw[Qu,h']at h;cases h;simp
  .rw[Qu,h']at h;cases h;rw[Qu,g']at g;cases g;exact .aN c'
 |mp es=>
  refine .mp aD λi e e' h h'=>?_
  rw[Qu,h']at h;cases h;exact⟨rfl,.aN _⟩
def aa(ds:List (List Dt)):List (List CC):=ds.map λes=>es.map .ai
theorem dk(ds:List (List Dt)):(aa ds).map (λcs=>cs.map (CC.aN Y))=aa ds:=by simp[aa,CC.aN]
theorem Bk.ei(s:Nat)(ds:List (List Dt)):(Bk.row s (aa ds)).aN Y= .row s (aa ds):=by simp only[Bk.aN,dk]
theorem cS.da{p:Option Nat}{id esz:Nat}{ds:List (List Dt)}(hz:Z id)(h:m[id]? =some (.row esz (aa ds)))(lo:Nat)(hi:Option Nat):cS m Z p (.row id esz lo hi) (.sl esz (bA ds lo hi)):=by
 refine .row id esz lo hi _ ds hz h (by simp[aa]) (λi cs es h1 h2=>?_) λi cs es j c d h1 h2 h3 h4=>?_
 .simp only[aa,Qu,h2,aa3,abe]at h1;subst h1;simp
 .simp only[aa,Qu,h2,aa3,abe]at h1;subst h1;simp only[Qu,h4,aa3,abe]at h3;subst h3;exact .ai d
inductive iB(Y:Nat->Nat)(m:Mem)(Z:Nat->Prop):List CV->List CV->Prop
 |nil:iB Y m Z [] []
 |aH {v:CV} {e e':List CV} (h:iB Y m Z e e'):iB Y m Z (v::e) (.aH::e')
 |put {v v':CV} {e e':List CV} (hv:sq Y m Z v v') (h:iB Y m Z e e'):iB Y m Z (v::e) (v'::e')
theorem iB.len{e e':List CV}(h:iB Y m Z e e'):e'.length=e.length:=by
 induction h<;>simp[*]
theorem iB.get{e e':List CV}(h:iB Y m Z e e'):∀(i:Nat)c',e'[i]? =some c'->∃c,e[i]? =some c/\sq Y m Z c c':=by
 induction h with
 |nil=>intro i v h;simp at h
 |aH h ih=>
  intro i v hv;cases i with
  |zero=>simp at hv;subst hv;exact⟨_,rfl,.aH _⟩
  |succ i=>simpa using ih i v (by simpa using hv)
 |put hx h ih=>
  intro i v hv;cases i with
  |zero=>simp at hv;subst hv;exact⟨_,rfl,hx⟩
  |succ i=>simpa using ih i v (by simpa using hv)
theorem iB.eq{v v':CV}{e e':List CV}(hv:v'.aN Y=v)(h:iB Y m Z e e'):iB Y m Z (v::e) (v'::e'):= .put (.aN hv) h
inductive bW(Y:Nat->Nat)(m:Mem)(Z:Nat->Prop):Nat->Mem->Prop
 |nil (k:Nat):bW Y m Z k []
 |aE {k:Nat} {r:Mem} (h:bW Y m Z (k+1) r):bW Y m Z k (.aE::r)
 |put {k:Nat} {b b':Bk} {r:Mem} (hz:¬Z (Y k)) (hb:dh m (Y k)=some b) (hv:oC Y m Z (Y k) b b') (h:bW Y m Z (k+1) r):bW Y m Z k (b'::r)
theorem bW.get{k:Nat}{m':Mem}(h:bW Y m Z k m'):∀(i:Nat)b',m'[i]? =some b'->b'= .aE\/(¬Z (Y (k+i))/\∃b,m[Y (k+i)]? =some b/\oC Y m Z (Y (k+i)) b b'):=by
 induction h with
 |nil k=>intro i b' h;simp at h
 | @aE k r h ih=>
  intro i b' hi;cases i with
  |zero=>simp at hi;exact .inl hi.symm
  |succ i=>
   have:=ih i b' (by simpa using hi)
   rwa [show k+1+i=k+(i+1) by omega]at this
 | @put k b b1 r hz hb hv h ih=>
  intro i b' hi;cases i with
  |zero=>simp at hi;subst hi;exact .inr ⟨hz,_,by rw[<-aW];exact hb,hv⟩
  |succ i=>
   have:=ih i b' (by simpa using hi)
   rwa [show k+1+i=k+(i+1) by omega]at this
theorem View.of{e e':List CV}{m m':Mem}(n:Nat)(l F:List Nat)(hn:m.length=n)(hl:m'.length=l.length)(h0:Nat.ble n0 l.length=true)(hi:Gn l n0=true)(hd:gR l=true)(ha:eh n l=true)(zP:iB (sg l n) m (λk=>bc F k=true) e e')(kR:bW (sg l n) m (λk=>bc F k=true) 0 m'):View n0 ⟨e,m⟩ ⟨e',m'⟩:=by
 have h0':n0<=l.length:=aav h0;refine View.mk' (sg l n) _ (by simp only;omega) zP.len (λi ax=>?_) (λi j _ _ h=>N7 hd ha h) (λi ax=>?_) (λi c' h=>zP.get i c' h) (λi b' h=>by have:=kR.get i b' h;simpa using this)
 .rw[vL om];have:=DP hi i ax;rw[wy om]at this;simpa using this
 .rcases aax i l.length with h|h
  .simp only;omega
  .rw[vM h]at ax;simp only at ax;omega
theorem bK{f:Nat}{args:List CV}{m:Mem}{K0 K:CV->Mem->Prop}(h:ap P f args m K0)(hK:∀r m1,K0 r m1->∃r' m',View m.length ⟨[r],m1⟩ ⟨[r'],m'⟩/\K r' m'):ap P f args m K:=by
 refine⟨h.1,λρ w vs hM hl hd=>?_⟩
 refine(h.2 ρ w vs hM hl hd).mono λe w'⟨v,r,m1,ρ1,he,hk,xL,wI,hx⟩=>?_
 obtain⟨r',m',hv,iG⟩:=hK r m1 hk;obtain⟨U',nA,hc,zq⟩:=hv.go ρ1 w' xL;have hn:=hM.n;refine⟨v,r',m',U',he,iG,nA,?_,⟨by rw[hn,nA.n];exact hv.hn,λid hid=>(hc.aV id (by rw[<-hn];exact hid)).trans (hx.aV id hid),λb hb=>hc.S b (hx.S b hb),λb hb=>?_,λk hk=>?_,hx.frame,hx.size,hx.os,hx.tape,hx.output⟩⟩
 .obtain⟨c,sF,NP⟩:=zq 0 r' rfl;simp at sF;subst sF;exact NP v wI
 .rcases hc.S' b hb with h|⟨k,hk,rfl⟩
  .exact hx.S' b h
  .exact .inr (hx.aF k hk)
 .obtain⟨k0,h0,e0⟩:=hc.aF k hk;rw[<-e0];exact hx.aF k0 h0
def s8(Y:Nat->Nat):Mem->Mem
 | []=>[]
 |b::r=>b.aN Y::s8 Y r
theorem B0(Y:Nat->Nat):∀m,s8 Y m=m.map (Bk.aN Y)
 | []=>rfl
 |b::r=>by simp[s8,B0 Y r]
def dt:Mem->List Nat->Mem->Mem
 |m,[],ms=>fT m ms
 |m,_::_,[]=>m
 |m,id::l,b::ms=>dt (aX m id b) l ms
theorem AJ:∀(l:List Nat)(m ms:Mem),l.length<=ms.length->(dt m l ms).length=m.length+(ms.length-l.length)
 | [],m,ms,_=>by simp[dt,cf]
 |_::l,m,[],h=>by simp at h
 |id::l,m,b::ms,h=>by simp at h;rw[dt,AJ l _ _ h,bh];simp
theorem uv:∀(l:List Nat)(m ms:Mem)(j:Nat),j<m.length->j∉l->(dt m l ms)[j]? =m[j]?
 | [],m,ms,j,hj,_=>by simp[dt,cf,aaW hj]
 |_::l,m,[],j,_,_=>by simp[dt]
 |id::l,m,b::ms,j,hj,hn=>by
  simp at hn;rw[dt,uv l _ _ j (by rw[bh];simpa using hj) hn.2,bh,aam (λh=>hn.1 h.symm)]
theorem AK:∀(l:List Nat)(m ms:Mem),gR l=true->eh m.length l=true->l.length<=ms.length->∀(i:Nat),i<ms.length->(dt m l ms)[sg l m.length i]? =ms[i]?
 | [],m,ms,_,_,_,i,hi=>by simp only[dt,cf,sg,dh,abO,acY];rw[aaS om];simp
 |_::l,m,[],_,_,h,_,_=>by simp at h
 |id::l,m,b::ms,hd,ha,h,i,hi=>by
  simp only[gR,aaL,aco]at hd;simp only[eh,aaL]at ha;simp at h hi;have hlen:(aX m id b).length=m.length:=by rw[bh];simp
  have hid:id<m.length:=aav ha.1;cases i with
  |zero=>
   rw[dt];show(dt (aX m id b) l ms)[id]? =some b;rw[uv l _ _ id (by rw[hlen];exact hid) (λh=>by rw[xN.2 h]at hd;cases hd.1),bh]
   simp[hid]
  |succ i=>
   have:=AK l (aX m id b) ms hd.2 (by rw[hlen];exact ha.2) h i om
   rw[hlen]at this;rw[dt];have e:sg (id::l) m.length (i+1)=sg l m.length i:=by simp[sg,dh]
   rw[e,this];simp
theorem bH.pos{ρ:bX}{w:World}{pos pos':Option (Nat×Nat×Nat)}{c:CC}{v:Value}(hc:∀s e,c≠.iJ s e)(h:bH ρ w pos c v):bH ρ w pos' c v:=by
 cases c<;>simp only[bH]at h|-
 case iJ=>exact absurd rfl (hc _ _)
 all_goals exact h
theorem bH.adA{ρ U':bX}{w:World}{pos:Option (Nat×Nat×Nat)}(hn:ρ.n<=U'.n)(cV:∀id,id<ρ.n->U'.aV (.ay id)=ρ.aV (.ay id))(ui:∀id i j,pos=some (id,i,j)->U'.aV (.sub id i j)=ρ.aV (.sub id i j))(hS:∀b,ρ.S b->U'.S b){w':World}(mP:∀b,ρ.S b->w'.heap[b]? =w.heap[b]?){c:CC}{v:Value}(h:bH ρ w pos c v):bH U' w' pos c v:=by
 let ρ1:bX:={n:=U'.n,aV:=λk=>match k with| .ay id=>U'.aV (.ay id)|k=>ρ.aV k,S:=U'.S}
 have g:jC ρ w ρ1 w':=⟨hn,λk hk=>by
  cases k with
  |ay id=>exact cV id hk
  |sub id i j=>rfl,hS,mP⟩
 by_cases hc:∃s e,c= .iJ s e
 .obtain⟨esz,elems,rfl⟩:=hc;obtain⟨id,i,j,dD,hr⟩:=h;refine⟨id,i,j,dD,?_⟩;rw[ui id i j dD];exact hr
 .have hc:∀s e,c≠.iJ s e:=λs e h=>hc ⟨s,e,h⟩
  have h1:=bH.pos (pos':=pos) hc (bH.cY g aD (bH.pos (pos':=none) hc h));cases c<;>simp only[bH]at h1|-
  case iJ=>exact absurd rfl (hc _ _)
  all_goals exact h1
theorem bH.aN{ρ U':bX}{τ:Nat->Nat}{w:World}{pos pos':Option (Nat×Nat×Nat)}(hτ:∀i,i<ρ.n->τ i<U'.n)(ik:∀i,i<ρ.n->U'.aV (.ay (τ i))=ρ.aV (.ay i))(hS:∀b,ρ.S b->U'.S b)(dD:∀id i j,pos=some (id,i,j)->pos'=some (τ id,i,j)/\U'.aV (.sub (τ id) i j)=ρ.aV (.sub id i j)){c:CC}{v:Value}(h:bH ρ w pos c v):bH U' w pos' (c.aN τ) v:=by
 cases c<;>simp only[bH,CC.aN]at h|-
 case aH=>exact h
 case ai=>exact h.mono hS (λ_ _=>rfl)
 case ptr id _=>rw[ik id h.1];exact⟨hτ id h.1,h.2⟩
 case oq id _ _ _=>rw[ik id h.1];exact⟨hτ id h.1,h.2⟩
 case sr=>
  obtain⟨b,off,h1,h2,h3⟩:=h;refine⟨b,off,h1,hS _ h2,λj d hj=>?_⟩
  obtain⟨u,hu,cI⟩:=h3 j d hj;exact⟨u,hu,cI.mono hS (λ_ _=>rfl)⟩
 case row id _ _ _=>rw[ik id h.1];exact⟨hτ id h.1,h.2⟩
 case bt=>exact h
 case map id=>rw[ik id h.1];exact⟨hτ id h.1,h.2⟩
 case fn f eG=>
  refine⟨λid hid=>?_,?_⟩
  .obtain⟨i,hi,rfl⟩:=abl.1 hid;exact hτ i (h.1 i hi)
  .rw[h.2];congr 2;rw[acf];exact acE λid hid=>by simp only[Function.comp];rw[ik id (h.1 id hid)]
 case iJ s e=>
  obtain⟨a,b,c,h1,h2⟩:=h;obtain⟨h3,h4⟩:=dD a b c h1;refine⟨τ a,b,c,h3,?_⟩;rw[h4];exact h2
theorem ep.aN{ρ U':bX}{τ:Nat->Nat}{w:World}(hτ:∀i,i<ρ.n->τ i<U'.n)(ik:∀i,i<ρ.n->U'.aV (.ay (τ i))=ρ.aV (.ay i))(hS:∀b,ρ.S b->U'.S b){c:RV}{v:Value}(h:ep ρ w c v):ep U' w (c.aN τ) v:=by
 cases c with
 |one c=>exact bH.aN hτ ik hS (λ_ _ _ h=>by cases h) h
 |agg cs=>
  obtain⟨vs,rfl,h1,h2⟩:=h;refine⟨vs,rfl,by simpa using h1,λi c hi=>?_⟩
  rw[Qu]at hi;obtain⟨c0,h0,rfl⟩:=abA.1 hi;obtain⟨u,hu,hd⟩:=h2 i c0 h0;exact⟨u,hu,bH.aN hτ ik hS (λ_ _ _ h=>by cases h) hd⟩
theorem cw.aN{ρ U':bX}{τ:Nat->Nat}{w:World}(hτ:∀i,i<ρ.n->τ i<U'.n)(ik:∀i,i<ρ.n->U'.aV (.ay (τ i))=ρ.aV (.ay i))(hS:∀b,ρ.S b->U'.S b){c:CV}{v:Value}(h:cw ρ w c v):cw U' w (c.aN τ) v:=by
 cases c with
 |aH=>trivial
 |undef=>exact h
 |rv r=>exact ep.aN hτ ik hS h
 |bG cs=>
  obtain⟨vs,rfl,h1,h2⟩:=h;refine⟨vs,rfl,by simpa using h1,λi c hi=>?_⟩
  rw[Qu]at hi;obtain⟨c0,h0,rfl⟩:=abA.1 hi;obtain⟨u,hu,hd⟩:=h2 i c0 h0;exact⟨u,hu,ep.aN hτ ik hS hd⟩
theorem eS.aN{ρ U':bX}{τ:Nat->Nat}{w:World}(hτ:∀i,i<ρ.n->τ i<U'.n)(ik:∀i,i<ρ.n->U'.aV (.ay (τ i))=ρ.aV (.ay i))(hS:∀b,ρ.S b->U'.S b){id:Nat}(hid:id<ρ.n)(ui:∀i j,U'.aV (.sub (τ id) i j)=ρ.aV (.sub id i j)){b:Bk}(h:eS ρ w id b):eS U' w (τ id) (b.aN τ):=by
 cases b with
 |aE=>trivial
 |var cs=>
  obtain⟨cur,hc,hd⟩:=h;simp only[Bk.aN,eS,ik id hid];refine⟨cur,hc,λj c hj=>?_⟩
  rw[Qu]at hj;obtain⟨c0,h0,rfl⟩:=abA.1 hj;obtain⟨u,hu,cI⟩:=hd j c0 h0;exact⟨u,hu,bH.aN hτ ik hS (λ_ _ _ h=>by cases h) cI⟩
 |row s es=>
  obtain⟨h2,h3,h4,h5,cn⟩:=h;simp only[Bk.aN,eS,ik id hid];refine⟨by simpa using h2,h3,h4,λcs fA=>?_,λdD=>?_⟩
  .obtain⟨C6,h0,rfl⟩:=abl.1 fA;simpa using h5 C6 h0
  .obtain⟨cur,hc,h1,h6⟩:=cn dD;refine⟨cur,hc,h1,λi cs j c hi hj=>?_⟩
   rw[Qu]at hi;obtain⟨C6,h0,rfl⟩:=abA.1 hi;rw[Qu]at hj;obtain⟨c0,h00,rfl⟩:=abA.1 hj;obtain⟨u,hu,cI⟩:=h6 i C6 j c0 h0 h00;exact⟨u,hu,bH.aN hτ ik hS (λa b c h=>by cases h;exact⟨rfl,ui _ _⟩) cI⟩
 |mp es=>
  obtain⟨ae,clock,hc,h1,h2⟩:=h;simp only[Bk.aN,eS,ik id hid];refine⟨ae,clock,hc,by simpa using h1,λi e hi=>?_⟩
  rw[Qu]at hi;obtain⟨e0,h0,rfl⟩:=abA.1 hi;obtain⟨Zz,ZA,hk,zq⟩:=h2 i e0 h0;exact⟨Zz,ZA,hk,ep.aN hτ ik hS zq⟩
end
section
variable {P:Program}
theorem Gp{l:List Nat}{n i:Nat}(hi:sg l n i<n):i<l.length:=by
 rcases aax i l.length with h|h
 .exact h
 .rw[vM h]at hi;omega
theorem be{f:Nat}{args args0:List CV}{m m0:Mem}{K0 K:CV->Mem->Prop}(l:List Nat)(n:Nat)(hn:m.length=n)(hl:m0.length=l.length)(hd:gR l=true)(ha:eh n l=true)(dR:args=args0.map (CV.aN (sg l n)))(hm:∀(i:Nat)b',m0[i]? =some b'->b'= .aE\/(¬False/\∃b,m[sg l n i]? =some b/\oC (sg l n) m (λ_=>False) (sg l n i) b b'))(h:ap P f args0 m0 K0)(hK:∀r m1,K0 r m1->l.length<=m1.length/\K (r.aN (sg l n)) (dt m l (s8 (sg l n) m1))):ap P f args m K:=by
 subst hn;refine⟨h.1,λρ w vs hM vz ZB=>?_⟩
 have uh:∀i j,sg l m.length i=sg l m.length j->i=j:=λi j h=>N7 hd ha h
 obtain⟨mC,hC0,VZ⟩:=wJ (n0:=0) (Y:=sg l m.length) (Z:=λ_=>False) (m':=m0) hM (λi h=>absurd h (abE i)) (λi j _ _ h=>uh i j h) (λi h=>by rw[hl];exact Gp h) hm
 have hS0:∀b,(ρ.vw (sg l m.length) (λ_=>False) m m0.length).S b↔ρ.S b:=λb=>⟨λh=>h.elim id λ⟨k,_,hf,_⟩=>hf.elim,.inl⟩
 have k8:ρ.n=m.length:=hM.n;refine(h.2 _ w vs mC (by rw[vz,dR];simp) λi c hi=>?_).mono λe w'⟨v,r,m1,ρ1,he,hk,xL,wI,hx⟩=>?_
 .obtain⟨v,hv,zq⟩:=ZB i (c.aN (sg l m.length)) (by rw[dR,Qu,hi];rfl)
  exact⟨v,hv,sq.lR hM (λi h=>by rw[hl];exact Gp h) (.KY c) zq⟩
 .obtain⟨hle,iG⟩:=hK r m1 hk;have po:ρ1.n=m1.length:=xL.n;let back:Nat->Option Nat:=λj=>(List.range m1.length).find? λi=>sg l m.length i==j
  have lI:∀{j i},back j=some i->i<m1.length/\sg l m.length i=j:=by
   intro j i hb;have h1:=List.mem_of_find?_eq_some hb;have h2:=List.find?_some hb;exact⟨by simpa using h1,by simpa using h2⟩
  have IZ:∀{i},i<m1.length->back (sg l m.length i)=some i:=by
   intro i hi;cases hb:back (sg l m.length i)with
   |none=>
    have:=aey.1 hb i (by simpa using hi)
    simp at this
   |some j=>rw[uh _ _ (lI hb).2]
  have qB:∀{j},j<m.length+(m1.length-l.length)->back j=none->j<m.length/\j∉l:=by
   intro j hj hb;have kj:=aey.1 hb;refine⟨?_,λf4=>?_⟩
   .rcases aax j m.length with h|h
    .exact h
    .have:=kj (l.length+(j-m.length)) (by simp;omega)
     rw[vM om]at this;simp at this;omega
   .obtain⟨i,hi⟩:=aak f4;obtain⟨ax,rfl⟩:=Lw.1 hi;have:=kj i (by simp;omega)
    rw[vL ax]at this;simp at this
  let U':bX:={n:=m.length+(m1.length-l.length),aV:=λk=>match back k.id with
   |some i=>(match k with| .ay _=>ρ1.aV (.ay i)| .sub _ a b=>ρ1.aV (.sub i a b))
   |none=>ρ.aV k,S:=ρ1.S}
  have R5:∀i,i<ρ1.n->U'.aV (.ay (sg l m.length i))=ρ1.aV (.ay i):=by intro i hi;rw[po]at hi;simp only[U',kN.id,IZ hi]
  have V0:∀i a b,i<ρ1.n->U'.aV (.sub (sg l m.length i) a b)=ρ1.aV (.sub i a b):=by intro i a b hi;rw[po]at hi;simp only[U',kN.id,IZ hi]
  have KZ:∀k:kN,back k.id=none->U'.aV k=ρ.aV k:=by intro k hb;simp only[U',hb]
  have N8:∀id,id<ρ.n->U'.aV (.ay id)=ρ.aV (.ay id):=by
   intro id hid;cases hb:back id with
   |none=>exact KZ (.ay id) hb
   |some i=>
    obtain⟨h1,h2⟩:=lI hb;have hi:i<l.length:=Gp (by rw[h2,<-k8];exact hid)
    rw[<-h2,R5 i (by rw[po];exact h1),hx.aV i (by show i<m0.length;omega)]
    rfl
  have uk:∀i,i<ρ1.n->sg l m.length i<U'.n:=by
   intro i hi;rw[po]at hi;show _<m.length+(m1.length-l.length);rcases aax i l.length with h|h
   .rw[vL h];have:=qA ha _ (aaR h);omega
   .rw[vM h];omega
  have I0:(s8 (sg l m.length) m1).length=m1.length:=by rw[B0];simp
  have zx:(dt m l (s8 (sg l m.length) m1)).length=m.length+(m1.length-l.length):=by
   rw[AJ l m _ (by rw[I0];exact hle),I0]
  have hwn:∀i,i<m1.length->(dt m l (s8 (sg l m.length) m1))[sg l m.length i]? =(m1[i]?).map (Bk.aN (sg l m.length)):=by
   intro i hi;rw[AK l m _ hd ha (by rw[I0];exact hle) i (by rw[I0];exact hi),B0,Qu]
  have hwo:∀j,back j=none->j<m.length+(m1.length-l.length)->(dt m l (s8 (sg l m.length) m1))[j]? =m[j]? :=by intro j hb hj;obtain⟨h1,h2⟩:=qB hj hb;exact uv l m _ j h1 h2
  have tZ:∀k,Live ρ m k->(k.id<m.length->k.id∉l)->(∀k0,Live (ρ.vw (sg l m.length) (λ_=>False) m m0.length) m0 k0->((ρ.vw (sg l m.length) (λ_=>False) m m0.length).aV k0).b≠(ρ.aV k).b):=by
   intro k hk N9 k0 zw he;have h1:=VZ k0 zw;have h2:=hM.inj _ _ h1 hk he;have h3:=zw.gO;rw[hl]at h3;apply N9 hk.gO;rw[<-h2];cases k0<;>simp only[kN.aN,kN.id]at h3|-<;>rw[vL h3]<;>exact aaR h3
  have mP:∀k,Live ρ m k->(k.id<m.length->k.id∉l)->w'.heap[(ρ.aV k).b]? =w.heap[(ρ.aV k).b]? :=λk hk N9=>hx.frame _ (hM.aF k hk).1 (tZ k hk N9)
  have BG:∀b,ρ.S b->w'.heap[b]? =w.heap[b]? :=λb hb=>hx.frame b (hM.S b hb) λk hk he=>(mC.aF k hk).2 (he▸(hS0 b).2 hb)
  have hSS:∀b,ρ.S b->ρ1.S b:=λb hb=>hx.S b ((hS0 b).2 hb)
  have ZC:∀k,Live ρ m k->(k.id<m.length->k.id∉l)->¬ρ1.S (ρ.aV k).b:=by
   intro k hk N9 hs;rcases hx.S' _ hs with h|h|⟨k0,zw,he⟩
   .exact(hM.aF k hk).2 ((hS0 _).1 h)
   .have:=(hM.aF k hk).1;omega
   .exact tZ k hk N9 k0 zw he
  have pf:∀k,Live U' (dt m l (s8 (sg l m.length) m1)) k->(∃k1,k1.id<m1.length/\k=k1.aN (sg l m.length)/\Live ρ1 m1 k1/\U'.aV k=ρ1.aV k1)\/(back k.id=none/\k.id<m.length/\k.id∉l/\Live ρ m k/\U'.aV k=ρ.aV k):=by
   intro k hk;have ax:=hk.gO;rw[zx]at ax;cases hb:back k.id with
   |none=>
    obtain⟨h1,h2⟩:=qB ax hb;have V1:=hwo k.id hb ax;refine .inr ⟨rfl,h1,h2,?_,KZ k hb⟩;have cV:=KZ k hb;cases k with
    |ay id=>
     obtain⟨bk,gv,so,bv⟩:=hk;simp only[kN.id]at V1;rw[V1]at gv;rw[cV]at bv;exact⟨bk,gv,so,bv⟩
    |sub id a b=>
     obtain⟨⟨s,e,es,rows,cs,gv,hi,hj⟩,bv⟩:=hk;simp only[kN.id]at V1;rw[V1]at gv;rw[cV]at bv;exact⟨⟨s,e,es,rows,cs,gv,hi,hj⟩,bv⟩
   |some i=>
    obtain⟨h1,h2⟩:=lI hb;have V1:=hwn i h1;cases k with
    |ay id=>
     simp only[kN.id]at h2;subst h2;have cV:=R5 i (by rw[po];exact h1)
     refine .inl ⟨.ay i,h1,rfl,?_,cV⟩;obtain⟨bk,gv,so,bv⟩:=hk;rw[V1]at gv;obtain⟨b0,h0,rfl⟩:=abA.1 gv;rw[cV]at bv;refine⟨b0,h0,?_,?_⟩
     .rintro rfl;exact so rfl
     .rintro⟨s,es,rfl⟩;exact bv ⟨_,_,rfl⟩
    |sub id a b=>
     simp only[kN.id]at h2;subst h2;have cV:=V0 i a b (by rw[po];exact h1)
     refine .inl ⟨.sub i a b,h1,rfl,?_,cV⟩;obtain⟨⟨s,e,es,rows,cs,gv,hi,hj⟩,bv⟩:=hk;rw[V1]at gv;obtain⟨b0,h0,vg⟩:=abA.1 gv;rw[cV]at bv;cases b0 with
     |row s0 es0=>
      simp only[Bk.aN,Bk.row.injEq]at vg;obtain⟨rfl,rfl⟩:=vg;rw[Qu]at hi;obtain⟨C6,sj,rfl⟩:=abA.1 hi;rw[Qu]at hj;obtain⟨c0,hj0,IJ⟩:=abA.1 hj;have:c0= .iJ s e:=by cases c0<;>simp[CC.aN]at IJ|-;exact IJ
      subst this;exact⟨⟨s,e,_,_,_,h0,sj,hj0⟩,bv⟩
     |_=>simp[Bk.aN]at vg
  have adE:∀{j i},back j=some i->i<ρ1.n/\sg l m.length i=j:=λhb=>by rw[po];exact lI hb
  refine⟨v,r.aN (sg l m.length),dt m l (s8 (sg l m.length) m1),U',he,iG,⟨zx.symm,λb hb=>xL.S b hb,λk hk=>?_,λk k' hk lS oD=>?_,λid b hb=>?_,λid i j esz e ho bv=>?_⟩,cw.aN uk R5 (λ_ h=>h) wI,
   ⟨by show ρ.n<=_;rw[k8];exact Nat.le_add_right _ _,N8,hSS,λb hb=>?_,λk hk=>?_,λb hb Yd=>hx.frame b hb λk hk he=>Yd _ (VZ k hk) he,hx.size,hx.os,hx.tape,hx.output⟩⟩
  .rcases pf k hk with⟨k1,_,_,k7,cV⟩|⟨_,h1,h2,k7,cV⟩
   .rw[cV];exact xL.aF k1 k7
   .rw[cV];exact⟨abL (hM.aF k k7).1 hx.size,ZC k k7 λ_=>h2⟩
  .have mixed:∀k1 k2,Live ρ1 m1 k1->Live ρ m k2->k2.id∉l->(ρ1.aV k1).b≠(ρ.aV k2).b:=by
    intro k1 k2 k7 lS adF pb;rcases hx.aF k1 k7 with h|⟨k0,zw,e0⟩
    .have:=(hM.aF k2 lS).1;omega
    .exact tZ k2 lS (λ_=>adF) k0 zw (e0.trans pb)
   rcases pf k hk with⟨k1,_,rfl,k7,cV⟩|⟨_,h1,h2,k7,cV⟩<;>rcases pf k' lS with⟨k1',_,rfl,Oa,kI⟩|⟨_,R6,UH,Oa,kI⟩
   .rw[cV,kI]at oD;rw[xL.inj k1 k1' k7 Oa oD]
   .rw[cV,kI]at oD;exact absurd oD (mixed k1 k' k7 Oa UH)
   .rw[cV,kI]at oD;exact absurd oD.symm (mixed k1' k Oa k7 h2)
   .rw[cV,kI]at oD;exact hM.inj k k' k7 Oa oD
  .have ax:id<m.length+(m1.length-l.length):=by rw[<-zx];exact(Lw.1 hb).1
   cases gv:back id with
   |some i=>
    obtain⟨h1,rfl⟩:=lI gv;rw[hwn i h1]at hb;obtain⟨b0,h0,rfl⟩:=abA.1 hb;exact eS.aN uk R5 (λ_ h=>h) (by rw[po];exact h1) (λa b=>V0 i a b (by rw[po];exact h1)) (xL.bk i b0 h0)
   |none=>
    obtain⟨h1,h2⟩:=qB ax gv;rw[hwo id gv ax]at hb;have xz:=hM.bk id b hb;have cV:U'.aV (.ay id)=ρ.aV (.ay id):=KZ (.ay id) gv;have ef:ρ.n<=U'.n:=by rw[k8];exact Nat.le_add_right _ _
    have kF:∀{p c u},(∀a i j,p=some (a,i,j)->a=id)->bH ρ w p c u->bH U' w' p c u:=λ{p c u}hp hd=>bH.adA ef N8 (λa i j vy=>by rw[hp a i j vy];exact KZ (.sub id i j) gv) hSS BG hd
    have kH:∀{c u},ep ρ w c u->ep U' w' c u:=by
     intro c u hd;cases c with
     |one c=>exact kF (λ_ _ _ h=>by cases h) hd
     |agg cs=>
      obtain⟨vs,hv,Du,hc⟩:=hd;exact⟨vs,hv,Du,λi c hi=>let⟨u,hu,hd⟩:=hc i c hi;⟨u,hu,kF (λ_ _ _ h=>by cases h) hd⟩⟩
    have hh:b≠.aE->((∃esz elems,b= .row esz elems)->0<(ρ.aV (.ay id)).cap)->w'.heap[(ρ.aV (.ay id)).b]? =w.heap[(ρ.aV (.ay id)).b]? :=λso bv=>mP (.ay id) ⟨b,hb,so,bv⟩ λ_=>h2
    cases b with
    |aE=>trivial
    |var cs=>
     obtain⟨cur,hc,BP⟩:=xz;simp only[eS,cV];refine⟨cur,hc.cO (hh aD (by rintro⟨_,_,h⟩;cases h)),λj c hj=>?_⟩
     obtain⟨u,hu,cI⟩:=BP j c hj;exact⟨u,hu,kF (λ_ _ _ h=>by cases h) cI⟩
    |row esz elems=>
     obtain⟨g2,g3,g4,g5,cn⟩:=xz;simp only[eS,cV];refine⟨g2,g3,g4,g5,λdD=>?_⟩
     obtain⟨cur,hc,q1,q6⟩:=cn dD;refine⟨cur,hc.cO (hh aD (λ_=>dD)),q1,λi cs j c hi hj=>?_⟩
     obtain⟨u,hu,cI⟩:=q6 i cs j c hi hj;exact⟨u,hu,kF (λ_ _ _ h=>by cases h;rfl) cI⟩
    |mp es=>
     obtain⟨ae,clock,hc,q1,q2⟩:=xz;simp only[eS,cV];refine⟨ae,clock,(hh aD (by rintro⟨_,_,h⟩;cases h)).trans hc,q1,λi e hi=>?_⟩
     obtain⟨Zz,ZA,Ft,zq⟩:=q2 i e hi;exact⟨Zz,ZA,Ft,kH zq⟩
  .have hk:Live U' (dt m l (s8 (sg l m.length) m1)) (.sub id i j):=⟨⟨_,_,ho⟩,bv⟩;obtain⟨es,rows,cs,hb,hi,hj⟩:=ho;have ax:id<m.length+(m1.length-l.length):=by rw[<-zx];exact(Lw.1 hb).1
   cases gv:back id with
   |some i0=>
    obtain⟨h1,rfl⟩:=lI gv;have cV:=V0 i0 i j (by rw[po];exact h1)
    rw[cV]at bv|-;rw[hwn i0 h1]at hb;obtain⟨b0,h0,vg⟩:=abA.1 hb;cases b0 with
    |row s0 es0=>
     simp only[Bk.aN,Bk.row.injEq]at vg;obtain⟨rfl,rfl⟩:=vg;rw[Qu]at hi;obtain⟨C6,sj,rfl⟩:=abA.1 hi;rw[Qu]at hj;obtain⟨c0,hj0,IJ⟩:=abA.1 hj;have:c0= .iJ esz e:=by cases c0<;>simp[CC.aN]at IJ|-;exact IJ
     subst this;exact xL.iJ i0 i j esz e ⟨_,_,_,h0,sj,hj0⟩ bv
    |_=>simp[Bk.aN]at vg
   |none=>
    obtain⟨h1,h2⟩:=qB ax gv;have cV:=KZ (.sub id i j) gv;rw[cV]at bv|-;rw[hwo id gv ax]at hb;have nv:gN m id i j esz e:=⟨_,_,_,hb,hi,hj⟩;obtain⟨cur,hc,q1,q2,q3⟩:=hM.iJ id i j esz e nv bv;refine⟨cur,hc.cO (mP (.sub id i j) ⟨⟨_,_,nv⟩,bv⟩ λ_=>h2),q1,q2,λi2 Q0 j2 d eR k6=>?_⟩
    obtain⟨u,hu,cI⟩:=q3 i2 Q0 j2 d eR k6;exact⟨u,hu,cI.mono hSS BG⟩
  .rcases hx.S' b hb with h|h|⟨k0,zw,he⟩
   .exact .inl ((hS0 b).1 h)
   .exact .inr (.inl h)
   .exact .inr (.inr ⟨_,VZ k0 zw,he⟩)
  .rcases pf k hk with⟨k1,_,_,k7,cV⟩|⟨_,h1,h2,k7,cV⟩
   .rw[cV];rcases hx.aF k1 k7 with h|⟨k0,zw,e0⟩
    .exact .inl h
    .exact .inr ⟨_,VZ k0 zw,e0⟩
   .rw[cV];exact .inr ⟨k,k7,rfl⟩
end
end Go.AM
