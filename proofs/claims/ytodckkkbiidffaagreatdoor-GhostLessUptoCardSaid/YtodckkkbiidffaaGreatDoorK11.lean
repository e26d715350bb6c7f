/- Part 11 of 16. -/
import Derived.Test.YtodckkkbiidffaaGreatDoorK09
import Derived.Test.YtodckkkbiidffaaGreatDoorK10
import Derived.Carry
import Derived.ProofKit
set_option linter.unusedVariables false
set_option linter.unusedSimpArgs false
set_option maxRecDepth 100000
set_option maxHeartbeats 0
namespace Go.AM
open Go.ChangeShapes Go.WideShapes Go.ChangeAt Go.RowKit
section
variable {H:Type} {enc:TypeId×Value->H} {P:Program} {W:World}
theorem Uu{aq:Nat}{t:TypeId}{v:Value}{agg:Bool}(ha:ec P t=some agg){d:Nat}{ls:List Lf}(hl:oZ P d t=some ls)(fC:Value.okWide P W .any aq t v):
  (agg=true->∃vs,v= .agg vs)/\(agg=false->v.oneCell'=true):=by
 cases d with
 |zero=>simp[oZ]at hl
 |succ d=>
  simp only[oZ]at hl;unfold ec at ha;unfold Value.okWide at fC;split at hl
  .rename_i ht;rw[ht]at ha fC;simp at ha;subst ha;refine⟨aE,λ_=>?_⟩
   simp only[Cell.okWide,ht,Cell.ok]at fC;cases v<;>simp_all[Value.oneCell']
  .rename_i k ht;rw[ht]at ha fC;simp at ha;subst ha;refine⟨aE,λ_=>?_⟩
   simp only[Cell.okWide,ht,Cell.ok]at fC;cases v<;>simp_all[Value.oneCell']
  .rename_i ht;rw[ht]at ha fC;simp at ha;subst ha;refine⟨aE,λ_=>?_⟩
   simp only[Cell.okWide,ht,Cell.ok]at fC;cases v<;>simp_all[Value.oneCell']
  .rename_i e ht;rw[ht]at ha fC;simp at ha;subst ha;refine⟨aE,λ_=>?_⟩
   simp only[Cell.okWide,ht,Cell.ok]at fC;cases v<;>simp_all[Value.oneCell']
  .rename_i fs ht;rw[ht]at ha fC;simp at ha;subst ha;obtain⟨cs,rfl,_⟩:=fC;exact⟨λ_=>⟨cs,rfl⟩,aE⟩
  .rename_i n e ht;rw[ht]at ha fC;simp at ha;subst ha;obtain⟨cs,rfl,_⟩:=fC;exact⟨λ_=>⟨cs,rfl⟩,aE⟩
  .cases hl
structure Sh where
 agg:Bool
 ls:List Lf
def JP(P:Program):List TypeId->Option (List Sh)
 | []=>some []
 |t::r=>match ec P t,oZ P 12 t,JP P r with
  |some a,some ls,some r=>some (⟨a,ls⟩::r)
  |_,_,_=>none
inductive zT:List Sh->List (List Dt)->Prop
 |nil:zT [] []
 |cons {s:Sh} {ds:List Dt} {r:List Sh} {l:List (List Dt)} (h:iO s.ls ds) (hr:zT r l):zT (s::r) (ds::l)
def sr:List Sh->List (List Dt)->List CV
 |s::r,ds::l=>XF s.agg ds::sr r l
 |_,_=>[]
theorem zU(bk:QH H){aq b2:Nat}:∀(ts:List TypeId)(vs:List Value)(dw:List (DataW H))(ps:List MemPlace)(M7:List Sh),JP P ts=some M7->DataW.TrodAll enc P W aq (λ_=>true) true ts vs dw ps->
  (∀(j:Nat)t v,ts[j]? =some t->vs[j]? =some v->Value.okWide P W .any b2 t v)->
  ∃rd,zT M7 rd/\vs.length=(sr M7 rd).length/\(∀(i:Nat)c,(sr M7 rd)[i]? =some c->∃v,vs[i]? =some v/\ce (JN W) W c v)/\Dt.dM rd<=l4 bk.f dw
 | [],[],[],ps,M7,hs,h,fC=>by
  simp[JP]at hs;subst hs;exact⟨[],.nil,rfl,by simp[sr],by simp[Dt.dM]⟩
 | [],_::_,_,_,_,_,h,_=>by cases h
 | [],[],_::_,_,_,_,h,_=>by cases h
 |_::_,[],_,_,_,_,h,_=>by cases h
 |_::_,_::_,[],_,_,_,h,_=>by cases h
 |t::ts,v::vs,d::dw,ps,M7,hs,h,fC=>by
  obtain⟨p,q,⟨fuel,h1⟩,h2,_⟩:=h;simp only[JP]at hs;split at hs
  .rename_i a ls r ha hl hr;cases hs;obtain⟨ds,f1,r1,s1⟩:=FJ bk 12 t ls hl fuel _ _ h1;obtain⟨rd,f2,l2,d2,s2⟩:=zU bk ts vs dw q r hr h2 λj t' v' ht hv=>fC (j+1) t' v' (by simpa using ht) (by simpa using hv)
   obtain⟨g1,g2⟩:=Uu ha hl (fC 0 t v rfl rfl);refine⟨ds::rd,.cons f1 f2,by simp[sr,l2],λi c hi=>?_,by simp only[Dt.dM,l4];simp only at s1;omega⟩
   cases i with
   |zero=>
    simp[sr]at hi;subst hi;exact⟨v,rfl,M6 r1 g1 g2⟩
   |succ i=>simpa using d2 i c (by simpa[sr]using hi)
  .cases hs
theorem zV(hl:laidOutB P=true){W':World}(hb:Below W.heap.size W W'):∀(ts:List TypeId)(vs:List Value)(dw:List (DataW H))(ps:List MemPlace),(ts.all λt=>P.readableRec t&&decide (t<P.types.size))=true->
  DataW.TrodAll enc P W 0 (λ_=>true) true ts vs dw ps->(∀x,x∈ps->x.block<W.heap.size)->DataW.TrodAll enc P W' 0 (λb=>decide (b<W.heap.size)) true ts vs dw ps
 | [],[],[],_,_,h,_=>h
 | [],_::_,_,_,_,h,_=>by cases h
 | [],[],_::_,_,_,h,_=>by cases h
 |_::_,[],_,_,_,h,_=>by cases h
 |_::_,_::_,[],_,_,h,_=>by cases h
 |t::ts,v::vs,d::dw,ps,ht,h,aC=>by obtain⟨p,q,h1,h2,rfl⟩:=h;simp only[List.all_cons,aab,decide_eq_true_eq]at ht;exact⟨p,q,Below.trod hl ht.1.1 ht.1.2 h1 hb (λx hx=>aC x (by simp[hx])),zV hl hb ts vs dw q (by simpa using ht.2) h2 (λx hx=>aC x (by simp[hx])),rfl⟩
theorem Bi{f:Nat}{fn:Func}{s:ChangeSpec}{args:Array Value}{ds gs:List (DataW H)}{before:List MemPlace}{aq:Nat}(bk:QH H)(hl:laidOutB P=true){tb:TypeId}(htb:P.underlying tb=some .bool)(abh:fn.resultTypes= #[tb])(SV:s.vars=[])(HT:∀ds:List (DataW H),ds.length=fn.params.size->s.fn H ds={results:=[.lit (.bool true)],args:=ds}){M7:List Sh}(hsh:JP P fn.params.toList=some M7)(hts:(fn.params.toList.all λt=>P.readableRec t&&decide (t<P.types.size))=true)(walk:∀rd,zT M7 rd->Dt.dM rd<=l4 bk.f ds->ap P f (sr M7 rd) [] λr _=>r=aD true)(j8:∀(j:Nat)t v,fn.params[j]? =some t->args[j]? =some v->Value.okWide P W .any aq t v)(hW:DataW.Whole enc P fn.params.toList s.vars false W args.toList ds gs before):
  Calls P f args W λe W'=>∃v,e= .returned v/\s.post enc P fn false true false false W args v W':=by
 have hW':=hW;obtain⟨p,q,hA,hV,rfl,XG,lX⟩:=hW;obtain⟨rd,hf,hlen,cq,dk⟩:=zU bk fn.params.toList args.toList ds p M7 hsh hA λj t v ht hv=>j8 j t v (by simpa using ht) (by simpa using hv)
 have A6:=oY (u:= .bool true) (walk rd hf dk) W args.toList hlen cq aE (λr m h=>h)
 have aC:∀x,x∈p->x.block<W.heap.size:=λx hx=>by simpa using hW'.lt x (by simp[hx])
 rw[SV]at hV;obtain⟨rfl,rfl⟩:=trodVars_none hV;have mw:ds.length=fn.params.size:=by
  have:∀(ts:List TypeId)(vs:List Value)(dw:List (DataW H))(ps:List MemPlace),DataW.TrodAll enc P W 0 (λ_=>true) true ts vs dw ps->dw.length=ts.length:=by
   intro ts
   induction ts with
   |nil=>intro vs dw ps h;obtain⟨_,rfl,_⟩:=trodAll_nil h;rfl
   |cons t ts ih=>
    intro vs dw ps h;obtain⟨v,VU,d,ZF,a,b,rfl,rfl,rfl,h1,h2⟩:=trodAll_cons h;simp[ih _ _ _ h2]
  simpa using this _ _ _ _ hA
 refine A6.mono λe W'⟨he,hb⟩=>?_
 subst he;have hs:s.fn H (ds++ [])={results:=[.lit (.bool true)],args:=ds}:=by rw[abO];exact HT ds mw
 refine⟨_,rfl,ds,[],p++ [],[],p,[],hW',?_,?_,?_,hb.frame _,λh=>by cases h⟩
 .rw[hs,abh];exact trodAll_cons_mk (shut_bool htb _) trodAll_mk0
 .rw[hs];exact zV hl hb _ _ _ _ hts hA aC
 .rw[hs,SV];rfl
end
end Go.AM
namespace Go.AM
section
variable {P:Program}
theorem ay.M8{ρ:bI}{m:Mem}{w w':World}(hM:ay ρ m w)(hw:eN w w'):ay ρ m w'/\Ext ρ m w ρ m w':=by
 have hn:=hM.n;have g:iL ρ w ρ w':=⟨Ym _,λ_ _=>rfl,λ_ h=>h,λb hb=>hw.heap b (hM.S b hb)⟩
 refine⟨⟨hn,λb hb=>aaI (hM.S b hb) hw.size,λk hk=>⟨aaI (hM.aL k hk).1 hw.size,(hM.aL k hk).2⟩,hM.inj,λid b hb=>?_,λid i j esz e ho be=>?_⟩,
  ⟨Ym _,λ_ _=>rfl,λ_ h=>h,λ_ h=>.inl h,λk hk=>.inr ⟨k,hk,rfl⟩,λb hb _=>hw.heap b hb,hw.size,hw.os,hw.tape,hw.output⟩⟩
 .exact(hM.bk id b hb).cm g (by rw[hn];exact(Km.1 hb).1) λdh be=>hw.heap _ (hM.aL (.aj id) ⟨b,hb,dh,be⟩).1
 .exact(hM.ei id i j esz e ho be).cm g (hw.heap _ (hM.aL (.sub id i j) ⟨⟨esz,e,ho⟩,be⟩).1)
theorem JQ{f:Nat}{args:List CV}{m:Mem}{K0 K:CV->Mem->Prop}(h:ap P f args [] K0)(ha:∀c,c∈args->c.dB=true)(hK:∀r m1,K0 r m1->(r= .rv (.one .aO)/\K (.rv (.one .aO)) m)\/
   ∃id esz elems,r= .rv (.one (.row id esz 0 none))/\m1[id]? =some (.row esz elems)/\(∀cs,cs∈elems->∀c,c∈cs->∃d,c= .ah d)/\
    (∀(i:Nat)cs(j:Nat)d,elems[i]? =some cs->cs[j]? =some (.ah d)->∃v,d= .val v)/\
    K (.rv (.one (.row m.length esz 0 none))) (m++ [.row esz elems])):ap P f args m K:=by
 refine⟨h.1,λρ w vs hM hl hd=>?_⟩
 let ρ0:bI:={n:=0,aI:=λ_=>⟨0,0,0,0⟩,S:=ρ.S}
 have ml:ay ρ0 [] w:={
  n:=rfl
  S:=hM.S
  aL:=λk h=>by have:=h.eT;simp at this
  inj:=λk k' h=>by have:=h.eT;simp at this
  bk:=λid b h=>by simp at h
  ei:=λid i j esz elems h=>by obtain⟨_,h,_⟩:=h;simp at h}
 refine(h.2 ρ0 w vs ml hl λi c hi=>?_).mono λe w'⟨v,r,m1,ρ1,he,hk,r8,vG,hx⟩=>?_
 .obtain⟨v,hv,hd⟩:=hd i c hi;exact⟨v,hv,CV.sq (ρ:=ρ) (U':=ρ0) (ha c (Tp hi)) (λ_ h=>h) hd⟩
 .have kG:∀k,¬Live ρ0 [] k:=λk h=>by have:=h.eT;simp at this
  have va:∀b,b<w.heap.size->w'.heap[b]? =w.heap[b]? :=λb hb=>hx.frame b hb λk hk=>absurd hk (kG k)
  have QI:eN w w':=by
   refine⟨?_,?_,?_,?_,?_⟩;all_goals first|exact hx.size|exact va|exact hx.os|exact hx.tape|exact hx.output
  rcases hK r m1 hk with⟨rfl,fZ⟩|⟨id,esz,elems,rfl,hb,QJ,j8,fZ⟩
  .obtain⟨ad,rfl⟩:=vG;obtain⟨FF,o4⟩:=hM.M8 QI;exact⟨_,_,m,ρ,he,fZ,FF,⟨ad,rfl⟩,o4⟩
  .obtain⟨g1,g2,g3,g4,g5⟩:=r8.bk id _ hb;obtain⟨q1,q2,q3,q4,q5,ad,rfl,tN⟩:=vG;have hn:=hM.n;let l:=ρ1.aI (.aj id);have db:cJ (ρ.push l) w' m.length (.row esz elems):=by
    have bO:(ρ.push l).aI (.aj m.length)=l:=by rw[<-hn];exact ρ.gi l
    simp only[cJ,bO];refine⟨g1,g2,g3,g4,λhp=>?_⟩
    obtain⟨cur,bX,h7,h8⟩:=g5 hp;refine⟨cur,bX,h7,λi cs j c hi hj=>?_⟩
    obtain⟨u,hu,cy⟩:=h8 i cs j c hi hj;obtain⟨d,rfl⟩:=QJ cs (Tp hi) c (Tp hj);obtain⟨v,rfl⟩:=j8 i cs j d hi hj;refine⟨u,hu,?_⟩;cases cy with
    |val _ jZ=>exact de.val _ jZ
    |no a=>exact .no a
   have M9:Bk.yS (.row esz elems):=by intro i cs j c hi hj s e hce;obtain⟨d,hd⟩:=QJ cs (Tp hi) c (Tp hj);rw[hd]at hce;cases hce
   obtain⟨FF,o4⟩:=hM.Sz QI (λbC=>by
    obtain⟨bk,fI,dh,be⟩:=bC;have XH:0<l.cap:=by rw[hn,ZZ (Ym _)]at fI;simp at fI;have:=be ⟨esz,elems,fI.symm⟩;rwa [ρ.gi l]at this
    have XI:Live ρ1 m1 (.aj id):=⟨_,hb,aE,λ_=>XH⟩
    refine⟨?_,(r8.aL _ XI).1⟩;rcases hx.aL _ XI with h|⟨k0,h0,_⟩
    .exact h
    .exact absurd h0 (kG k0)) db M9
   refine⟨_,_,_,_,he,fZ,FF,?_,o4⟩;have bO:(ρ.push l).aI (.aj m.length)=l:=by rw[<-hn];exact ρ.gi l
   refine⟨by simp[bI.push,hn],?_⟩
   simp only[bO];exact⟨q2,q3,q4,q5,ad,rfl,tN⟩
end
theorem TW.trans{n0:Nat}{ρ ρ1 ρ2:bI}{m m1 m2:Mem}(a:TW n0 ρ m ρ1 m1)(b:TW n0 ρ1 m1 ρ2 m2):TW n0 ρ m ρ2 m2 where
 aI id h:=(b.aI id h).trans (a.aI id h)
 S x h:=b.S x (a.S x h)
 S' x h:=by
  rcases b.S' x h with h|⟨k,hk,he⟩
  .exact a.S' x h
  .obtain⟨k0,h0,e0⟩:=a.aL k hk;exact .inr ⟨k0,h0,e0.trans he⟩
 aL k h:=by obtain⟨k1,h1,e1⟩:=b.aL k h;obtain⟨k0,h0,e0⟩:=a.aL k1 h1;exact⟨k0,h0,e0.trans e1⟩
theorem View.trans{n0:Nat}{s s1 s2:St}(a:View n0 s s1)(b:View n0 s1 s2):View n0 s s2:=by
 refine⟨b.hn,b.len.trans a.len,λρ w hM=>?_⟩
 obtain⟨ρ1,r8,CA,vG⟩:=a.go ρ w hM;obtain⟨ρ2,FF,wV,yJ⟩:=b.go ρ1 w r8;refine⟨ρ2,FF,CA.trans wV,λi c' hi=>?_⟩
 obtain⟨c1,Jj,h1⟩:=yJ i c' hi;obtain⟨c0,we,h0⟩:=vG i c1 Jj;exact⟨c0,we,λv hv=>h1 v (h0 v hv)⟩
def CC.bb(Y:Nat->Nat):CC->CC
 | .ptr id j=>.ptr (Y id) j
 | .nI id e i j=>.nI (Y id) e i j
 | .row id e lo hi=>.row (Y id) e lo hi
 | .map id=>.map (Y id)
 | .fn f eE=>.fn f (eE.map Y)
 |c=>c
def MO.bb(Y:Nat->Nat)(e:MO):MO:=match e with|⟨k,.ei l⟩=>⟨k,.ei l⟩|⟨k,.row n⟩=>⟨k,.row (Y n)⟩
def gw.bb(Y:Nat->Nat):gw->gw
 | .aj id=>.aj (Y id)
 | .sub id i j=>.sub (Y id) i j
inductive FL:Dt->Dt->Prop
 |refl (d:Dt):FL d d
 |no (s:Nat):FL (.val (.slice none 0 0)) (.sl s [])
 |sl (s:Nat) {es bq:List (List Dt)} (hl:es.length=bq.length) (hs:∀(i:Nat)cs fj,es[i]? =some cs->bq[i]? =some fj->cs.length=fj.length)
   (h:∀(i:Nat)cs fj(j:Nat)d d',es[i]? =some cs->bq[i]? =some fj->cs[j]? =some d->fj[j]? =some d'->FL d d'):FL (.sl s es) (.sl s bq)
theorem FL.jS{S:Nat->Prop}{w:World}{d d':Dt}(h:FL d d'):∀{v:Value},de S w d v->de S w d' v:=by
 induction h with
 |refl d=>exact λh=>h
 |no s=>
  intro v h;cases h with
  |val _ h=>simp[cw]at h
  |no a=>exact .nil s a 0 (aaj _)
 | @sl s es bq hl hs h ih=>
  intro v hd;cases hd with
  |nil _ a cap hc=>
   have:bq=[]:=aag hl.symm;subst this;exact .nil s a cap hc
  |sl _ _ b off cap u hS oT be dk hc hd=>
   have get:∀(i:Nat)fj,bq[i]? =some fj->∃cs,es[i]? =some cs:=λi fj hi=>by have:=(Km.1 hi).1;exact⟨_,vU om⟩
   have XJ:∀(i:Nat)cs fj(j:Nat)d',es[i]? =some cs->bq[i]? =some fj->fj[j]? =some d'->∃d,cs[j]? =some d:=λi cs fj j d' hi eO hj=>by have h1:=(Km.1 hj).1;have h2:=hs i cs fj hi eO;exact⟨_,vU om⟩
   rw[hl];refine .sl s bq b off cap u hS om be (λfj hm=>?_) (λi fj j d' hi hj=>?_) (λi fj j d' hi hj=>?_)
   .obtain⟨i,hi⟩:=aaa hm;obtain⟨cs,fe⟩:=get i fj hi;rw[<-hs i cs fj fe hi];exact dk cs (Tp fe)
   .obtain⟨cs,fe⟩:=get i fj hi;obtain⟨d,Uv⟩:=XJ i cs fj j d' fe hi hj;exact hc i cs j d fe Uv
   .obtain⟨cs,fe⟩:=get i fj hi;obtain⟨d,Uv⟩:=XJ i cs fj j d' fe hi hj;exact ih i cs fj j d d' fe hi Uv hj (hd i cs j d fe Uv)
inductive d5(m:Mem)(Z:Nat->Prop):Option Nat->CC->Dt->Prop
 |ah {p:Option Nat} (d:Dt):d5 m Z p (.ah d) d
 |ei {id:Nat} (s:Nat) (e:List (List Dt)) (hz:Z id):d5 m Z (some id) (.ei s e) (.sl s e)
 |aO {p:Option Nat} (s:Nat):d5 m Z p .aO (.sl s [])
 |no {p:Option Nat}:d5 m Z p .aO (.val (.slice none 0 0))
 |le {p:Option Nat} {d d':Dt} (h:FL d d'):d5 m Z p (.ah d) d'
 |row {p:Option Nat} (id esz lo:Nat) (hi:Option Nat) (elems:List (List CC)) (ds:List (List Dt)) (hz:Z id) (h:m[id]? =some (.row esz elems)) (hl:elems.length=ds.length)
   (hs:∀(i:Nat)cs es,elems[i]? =some cs->ds[i]? =some es->cs.length=es.length)
   (hd:∀(i:Nat)cs es(j:Nat)c d,elems[i]? =some cs->ds[i]? =some es->cs[j]? =some c->es[j]? =some d->d5 m Z (some id) c d):d5 m Z p (.row id esz lo hi) (.sl esz (b9 ds lo hi))
inductive tv(Y:Nat->Nat)(m:Mem)(Z:Nat->Prop):Option Nat->CC->CC->Prop
 |aA {p:Option Nat} (c:CC):tv Y m Z p c .aA
 |bb {p:Option Nat} (c:CC):tv Y m Z p (c.bb Y) c
 |fQ {p:Option Nat} {c:CC} {d:Dt} (h:d5 m Z p c d):tv Y m Z p c (.ah d)
 |un {p:Option Nat}:tv Y m Z p (.ah (.val (.slice none 0 0))) .aO
 |hi {p:Option Nat} (id e lo:Nat) {esz:Nat} {elems:List (List CC)} (h:m[Y id]? =some (.row esz elems)):tv Y m Z p (.row (Y id) e lo none) (.row id e lo (some elems.length))
 |lo {p:Option Nat} (id e lo:Nat) {esz:Nat} {elems:List (List CC)} (h:m[Y id]? =some (.row esz elems)):tv Y m Z p (.row (Y id) e lo (some elems.length)) (.row id e lo none)
inductive yK(Y:Nat->Nat)(m:Mem)(Z:Nat->Prop):RV->RV->Prop
 |one {c c':CC} (h:tv Y m Z none c c'):yK Y m Z (.one c) (.one c')
 |agg {cs fj:List CC} (hl:cs.length=fj.length) (h:∀(i:Nat)c c',cs[i]? =some c->fj[i]? =some c'->tv Y m Z none c c'):yK Y m Z (.agg cs) (.agg fj)
inductive rK(Y:Nat->Nat)(m:Mem)(Z:Nat->Prop):CV->CV->Prop
 |aA (v:CV):rK Y m Z v .aA
 |undef:rK Y m Z .undef .undef
 |rv {r r':RV} (h:yK Y m Z r r'):rK Y m Z (.rv r) (.rv r')
 |bD {rs JM:List RV} (hl:rs.length=JM.length) (h:∀(i:Nat)r r',rs[i]? =some r->JM[i]? =some r'->yK Y m Z r r'):rK Y m Z (.bD rs) (.bD JM)
inductive mH(Y:Nat->Nat)(m:Mem)(Z:Nat->Prop)(id:Nat):Bk->Bk->Prop
 |var {cs fj:List CC} (h:∀(i:Nat)c',fj[i]? =some c'->∃c,cs[i]? =some c/\tv Y m Z (some id) c c'):mH Y m Z id (.var cs) (.var fj)
 |row (esz:Nat) {es bq:List (List CC)} (hl:es.length=bq.length) (hs:∀(i:Nat)cs fj,es[i]? =some cs->bq[i]? =some fj->cs.length=fj.length)
   (h:∀(i:Nat)cs fj(j:Nat)c c',es[i]? =some cs->bq[i]? =some fj->cs[j]? =some c->fj[j]? =some c'->tv Y m Z (some id) c c'):mH Y m Z id (.row esz es) (.row esz bq)
 |mp {es bq:List ME} (hl:es.length=bq.length) (h:∀(i:Nat)e e',es[i]? =some e->bq[i]? =some e'->e'.key=e.key/\yK Y m Z e.val e'.val):mH Y m Z id (.mp es) (.mp bq)
 |it (cur left:List (Value×Value)):mH Y m Z id (.it cur left) (.it cur left)
 |mo (esz:Nat) (es:List MO) (so:Option (List Nat×Nat)):mH Y m Z id (.mo esz (es.map (MO.bb Y)) so) (.mo esz es so)
 |mo0 (esz:Nat):mH Y m Z id (.mp []) (.mo esz [] none)
 |iw (mid ip:Nat) (seen:List Nat):mH Y m Z id (.iw (Y mid) ip seen) (.iw mid ip seen)
section
variable {n0:Nat} {Y:Nat->Nat} {Z:Nat->Prop} {ρ:bI} {m:Mem} {w:World}
def bI.vw(ρ:bI)(Y:Nat->Nat)(Z:Nat->Prop)(m:Mem)(n:Nat):bI:=
 {n:=n,aI:=λk=>ρ.aI (k.bb Y),S:=λb=>ρ.S b\/∃k,Live ρ m k/\Z k.id/\(ρ.aI k).b=b}
theorem d5.jS(hM:ay ρ m w){pos:Option (Nat×Nat×Nat)}{p:Option Nat}{c:CC}{d:Dt}(h:d5 m Z p c d)(hp:∀id,p=some id->∀s e,c= .ei s e->∃i j,pos=some (id,i,j)/\dY m id i j s e){v:Value}(hd:bj ρ w pos c v){n:Nat}:de (ρ.vw Y Z m n).S w d v:=by
 induction h generalizing pos v with
 |ah d=>exact hd.mono (λ_ h=>.inl h) (λ_ _=>rfl)
 |aO s=>
  obtain⟨a,rfl⟩:=hd;exact .nil s a 0 (aaj _)
 |no=>
  obtain⟨a,rfl⟩:=hd;exact .no a
 |le h=>exact(h.jS hd).mono (λ_ h=>.inl h) (λ_ _=>rfl)
 | @ei id s e hz=>
  obtain⟨i,j,yV,kz⟩:=hp id rfl s e rfl;obtain⟨kK,i',j',zS,q1,q2,a',rfl,q3⟩:=hd;rw[yV]at zS;simp only[aav,adq]at zS;obtain⟨rfl,rfl,rfl⟩:=zS;rcases abi e.length with he|he
  .rw[aag he];exact .nil s a' _ om
  .obtain⟨gX,C9,w1,w2,w3⟩:=hM.ei _ _ _ _ _ kz om;rw[q3 om];have A2:Live ρ m (.sub id i j):=⟨⟨_,_,kz⟩,om⟩;have ky:∀(i2:Nat)cs(j2:Nat)d2,e[i2]? =some cs->cs[j2]? =some d2->∃u,w.cell? ⟨(ρ.aI (.sub id i j)).b,(ρ.aI (.sub id i j)).aq+i2*s+j2,.none⟩=some u/\de (ρ.vw Y Z m n).S w d2 u:=by
    intro i2 cs j2 d2 fg lW;obtain⟨u,hu,hd⟩:=w3 i2 cs j2 d2 fg lW;exact⟨u,by rw[C9.cell];exact hu,hd.mono (λ_ h=>.inl h) (λ_ _=>rfl)⟩
   exact de.sl s e _ _ _ (λi2 j2=>(w.cell? ⟨(ρ.aI (.sub id i j)).b,(ρ.aI (.sub id i j)).aq+i2*s+j2,.none⟩).getD Go.undef) (.inr ⟨_,A2,hz,rfl⟩) q1 q2 w2
    (λi2 cs j2 d2 fg lW=>by obtain⟨u,hu,_⟩:=ky i2 cs j2 d2 fg lW;rw[hu];rfl)
    (λi2 cs j2 d2 fg lW=>by obtain⟨u,hu,hd⟩:=ky i2 cs j2 d2 fg lW;rw[hu];exact hd)
 |row id esz lo hi elems ds hz hb hl hs MN ih=>
  obtain⟨h1,h2,h3,h4,h5,a,rfl,ha⟩:=hd;obtain⟨g1,g2,g3,g4,g5⟩:=hM.bk id _ hb;have mw:ds.length=(ρ.aI (.aj id)).len:=om;have hlen:(b9 ds lo hi).length=hi.getD (ρ.aI (.aj id)).len-lo:=by
   rw[<-mw];exact Dl ds lo hi (by rw[mw];exact h2) (by rw[mw];exact h3)
  rw[<-hlen];rcases abi (b9 ds lo hi).length with h0|cI
  .rw[h0,aag h0];exact .nil esz a _ om
  .have iT:lo<(ρ.aI (.aj id)).cap:=om;obtain⟨cur,bX,dk,dL⟩:=g5 om;rw[ha iT];have key:∀(i:Nat)es(j:Nat)d,(b9 ds lo hi)[i]? =some es->es[j]? =some d->∃u,w.cell? ⟨(ρ.aI (.aj id)).b,(ρ.aI (.aj id)).aq+lo*esz+i*esz+j,.none⟩=some u/\de (ρ.vw Y Z m n).S w d u:=by
    intro i es j d eO hj;have fg:=sn ds lo hi i es eO;have aC:lo+i<elems.length:=by rw[hl];exact(Km.1 fg).1
    have LI:=vU aC;have ez:j<elems[lo+i].length:=by rw[hs _ _ _ LI fg];exact(Km.1 hj).1
    have SU:=vU ez;obtain⟨u,hu,cy⟩:=dL _ _ _ _ LI SU;refine⟨u,?_,?_⟩
    .rw[bX.cell,<-hu];congr 1;rw[abf];omega
    .refine ih _ _ _ _ _ _ LI fg SU hj ?_ cy;intro kK hid s e he;cases hid;exact⟨_,_,rfl,_,hb,.row LI (by rw[SU,he])⟩
   refine de.sl esz (b9 ds lo hi) _ _ _ (λi j=>(w.cell? ⟨(ρ.aI (.aj id)).b,(ρ.aI (.aj id)).aq+lo*esz+i*esz+j,.none⟩).getD Go.undef) (.inr ⟨.aj id,⟨_,hb,aE,λ_=>om⟩,hz,rfl⟩) om om (λes oh=>?_)
    (λi cs j d eO hj=>by obtain⟨u,hu,_⟩:=key i cs j d eO hj;rw[hu];rfl)
    (λi cs j d eO hj=>by obtain⟨u,hu,hd⟩:=key i cs j d eO hj;rw[hu];exact hd)
   obtain⟨i,eO⟩:=aaa oh;have fg:=sn ds lo hi i es eO;have aC:lo+i<elems.length:=by rw[hl];exact(Km.1 fg).1
   have LI:=vU aC;rw[<-hs _ _ _ LI fg];exact g4 _ (aaw aC)
theorem tv.jS(hM:ay ρ m w){n:Nat}(gx:∀i,Y i<m.length->i<n){kK i j:Nat}{pos pos':Option (Nat×Nat×Nat)}{p:Option Nat}(y9:(pos=none/\pos'=none/\p=none)\/(pos=some (Y kK,i,j)/\pos'=some (kK,i,j)/\p=some (Y kK))){c c':CC}(h:tv Y m Z p c c')(kz:∀s e,c= .ei s e->pos=some (Y kK,i,j)->dY m (Y kK) i j s e){v:Value}(hd:bj ρ w pos c v):bj (ρ.vw Y Z m n) w pos' c' v:=by
 cases h with
 |aA c=>exact hd.one
 |un=>
  cases(show de ρ.S w (.val (.slice none 0 0)) v from hd)with
  |val _ h=>simp[cw]at h
  |no a=>exact⟨a,rfl⟩
 |hi id e lo hb=>
  have hn:=hM.n;obtain⟨g1,_⟩:=hM.bk _ _ hb;obtain⟨h1,h2,h3,h4,h5,a,rfl,ha⟩:=hd;simp only[adn]at h2 h3;refine⟨gx id (by rw[<-hn];exact h1),?_⟩
  simp only[abt,bI.vw,gw.bb,g1];exact⟨h2,h3,h4,h5,a,rfl,ha⟩
 |lo id e lo hb=>
  have hn:=hM.n;obtain⟨g1,_⟩:=hM.bk _ _ hb;obtain⟨h1,h2,h3,h4,h5,a,rfl,ha⟩:=hd;simp only[abt,g1]at h2 h3;refine⟨gx id (by rw[<-hn];exact h1),?_⟩
  simp only[adn,abt,bI.vw,gw.bb,g1];exact⟨h2,h3,h4,h5,a,rfl,ha⟩
 |fQ h=>
  refine h.jS hM ?_ hd;intro id hid s e he;rcases y9 with⟨_,_,rfl⟩|⟨rfl,rfl,rfl⟩
  .cases hid
  .cases hid;exact⟨i,j,rfl,kz s e he rfl⟩
 |bb=>
  have hn:=hM.n;cases c'<;>simp only[CC.bb,bj]at hd|-
  case aA=>exact hd
  case ah=>exact hd.mono (λ_ h=>.inl h) (λ_ _=>rfl)
  case ptr id k=>exact⟨gx id (by rw[<-hn];exact hd.1),hd.2⟩
  case nI id _ _ _=>exact⟨gx id (by rw[<-hn];exact hd.1),hd.2⟩
  case rL=>
   obtain⟨b,off,h1,h2,h3⟩:=hd;refine⟨b,off,h1,.inl h2,λj d hj=>?_⟩
   obtain⟨u,hu,cy⟩:=h3 j d hj;exact⟨u,hu,cy.mono (λ_ h=>.inl h) (λ_ _=>rfl)⟩
  case row id _ _ _=>exact⟨gx id (by rw[<-hn];exact hd.1),hd.2⟩
  case aO=>exact hd
  case map id=>exact⟨gx id (by rw[<-hn];exact hd.1),hd.2⟩
  case fn f eE=>
   refine⟨λid hid=>gx id (by rw[<-hn];exact hd.1 _ (aal.2 ⟨id,hid,rfl⟩)),?_⟩
   rw[hd.2,abF];rfl
  case ei s e=>
   obtain⟨a,b,c,h1,h2⟩:=hd;rcases y9 with⟨rfl,rfl,rfl⟩|⟨rfl,rfl,rfl⟩
   .cases h1
   .cases h1;exact⟨kK,i,j,rfl,h2⟩
theorem tv.JR(hM:ay ρ m w){n:Nat}(gx:∀i,Y i<m.length->i<n){c c':CC}(h:tv Y m Z none c c'){v:Value}(hd:bj ρ w none c v):bj (ρ.vw Y Z m n) w none c' v:=
 tv.jS (kK:=0) (i:=0) (j:=0) hM gx (.inl ⟨rfl,rfl,rfl⟩) h (λ_ _ _ h=>by cases h) hd
theorem yK.jS(hM:ay ρ m w){n:Nat}(gx:∀i,Y i<m.length->i<n){c c':RV}(h:yK Y m Z c c'){v:Value}(hd:df ρ w c v):df (ρ.vw Y Z m n) w c' v:=by
 cases h with
 |one h=>exact h.JR hM gx hd
 |agg hl h=>
  obtain⟨vs,rfl,h1,h2⟩:=hd;refine⟨vs,rfl,h1.trans hl,λi c' hi=>?_⟩
  rename_i cs fj;have aC:i<cs.length:=by rw[hl];exact(Km.1 hi).1
  obtain⟨u,hu,hd⟩:=h2 i _ (vU aC);exact⟨u,hu,(h i _ _ (vU aC) hi).JR hM gx hd⟩
theorem rK.jS(hM:ay ρ m w){n:Nat}(gx:∀i,Y i<m.length->i<n){c c':CV}(h:rK Y m Z c c'){v:Value}(hd:ce ρ w c v):ce (ρ.vw Y Z m n) w c' v:=by
 cases h with
 |aA=>trivial
 |undef=>exact hd
 |rv h=>exact h.jS hM gx hd
 |bD hl h=>
  obtain⟨vs,rfl,h1,h2⟩:=hd;refine⟨vs,rfl,h1.trans hl,λi c' hi=>?_⟩
  rename_i cs fj;have aC:i<cs.length:=by rw[hl];exact(Km.1 hi).1
  obtain⟨u,hu,hd⟩:=h2 i _ (vU aC);exact⟨u,hu,(h i _ _ (vU aC) hi).jS hM gx hd⟩
theorem mH.jS(hM:ay ρ m w){n:Nat}(gx:∀i,Y i<m.length->i<n){id:Nat}{b b':Bk}(hb:m[Y id]? =some b)(h:mH Y m Z (Y id) b b'):cJ (ρ.vw Y Z m n) w id b':=by
 have hd:=hM.bk _ _ hb;cases h with
 | @var cs fj h=>
  obtain⟨cur,hc,hd⟩:=hd;refine⟨cur,hc,λj c' hj=>?_⟩
  obtain⟨c,oz,hv⟩:=h j c' hj;obtain⟨u,hu,cy⟩:=hd j c oz;refine⟨u,hu,?_⟩;cases hv with
  |aA c=>exact cy.one
  |bb=>exact tv.JR hM gx (.bb c') cy
  |un=>exact tv.JR hM gx .un cy
  |hi kK e lo tM=>exact tv.JR hM gx (.hi kK e lo tM) cy
  |lo kK e lo tM=>exact tv.JR hM gx (.lo kK e lo tM) cy
  |fQ hf=>exact hf.jS hM (λkK _ s e he=>by rw[he]at cy;obtain⟨_,_,_,hx,_⟩:=cy;cases hx) cy
 | @row esz es bq hl hs h=>
  obtain⟨h2,h3,h4,h5,bX⟩:=hd;refine⟨hl.symm.trans h2,h3,h4,λfj Mm=>?_,λcI=>?_⟩
  .obtain⟨i,hi⟩:=aaa Mm;have aC:i<es.length:=by rw[hl];exact(Km.1 hi).1
   rw[<-hs i _ _ (vU aC) hi];exact h5 _ (aaw aC)
  .obtain⟨cur,hc,h1,h6⟩:=bX cI;refine⟨cur,hc,h1,λi fj j c' hi hj=>?_⟩
   have aC:i<es.length:=by rw[hl];exact(Km.1 hi).1
   have eO:=vU aC;have ez:j<es[i].length:=by rw[hs i _ _ eO hi];exact(Km.1 hj).1
   have oz:=vU ez;obtain⟨u,hu,cy⟩:=h6 _ _ _ _ eO oz;refine⟨u,hu,tv.jS (kK:=id) (i:=i) (j:=j) hM gx (.inr ⟨rfl,rfl,rfl⟩) (h i _ _ j _ _ eO hi oz hj) (λs e he _=>⟨_,hb,.row eO (by rw[oz,he])⟩) cy⟩
 |it cur left=>
  obtain⟨mb,seen,ck,bq,h2,h3,h4,h5,h6⟩:=hd;exact⟨mb,seen,ck,bq,h2,h3,.inl h4,h5,h6⟩
 |mo esz es so=>
  obtain⟨ae,clock,hc,⟨h1,h2⟩,h3⟩:=hd;refine⟨ae,clock,hc,⟨by simpa using h1,λi e hi=>?_⟩,h3⟩
  obtain⟨LJ,LK,hk,hp,p7⟩:=h2 i (e.bb Y) (by rw[Tm,hi];rfl)
  obtain⟨k,v⟩:=e;cases v with
  |ei l=>
   refine⟨LJ,LK,hk,hp,?_⟩;obtain⟨a,b,c,q1,q2⟩:=p7;cases q1;exact⟨id,i,0,rfl,q2⟩
  |row n=>
   refine⟨LJ,LK,hk,hp,?_⟩;have hn:=hM.n;exact⟨gx n (by rw[<-hn];exact p7.1),p7.2⟩
 |mo0 esz=>
  obtain⟨ae,clock,hc,h1,h2⟩:=hd;exact⟨ae,clock,hc,⟨h1,aE⟩,aE⟩
 |iw mid ip seen=>
  obtain⟨h1,h2,s,h3,h4⟩:=hd;have hn:=hM.n;exact⟨gx mid (by rw[<-hn];exact h1),h2,s,h3,h4⟩
 | @mp es bq hl h=>
  obtain⟨ae,clock,hc,h1,h2⟩:=hd;refine⟨ae,clock,hc,h1.trans hl,λi e' hi=>?_⟩
  have aC:i<es.length:=by rw[hl];exact(Km.1 hi).1
  obtain⟨LJ,LK,hk,p7⟩:=h2 i _ (vU aC);obtain⟨fZ,hv⟩:=h i _ _ (vU aC) hi;exact⟨LJ,LK,hk.trans fZ.symm,hv.jS hM gx p7⟩
theorem Live.SX{ρ:bI}{m:Mem}{k:gw}(h:Live ρ m k):m[k.id]? ≠some .aS:=by
 cases k with
 |aj id=>obtain⟨bk,h1,h2,_⟩:=h;intro e;rw[gw.id,h1]at e;cases e;exact h2 rfl
 |sub id i j=>obtain⟨⟨s,e,bk,h1,ho⟩,_⟩:=h;intro e;rw[gw.id,h1]at e;cases e;cases ho
theorem wh{m':Mem}(hM:ay ρ m w)(j7:∀i,i<n0->Y i=i)(oU:∀i j,i<m'.length->j<m'.length->m'[i]? ≠some .aS->m'[j]? ≠some .aS->Y i=Y j->i=j)(gx:∀i,Y i<m.length->i<m'.length)(iu:∀(i:Nat)b',m'[i]? =some b'->b'= .aS\/(¬Z (Y i)/\∃b,m[Y i]? =some b/\mH Y m Z (Y i) b b')):
  ay (ρ.vw Y Z m m'.length) m' w/\TW n0 ρ m (ρ.vw Y Z m m'.length) m'/\∀k,Live (ρ.vw Y Z m m'.length) m' k->Live ρ m (k.bb Y):=by
 have kz:∀{id i j s1 e},dY m' id i j s1 e->¬Z (Y id)/\dY m (Y id) i j s1 e:=by
  rintro id i j s1 e ⟨b',tM,fa⟩;rcases iu id _ tM with h|⟨hz,b,hb,hv⟩
  .subst h;cases fa
  .cases hv with
   |var=>cases fa
   |mp=>cases fa
   |it=>cases fa
   |iw=>cases fa
   |mo0=>obtain⟨k,hi,_⟩:=fa.Su;simp at hi
   |mo esz es so=>
    obtain⟨k,hi,rfl,rfl⟩:=fa.Su;exact⟨hz,_,hb,.mo (k:=k) (by rw[Tm,hi];rfl)⟩
   | @row _ es _ hl hs h=>
    obtain⟨fj,eO,oz⟩:=fa.yO;have aC:i<es.length:=by rw[hl];exact(Km.1 eO).1
    have hi:=vU aC;have ez:j<es[i].length:=by rw[hs i _ _ hi eO];exact(Km.1 oz).1
    have hj:=vU ez;have hv:=h i _ _ j _ _ hi eO hj oz;have hc:es[i][j]= .ei s1 e:=by
     generalize es[i][j]=c at hv;cases hv with
     |bb=>rfl
    exact⟨hz,_,hb,.row hi (by rw[hj,hc])⟩
 have bY:∀k,Live (ρ.vw Y Z m m'.length) m' k->¬Z (Y k.id)/\Live ρ m (k.bb Y):=by
  intro k hk;cases k with
  |aj k=>
   obtain⟨b',tM,lX,be⟩:=hk;rcases iu k _ tM with h|⟨hz,b,hb,hv⟩
   .exact absurd h lX
   .refine⟨hz,b,hb,?_,?_⟩
    .rintro rfl;cases hv
    .rintro⟨esz,es,rfl⟩;cases hv with
     |row=>exact be ⟨_,_,rfl⟩
  |sub k i j=>
   obtain⟨⟨esz,e,ho⟩,be⟩:=hk;exact⟨(kz ho).1,⟨_,_,(kz ho).2⟩,be⟩
 refine⟨⟨rfl,?_,λk hk=>?_,λk k' hk fZ he=>?_,λid b' tM=>?_,λid i j esz e ho be=>?_⟩,⟨λid hid=>?_,λb h=>.inl h,?_,λk hk=>⟨_,(bY k hk).2,rfl⟩⟩,λk hk=>(bY k hk).2⟩
 .rintro b (hb|⟨k,hk,_,rfl⟩)
  .exact hM.S b hb
  .exact(hM.aL k hk).1
 .obtain⟨hz,hl⟩:=bY k hk;refine⟨(hM.aL _ hl).1,?_⟩;rintro(hb|⟨k0,H3,EM,he⟩)
  .exact(hM.aL _ hl).2 hb
  .have:=hM.inj k0 (k.bb Y) H3 hl he;subst this;apply hz;cases k<;>exact EM
 .have zB:=hk.eT;have XK:=fZ.eT;have vG:=hk.SX;have yJ:=fZ.SX;have:=hM.inj _ _ (bY k hk).2 (bY k' fZ).2 he;cases k<;>cases k'<;>simp only[gw.bb,gw.aj.injEq,gw.sub.injEq,gw.id,reduceCtorEq]at this zB XK vG yJ
  .rw[oU _ _ zB XK vG yJ this]
  .obtain⟨h1,rfl,rfl⟩:=this;rw[oU _ _ zB XK vG yJ h1]
 .rcases iu id b' tM with rfl|⟨hz,b,hb,hv⟩
  .trivial
  .exact mH.jS hM gx hb hv
 .obtain⟨cur,hc,h1,h2,h3⟩:=hM.ei _ _ _ _ _ (kz ho).2 be;refine⟨cur,hc,h1,h2,λi2 cs j2 d fg lW=>?_⟩
  obtain⟨u,hu,cy⟩:=h3 i2 cs j2 d fg lW;exact⟨u,hu,cy.mono (λ_ h=>.inl h) (λ_ _=>rfl)⟩
 .show ρ.aI (.aj (Y id))=_;rw[j7 id hid]
 .rintro b (hb|⟨k,hk,_,he⟩)
  .exact .inl hb
  .exact .inr ⟨k,hk,he⟩
theorem View.mk'{s s':St}(Y:Nat->Nat)(Z:Nat->Prop)(HK:n0<=s'.mem.length)(hlen:s'.aX.length=s.aX.length)(j7:∀i,i<n0->Y i=i)(oU:∀i j,i<s'.mem.length->j<s'.mem.length->Y i=Y j->i=j)(gx:∀i,Y i<s.mem.length->i<s'.mem.length)(o5:∀(i:Nat)c',s'.aX[i]? =some c'->∃c,s.aX[i]? =some c/\rK Y s.mem Z c c')(iu:∀(i:Nat)b',s'.mem[i]? =some b'->b'= .aS\/(¬Z (Y i)/\∃b,s.mem[Y i]? =some b/\mH Y s.mem Z (Y i) b b')):View n0 s s':=by
 refine⟨HK,hlen,λρ w hM=>?_⟩
 obtain⟨h1,h2,_⟩:=wh (n0:=n0) (Y:=Y) (Z:=Z) hM j7 (λi j a b _ _=>oU i j a b) gx iu
 refine⟨_,h1,h2,λi c' hi=>?_⟩
 obtain⟨c,hc,hv⟩:=o5 i c' hi;exact⟨c,hc,λv hd=>hv.jS hM gx hd⟩
theorem View.mk2{s s':St}(Y:Nat->Nat)(HK:n0<=s'.mem.length)(hlen:s'.aX.length=s.aX.length)(j7:∀i,i<n0->Y i=i)(oU:∀i j,i<s'.mem.length->j<s'.mem.length->s'.mem[i]? ≠some .aS->s'.mem[j]? ≠some .aS->Y i=Y j->i=j)(gx:∀i,Y i<s.mem.length->i<s'.mem.length)(o5:∀(i:Nat)c',s'.aX[i]? =some c'->∃c,s.aX[i]? =some c/\rK Y s.mem (λ_=>False) c c')(iu:∀(i:Nat)b',s'.mem[i]? =some b'->b'= .aS\/∃b,s.mem[Y i]? =some b/\mH Y s.mem (λ_=>False) (Y i) b b'):View n0 s s':=by
 refine⟨HK,hlen,λρ w hM=>?_⟩
 obtain⟨h1,h2,_⟩:=wh (n0:=n0) (Y:=Y) (Z:=λ_=>False) hM j7 oU gx (λi b' h=>(iu i b' h).imp id λh=>⟨λh=>h,h⟩)
 refine⟨_,h1,h2,λi c' hi=>?_⟩
 obtain⟨c,hc,hv⟩:=o5 i c' hi;exact⟨c,hc,λv hd=>hv.jS hM gx hd⟩
end
section
variable {P:Program} {n0:Nat} {Y:Nat->Nat} {Z:Nat->Prop} {ρ:bI} {m:Mem} {w:World}
def sg(l:List Nat)(n:Nat)(i:Nat):Nat:=match cF l i with|some x=>x|none=>n+(i-l.length)
def br:List Nat->Nat->Bool
 | [],_=>false
 |x::r,k=>Nat.beq x k||br r k
def fJ:List Nat->Bool
 | []=>true
 |x::r=>!(br r x)&&fJ r
def eP(n:Nat):List Nat->Bool
 | []=>true
 |x::r=>Nat.blt x n&&eP n r
def Dq(l:List Nat):Nat->Bool
 |0=>true
 |k+1=>(match cF l k with|some x=>Nat.beq x k|none=>false)&&Dq l k
theorem xn:∀{l:List Nat}{k:Nat},br l k=true↔k∈l
 | [],k=>by simp[br]
 |x::r,k=>by
  simp only[br,abX,aaJ,xn];constructor
  .rintro(h|h)
   .exact .inl (aai h).symm
   .exact .inr h
  .rintro(rfl|h)
   .exact .inl (adM _)
   .exact .inr h
theorem xp:∀{l:List Nat},fJ l=true->∀i j:Nat,i<l.length->j<l.length->l[i]? =l[j]? ->i=j
 | [],_,i,j,hi,_,_=>by simp at hi
 |x::r,h,i,j,hi,hj,he=>by
  simp only[fJ,aab,abN]at h;have hx:∀k:Nat,r[k]? ≠some x:=λk hk=>by have:=xn.2 (Tp hk);rw[h.1]at this;cases this
  cases i with
  |zero=>
   cases j with
   |zero=>rfl
   |succ j=>simp at he;exact absurd he.symm (hx j)
  |succ i=>
   cases j with
   |zero=>simp at he;exact absurd he (hx i)
   |succ j=>
    simp at he hi hj;rw[xp h.2 i j hi hj he]
theorem nf{n:Nat}:∀{l:List Nat},eP n l=true->∀x,x∈l->x<n
 | [],_,x,hx=>by simp at hx
 |y::r,h,x,hx=>by
  simp only[eP,aab]at h;rcases aaJ.1 hx with rfl|hx
  .exact aad h.1
  .exact nf h.2 x hx
theorem su{l:List Nat}:∀{k:Nat},Dq l k=true->∀i,i<k->l[i]? =some i
 |0,_,i,hi=>om
 |k+1,h,i,hi=>by
  simp only[Dq,aab]at h;rcases aaf i k with h1|h1
  .exact su h.2 i h1
  .have:i=k:=om;subst this;rw[<-aT];cases hn:cF l i with
   |none=>rw[hn]at h;simp at h
   |some x=>rw[hn]at h;simp only at h;rw[aai h.1]
theorem ng{l:List Nat}{n i:Nat}(h:i<l.length):sg l n i=l[i]:=by simp[sg,aT,vU h]
theorem sx{l:List Nat}{n i:Nat}(h:l.length<=i):sg l n i=n+(i-l.length):=by simp[sg,aT,aaE h]
theorem Bj{l:List Nat}{n:Nat}(hd:fJ l=true)(hl:eP n l=true){i j:Nat}(h:sg l n i=sg l n j):i=j:=by
 rcases aaf i l.length with hi|hi<;>rcases aaf j l.length with hj|hj
 .rw[ng hi,ng hj]at h;exact xp hd i j hi hj (by rw[vU hi,vU hj,h])
 .rw[ng hi,sx hj]at h;have:=nf hl _ (aaw hi);omega
 .rw[sx hi,ng hj]at h;have:=nf hl _ (aaw hj);omega
 .rw[sx hi,sx hj]at h;omega
def RV.bb(Y:Nat->Nat):RV->RV
 | .one c=>.one (c.bb Y)
 | .agg cs=>.agg (cs.map (CC.bb Y))
def CV.bb(Y:Nat->Nat):CV->CV
 | .rv r=>.rv (r.bb Y)
 | .bD rs=>.bD (rs.map (RV.bb Y))
 | .aA=>.aA
 | .undef=>.undef
def Bk.bb(Y:Nat->Nat):Bk->Bk
 | .aS=>.aS
 | .var cs=>.var (cs.map (CC.bb Y))
 | .row s es=>.row s (es.map λcs=>cs.map (CC.bb Y))
 | .mp es=>.mp (es.map λe=>⟨e.key,e.val.bb Y⟩)
 | .it cur left=>.it cur left
 | .mo esz es so=>.mo esz (es.map (MO.bb Y)) so
 | .iw mid ip seen=>.iw (Y mid) ip seen
theorem yK.bb(r:RV):yK Y m Z (r.bb Y) r:=by
 cases r with
 |one c=>exact .one (.bb c)
 |agg cs=>
  refine .agg aE λi c c' h h'=>?_
  rw[Tm,h']at h;cases h;exact .bb c'
theorem rK.FM(v:CV):rK Y m Z (v.bb Y) v:=by
 cases v with
 |rv r=>exact .rv (.bb r)
 |bD rs=>
  refine .bD aE λi c c' h h'=>?_
  rw[Tm,h']at h;cases h;exact .bb c'
 |aA=>exact .aA _
 |undef=>exact .undef
theorem rK.bb{v v':CV}(h:v'.bb Y=v):rK Y m Z v v':=h▸ .FM v'
theorem mH.FM{id:Nat}(b:Bk)(hb:b≠.aS):mH Y m Z id (b.bb Y) b:=by
 cases b with
 |aS=>exact absurd rfl hb
 |var cs=>
  refine .var λi c' h=>⟨c'.bb Y,by rw[Tm,h];rfl,.bb c'⟩
 |row s es=>
  refine .row s aE (λi cs fj h h'=>?_) λi cs fj j c c' h h' g g'=>?_
  .rw[Tm,h']at h;cases h;simp
  .rw[Tm,h']at h;cases h;rw[Tm,g']at g;cases g;exact .bb c'
 |mp es=>
  refine .mp aE λi e e' h h'=>?_
  rw[Tm,h']at h;cases h;exact⟨rfl,.bb _⟩
 |it cur left=>exact .it cur left
 |mo esz es so=>exact .mo esz es so
 |iw mid ip seen=>exact .iw mid ip seen
theorem qt.SY{Y:Nat->Nat}{b:Bk}{i j s:Nat}{e:List (List Dt)}(h:qt (b.bb Y) i j s e):qt b i j s e:=by
 cases b with
 |row s0 es0=>
  obtain⟨cs,hi,hj⟩:=h.yO;rw[Tm]at hi;obtain⟨Dn,we,rfl⟩:=aaz.1 hi;rw[Tm]at hj;obtain⟨c0,hj0,Mt⟩:=aaz.1 hj;have:c0= .ei s e:=by cases c0<;>simp[CC.bb]at Mt|-;exact Mt
  subst this;exact .row we hj0
 |mo esz es so=>
  obtain⟨k,hi,rfl,rfl⟩:=h.Su;rw[Tm]at hi;obtain⟨e0,we,he⟩:=aaz.1 hi;obtain⟨k0,v0⟩:=e0;cases v0 with
  |ei l=>simp only[MO.bb,MO.mk.injEq,MV.ei.injEq]at he;obtain⟨rfl,rfl⟩:=he;exact .mo we
  |row n=>simp[MO.bb]at he
 |_=>cases h
def aa(ds:List (List Dt)):List (List CC):=ds.map λes=>es.map .ah
theorem dz(ds:List (List Dt)):(aa ds).map (λcs=>cs.map (CC.bb Y))=aa ds:=by simp[aa,CC.bb]
theorem Bk.jG(s:Nat)(ds:List (List Dt)):(Bk.row s (aa ds)).bb Y= .row s (aa ds):=by simp only[Bk.bb,dz]
theorem d5.fl{p:Option Nat}{id esz:Nat}{ds:List (List Dt)}(hz:Z id)(h:m[id]? =some (.row esz (aa ds)))(lo:Nat)(hi:Option Nat):d5 m Z p (.row id esz lo hi) (.sl esz (b9 ds lo hi)):=by
 refine .row id esz lo hi _ ds hz h (by simp[aa]) (λi cs es h1 h2=>?_) λi cs es j c d h1 h2 h3 h4=>?_
 .simp only[aa,Tm,h2,aaD,aav]at h1;subst h1;simp
 .simp only[aa,Tm,h2,aaD,aav]at h1;subst h1;simp only[Tm,h4,aaD,aav]at h3;subst h3;exact .ah d
inductive iC(Y:Nat->Nat)(m:Mem)(Z:Nat->Prop):List CV->List CV->Prop
 |nil:iC Y m Z [] []
 |aA {v:CV} {e e':List CV} (h:iC Y m Z e e'):iC Y m Z (v::e) (.aA::e')
 |put {v v':CV} {e e':List CV} (hv:rK Y m Z v v') (h:iC Y m Z e e'):iC Y m Z (v::e) (v'::e')
theorem iC.len{e e':List CV}(h:iC Y m Z e e'):e'.length=e.length:=by
 induction h<;>simp[*]
theorem iC.get{e e':List CV}(h:iC Y m Z e e'):∀(i:Nat)c',e'[i]? =some c'->∃c,e[i]? =some c/\rK Y m Z c c':=by
 induction h with
 |nil=>intro i v h;simp at h
 |aA h ih=>
  intro i v hv;cases i with
  |zero=>simp at hv;subst hv;exact⟨_,rfl,.aA _⟩
  |succ i=>simpa using ih i v (by simpa using hv)
 |put hx h ih=>
  intro i v hv;cases i with
  |zero=>simp at hv;subst hv;exact⟨_,rfl,hx⟩
  |succ i=>simpa using ih i v (by simpa using hv)
theorem iC.eq{v v':CV}{e e':List CV}(hv:v'.bb Y=v)(h:iC Y m Z e e'):iC Y m Z (v::e) (v'::e'):= .put (.bb hv) h
inductive eH(Y:Nat->Nat)(m:Mem)(Z:Nat->Prop):Nat->Mem->Prop
 |nil (k:Nat):eH Y m Z k []
 |aS {k:Nat} {r:Mem} (h:eH Y m Z (k+1) r):eH Y m Z k (.aS::r)
 |put {k:Nat} {b b':Bk} {r:Mem} (hz:¬Z (Y k)) (hb:cF m (Y k)=some b) (hv:mH Y m Z (Y k) b b') (h:eH Y m Z (k+1) r):eH Y m Z k (b'::r)
theorem eH.get{k:Nat}{m':Mem}(h:eH Y m Z k m'):∀(i:Nat)b',m'[i]? =some b'->b'= .aS\/(¬Z (Y (k+i))/\∃b,m[Y (k+i)]? =some b/\mH Y m Z (Y (k+i)) b b'):=by
 induction h with
 |nil k=>intro i b' h;simp at h
 | @aS k r h ih=>
  intro i b' hi;cases i with
  |zero=>simp at hi;exact .inl hi.symm
  |succ i=>
   have:=ih i b' (by simpa using hi)
   rwa [show k+1+i=k+(i+1) by omega]at this
 | @put k b b1 r hz hb hv h ih=>
  intro i b' hi;cases i with
  |zero=>simp at hi;subst hi;exact .inr ⟨hz,_,by rw[<-aT];exact hb,hv⟩
  |succ i=>
   have:=ih i b' (by simpa using hi)
   rwa [show k+1+i=k+(i+1) by omega]at this
theorem View.of{e e':List CV}{m m':Mem}(n:Nat)(l F:List Nat)(hn:m.length=n)(hl:m'.length=l.length)(h0:Nat.ble n0 l.length=true)(hi:Dq l n0=true)(hd:fJ l=true)(ha:eP n l=true)(o5:iC (sg l n) m (λk=>br F k=true) e e')(iu:eH (sg l n) m (λk=>br F k=true) 0 m'):View n0 ⟨e,m⟩ ⟨e',m'⟩:=by
 have h0':n0<=l.length:=aad h0;refine View.mk' (sg l n) _ (by simp only;omega) o5.len (λi aC=>?_) (λi j _ _ h=>Bj hd ha h) (λi aC=>?_) (λi c' h=>o5.get i c' h) (λi b' h=>by have:=iu.get i b' h;simpa using this)
 .rw[ng om];have:=su hi i aC;rw[vU om]at this;simpa using this
 .rcases aaf i l.length with h|h
  .simp only;omega
  .rw[sx h]at aC;simp only at aC;omega
theorem View.of2{e e':List CV}{m m':Mem}(n x:Nat)(l:List Nat)(hn:m.length=n)(hl:m'.length=l.length+1)(h0:Nat.ble n0 l.length=true)(hi:Dq l n0=true)(hd:fJ l=true)(ha:eP n l=true)(hx:Nat.blt x n0=true)(jv:cF m' x=some .aS)(o5:iC (sg (gJ l [x]) n) m (λk=>br [] k=true) e e')(iu:eH (sg (gJ l [x]) n) m (λk=>br [] k=true) 0 m'):View n0 ⟨e,m⟩ ⟨e',m'⟩:=by
 have h0':n0<=l.length:=aad h0;have tL:x<n0:=aad hx;have hxl:l[x]? =some x:=su hi x tL;have hxn:x<n:=nf ha x (Tp hxl);rw[cg]at o5 iu;rw[aT]at jv;have hz:(λk=>br [] k=true)=λ_=>False:=by funext k;simp[br]
 rw[hz]at o5 iu;have hL:(l++ [x]).length=l.length+1:=aE;have old:∀i,i<l.length->sg (l++ [x]) n i=sg l n i:=λi h=>by rw[ng om,ng h,List.getElem_append_left h]
 have new:sg (l++ [x]) n l.length=x:=by rw[ng om];simp
 refine View.mk2 (sg (l++ [x]) n) (by simp only;omega) o5.len (λi aC=>?_) (λi j Jj y3 EN Uv h=>?_) (λi aC=>?_) (λi c' h=>o5.get i c' h) (λi b' h=>by have:=iu.get i b' h;simpa using this)
 .rw[old i om,ng om];have:=su hi i aC;rw[vU om]at this;simpa using this
 .have key:∀i,i<l.length->m'[i]? ≠some .aS->sg (l++ [x]) n i=x->False:=by
   intro i h EN he;rw[old i h]at he;have:sg l n i=sg l n x:=by rw[he,ng om];rw[vU om]at hxl;simpa using hxl.symm
   have:=Bj hd ha this;subst this;exact EN jv
  simp only at Jj y3 EN Uv;rw[hl]at Jj y3;by_cases h1:i=l.length<;>by_cases h2:j=l.length
  .rw[h1,h2]
  .rw[h1,new]at h;exact(key j om Uv h.symm).elim
  .rw[h2,new]at h;exact(key i om EN h).elim
  .rw[old i om,old j om]at h;exact Bj hd ha h
 .rcases aaf i (l.length+1)with h|h
  .simp only;omega
  .rw[sx om]at aC;simp only at aC;omega
theorem bJ{f:Nat}{args:List CV}{m:Mem}{K0 K:CV->Mem->Prop}(h:ap P f args m K0)(hK:∀r m1,K0 r m1->∃r' m',View m.length ⟨[r],m1⟩ ⟨[r'],m'⟩/\K r' m'):ap P f args m K:=by
 refine⟨h.1,λρ w vs hM hl hd=>?_⟩
 refine(h.2 ρ w vs hM hl hd).mono λe w'⟨v,r,m1,ρ1,he,hk,r8,vG,hx⟩=>?_
 obtain⟨r',m',hv,fZ⟩:=hK r m1 hk;obtain⟨U',jo,hc,p7⟩:=hv.go ρ1 w' r8;have hn:=hM.n;refine⟨v,r',m',U',he,fZ,jo,?_,⟨by rw[hn,jo.n];exact hv.hn,λid hid=>(hc.aI id (by rw[<-hn];exact hid)).trans (hx.aI id hid),λb hb=>hc.S b (hx.S b hb),λb hb=>?_,λk hk=>?_,hx.frame,hx.size,hx.os,hx.tape,hx.output⟩⟩
 .obtain⟨c,rT,MN⟩:=p7 0 r' rfl;simp at rT;subst rT;exact MN v vG
 .rcases hc.S' b hb with h|⟨k,hk,rfl⟩
  .exact hx.S' b h
  .exact .inr (hx.aL k hk)
 .obtain⟨k0,h0,e0⟩:=hc.aL k hk;rw[<-e0];exact hx.aL k0 h0
def nh(Y:Nat->Nat):Mem->Mem
 | []=>[]
 |b::r=>b.bb Y::nh Y r
theorem Bl(Y:Nat->Nat):∀m,nh Y m=m.map (Bk.bb Y)
 | []=>rfl
 |b::r=>by simp[nh,Bl Y r]
def c6:Mem->List Nat->Mem->Mem
 |m,[],ms=>gJ m ms
 |m,_::_,[]=>m
 |m,id::l,b::ms=>c6 (aV m id b) l ms
theorem zW:∀(l:List Nat)(m ms:Mem),l.length<=ms.length->(c6 m l ms).length=m.length+(ms.length-l.length)
 | [],m,ms,_=>by simp[c6,cg]
 |_::l,m,[],h=>by simp at h
 |id::l,m,b::ms,h=>by simp at h;rw[c6,zW l _ _ h,aY];simp
theorem tV:∀(l:List Nat)(m ms:Mem)(j:Nat),j<m.length->j∉l->(c6 m l ms)[j]? =m[j]?
 | [],m,ms,j,hj,_=>by simp[c6,cg,aac hj]
 |_::l,m,[],j,_,_=>by simp[c6]
 |id::l,m,b::ms,j,hj,hn=>by
  simp at hn;rw[c6,tV l _ _ j (by rw[aY];simpa using hj) hn.2,aY,U7 (λh=>hn.1 h.symm)]
theorem zX:∀(l:List Nat)(m ms:Mem),fJ l=true->eP m.length l=true->l.length<=ms.length->∀(i:Nat),i<ms.length->(c6 m l ms)[sg l m.length i]? =ms[i]?
 | [],m,ms,_,_,_,i,hi=>by simp only[c6,cg,sg,cF,abl,acQ];rw[ZZ om];simp
 |_::l,m,[],_,_,h,_,_=>by simp at h
 |id::l,m,b::ms,hd,ha,h,i,hi=>by
  simp only[fJ,aab,abN]at hd;simp only[eP,aab]at ha;simp at h hi;have hlen:(aV m id b).length=m.length:=by rw[aY];simp
  have hid:id<m.length:=aad ha.1;cases i with
  |zero=>
   rw[c6];show(c6 (aV m id b) l ms)[id]? =some b;rw[tV l _ _ id (by rw[hlen];exact hid) (λh=>by rw[xn.2 h]at hd;cases hd.1),aY]
   simp[hid]
  |succ i=>
   have:=zX l (aV m id b) ms hd.2 (by rw[hlen];exact ha.2) h i om
   rw[hlen]at this;rw[c6];have e:sg (id::l) m.length (i+1)=sg l m.length i:=by simp[sg,cF]
   rw[e,this];simp
theorem bj.pos{ρ:bI}{w:World}{pos pos':Option (Nat×Nat×Nat)}{c:CC}{v:Value}(hc:∀s e,c≠.ei s e)(h:bj ρ w pos c v):bj ρ w pos' c v:=by
 cases c<;>simp only[bj]at h|-
 case ei=>exact absurd rfl (hc _ _)
 all_goals exact h
theorem bj.abk{ρ U':bI}{w:World}{pos:Option (Nat×Nat×Nat)}(hn:ρ.n<=U'.n)(bO:∀id,id<ρ.n->U'.aI (.aj id)=ρ.aI (.aj id))(iN:∀id i j,pos=some (id,i,j)->U'.aI (.sub id i j)=ρ.aI (.sub id i j))(hS:∀b,ρ.S b->U'.S b){w':World}(eF:∀b,ρ.S b->w'.heap[b]? =w.heap[b]?){c:CC}{v:Value}(h:bj ρ w pos c v):bj U' w' pos c v:=by
 let ρ1:bI:={n:=U'.n,aI:=λk=>match k with| .aj id=>U'.aI (.aj id)|k=>ρ.aI k,S:=U'.S}
 have g:iL ρ w ρ1 w':=⟨hn,λk hk=>by
  cases k with
  |aj id=>exact bO id hk
  |sub id i j=>rfl,hS,eF⟩
 by_cases hc:∃s e,c= .ei s e
 .obtain⟨esz,elems,rfl⟩:=hc;obtain⟨id,i,j,cI,hr⟩:=h;refine⟨id,i,j,cI,?_⟩;rw[iN id i j cI];exact hr
 .have hc:∀s e,c≠.ei s e:=λs e h=>hc ⟨s,e,h⟩
  have h1:=bj.pos (pos':=pos) hc (bj.cm g aE (bj.pos (pos':=none) hc h));cases c<;>simp only[bj]at h1|-
  case ei=>exact absurd rfl (hc _ _)
  all_goals exact h1
theorem bj.bb{ρ U':bI}{τ:Nat->Nat}{w:World}{pos pos':Option (Nat×Nat×Nat)}(hτ:∀i,i<ρ.n->τ i<U'.n)(dI:∀i,i<ρ.n->U'.aI (.aj (τ i))=ρ.aI (.aj i))(hS:∀b,ρ.S b->U'.S b)(cI:∀id i j,pos=some (id,i,j)->pos'=some (τ id,i,j)/\U'.aI (.sub (τ id) i j)=ρ.aI (.sub id i j)){c:CC}{v:Value}(h:bj ρ w pos c v):bj U' w pos' (c.bb τ) v:=by
 cases c<;>simp only[bj,CC.bb]at h|-
 case aA=>exact h
 case ah=>exact h.mono hS (λ_ _=>rfl)
 case ptr id _=>rw[dI id h.1];exact⟨hτ id h.1,h.2⟩
 case nI id _ _ _=>rw[dI id h.1];exact⟨hτ id h.1,h.2⟩
 case rL=>
  obtain⟨b,off,h1,h2,h3⟩:=h;refine⟨b,off,h1,hS _ h2,λj d hj=>?_⟩
  obtain⟨u,hu,cy⟩:=h3 j d hj;exact⟨u,hu,cy.mono hS (λ_ _=>rfl)⟩
 case row id _ _ _=>rw[dI id h.1];exact⟨hτ id h.1,h.2⟩
 case aO=>exact h
 case map id=>rw[dI id h.1];exact⟨hτ id h.1,h.2⟩
 case fn f eE=>
  refine⟨λid hid=>?_,?_⟩
  .obtain⟨i,hi,rfl⟩:=aal.1 hid;exact hτ i (h.1 i hi)
  .rw[h.2];congr 2;rw[abF];exact acO λid hid=>by simp only[Function.comp];rw[dI id (h.1 id hid)]
 case ei s e=>
  obtain⟨a,b,c,h1,h2⟩:=h;obtain⟨h3,h4⟩:=cI a b c h1;refine⟨τ a,b,c,h3,?_⟩;rw[h4];exact h2
theorem df.bb{ρ U':bI}{τ:Nat->Nat}{w:World}(hτ:∀i,i<ρ.n->τ i<U'.n)(dI:∀i,i<ρ.n->U'.aI (.aj (τ i))=ρ.aI (.aj i))(hS:∀b,ρ.S b->U'.S b){c:RV}{v:Value}(h:df ρ w c v):df U' w (c.bb τ) v:=by
 cases c with
 |one c=>exact bj.bb hτ dI hS (λ_ _ _ h=>by cases h) h
 |agg cs=>
  obtain⟨vs,rfl,h1,h2⟩:=h;refine⟨vs,rfl,by simpa using h1,λi c hi=>?_⟩
  rw[Tm]at hi;obtain⟨c0,h0,rfl⟩:=aaz.1 hi;obtain⟨u,hu,hd⟩:=h2 i c0 h0;exact⟨u,hu,bj.bb hτ dI hS (λ_ _ _ h=>by cases h) hd⟩
theorem ce.bb{ρ U':bI}{τ:Nat->Nat}{w:World}(hτ:∀i,i<ρ.n->τ i<U'.n)(dI:∀i,i<ρ.n->U'.aI (.aj (τ i))=ρ.aI (.aj i))(hS:∀b,ρ.S b->U'.S b){c:CV}{v:Value}(h:ce ρ w c v):ce U' w (c.bb τ) v:=by
 cases c with
 |aA=>trivial
 |undef=>exact h
 |rv r=>exact df.bb hτ dI hS h
 |bD cs=>
  obtain⟨vs,rfl,h1,h2⟩:=h;refine⟨vs,rfl,by simpa using h1,λi c hi=>?_⟩
  rw[Tm]at hi;obtain⟨c0,h0,rfl⟩:=aaz.1 hi;obtain⟨u,hu,hd⟩:=h2 i c0 h0;exact⟨u,hu,df.bb hτ dI hS hd⟩
theorem cJ.bb{ρ U':bI}{τ:Nat->Nat}{w:World}(hτ:∀i,i<ρ.n->τ i<U'.n)(dI:∀i,i<ρ.n->U'.aI (.aj (τ i))=ρ.aI (.aj i))(hS:∀b,ρ.S b->U'.S b){id:Nat}(hid:id<ρ.n)(iN:∀i j,U'.aI (.sub (τ id) i j)=ρ.aI (.sub id i j)){b:Bk}(h:cJ ρ w id b):cJ U' w (τ id) (b.bb τ):=by
 cases b with
 |aS=>trivial
 |var cs=>
  obtain⟨cur,hc,hd⟩:=h;simp only[Bk.bb,cJ,dI id hid];refine⟨cur,hc,λj c hj=>?_⟩
  rw[Tm]at hj;obtain⟨c0,h0,rfl⟩:=aaz.1 hj;obtain⟨u,hu,cy⟩:=hd j c0 h0;exact⟨u,hu,bj.bb hτ dI hS (λ_ _ _ h=>by cases h) cy⟩
 |row s es=>
  obtain⟨h2,h3,h4,h5,bX⟩:=h;simp only[Bk.bb,cJ,dI id hid];refine⟨by simpa using h2,h3,h4,λcs fe=>?_,λcI=>?_⟩
  .obtain⟨Dn,h0,rfl⟩:=aal.1 fe;simpa using h5 Dn h0
  .obtain⟨cur,hc,h1,h6⟩:=bX cI;refine⟨cur,hc,h1,λi cs j c hi hj=>?_⟩
   rw[Tm]at hi;obtain⟨Dn,h0,rfl⟩:=aaz.1 hi;rw[Tm]at hj;obtain⟨c0,V1,rfl⟩:=aaz.1 hj;obtain⟨u,hu,cy⟩:=h6 i Dn j c0 h0 V1;exact⟨u,hu,bj.bb hτ dI hS (λa b c h=>by cases h;exact⟨rfl,iN _ _⟩) cy⟩
 |mp es=>
  obtain⟨ae,clock,hc,h1,h2⟩:=h;simp only[Bk.bb,cJ,dI id hid];refine⟨ae,clock,hc,by simpa using h1,λi e hi=>?_⟩
  rw[Tm]at hi;obtain⟨e0,h0,rfl⟩:=aaz.1 hi;obtain⟨LJ,LK,hk,p7⟩:=h2 i e0 h0;exact⟨LJ,LK,hk,df.bb hτ dI hS p7⟩
 |it cur left=>
  obtain⟨mb,seen,ck,bq,h2,h3,h4,h5,h6⟩:=h;simp only[Bk.bb,cJ,dI id hid];exact⟨mb,seen,ck,bq,h2,h3,hS _ h4,h5,h6⟩
 |mo esz es so=>
  obtain⟨ae,clock,hc,⟨h1,h2⟩,h3⟩:=h;simp only[Bk.bb,cJ,dI id hid];refine⟨ae,clock,hc,⟨by simpa using h1,λi e hi=>?_⟩,h3⟩
  rw[Tm]at hi;obtain⟨e0,h0,rfl⟩:=aaz.1 hi;obtain⟨LJ,LK,hk,hp,p7⟩:=h2 i e0 h0;have yJ:=bj.bb (pos':=some (τ id,i,0)) hτ dI hS (λa b c h=>by cases h;exact⟨rfl,iN _ _⟩) p7
  obtain⟨k,v⟩:=e0;cases v<;>exact⟨LJ,LK,hk,hp,yJ⟩
 |iw mid ip seen=>
  obtain⟨h1,h2,s,h3,h4⟩:=h;simp only[Bk.bb,cJ,dI id hid,dI mid h1];exact⟨hτ mid h1,h2,s,h3,h4⟩
end
section
variable {P:Program}
theorem FN{l:List Nat}{n i:Nat}(hi:sg l n i<n):i<l.length:=by
 rcases aaf i l.length with h|h
 .exact h
 .rw[sx h]at hi;omega
theorem bu{f:Nat}{args args0:List CV}{m m0:Mem}{K0 K:CV->Mem->Prop}(l:List Nat)(n:Nat)(hn:m.length=n)(hl:m0.length=l.length)(hd:fJ l=true)(ha:eP n l=true)(eX:args=args0.map (CV.bb (sg l n)))(hm:∀(i:Nat)b',m0[i]? =some b'->b'= .aS\/(¬False/\∃b,m[sg l n i]? =some b/\mH (sg l n) m (λ_=>False) (sg l n i) b b'))(h:ap P f args0 m0 K0)(hK:∀r m1,K0 r m1->l.length<=m1.length/\K (r.bb (sg l n)) (c6 m l (nh (sg l n) m1))):ap P f args m K:=by
 subst hn;refine⟨h.1,λρ w vs hM yZ hvd=>?_⟩
 have oU:∀i j,sg l m.length i=sg l m.length j->i=j:=λi j h=>Bj hd ha h
 obtain⟨ml,hC0,P0⟩:=wh (n0:=0) (Y:=sg l m.length) (Z:=λ_=>False) (m':=m0) hM (λi h=>absurd h (aaU i)) (λi j _ _ _ _ h=>oU i j h) (λi h=>by rw[hl];exact FN h) hm
 have ZG:∀b,(ρ.vw (sg l m.length) (λ_=>False) m m0.length).S b↔ρ.S b:=λb=>⟨λh=>h.elim id λ⟨k,_,hf,_⟩=>hf.elim,.inl⟩
 have kG:ρ.n=m.length:=hM.n;refine(h.2 _ w vs ml (by rw[yZ,eX];simp) λi c hi=>?_).mono λe w'⟨v,r,m1,ρ1,he,hk,r8,vG,hx⟩=>?_
 .obtain⟨v,hv,p7⟩:=hvd i (c.bb (sg l m.length)) (by rw[eX,Tm,hi];rfl)
  exact⟨v,hv,rK.jS hM (λi h=>by rw[hl];exact FN h) (.FM c) p7⟩
 .obtain⟨hle,fZ⟩:=hK r m1 hk;have q8:ρ1.n=m1.length:=r8.n;let back:Nat->Option Nat:=λj=>(List.range m1.length).find? λi=>sg l m.length i==j
  have ld:∀{j i},back j=some i->i<m1.length/\sg l m.length i=j:=by
   intro j i hb;have h1:=List.mem_of_find?_eq_some hb;have h2:=List.find?_some hb;exact⟨by simpa using h1,by simpa using h2⟩
  have H4:∀{i},i<m1.length->back (sg l m.length i)=some i:=by
   intro i hi;cases hb:back (sg l m.length i)with
   |none=>
    have:=adU.1 hb i (by simpa using hi)
    simp at this
   |some j=>rw[oU _ _ (ld hb).2]
  have pV:∀{j},j<m.length+(m1.length-l.length)->back j=none->j<m.length/\j∉l:=by
   intro j hj hb;have kF:=adU.1 hb;refine⟨?_,λmh=>?_⟩
   .rcases aaf j m.length with h|h
    .exact h
    .have:=kF (l.length+(j-m.length)) (by simp;omega)
     rw[sx om]at this;simp at this;omega
   .obtain⟨i,hi⟩:=aaa mh;obtain⟨aC,rfl⟩:=Km.1 hi;have:=kF i (by simp;omega)
    rw[ng aC]at this;simp at this
  let U':bI:={n:=m.length+(m1.length-l.length),aI:=λk=>match back k.id with
   |some i=>(match k with| .aj _=>ρ1.aI (.aj i)| .sub _ a b=>ρ1.aI (.sub i a b))
   |none=>ρ.aI k,S:=ρ1.S}
  have QK:∀i,i<ρ1.n->U'.aI (.aj (sg l m.length i))=ρ1.aI (.aj i):=by intro i hi;rw[q8]at hi;simp only[U',gw.id,H4 hi]
  have Uw:∀i a b,i<ρ1.n->U'.aI (.sub (sg l m.length i) a b)=ρ1.aI (.sub i a b):=by intro i a b hi;rw[q8]at hi;simp only[U',gw.id,H4 hi]
  have JS:∀k:gw,back k.id=none->U'.aI k=ρ.aI k:=by intro k hb;simp only[U',hb]
  have FO:∀id,id<ρ.n->U'.aI (.aj id)=ρ.aI (.aj id):=by
   intro id hid;cases hb:back id with
   |none=>exact JS (.aj id) hb
   |some i=>
    obtain⟨h1,h2⟩:=ld hb;have hi:i<l.length:=FN (by rw[h2,<-kG];exact hid)
    rw[<-h2,QK i (by rw[q8];exact h1),hx.aI i (by show i<m0.length;omega)]
    rfl
  have m6:∀i,i<ρ1.n->sg l m.length i<U'.n:=by
   intro i hi;rw[q8]at hi;show _<m.length+(m1.length-l.length);rcases aaf i l.length with h|h
   .rw[ng h];have:=nf ha _ (aaw h);omega
   .rw[sx h];omega
  have H5:(nh (sg l m.length) m1).length=m1.length:=by rw[Bl];simp
  have ZH:(c6 m l (nh (sg l m.length) m1)).length=m.length+(m1.length-l.length):=by
   rw[zW l m _ (by rw[H5];exact hle),H5]
  have ZI:∀i,i<m1.length->(c6 m l (nh (sg l m.length) m1))[sg l m.length i]? =(m1[i]?).map (Bk.bb (sg l m.length)):=by
   intro i hi;rw[zX l m _ hd ha (by rw[H5];exact hle) i (by rw[H5];exact hi),Bl,Tm]
  have hwo:∀j,back j=none->j<m.length+(m1.length-l.length)->(c6 m l (nh (sg l m.length) m1))[j]? =m[j]? :=by intro j hb hj;obtain⟨h1,h2⟩:=pV hj hb;exact tV l m _ j h1 h2
  have va:∀k,Live ρ m k->(k.id<m.length->k.id∉l)->(∀k0,Live (ρ.vw (sg l m.length) (λ_=>False) m m0.length) m0 k0->((ρ.vw (sg l m.length) (λ_=>False) m m0.length).aI k0).b≠(ρ.aI k).b):=by
   intro k hk Na k0 H3 he;have h1:=P0 k0 H3;have h2:=hM.inj _ _ h1 hk he;have h3:=H3.eT;rw[hl]at h3;apply Na hk.eT;rw[<-h2];cases k0<;>simp only[gw.bb,gw.id]at h3|-<;>rw[ng h3]<;>exact aaw h3
  have eF:∀k,Live ρ m k->(k.id<m.length->k.id∉l)->w'.heap[(ρ.aI k).b]? =w.heap[(ρ.aI k).b]? :=λk hk Na=>hx.frame _ (hM.aL k hk).1 (va k hk Na)
  have wS:∀b,ρ.S b->w'.heap[b]? =w.heap[b]? :=λb hb=>hx.frame b (hM.S b hb) λk hk he=>(ml.aL k hk).2 (he▸(ZG b).2 hb)
  have ZJ:∀b,ρ.S b->ρ1.S b:=λb hb=>hx.S b ((ZG b).2 hb)
  have XL:∀k,Live ρ m k->(k.id<m.length->k.id∉l)->¬ρ1.S (ρ.aI k).b:=by
   intro k hk Na hs;rcases hx.S' _ hs with h|h|⟨k0,H3,he⟩
   .exact(hM.aL k hk).2 ((ZG _).1 h)
   .have:=(hM.aL k hk).1;omega
   .exact va k hk Na k0 H3 he
  have gj:∀k,Live U' (c6 m l (nh (sg l m.length) m1)) k->(∃k1,k1.id<m1.length/\k=k1.bb (sg l m.length)/\Live ρ1 m1 k1/\U'.aI k=ρ1.aI k1)\/(back k.id=none/\k.id<m.length/\k.id∉l/\Live ρ m k/\U'.aI k=ρ.aI k):=by
   intro k hk;have aC:=hk.eT;rw[ZH]at aC;cases hb:back k.id with
   |none=>
    obtain⟨h1,h2⟩:=pV aC hb;have Ux:=hwo k.id hb aC;refine .inr ⟨rfl,h1,h2,?_,JS k hb⟩;have bO:=JS k hb;cases k with
    |aj id=>
     obtain⟨bk,db,lX,be⟩:=hk;simp only[gw.id]at Ux;rw[Ux]at db;rw[bO]at be;exact⟨bk,db,lX,be⟩
    |sub id a b=>
     obtain⟨⟨s,e,b2,db,ho⟩,be⟩:=hk;simp only[gw.id]at Ux;rw[Ux]at db;rw[bO]at be;exact⟨⟨s,e,b2,db,ho⟩,be⟩
   |some i=>
    obtain⟨h1,h2⟩:=ld hb;have Ux:=ZI i h1;cases k with
    |aj id=>
     simp only[gw.id]at h2;subst h2;have bO:=QK i (by rw[q8];exact h1)
     refine .inl ⟨.aj i,h1,rfl,?_,bO⟩;obtain⟨bk,db,lX,be⟩:=hk;rw[Ux]at db;obtain⟨b0,h0,rfl⟩:=aaz.1 db;rw[bO]at be;refine⟨b0,h0,?_,?_⟩
     .rintro rfl;exact lX rfl
     .rintro⟨s,es,rfl⟩;exact be ⟨_,_,rfl⟩
    |sub id a b=>
     simp only[gw.id]at h2;subst h2;have bO:=Uw i a b (by rw[q8];exact h1)
     refine .inl ⟨.sub i a b,h1,rfl,?_,bO⟩;obtain⟨⟨s,e,b2,db,ho⟩,be⟩:=hk;rw[Ux]at db;obtain⟨b0,h0,rfl⟩:=aaz.1 db;rw[bO]at be;exact⟨⟨s,e,_,h0,ho.SY⟩,be⟩
  have abn:∀{j i},back j=some i->i<ρ1.n/\sg l m.length i=j:=λhb=>by rw[q8];exact ld hb
  refine⟨v,r.bb (sg l m.length),c6 m l (nh (sg l m.length) m1),U',he,fZ,⟨ZH.symm,λb hb=>r8.S b hb,λk hk=>?_,λk k' hk oW nT=>?_,λid b hb=>?_,λid i j esz e ho be=>?_⟩,ce.bb m6 QK (λ_ h=>h) vG,
   ⟨by show ρ.n<=_;rw[kG];exact Nat.le_add_right _ _,FO,ZJ,λb hb=>?_,λk hk=>?_,λb hb hnk=>hx.frame b hb λk hk he=>hnk _ (P0 k hk) he,hx.size,hx.os,hx.tape,hx.output⟩⟩
  .rcases gj k hk with⟨k1,_,_,kM,bO⟩|⟨_,h1,h2,kM,bO⟩
   .rw[bO];exact r8.aL k1 kM
   .rw[bO];exact⟨aaI (hM.aL k kM).1 hx.size,XL k kM λ_=>h2⟩
  .have mixed:∀k1 k2,Live ρ1 m1 k1->Live ρ m k2->k2.id∉l->(ρ1.aI k1).b≠(ρ.aI k2).b:=by
    intro k1 k2 kM oW Ub kL;rcases hx.aL k1 kM with h|⟨k0,H3,e0⟩
    .have:=(hM.aL k2 oW).1;omega
    .exact va k2 oW (λ_=>Ub) k0 H3 (e0.trans kL)
   rcases gj k hk with⟨k1,_,rfl,kM,bO⟩|⟨_,h1,h2,kM,bO⟩<;>rcases gj k' oW with⟨k1',_,rfl,Nb,j9⟩|⟨_,C2,LA,Nb,j9⟩
   .rw[bO,j9]at nT;rw[r8.inj k1 k1' kM Nb nT]
   .rw[bO,j9]at nT;exact absurd nT (mixed k1 k' kM Nb LA)
   .rw[bO,j9]at nT;exact absurd nT.symm (mixed k1' k Nb kM h2)
   .rw[bO,j9]at nT;exact hM.inj k k' kM Nb nT
  .have aC:id<m.length+(m1.length-l.length):=by rw[<-ZH];exact(Km.1 hb).1
   cases db:back id with
   |some i=>
    obtain⟨h1,rfl⟩:=ld db;rw[ZI i h1]at hb;obtain⟨b0,h0,rfl⟩:=aaz.1 hb;exact cJ.bb m6 QK (λ_ h=>h) (by rw[q8];exact h1) (λa b=>Uw i a b (by rw[q8];exact h1)) (r8.bk i b0 h0)
   |none=>
    obtain⟨h1,h2⟩:=pV aC db;rw[hwo id db aC]at hb;have eG:=hM.bk id b hb;have bO:U'.aI (.aj id)=ρ.aI (.aj id):=JS (.aj id) db;have d8:ρ.n<=U'.n:=by rw[kG];exact Nat.le_add_right _ _
    have ju:∀{p c u},(∀a i j,p=some (a,i,j)->a=id)->bj ρ w p c u->bj U' w' p c u:=λ{p c u}hp hd=>bj.abk d8 FO (λa i j yV=>by rw[hp a i j yV];exact JS (.sub id i j) db) ZJ wS hd
    have j8:∀{c u},df ρ w c u->df U' w' c u:=by
     intro c u hd;cases c with
     |one c=>exact ju (λ_ _ _ h=>by cases h) hd
     |agg cs=>
      obtain⟨vs,hv,A2,hc⟩:=hd;exact⟨vs,hv,A2,λi c hi=>let⟨u,hu,hd⟩:=hc i c hi;⟨u,hu,ju (λ_ _ _ h=>by cases h) hd⟩⟩
    have hh:b≠.aS->((∃esz elems,b= .row esz elems)->0<(ρ.aI (.aj id)).cap)->w'.heap[(ρ.aI (.aj id)).b]? =w.heap[(ρ.aI (.aj id)).b]? :=λlX be=>eF (.aj id) ⟨b,hb,lX,be⟩ λ_=>h2
    cases b with
    |aS=>trivial
    |var cs=>
     obtain⟨cur,hc,yX⟩:=eG;simp only[cJ,bO];refine⟨cur,hc.dC (hh aE (by rintro⟨_,_,h⟩;cases h)),λj c hj=>?_⟩
     obtain⟨u,hu,cy⟩:=yX j c hj;exact⟨u,hu,ju (λ_ _ _ h=>by cases h) cy⟩
    |row esz elems=>
     obtain⟨g2,g3,g4,g5,bX⟩:=eG;simp only[cJ,bO];refine⟨g2,g3,g4,g5,λcI=>?_⟩
     obtain⟨cur,hc,q1,q6⟩:=bX cI;refine⟨cur,hc.dC (hh aE (λ_=>cI)),q1,λi cs j c hi hj=>?_⟩
     obtain⟨u,hu,cy⟩:=q6 i cs j c hi hj;exact⟨u,hu,ju (λ_ _ _ h=>by cases h;rfl) cy⟩
    |mp es=>
     obtain⟨ae,clock,hc,q1,q2⟩:=eG;simp only[cJ,bO];refine⟨ae,clock,⟨(hh aE (by rintro⟨_,_,h⟩;cases h)).trans hc.1,hc.2⟩,q1,λi e hi=>?_⟩
     obtain⟨LJ,LK,u9,p7⟩:=q2 i e hi;exact⟨LJ,LK,u9,j8 p7⟩
    |it cur left=>
     obtain⟨mb,seen,ck,bq,q2,q3,q4,q5,q6⟩:=eG;simp only[cJ,bO];exact⟨mb,seen,ck,bq,(hh aE (by rintro⟨_,_,h⟩;cases h)).trans q2,q3,ZJ _ q4,(wS mb q4).trans q5,q6⟩
    |mo esz es so=>
     obtain⟨ae,clock,hc,⟨q1,q2⟩,q3⟩:=eG;simp only[cJ,bO];refine⟨ae,clock,⟨(hh aE (by rintro⟨_,_,h⟩;cases h)).trans hc.1,hc.2⟩,⟨q1,λi e hi=>?_⟩,q3⟩
     obtain⟨LJ,LK,u9,hp,p7⟩:=q2 i e hi;exact⟨LJ,LK,u9,hp,ju (λ_ _ _ h=>by cases h;rfl) p7⟩
    |iw mid ip seen=>
     obtain⟨q1,q2,s,q3,q4⟩:=eG;simp only[cJ,bO];refine⟨aaI q1 d8,q2,s,(hh aE (by rintro⟨_,_,h⟩;cases h)).trans ?_,q4⟩
     rw[q3,FO mid q1]
  .have hk:Live U' (c6 m l (nh (sg l m.length) m1)) (.sub id i j):=⟨⟨_,_,ho⟩,be⟩;obtain⟨b2,hb,P1⟩:=ho;have aC:id<m.length+(m1.length-l.length):=by rw[<-ZH];exact(Km.1 hb).1
   cases db:back id with
   |some i0=>
    obtain⟨h1,rfl⟩:=ld db;have bO:=Uw i0 i j (by rw[q8];exact h1)
    rw[bO]at be|-;rw[ZI i0 h1]at hb;obtain⟨b0,h0,rfl⟩:=aaz.1 hb;exact r8.ei i0 i j esz e ⟨_,h0,P1.SY⟩ be
   |none=>
    obtain⟨h1,h2⟩:=pV aC db;have bO:=JS (.sub id i j) db;rw[bO]at be|-;rw[hwo id db aC]at hb;have kz:dY m id i j esz e:=⟨_,hb,P1⟩;obtain⟨cur,hc,q1,q2,q3⟩:=hM.ei id i j esz e kz be;refine⟨cur,hc.dC (eF (.sub id i j) ⟨⟨_,_,kz⟩,be⟩ λ_=>h2),q1,q2,λi2 Zw j2 d fg lW=>?_⟩
    obtain⟨u,hu,cy⟩:=q3 i2 Zw j2 d fg lW;exact⟨u,hu,cy.mono ZJ wS⟩
  .rcases hx.S' b hb with h|h|⟨k0,H3,he⟩
   .exact .inl ((ZG b).1 h)
   .exact .inr (.inl h)
   .exact .inr (.inr ⟨_,P0 k0 H3,he⟩)
  .rcases gj k hk with⟨k1,_,_,kM,bO⟩|⟨_,h1,h2,kM,bO⟩
   .rw[bO];rcases hx.aL k1 kM with h|⟨k0,H3,e0⟩
    .exact .inl h
    .exact .inr ⟨_,P0 k0 H3,e0⟩
   .rw[bO];exact .inr ⟨k,kM,rfl⟩
end
section
variable {P:Program}
theorem View.aO{n0:Nat}{e:List CV}{m:Mem}(t esz n:Nat)(hn:m.length=n)(he:kP e t= .rv (.one .aO))(h0:Nat.ble n0 n=true):
  View n0 ⟨e,m⟩ ⟨aV e t (.rv (.one (.row n esz 0 none))),gJ m [.row esz []]⟩:=by
 subst hn;have h0:=aad h0;rw[aY,cg];refine⟨by simp;omega,aE,λρ w hM=>?_⟩
 have hn:ρ.n=m.length:=hM.n;let U':bI:={n:=m.length+1,aI:=λk=>if k.id=m.length then⟨0,0,0,0⟩else ρ.aI k,S:=ρ.S}
 have bO:∀k:gw,k.id<ρ.n->U'.aI k=ρ.aI k:=λk hk=>by simp only[U'];rw[if_neg om]
 have g:iL ρ w U' w:=⟨by show ρ.n<=m.length+1;omega,bO,λ_ h=>h,λ_ _=>rfl⟩
 have bY:∀k,Live U' (m++ [.row esz []]) k->Live ρ m k:=by
  intro k hk;have aC:=hk.eT;simp at aC;cases k with
  |aj id=>
   obtain⟨bk,hb,lX,be⟩:=hk;simp only[gw.id]at aC;rcases aaf id m.length with h|h
   .rw[aac h]at hb;rw[bO (.aj id) (by simp only[gw.id];omega)]at be
    exact⟨bk,hb,lX,be⟩
   .have:id=m.length:=om;subst this;simp at hb;subst hb;have:=be ⟨_,_,rfl⟩;simp[U',gw.id]at this
  |sub id i j=>
   obtain⟨⟨s,el,b2,hb,ho⟩,be⟩:=hk;simp only[gw.id]at aC;rcases aaf id m.length with h|h
   .rw[aac h]at hb;rw[bO (.sub id i j) (by simp only[gw.id];omega)]at be
    exact⟨⟨s,el,b2,hb,ho⟩,be⟩
   .have:id=m.length:=om;subst this;simp at hb;subst hb;obtain⟨cs,hi,hj⟩:=ho.yO;simp at hi
 have j9:∀k,Live ρ m k->U'.aI k=ρ.aI k:=λk hk=>bO k (by rw[hn];exact hk.eT)
 refine⟨U',⟨by simp[U'],hM.S,λk hk=>?_,λk k' hk fZ nT=>?_,λid b hb=>?_,λid i j s el ho be=>?_⟩,⟨λid hid=>bO (.aj id) (by simp only[gw.id];omega),λ_ h=>h,λ_ h=>.inl h,λk hk=>⟨k,bY k hk,(by rw[j9 k (bY k hk)])⟩⟩,λi c' hi=>?_⟩
 .rw[j9 k (bY k hk)];exact hM.aL k (bY k hk)
 .rw[j9 k (bY k hk),j9 k' (bY k' fZ)]at nT;exact hM.inj k k' (bY k hk) (bY k' fZ) nT
 .rcases aaf id m.length with h|h
  .rw[aac h]at hb;exact(hM.bk id b hb).cm g om λ_ _=>rfl
  .have aC:=(Km.1 hb).1;simp at aC;have:id=m.length:=om;subst this;simp at hb;subst hb;simp[cJ,U',gw.id]
 .have hk:Live ρ m (.sub id i j):=bY (.sub id i j) ⟨⟨_,_,ho⟩,be⟩;have hid:=hk.eT;simp only[gw.id]at hid;rw[j9 _ hk]at be|-;obtain⟨b2,hb,ho⟩:=ho;rw[aac hid]at hb;obtain⟨cur,hc,q1,q2,q3⟩:=hM.ei id i j s el ⟨b2,hb,ho⟩ be;exact⟨cur,hc,q1,q2,q3⟩
 .simp only at hi;have aC:=(Km.1 hi).1;simp at aC;rw[aaW]at hi;split at hi
  .rename_i Nc;subst Nc;rw[if_pos aC]at hi;cases hi;refine⟨.rv (.one .aO),?_,λv hd=>?_⟩
   .rw[mc,vU aC]at he;rw[vU aC];simpa using he
   .obtain⟨a,rfl⟩:=hd;simp[ce,df,bj,U',gw.id]
  .exact⟨c',hi,λv hd=>ce.cm g hd⟩
theorem ni{n0:Nat}{b:LC}{K:Ex->St->Prop}{s:St}{α:Type}(J:α->Prop)(f:α->List (Nat×CV))(M:α->Mem)(μ:α->Nat)(a0:α)(h0:J a0)(start:View n0 s ⟨Dk s.aX (f a0),M a0⟩)(round:∀a,J a->aw P n0 b (HG n0 J (λa=>⟨Dk s.aX (f a),M a⟩) μ (μ a) K) ⟨Dk s.aX (f a),M a⟩):aw P n0 (.loop b) K s:=
 ⟨α,J,λa=>⟨Dk s.aX (f a),M a⟩,μ,⟨a0,h0,start⟩,round⟩
theorem tW:∀{cs:List CC}{k:Nat}{c:CC},cs[k]? =some c->iU cs k 1=some [c]
 | [],k,c,h=>by simp at h
 |x::r,0,c,h=>by simp at h;subst h;cases r<;>rfl
 |x::r,k+1,c,h=>by
  show iU r k 1=_;exact tW (by simpa using h)
theorem xq:∀{cs:List CC}{k:Nat}{c:CC},k<cs.length->fX cs k [c]=some (cs.set k c)
 | [],k,c,h=>by simp at h
 |x::r,0,c,h=>by cases r<;>rfl
 |x::r,k+1,c,h=>by
  simp only[fX,xq (cs:=r) (k:=k) (c:=c) (by simpa using h)]
  rfl
theorem mH.bL{Y:Nat->Nat}{m:Mem}{Z:Nat->Prop}{id s:Nat}{es:List (List CC)}{ds:List (List Dt)}(h:es=aa ds):mH Y m Z id (.row s es) (.row s (aa ds)):=by subst h;have:=mH.FM (Y:=Y) (m:=m) (Z:=Z) (id:=id) (.row s (aa ds)) aE;rwa [Bk.jG]at this
theorem dE{F:List Nat}{k:Nat}(h:br F k=false):¬br F k=true:=by rw[h];simp
theorem mH.eq{Y:Nat->Nat}{m:Mem}{Z:Nat->Prop}{id:Nat}{b b':Bk}(h:b'.bb Y=b)(hd:b'≠.aS):mH Y m Z id b b':=h▸ .FM b' hd
theorem mH.gC{Y:Nat->Nat}{m:Mem}{Z:Nat->Prop}{id:Nat}{cs:List CC}{ds:List Dt}(h:cs=ds.map .ah):mH Y m Z id (.var cs) (.var (ds.map .ah)):=by subst h;have:=mH.FM (Y:=Y) (m:=m) (Z:=Z) (id:=id) (.var (ds.map .ah)) aE;simpa[Bk.bb,CC.bb,adA]using this
theorem rK.hi{Y:Nat->Nat}{m:Mem}{Z:Nat->Prop}{kK id e lo n esz:Nat}{elems:List (List CC)}(hσ:Y id=kK)(hb:cF m kK=some (.row esz elems))(hn:elems.length=n):
  rK Y m Z (.rv (.one (.row kK e lo none))) (.rv (.one (.row id e lo (some n)))):=by
 subst hσ;subst hn;exact .rv (.one (.hi id e lo (by rw[<-aT];exact hb)))
theorem aN{p:Prop}{i:Decidable p}{A B:Prop}(ha:p->A)(hb:¬p->B): @Bool.rec (λ_=>Prop) B A (@decide p i):=by
 cases hd: @decide p i
 .exact hb (of_decide_eq_false hd)
 .exact ha (of_decide_eq_true hd)
theorem bs{a b:Int}{A B:Prop}(ha:a=b->A)(hb:a≠b->B): @Bool.rec (λ_=>Prop) B A (a==b):=by
 cases hd:(a==b)
 .exact hb (by simpa using hd)
 .exact ha (by simpa using hd)
theorem bx{a b:Int}{A B:Prop}(ha:a≠b->A)(hb:a=b->B): @Bool.rec (λ_=>Prop) B A (a !=b):=by
 cases hd:(a !=b)
 .exact hb (by simpa using hd)
 .exact ha (by simpa using hd)
theorem rK.fQ{Y:Nat->Nat}{m:Mem}{F:List Nat}(id:Nat)(ds:List (List Dt)){esz:Nat}(hz:br F id=true)(hb:cF m id=some (.row esz (aa ds))):
  rK Y m (λk=>br F k=true) (.rv (.one (.row id esz 0 none))) (.rv (.one (.ah (.sl esz ds)))):=
 .rv (.one (.fQ (d5.fl (Z:=λk=>br F k=true) hz (by rw[<-aT];exact hb) 0 none)))
def SZ(i:Nat):List (Nat×CV)->Option CV
 | []=>none
 |(j,x)::r=>match Nat.beq i j with|true=>some x|false=>SZ i r
def kpV(eW:List Nat)(f:List (Nat×CV))(i:Nat)(v:CV):CV:=
 match SZ i f with
 |some x=>x
 |none=>match br eW i with|true=>v|false=>.aA
def XM(eW:List Nat)(f:List (Nat×CV)):Nat->List CV->(List CV->List CV)->List CV
 |_,[],k=>k []
 |i,v::r,k=>fV (kpV eW f i v) λv'=>XM eW f (i+1) r λr'=>k (v'::r')
def V6(eW:List Nat)(e:List CV)(f:List (Nat×CV)):List CV:=XM eW f 0 e λe=>e
theorem bc{n0:Nat}{b:LC}{K:Ex->St->Prop}{s:St}{α:Type}(J:α->Prop)(eW:List Nat)(f:α->List (Nat×CV))(M:α->Mem)(μ:α->Nat)(a0:α)(h0:J a0)(start:View n0 s ⟨V6 eW s.aX (f a0),M a0⟩)(round:∀a,J a->aw P n0 b (HG n0 J (λa=>⟨V6 eW s.aX (f a),M a⟩) μ (μ a) K) ⟨V6 eW s.aX (f a),M a⟩):aw P n0 (.loop b) K s:=
 ⟨α,J,λa=>⟨V6 eW s.aX (f a),M a⟩,μ,⟨a0,h0,start⟩,round⟩
theorem gL{n0:Nat}{b:LC}{K:Ex->St->Prop}{s:St}(eW:List Nat)(f:List (Nat×CV))(M:Mem)(hv:View n0 s ⟨V6 eW s.aX f,M⟩)(h:aw P n0 b K ⟨V6 eW s.aX f,M⟩):aw P n0 (.cX b) K s:=⟨_,hv,h⟩
end
theorem View.o{n0:Nat}{e e':List CV}{m m':Mem}(n:Nat)(l F:List Nat)(o5:iC (sg l n) m (λk=>br F k=true) e e')(iu:eH (sg l n) m (λk=>br F k=true) 0 m')(hn:m.length=n:=by exact rfl)(hl:m'.length=l.length:=by exact rfl)(h0:Nat.ble n0 l.length=true:=by exact rfl)(hi:Dq l n0=true:=by exact rfl)(hd:fJ l=true:=by exact rfl)(ha:eP n l=true:=by exact rfl):View n0 ⟨e,m⟩ ⟨e',m'⟩:=View.of n l F hn hl h0 hi hd ha o5 iu
theorem View.o1{n0:Nat}{e e':List CV}{m m':Mem}(n:Nat)(l F:List Nat)(iu:eH (sg l n) m (λk=>br F k=true) 0 m')(hn:m.length=n:=by exact rfl)(hl:m'.length=l.length:=by exact rfl)(h0:Nat.ble n0 l.length=true:=by exact rfl)(hi:Dq l n0=true:=by exact rfl)(hd:fJ l=true:=by exact rfl)(ha:eP n l=true:=by exact rfl)(o5:iC (sg l n) m (λk=>br F k=true) e e':=by repeat(first|exact .nil|refine .aA ?_|refine .eq rfl ?_)):View n0 ⟨e,m⟩ ⟨e',m'⟩:=View.of n l F hn hl h0 hi hd ha o5 iu
theorem View.o2{n0:Nat}{e e':List CV}{m m':Mem}(n:Nat)(l F:List Nat)(iu:eH (sg l n) m (λk=>br F k=true) 0 m')(hn:m.length=n:=by exact rfl)(hl:m'.length=l.length:=by exact rfl)(h0:Nat.ble n0 l.length=true:=by exact rfl)(hi:Dq l n0=true:=by exact rfl)(hd:fJ l=true:=by exact rfl)(ha:eP n l=true:=by exact rfl)(o5:iC (sg l n) m (λk=>br F k=true) e e':=by repeat(first|exact .nil|refine .aA ?_|refine .put (.bb (cj om).symm) ?_|refine .eq rfl ?_)):View n0 ⟨e,m⟩ ⟨e',m'⟩:=View.of n l F hn hl h0 hi hd ha o5 iu
theorem eH.pt{Y:Nat->Nat}{m:Mem}{F:List Nat}{k:Nat}{b b':Bk}{r:Mem}(hz:br F (Y k)=false)(hb:cF m (Y k)=some b)(hv:mH Y m (λk=>br F k=true) (Y k) b b')(h:eH Y m (λk=>br F k=true) (k+1) r):eH Y m (λk=>br F k=true) k (b' ::r):=.put (dE hz) hb hv h
theorem eH.pe{Y:Nat->Nat}{m:Mem}{F:List Nat}{k:Nat}{b b':Bk}{r:Mem}(hz:br F (Y k)=false)(hb:cF m (Y k)=some b)(hv:b'.bb Y=b)(h:eH Y m (λk=>br F k=true) (k+1) r)(hd:b'≠.aS:=by simp):eH Y m (λk=>br F k=true) k (b' ::r):=.put (dE hz) hb (.eq hv hd) h
theorem eH.pm{Y:Nat->Nat}{m:Mem}{F:List Nat}{k:Nat}{b b':Bk}(hz:br F (Y k)=false)(hb:cF m (Y k)=some b)(hv:b'.bb Y=b)(hd:b'≠.aS:=by simp):eH Y m (λk=>br F k=true) k [b']:=.put (dE hz) hb (.eq hv hd) (.nil _)
theorem eH.pr{Y:Nat->Nat}{m:Mem}{F:List Nat}{k:Nat}{esz:Nat}{es:List (List CC)}{ds:List (List Dt)}{r:Mem}(hz:br F (Y k)=false)(hb:cF m (Y k)=some (.row esz es))(he:es=aa ds)(h:eH Y m (λk=>br F k=true) (k+1) r):eH Y m (λk=>br F k=true) k (.row esz (aa ds) ::r):=.put (dE hz) hb (.bL he) h
theorem eH.pn{Y:Nat->Nat}{m:Mem}{F:List Nat}{k:Nat}{esz:Nat}{es:List (List CC)}{ds:List (List Dt)}(hz:br F (Y k)=false)(hb:cF m (Y k)=some (.row esz es))(he:es=aa ds):eH Y m (λk=>br F k=true) k [.row esz (aa ds)]:=.put (dE hz) hb (.bL he) (.nil _)
theorem eH.au{Y:Nat->Nat}{m:Mem}{F:List Nat}{r:Mem}(h:eH Y m (λk=>br F k=true) 0 r:=by repeat(first|exact .nil _|refine .pr rfl rfl rfl ?_|refine .pe rfl rfl rfl ?_ (by intro h;cases h))):eH Y m (λk=>br F k=true) 0 r:=h
theorem aZ{P:Program}{f:Nat}{fn:Func}{lf:LF}{args:List CV}{m:Mem}{K:CV->Mem->Prop}(hf:P.funcs[f]? =some fn)(hl:bz P fn=some lf)(h:body P lf args m K)(hn:(fn.name== "runtime.NumGoroutine")=false:=by exact rfl)(hle:Nat.ble args.length lf.n=true:=by exact rfl):ap P f args m K:=xj hf hl hn (aad hle) h
theorem ct{P:Program}{f:Nat}{fn:Func}{lf:LF}{args:List CV}{m:Mem}{K:CV->Mem->Prop}(hf:P.funcs[f]? =some fn)(hl:bz P fn=some lf.er)(h:body P lf args m K)(hn:(fn.name== "runtime.NumGoroutine")=false:=by exact rfl)(hle:Nat.ble args.length lf.n=true:=by exact rfl):ap P f args m K:=nR hf hl hn (aad hle) h
theorem Dt.Nd(d:Dt):1<=d.size:=by
 cases d with
 |val v=>cases v<;>simp[Dt.size]
 |sl e l=>simp[Dt.size]
theorem Dt.JT{l:List Dt}(h:l≠[]):1<=Dt.fS l:=by
 cases l with
 |nil=>exact absurd rfl h
 |cons d r=>simp only[Dt.fS];have:=d.Nd;omega
theorem Dt.lv:∀(l:List (List Dt)),(∀e,e∈l->e≠[])->l.length<=Dt.dM l
 | [],_=>aE
 |e::r,h=>by
  have h1:=Dt.JT (h e aE);have h2:=Dt.lv r λx hx=>h x (by simp[hx])
  simp only[Dt.dM,aau];omega
theorem iO.ne{ls:List Lf}{ds:List Dt}(h:iO ls ds)(hl:ls≠[]):ds≠[]:=by
 cases h<;>simp_all
theorem nj{α:Type}{es:List Lf}(enc:α->List Dt)(p:α->Prop)(dec:∀e,iO es e->∃a,p a/\e=enc a):∀{elems:List (List Dt)},(∀e,e∈elems->iO es e)->∃l:List α,(∀a,a∈l->p a)/\elems=l.map enc
 | [],_=>⟨[],aE,rfl⟩
 |e::r,h=>by
  obtain⟨a,ha,rfl⟩:=dec e (h e aE);obtain⟨l,hl,rfl⟩:=nj enc p dec (elems:=r) λx hx=>h x (by simp[hx])
  exact⟨a::l,by simpa using⟨ha,hl⟩,rfl⟩
section
variable {P:Program}
def CC.iv:CC->Bool
 | .ah (.val _)=>true
 |_=>false
def Bm:List CC->Bool
 | []=>true
 |c::r=>c.iv&&Bm r
def RV.iv:RV->Bool
 | .one c=>c.iv
 | .agg cs=>Bm cs
def wi:List RV->Bool
 | []=>true
 |c::r=>c.iv&&wi r
def CV.iv:CV->Bool
 | .rv r=>r.iv
 | .bD rs=>wi rs
 |_=>false
theorem xr:∀{l:List CC},Bm l=true->∀c,c∈l->c.iv=true
 | [],_,c,h=>by simp at h
 |x::r,h,c,hc=>by
  simp only[Bm,aab]at h;rcases aaJ.1 hc with rfl|hc
  .exact h.1
  .exact xr h.2 c hc
theorem vn:∀{l:List RV},wi l=true->∀c,c∈l->c.iv=true
 | [],_,c,h=>by simp at h
 |x::r,h,c,hc=>by
  simp only[wi,aab]at h;rcases aaJ.1 hc with rfl|hc
  .exact h.1
  .exact vn h.2 c hc
theorem CC.jH{ρ U':bI}{w:World}{c:CC}{v:Value}(h:c.iv=true)(hd:bj ρ w .none c v):bj U' w .none c v:=by
 cases c with
 |ah d=>
  cases d with
  |val x=>
   cases hd with
   |val v hp=>exact .val _ hp
   |no a=>exact .no a
  |sl=>simp[CC.iv]at h
 |_=>simp[CC.iv]at h
theorem RV.jH{ρ U':bI}{w:World}{c:RV}{v:Value}(h:c.iv=true)(hd:df ρ w c v):df U' w c v:=by
 cases c with
 |one c=>exact CC.jH h hd
 |agg cs=>
  obtain⟨vs,rfl,h1,h2⟩:=hd;exact⟨vs,rfl,h1,λi c hi=>let⟨u,hu,hd⟩:=h2 i c hi;⟨u,hu,CC.jH (xr h c (Tp hi)) hd⟩⟩
theorem CV.jH{ρ U':bI}{w:World}{c:CV}{v:Value}(h:c.iv=true)(hd:ce ρ w c v):ce U' w c v:=by
 cases c with
 |rv r=>exact RV.jH h hd
 |bD rs=>
  obtain⟨vs,rfl,h1,h2⟩:=hd;exact⟨vs,rfl,h1,λi c hi=>let⟨u,hu,hd⟩:=h2 i c hi;⟨u,hu,RV.jH (vn h c (Tp hi)) hd⟩⟩
 |_=>simp[CV.iv]at h
theorem Nf{f:Nat}{args args0:List CV}{m:Mem}{K0 K:CV->Mem->Prop}(F:List Nat)(h:ap P f args0 [] K0)(eX:iC (sg [] m.length) m (λk=>br F k=true) args args0)(hK:∀r m1,K0 r m1->r.iv=true/\K r m):ap P f args m K:=by
 refine⟨h.1,λρ w vs hM yZ hvd=>?_⟩
 have gx:∀i,sg [] m.length i<m.length->i<0:=λi h=>by simp[sg,cF]at h;omega
 obtain⟨ml,hC0,_⟩:=wh (n0:=0) (Y:=sg [] m.length) (Z:=λk=>br F k=true) (m':=[]) hM (λi h=>absurd h (aaU i)) (λi j h _ _ _ _=>absurd h (aaU i)) gx (λi b' h=>by simp at h)
 refine(h.2 _ w vs ml (yZ.trans eX.len.symm) λi c hi=>?_).mono λe w'⟨v,r,m1,ρ1,he,hk,r8,vG,hx⟩=>?_
 .obtain⟨c0,Mt,hv⟩:=eX.get i c hi;obtain⟨v,vL,hd⟩:=hvd i c0 Mt;exact⟨v,vL,hv.jS hM gx hd⟩
 .obtain⟨hp,LH⟩:=hK r m1 hk;have kG:∀k,¬Live (ρ.vw (sg [] m.length) (λk=>br F k=true) m 0) [] k:=λk h=>by have:=h.eT;simp at this
  have QI:eN w w':=⟨λb hb=>hx.frame b hb λk hk=>absurd hk (kG k),hx.size,hx.os,hx.tape,hx.output⟩
  obtain⟨h1,h2⟩:=hM.M8 QI;exact⟨v,r,m,ρ,he,LH,h1,CV.jH hp vG,h2⟩
end
section
variable {P:Program}
theorem CC.sy{Y:Nat->Nat}{c:CC}(h:c.dB=true):c.bb Y=c:=by
 cases c
 case fn f eE=>
  cases eE with
  |nil=>rfl
  |cons c r=>simp[CC.dB]at h
 all_goals first|rfl|simp[CC.dB]at h
theorem RV.sy{Y:Nat->Nat}{r:RV}(h:r.dB=true):r.bb Y=r:=by
 cases r with
 |one c=>exact congrArg RV.one (CC.sy h)
 |agg cs=>
  refine congrArg RV.agg ?_
  conv=>rhs;rw[<-List.map_id cs]
  exact acO λc hc=>CC.sy (abd.1 h c hc)
theorem CV.Dr{Y:Nat->Nat}{v:CV}(h:v.Dm=true):v.bb Y=v:=by
 cases v with
 |rv r=>exact congrArg CV.rv (RV.sy h)
 |bD rs=>
  refine congrArg CV.bD ?_
  conv=>rhs;rw[<-List.map_id rs]
  exact acO λc hc=>RV.sy (abd.1 h c hc)
 |_=>rfl
theorem Bk.Ng{Y:Nat->Nat}(ds:List Dt):(Bk.var (ds.map .ah)).bb Y= .var (ds.map .ah):=by simp[Bk.bb,CC.bb,adA]
theorem FP{m:Mem}{id:Nat}{b:Bk}(h:cF m id=some b):c6 m [id] [b]=m:=by
 rw[aT]at h;simp only[c6,cg,abO,aY];exact abr λi=>by
  rw[aaW];split
  .rename_i hi;subst hi;have:=(Km.1 h).1;rw[if_pos this,h]
  .rfl
theorem fA{f:Nat}{args args0:List CV}{m:Mem}{cs:List Dt}{r0:CV}{K:CV->Mem->Prop}(id:Nat)(hb:cF m id=some (.var (cs.map .ah)))(eX:args=args0.map (CV.bb (sg [id] m.length)))(hr:r0.Dm=true)(h:∀K:CV->Mem->Prop,K r0 [.var (cs.map .ah)]->ap P f args0 [.var (cs.map .ah)] K)(hK:K r0 m):ap P f args m K:=by
 have hid:id<m.length:=by rw[aT]at hb;exact(Km.1 hb).1
 refine bu (K0:=λr m1=>r=r0/\m1=[.var (cs.map .ah)]) [id] m.length rfl rfl rfl ?_ eX (λi b' hi=>?_) (h _ ⟨rfl,rfl⟩) (λr m1 xm=>?_)
 .simp[eP,hid]
 .cases i with
  |zero=>
   simp at hi;subst hi;refine .inr ⟨λh=>h,.var (cs.map .ah),?_,.gC rfl⟩
   rw[aT]at hb;exact hb
  |succ i=>simp at hi
 .obtain⟨rfl,rfl⟩:=xm;refine⟨Ym _,?_⟩;rw[CV.Dr hr];have:c6 m [id] (nh (sg [id] m.length) [.var (cs.map .ah)])=m:=by show c6 m [id] [Bk.bb _ _]=m;rw[Bk.Ng];exact FP hb
  rw[this];exact hK
theorem eY{f:Nat}{args:List CV}{cs:List Dt}{r0:CV}{K:CV->Mem->Prop}(hr:r0.Dm=true)(h:ap P f args [.var (cs.map .ah)] λr m=>r=r0/\∃ex,m= .var (cs.map .ah)::ex)(hK:K r0 [.var (cs.map .ah)]):ap P f args [.var (cs.map .ah)] K:=by
 refine bJ h λr m1⟨h1,ex,h2⟩=>⟨r0,[.var (cs.map .ah)],?_,hK⟩
 subst h1;subst h2;refine View.of (ex.length+1) [0] [] aE rfl rfl rfl rfl (by simp[eP]) ?_ ?_
 .exact .eq (CV.Dr hr) .nil
 .exact .put (by simp[br]) rfl (.gC rfl) (.nil _)
theorem mH.JU{Y:Nat->Nat}{m:Mem}{Z:Nat->Prop}{id s:Nat}{R R':List (List CC)}{x y:List CC}(hR:R'.map (λcs=>cs.map (CC.bb Y))=R)(hx:x.length=y.length)(JK:∀(j:Nat)c c',x[j]? =some c->y[j]? =some c'->tv Y m Z (some id) c c'):mH Y m Z id (.row s (R++ [x])) (.row s (R'++ [y])):=by
 subst hR;refine .row s aE (λi cs fj h1 h2=>?_) (λi cs fj j c c' h1 h2 h3 h4=>?_)
 .rcases aaf i R'.length with h|h
  .rw[aac (by simpa using h),Tm]at h1
   rw[aac h]at h2;rw[h2]at h1;cases h1;simp
  .rw[ZZ (by simpa using h),Pj]at h1
   rw[ZZ h]at h2;cases hi:i-R'.length with
   |zero=>
    rw[hi]at h1 h2;cases h1;cases h2;exact hx
   |succ n=>rw[hi]at h1;simp at h1
 .rcases aaf i R'.length with h|h
  .rw[aac (by simpa using h),Tm]at h1
   rw[aac h]at h2;rw[h2]at h1;cases h1;rw[Tm,h4]at h3;cases h3;exact .bb c'
  .rw[ZZ (by simpa using h),Pj]at h1
   rw[ZZ h]at h2;cases hi:i-R'.length with
   |zero=>
    rw[hi]at h1 h2;cases h1;cases h2;exact JK j c c' h3 h4
   |succ n=>rw[hi]at h1;simp at h1
theorem eH.gk{Y:Nat->Nat}{m:Mem}{Z:Nat->Prop}{k:Nat}{b:Bk}{r:Mem}(hz:¬Z (Y k))(hb:cF m (Y k)=some b)(hr:b.bb Y=b)(h:eH Y m Z (k+1) r):eH Y m Z k (b::r):=by
 cases b with
 |aS=>exact .aS h
 |_=>exact .put hz hb (.eq hr aE) h
inductive Du:CC->CC->Prop
 |dC (c:CC):Du c c
 |aO (s:Nat):Du .aO (.ah (.sl s []))
 |no:Du .aO (.ah (.val (.slice none 0 0)))
theorem Du.jS{c c':CC}(h:Du c c'){ρ:bI}{w:World}{v:Value}(hd:bj ρ w none c v):bj ρ w none c' v:=by
 cases h with
 |dC=>exact hd
 |aO s=>
  obtain⟨a,rfl⟩:=hd;exact .nil s a 0 (aaj _)
 |no=>
  obtain⟨a,rfl⟩:=hd;exact .no a
inductive Dv:List CC->List CC->Prop
 |nil:Dv [] []
 |cons {c c':CC} {r r':List CC} (h:Du c c') (t:Dv r r'):Dv (c::r) (c'::r')
theorem Dv.len{a b:List CC}(h:Dv a b):a.length=b.length:=by
 induction h<;>simp[*]
theorem Dv.get{a b:List CC}(h:Dv a b):∀(i:Nat)c',b[i]? =some c'->∃c,a[i]? =some c/\Du c c':=by
 induction h with
 |nil=>intro i c' h;simp at h
 |cons h t ih=>
  intro i c' hi;cases i with
  |zero=>simp at hi;subst hi;exact⟨_,rfl,h⟩
  |succ i=>simpa using ih i c' (by simpa using hi)
inductive lw:List CV->List CV->Prop
 |nil:lw [] []
 |dC (c:CV) {r r':List CV} (t:lw r r'):lw (c::r) (c::r')
 |one {c c':CC} {r r':List CV} (h:Du c c') (t:lw r r'):lw (.rv (.one c)::r) (.rv (.one c')::r')
 |agg {cs fj:List CC} {r r':List CV} (h:Dv cs fj) (t:lw r r'):lw (.rv (.agg cs)::r) (.rv (.agg fj)::r')
theorem lw.len{a b:List CV}(h:lw a b):a.length=b.length:=by
 induction h<;>simp[*]
theorem lw.get{a b:List CV}(h:lw a b):∀(i:Nat)c',b[i]? =some c'->∃c,a[i]? =some c/\∀ρ w v,ce ρ w c v->ce ρ w c' v:=by
 induction h with
 |nil=>intro i c' h;simp at h
 |dC c t ih=>
  intro i c' hi;cases i with
  |zero=>simp at hi;subst hi;exact⟨_,rfl,λ_ _ _ h=>h⟩
  |succ i=>simpa using ih i c' (by simpa using hi)
 |one h t ih=>
  intro i c' hi;cases i with
  |zero=>simp at hi;subst hi;exact⟨_,rfl,λ_ _ _ hd=>h.jS hd⟩
  |succ i=>simpa using ih i c' (by simpa using hi)
 |agg h t ih=>
  intro i c' hi;cases i with
  |zero=>
   simp at hi;subst hi;refine⟨_,rfl,λρ w v hd=>?_⟩
   obtain⟨vs,hv,hl,hc⟩:=hd;exact⟨vs,hv,hl.trans h.len,λi c' hi=>let⟨c,rT,hle⟩:=h.get i c' hi;let⟨u,hu,cy⟩:=hc i c rT;⟨u,hu,hle.jS cy⟩⟩
  |succ i=>simpa using ih i c' (by simpa using hi)
theorem nk{f:Nat}{args qB:List CV}{m:Mem}{K:CV->Mem->Prop}(ha:lw args qB)(h:ap P f qB m K):ap P f args m K:=by
 refine⟨h.1,λρ w vs hM hl hd=>h.2 ρ w vs hM (hl.trans ha.len) λi c' hi=>?_⟩
 obtain⟨c,hc,MN⟩:=ha.get i c' hi;obtain⟨v,hv,p7⟩:=hd i c hc;exact⟨v,hv,MN _ _ _ p7⟩
theorem pW{f:Nat}{args qB:List CV}{m m':Mem}{K:CV->Mem->Prop}(hv:View m.length ⟨args,m⟩ ⟨qB,m'⟩)(h:ap P f qB m' K):ap P f args m K:=by
 refine⟨h.1,λρ w vs hM hl hd=>?_⟩
 obtain⟨U',jo,hc,p7⟩:=hv.go ρ w hM;have hlen:qB.length=args.length:=hv.len;refine(h.2 U' w vs jo (hl.trans hlen.symm) λi c' hi=>?_).mono λe w'⟨v,r,m1,ρ1,he,hk,r8,vG,hx⟩=>?_
 .obtain⟨c,Mt,yX⟩:=p7 i c' hi;obtain⟨v,hv,cq⟩:=hd i c Mt;exact⟨v,hv,yX v cq⟩
 .have W0:Ext ρ m w U' m' w:=⟨by rw[hM.n,jo.n];exact hv.hn,λid hid=>hc.aI id (by rw[<-hM.n];exact hid),hc.S,λb hb=>(hc.S' b hb).elim .inl λh=>.inr (.inr h),λk hk=>.inr (hc.aL k hk),λ_ _ _=>rfl,Ym _,rfl,rfl,rfl⟩
  exact⟨v,r,m1,ρ1,he,hk,r8,vG,W0.trans hx⟩
end
end Go.AM
