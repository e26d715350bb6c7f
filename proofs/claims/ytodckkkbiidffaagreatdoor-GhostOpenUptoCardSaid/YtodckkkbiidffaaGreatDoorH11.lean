/- Part 11 of 16. -/
import Derived.Test.YtodckkkbiidffaaGreatDoorH09
import Derived.Test.YtodckkkbiidffaaGreatDoorH10
import Derived.Carry
import Derived.ProofKit
set_option linter.unusedVariables false
set_option linter.unusedSimpArgs false
set_option maxRecDepth 100000
set_option maxHeartbeats 0
namespace Go.AM
open Go.ChangeShapes Go.WideShapes Go.ChangeAt Go.RowKit
section
variable {H:Type} {enc:TypeId×Value->H} {P:Program} {W:World}
theorem Tp{ar:Nat}{t:TypeId}{v:Value}{agg:Bool}(ha:dW P t=some agg){d:Nat}{ls:List Lf}(hl:oO P d t=some ls)(fl:Value.okWide P W .any ar t v):
  (agg=true->∃vs,v= .agg vs)/\(agg=false->v.oneCell'=true):=by
 cases d with
 |zero=>simp[oO]at hl
 |succ d=>
  simp only[oO]at hl;unfold dW at ha;unfold Value.okWide at fl;split at hl
  .rename_i ht;rw[ht]at ha fl;simp at ha;subst ha;refine⟨aC,λ_=>?_⟩
   simp only[Cell.okWide,ht,Cell.ok]at fl;cases v<;>simp_all[Value.oneCell']
  .rename_i k ht;rw[ht]at ha fl;simp at ha;subst ha;refine⟨aC,λ_=>?_⟩
   simp only[Cell.okWide,ht,Cell.ok]at fl;cases v<;>simp_all[Value.oneCell']
  .rename_i ht;rw[ht]at ha fl;simp at ha;subst ha;refine⟨aC,λ_=>?_⟩
   simp only[Cell.okWide,ht,Cell.ok]at fl;cases v<;>simp_all[Value.oneCell']
  .rename_i e ht;rw[ht]at ha fl;simp at ha;subst ha;refine⟨aC,λ_=>?_⟩
   simp only[Cell.okWide,ht,Cell.ok]at fl;cases v<;>simp_all[Value.oneCell']
  .rename_i fs ht;rw[ht]at ha fl;simp at ha;subst ha;obtain⟨cs,rfl,_⟩:=fl;exact⟨λ_=>⟨cs,rfl⟩,aC⟩
  .rename_i n e ht;rw[ht]at ha fl;simp at ha;subst ha;obtain⟨cs,rfl,_⟩:=fl;exact⟨λ_=>⟨cs,rfl⟩,aC⟩
  .cases hl
structure Sh where
 agg:Bool
 ls:List Lf
def Jb(P:Program):List TypeId->Option (List Sh)
 | []=>some []
 |t::r=>match dW P t,oO P 12 t,Jb P r with
  |some a,some ls,some r=>some (⟨a,ls⟩::r)
  |_,_,_=>none
inductive zj:List Sh->List (List Dt)->Prop
 |nil:zj [] []
 |cons {s:Sh} {ds:List Dt} {r:List Sh} {l:List (List Dt)} (h:iD s.ls ds) (hr:zj r l):zj (s::r) (ds::l)
def rT:List Sh->List (List Dt)->List CV
 |s::r,ds::l=>Wu s.agg ds::rT r l
 |_,_=>[]
theorem zk(bk:PZ H){ar b2:Nat}:∀(ts:List TypeId)(vs:List Value)(dw:List (DataW H))(ps:List MemPlace)(Mr:List Sh),Jb P ts=some Mr->DataW.TrodAll enc P W ar (λ_=>true) true ts vs dw ps->
  (∀(j:Nat)t v,ts[j]? =some t->vs[j]? =some v->Value.okWide P W .any b2 t v)->
  ∃qJ,zj Mr qJ/\vs.length=(rT Mr qJ).length/\(∀(i:Nat)c,(rT Mr qJ)[i]? =some c->∃v,vs[i]? =some v/\bZ (I9 W) W c v)/\Dt.dH qJ<=lL bk.f dw
 | [],[],[],ps,Mr,hs,h,fl=>by
  simp[Jb]at hs;subst hs;exact⟨[],.nil,rfl,by simp[rT],by simp[Dt.dH]⟩
 | [],_::_,_,_,_,_,h,_=>by cases h
 | [],[],_::_,_,_,_,h,_=>by cases h
 |_::_,[],_,_,_,_,h,_=>by cases h
 |_::_,_::_,[],_,_,_,h,_=>by cases h
 |t::ts,v::vs,d::dw,ps,Mr,hs,h,fl=>by
  obtain⟨p,q,⟨fuel,h1⟩,h2,_⟩:=h;simp only[Jb]at hs;split at hs
  .rename_i a ls r ha hl hr;cases hs;obtain⟨ds,f1,r1,s1⟩:=E7 bk 12 t ls hl fuel _ _ h1;obtain⟨qJ,f2,l2,d2,s2⟩:=zk bk ts vs dw q r hr h2 λj t' v' ht hv=>fl (j+1) t' v' (by simpa using ht) (by simpa using hv)
   obtain⟨g1,g2⟩:=Tp ha hl (fl 0 t v rfl rfl);refine⟨ds::qJ,.cons f1 f2,by simp[rT,l2],λi c hi=>?_,by simp only[Dt.dH,lL];simp only at s1;omega⟩
   cases i with
   |zero=>
    simp[rT]at hi;subst hi;exact⟨v,rfl,Mq r1 g1 g2⟩
   |succ i=>simpa using d2 i c (by simpa[rT]using hi)
  .cases hs
theorem zl(hl:laidOutB P=true){W':World}(hb:Below W.heap.size W W'):∀(ts:List TypeId)(vs:List Value)(dw:List (DataW H))(ps:List MemPlace),(ts.all λt=>P.readableRec t&&decide (t<P.types.size))=true->
  DataW.TrodAll enc P W 0 (λ_=>true) true ts vs dw ps->(∀x,x∈ps->x.block<W.heap.size)->DataW.TrodAll enc P W' 0 (λb=>decide (b<W.heap.size)) true ts vs dw ps
 | [],[],[],_,_,h,_=>h
 | [],_::_,_,_,_,h,_=>by cases h
 | [],[],_::_,_,_,h,_=>by cases h
 |_::_,[],_,_,_,h,_=>by cases h
 |_::_,_::_,[],_,_,h,_=>by cases h
 |t::ts,v::vs,d::dw,ps,ht,h,aD=>by obtain⟨p,q,h1,h2,rfl⟩:=h;simp only[List.all_cons,aac,decide_eq_true_eq]at ht;exact⟨p,q,Below.trod hl ht.1.1 ht.1.2 h1 hb (λx hx=>aD x (by simp[hx])),zl hl hb ts vs dw q (by simpa using ht.2) h2 (λx hx=>aD x (by simp[hx])),rfl⟩
theorem AO{f:Nat}{fn:Func}{s:ChangeSpec}{args:Array Value}{ds gs:List (DataW H)}{before:List MemPlace}{ar:Nat}(bk:PZ H)(hl:laidOutB P=true){tb:TypeId}(htb:P.underlying tb=some .bool)(Z5:fn.resultTypes= #[tb])(RM:s.vars=[])(Hj:∀ds:List (DataW H),ds.length=fn.params.size->s.fn H ds={results:=[.lit (.bool true)],args:=ds}){Mr:List Sh}(Zw:Jb P fn.params.toList=some Mr)(hts:(fn.params.toList.all λt=>P.readableRec t&&decide (t<P.types.size))=true)(walk:∀qJ,zj Mr qJ->Dt.dH qJ<=lL bk.f ds->ap P f (rT Mr qJ) [] λr _=>r=aE true)(jM:∀(j:Nat)t v,fn.params[j]? =some t->args[j]? =some v->Value.okWide P W .any ar t v)(hW:DataW.Whole enc P fn.params.toList s.vars false W args.toList ds gs before):
  Calls P f args W λe W'=>∃v,e= .returned v/\s.post enc P fn false true false false W args v W':=by
 have hW':=hW;obtain⟨p,q,hA,hV,rfl,Wv,lH⟩:=hW;obtain⟨qJ,hf,hlen,cg,dj⟩:=zk bk fn.params.toList args.toList ds p Mr Zw hA λj t v ht hv=>jM j t v (by simpa using ht) (by simpa using hv)
 have AB:=oN (u:= .bool true) (walk qJ hf dj) W args.toList hlen cg aC (λr m h=>h)
 have aD:∀x,x∈p->x.block<W.heap.size:=λx hx=>by simpa using hW'.lt x (by simp[hx])
 rw[RM]at hV;obtain⟨rfl,rfl⟩:=trodVars_none hV;have l4:ds.length=fn.params.size:=by
  have:∀(ts:List TypeId)(vs:List Value)(dw:List (DataW H))(ps:List MemPlace),DataW.TrodAll enc P W 0 (λ_=>true) true ts vs dw ps->dw.length=ts.length:=by
   intro ts
   induction ts with
   |nil=>intro vs dw ps h;obtain⟨_,rfl,_⟩:=trodAll_nil h;rfl
   |cons t ts ih=>
    intro vs dw ps h;obtain⟨v,UM,d,Yt,a,b,rfl,rfl,rfl,h1,h2⟩:=trodAll_cons h;simp[ih _ _ _ h2]
  simpa using this _ _ _ _ hA
 refine AB.mono λe W'⟨he,hb⟩=>?_
 subst he;have hs:s.fn H (ds++ [])={results:=[.lit (.bool true)],args:=ds}:=by rw[ab3];exact Hj ds l4
 refine⟨_,rfl,ds,[],p++ [],[],p,[],hW',?_,?_,?_,hb.frame _,λh=>by cases h⟩
 .rw[hs,Z5];exact trodAll_cons_mk (shut_bool htb _) trodAll_mk0
 .rw[hs];exact zl hl hb _ _ _ _ hts hA aD
 .rw[hs,RM];rfl
end
end Go.AM
namespace Go.AM
section
variable {P:Program}
theorem ax.Ms{ρ:bG}{m:Mem}{w w':World}(hM:ax ρ m w)(hw:eG w w'):ax ρ m w'/\Ext ρ m w ρ m w':=by
 have hn:=hM.n;have g:iA ρ w ρ w':=⟨T5 _,λ_ _=>rfl,λ_ h=>h,λb hb=>hw.heap b (hM.S b hb)⟩
 refine⟨⟨hn,λb hb=>aaA (hM.S b hb) hw.size,λk hk=>⟨aaA (hM.aP k hk).1 hw.size,(hM.aP k hk).2⟩,hM.inj,λid b hb=>?_,λid i j esz e ho bc=>?_⟩,
  ⟨T5 _,λ_ _=>rfl,λ_ h=>h,λ_ h=>.inl h,λk hk=>.inr ⟨k,hk,rfl⟩,λb hb _=>hw.heap b hb,hw.size,hw.os,hw.tape,hw.output⟩⟩
 .exact(hM.bk id b hb).ce g (by rw[hn];exact(JJ.1 hb).1) λdu bc=>hw.heap _ (hM.aP (.aj id) ⟨b,hb,du,bc⟩).1
 .exact(hM.d5 id i j esz e ho bc).ce g (hw.heap _ (hM.aP (.sub id i j) ⟨⟨esz,e,ho⟩,bc⟩).1)
theorem Jc{f:Nat}{args:List CV}{m:Mem}{K0 K:CV->Mem->Prop}(h:ap P f args [] K0)(ha:∀c,c∈args->c.dv=true)(hK:∀r m1,K0 r m1->(r= .rv (.one .aK)/\K (.rv (.one .aK)) m)\/
   ∃id esz elems,r= .rv (.one (.row id esz 0 none))/\m1[id]? =some (.row esz elems)/\(∀cs,cs∈elems->∀c,c∈cs->∃d,c= .ah d)/\
    (∀(i:Nat)cs(j:Nat)d,elems[i]? =some cs->cs[j]? =some (.ah d)->∃v,d= .val v)/\
    K (.rv (.one (.row m.length esz 0 none))) (m++ [.row esz elems])):ap P f args m K:=by
 refine⟨h.1,λρ w vs hM hl hd=>?_⟩
 let ρ0:bG:={n:=0,aH:=λ_=>⟨0,0,0,0⟩,S:=ρ.S}
 have lY:ax ρ0 [] w:={
  n:=rfl
  S:=hM.S
  aP:=λk h=>by have:=h.eK;simp at this
  inj:=λk k' h=>by have:=h.eK;simp at this
  bk:=λid b h=>by simp at h
  d5:=λid i j esz elems h=>by obtain⟨_,h,_⟩:=h;simp at h}
 refine(h.2 ρ0 w vs lY hl λi c hi=>?_).mono λe w'⟨v,r,m1,ρ1,he,hk,rH,u6,hx⟩=>?_
 .obtain⟨v,hv,hd⟩:=hd i c hi;exact⟨v,hv,CV.rR (ρ:=ρ) (U':=ρ0) (ha c (Sj hi)) (λ_ h=>h) hd⟩
 .have jY:∀k,¬Live ρ0 [] k:=λk h=>by have:=h.eK;simp at this
  have vA:∀b,b<w.heap.size->w'.heap[b]? =w.heap[b]? :=λb hb=>hx.frame b hb λk hk=>absurd hk (jY k)
  have P0:eG w w':=by
   refine⟨?_,?_,?_,?_,?_⟩;all_goals first|exact hx.size|exact vA|exact hx.os|exact hx.tape|exact hx.output
  rcases hK r m1 hk with⟨rfl,fS⟩|⟨id,esz,elems,rfl,hb,P1,jM,fS⟩
  .obtain⟨ad,rfl⟩:=u6;obtain⟨E3,oP⟩:=hM.Ms P0;exact⟨_,_,m,ρ,he,fS,E3,⟨ad,rfl⟩,oP⟩
  .obtain⟨g1,g2,g3,g4,g5⟩:=rH.bk id _ hb;obtain⟨q1,q2,q3,q4,q5,ad,rfl,tp⟩:=u6;have hn:=hM.n;let l:=ρ1.aH (.aj id);have c9:cI (ρ.push l) w' m.length (.row esz elems):=by
    have bM:(ρ.push l).aH (.aj m.length)=l:=by rw[<-hn];exact ρ.fT l
    simp only[cI,bM];refine⟨g1,g2,g3,g4,λhp=>?_⟩
    obtain⟨cur,bW,h7,h8⟩:=g5 hp;refine⟨cur,bW,h7,λi cs j c hi hj=>?_⟩
    obtain⟨u,hu,cu⟩:=h8 i cs j c hi hj;obtain⟨d,rfl⟩:=P1 cs (Sj hi) c (Sj hj);obtain⟨v,rfl⟩:=jM i cs j d hi hj;refine⟨u,hu,?_⟩;cases cu with
    |val _ i3=>exact de.val _ i3
    |no a=>exact .no a
   have Mt:Bk.Am (.row esz elems):=by intro i cs j c hi hj s e hce;obtain⟨d,hd⟩:=P1 cs (Sj hi) c (Sj hj);rw[hd]at hce;cases hce
   obtain⟨E3,oP⟩:=hM.Rr P0 (λb9=>by
    obtain⟨bk,fx,du,bc⟩:=b9;have Ww:0<l.cap:=by rw[hn,Xi (T5 _)]at fx;simp at fx;have:=bc ⟨esz,elems,fx.symm⟩;rwa [ρ.fT l]at this
    have Wx:Live ρ1 m1 (.aj id):=⟨_,hb,aC,λ_=>Ww⟩
    refine⟨?_,(rH.aP _ Wx).1⟩;rcases hx.aP _ Wx with h|⟨k0,h0,_⟩
    .exact h
    .exact absurd h0 (jY k0)) c9 Mt
   refine⟨_,_,_,_,he,fS,E3,?_,oP⟩;have bM:(ρ.push l).aH (.aj m.length)=l:=by rw[<-hn];exact ρ.fT l
   refine⟨by simp[bG.push,hn],?_⟩
   simp only[bM];exact⟨q2,q3,q4,q5,ad,rfl,tp⟩
end
theorem SL.trans{n0:Nat}{ρ ρ1 ρ2:bG}{m m1 m2:Mem}(a:SL n0 ρ m ρ1 m1)(b:SL n0 ρ1 m1 ρ2 m2):SL n0 ρ m ρ2 m2 where
 aH id h:=(b.aH id h).trans (a.aH id h)
 S x h:=b.S x (a.S x h)
 S' x h:=by
  rcases b.S' x h with h|⟨k,hk,he⟩
  .exact a.S' x h
  .obtain⟨k0,h0,e0⟩:=a.aP k hk;exact .inr ⟨k0,h0,e0.trans he⟩
 aP k h:=by obtain⟨k1,h1,e1⟩:=b.aP k h;obtain⟨k0,h0,e0⟩:=a.aP k1 h1;exact⟨k0,h0,e0.trans e1⟩
theorem View.trans{n0:Nat}{s s1 s2:St}(a:View n0 s s1)(b:View n0 s1 s2):View n0 s s2:=by
 refine⟨b.hn,b.len.trans a.len,λρ w hM=>?_⟩
 obtain⟨ρ1,rH,BW,u6⟩:=a.go ρ w hM;obtain⟨ρ2,E3,wj,yd⟩:=b.go ρ1 w rH;refine⟨ρ2,E3,BW.trans wj,λi c' hi=>?_⟩
 obtain⟨c1,IF,h1⟩:=yd i c' hi;obtain⟨c0,vy,h0⟩:=u6 i c1 IF;exact⟨c0,vy,λv hv=>h1 v (h0 v hv)⟩
def CC.bg(Y:Nat->Nat):CC->CC
 | .ptr id j=>.ptr (Y id) j
 | .nv id e i j=>.nv (Y id) e i j
 | .row id e lo hi=>.row (Y id) e lo hi
 | .map id=>.map (Y id)
 | .fn f eD=>.fn f (eD.map Y)
 |c=>c
def MO.bg(Y:Nat->Nat)(e:MO):MO:=match e with|⟨k,.d5 l⟩=>⟨k,.d5 l⟩|⟨k,.row n⟩=>⟨k,.row (Y n)⟩
def gd.bg(Y:Nat->Nat):gd->gd
 | .aj id=>.aj (Y id)
 | .sub id i j=>.sub (Y id) i j
inductive E9:Dt->Dt->Prop
 |refl (d:Dt):E9 d d
 |no (s:Nat):E9 (.val (.slice none 0 0)) (.sl s [])
 |sl (s:Nat) {es br:List (List Dt)} (hl:es.length=br.length) (hs:∀(i:Nat)cs e7,es[i]? =some cs->br[i]? =some e7->cs.length=e7.length)
   (h:∀(i:Nat)cs e7(j:Nat)d d',es[i]? =some cs->br[i]? =some e7->cs[j]? =some d->e7[j]? =some d'->E9 d d'):E9 (.sl s es) (.sl s br)
theorem E9.jD{S:Nat->Prop}{w:World}{d d':Dt}(h:E9 d d'):∀{v:Value},de S w d v->de S w d' v:=by
 induction h with
 |refl d=>exact λh=>h
 |no s=>
  intro v h;cases h with
  |val _ h=>simp[cn]at h
  |no a=>exact .nil s a 0 (aan _)
 | @sl s es br hl hs h ih=>
  intro v hd;cases hd with
  |nil _ a cap hc=>
   have:br=[]:=aai hl.symm;subst this;exact .nil s a cap hc
  |sl _ _ b off cap u hS oI bc dj hc hd=>
   have get:∀(i:Nat)e7,br[i]? =some e7->∃cs,es[i]? =some cs:=λi e7 hi=>by have:=(JJ.1 hi).1;exact⟨_,vl om⟩
   have Wy:∀(i:Nat)cs e7(j:Nat)d',es[i]? =some cs->br[i]? =some e7->e7[j]? =some d'->∃d,cs[j]? =some d:=λi cs e7 j d' hi eH hj=>by have h1:=(JJ.1 hj).1;have h2:=hs i cs e7 hi eH;exact⟨_,vl om⟩
   rw[hl];refine .sl s br b off cap u hS om bc (λe7 hm=>?_) (λi e7 j d' hi hj=>?_) (λi e7 j d' hi hj=>?_)
   .obtain⟨i,hi⟩:=X1 hm;obtain⟨cs,eC⟩:=get i e7 hi;rw[<-hs i cs e7 eC hi];exact dj cs (Sj eC)
   .obtain⟨cs,eC⟩:=get i e7 hi;obtain⟨d,Tq⟩:=Wy i cs e7 j d' eC hi hj;exact hc i cs j d eC Tq
   .obtain⟨cs,eC⟩:=get i e7 hi;obtain⟨d,Tq⟩:=Wy i cs e7 j d' eC hi hj;exact ih i cs e7 j d d' eC hi Tq hj (hd i cs j d eC Tq)
inductive dR(m:Mem)(Z:Nat->Prop):Option Nat->CC->Dt->Prop
 |ah {p:Option Nat} (d:Dt):dR m Z p (.ah d) d
 |d5 {id:Nat} (s:Nat) (e:List (List Dt)) (hz:Z id):dR m Z (some id) (.d5 s e) (.sl s e)
 |aK {p:Option Nat} (s:Nat):dR m Z p .aK (.sl s [])
 |no {p:Option Nat}:dR m Z p .aK (.val (.slice none 0 0))
 |le {p:Option Nat} {d d':Dt} (h:E9 d d'):dR m Z p (.ah d) d'
 |row {p:Option Nat} (id esz lo:Nat) (hi:Option Nat) (elems:List (List CC)) (ds:List (List Dt)) (hz:Z id) (h:m[id]? =some (.row esz elems)) (hl:elems.length=ds.length)
   (hs:∀(i:Nat)cs es,elems[i]? =some cs->ds[i]? =some es->cs.length=es.length)
   (hd:∀(i:Nat)cs es(j:Nat)c d,elems[i]? =some cs->ds[i]? =some es->cs[j]? =some c->es[j]? =some d->dR m Z (some id) c d):dR m Z p (.row id esz lo hi) (.sl esz (bV ds lo hi))
inductive s9(Y:Nat->Nat)(m:Mem)(Z:Nat->Prop):Option Nat->CC->CC->Prop
 |aF {p:Option Nat} (c:CC):s9 Y m Z p c .aF
 |bg {p:Option Nat} (c:CC):s9 Y m Z p (c.bg Y) c
 |fE {p:Option Nat} {c:CC} {d:Dt} (h:dR m Z p c d):s9 Y m Z p c (.ah d)
 |un {p:Option Nat}:s9 Y m Z p (.ah (.val (.slice none 0 0))) .aK
 |hi {p:Option Nat} (id e lo:Nat) {esz:Nat} {elems:List (List CC)} (h:m[Y id]? =some (.row esz elems)):s9 Y m Z p (.row (Y id) e lo none) (.row id e lo (some elems.length))
 |lo {p:Option Nat} (id e lo:Nat) {esz:Nat} {elems:List (List CC)} (h:m[Y id]? =some (.row esz elems)):s9 Y m Z p (.row (Y id) e lo (some elems.length)) (.row id e lo none)
inductive yf(Y:Nat->Nat)(m:Mem)(Z:Nat->Prop):RV->RV->Prop
 |one {c c':CC} (h:s9 Y m Z none c c'):yf Y m Z (.one c) (.one c')
 |agg {cs e7:List CC} (hl:cs.length=e7.length) (h:∀(i:Nat)c c',cs[i]? =some c->e7[i]? =some c'->s9 Y m Z none c c'):yf Y m Z (.agg cs) (.agg e7)
inductive ri(Y:Nat->Nat)(m:Mem)(Z:Nat->Prop):CV->CV->Prop
 |aF (v:CV):ri Y m Z v .aF
 |undef:ri Y m Z .undef .undef
 |rv {r r':RV} (h:yf Y m Z r r'):ri Y m Z (.rv r) (.rv r')
 |bz {rs I8:List RV} (hl:rs.length=I8.length) (h:∀(i:Nat)r r',rs[i]? =some r->I8[i]? =some r'->yf Y m Z r r'):ri Y m Z (.bz rs) (.bz I8)
inductive mi(Y:Nat->Nat)(m:Mem)(Z:Nat->Prop)(id:Nat):Bk->Bk->Prop
 |var {cs e7:List CC} (h:∀(i:Nat)c',e7[i]? =some c'->∃c,cs[i]? =some c/\s9 Y m Z (some id) c c'):mi Y m Z id (.var cs) (.var e7)
 |row (esz:Nat) {es br:List (List CC)} (hl:es.length=br.length) (hs:∀(i:Nat)cs e7,es[i]? =some cs->br[i]? =some e7->cs.length=e7.length)
   (h:∀(i:Nat)cs e7(j:Nat)c c',es[i]? =some cs->br[i]? =some e7->cs[j]? =some c->e7[j]? =some c'->s9 Y m Z (some id) c c'):mi Y m Z id (.row esz es) (.row esz br)
 |mp {es br:List ME} (hl:es.length=br.length) (h:∀(i:Nat)e e',es[i]? =some e->br[i]? =some e'->e'.key=e.key/\yf Y m Z e.val e'.val):mi Y m Z id (.mp es) (.mp br)
 |it (cur left:List (Value×Value)):mi Y m Z id (.it cur left) (.it cur left)
 |mo (esz:Nat) (es:List MO) (so:Option (List Nat×Nat)):mi Y m Z id (.mo esz (es.map (MO.bg Y)) so) (.mo esz es so)
 |Z6 (esz:Nat):mi Y m Z id (.mp []) (.mo esz [] none)
 |iw (mid gZ:Nat) (seen:List Nat):mi Y m Z id (.iw (Y mid) gZ seen) (.iw mid gZ seen)
section
variable {n0:Nat} {Y:Nat->Nat} {Z:Nat->Prop} {ρ:bG} {m:Mem} {w:World}
def bG.vw(ρ:bG)(Y:Nat->Nat)(Z:Nat->Prop)(m:Mem)(n:Nat):bG:=
 {n:=n,aH:=λk=>ρ.aH (k.bg Y),S:=λb=>ρ.S b\/∃k,Live ρ m k/\Z k.id/\(ρ.aH k).b=b}
theorem dR.jD(hM:ax ρ m w){pos:Option (Nat×Nat×Nat)}{p:Option Nat}{c:CC}{d:Dt}(h:dR m Z p c d)(hp:∀id,p=some id->∀s e,c= .d5 s e->∃i j,pos=some (id,i,j)/\dP m id i j s e){v:Value}(hd:bi ρ w pos c v){n:Nat}:de (ρ.vw Y Z m n).S w d v:=by
 induction h generalizing pos v with
 |ah d=>exact hd.mono (λ_ h=>.inl h) (λ_ _=>rfl)
 |aK s=>
  obtain⟨a,rfl⟩:=hd;exact .nil s a 0 (aan _)
 |no=>
  obtain⟨a,rfl⟩:=hd;exact .no a
 |le h=>exact(h.jD hd).mono (λ_ h=>.inl h) (λ_ _=>rfl)
 | @d5 id s e hz=>
  obtain⟨i,j,yn,jW⟩:=hp id rfl s e rfl;obtain⟨j9,i',j',zi,q1,q2,a',rfl,q3⟩:=hd;rw[yn]at zi;simp only[aat,acM]at zi;obtain⟨rfl,rfl,rfl⟩:=zi;rcases abz e.length with he|he
  .rw[aai he];exact .nil s a' _ om
  .obtain⟨gK,Cw,w1,w2,w3⟩:=hM.d5 _ _ _ _ _ jW om;rw[q3 om];have Ax:Live ρ m (.sub id i j):=⟨⟨_,_,jW⟩,om⟩;have ky:∀(i2:Nat)cs(j2:Nat)d2,e[i2]? =some cs->cs[j2]? =some d2->∃u,w.cell? ⟨(ρ.aH (.sub id i j)).b,(ρ.aH (.sub id i j)).ar+i2*s+j2,.none⟩=some u/\de (ρ.vw Y Z m n).S w d2 u:=by
    intro i2 cs j2 d2 eY lG;obtain⟨u,hu,hd⟩:=w3 i2 cs j2 d2 eY lG;exact⟨u,by rw[Cw.cell];exact hu,hd.mono (λ_ h=>.inl h) (λ_ _=>rfl)⟩
   exact de.sl s e _ _ _ (λi2 j2=>(w.cell? ⟨(ρ.aH (.sub id i j)).b,(ρ.aH (.sub id i j)).ar+i2*s+j2,.none⟩).getD Go.undef) (.inr ⟨_,Ax,hz,rfl⟩) q1 q2 w2
    (λi2 cs j2 d2 eY lG=>by obtain⟨u,hu,_⟩:=ky i2 cs j2 d2 eY lG;rw[hu];rfl)
    (λi2 cs j2 d2 eY lG=>by obtain⟨u,hu,hd⟩:=ky i2 cs j2 d2 eY lG;rw[hu];exact hd)
 |row id esz lo hi elems ds hz hb hl hs L9 ih=>
  obtain⟨h1,h2,h3,h4,h5,a,rfl,ha⟩:=hd;obtain⟨g1,g2,g3,g4,g5⟩:=hM.bk id _ hb;have l4:ds.length=(ρ.aH (.aj id)).len:=om;have hlen:(bV ds lo hi).length=hi.getD (ρ.aH (.aj id)).len-lo:=by
   rw[<-l4];exact CJ ds lo hi (by rw[l4];exact h2) (by rw[l4];exact h3)
  rw[<-hlen];rcases abz (bV ds lo hi).length with h0|cH
  .rw[h0,aai h0];exact .nil esz a _ om
  .have ia:lo<(ρ.aH (.aj id)).cap:=om;obtain⟨cur,bW,dj,dG⟩:=g5 om;rw[ha ia];have key:∀(i:Nat)es(j:Nat)d,(bV ds lo hi)[i]? =some es->es[j]? =some d->∃u,w.cell? ⟨(ρ.aH (.aj id)).b,(ρ.aH (.aj id)).ar+lo*esz+i*esz+j,.none⟩=some u/\de (ρ.vw Y Z m n).S w d u:=by
    intro i es j d eH hj;have eY:=rQ ds lo hi i es eH;have aD:lo+i<elems.length:=by rw[hl];exact(JJ.1 eY).1
    have K3:=vl aD;have d9:j<elems[lo+i].length:=by rw[hs _ _ _ K3 eY];exact(JJ.1 hj).1
    have RL:=vl d9;obtain⟨u,hu,cu⟩:=dG _ _ _ _ K3 RL;refine⟨u,?_,?_⟩
    .rw[bW.cell,<-hu];congr 1;rw[aaZ];omega
    .refine ih _ _ _ _ _ _ K3 eY RL hj ?_ cu;intro j9 hid s e he;cases hid;exact⟨_,_,rfl,_,hb,.row K3 (by rw[RL,he])⟩
   refine de.sl esz (bV ds lo hi) _ _ _ (λi j=>(w.cell? ⟨(ρ.aH (.aj id)).b,(ρ.aH (.aj id)).ar+lo*esz+i*esz+j,.none⟩).getD Go.undef) (.inr ⟨.aj id,⟨_,hb,aC,λ_=>om⟩,hz,rfl⟩) om om (λes nV=>?_)
    (λi cs j d eH hj=>by obtain⟨u,hu,_⟩:=key i cs j d eH hj;rw[hu];rfl)
    (λi cs j d eH hj=>by obtain⟨u,hu,hd⟩:=key i cs j d eH hj;rw[hu];exact hd)
   obtain⟨i,eH⟩:=X1 nV;have eY:=rQ ds lo hi i es eH;have aD:lo+i<elems.length:=by rw[hl];exact(JJ.1 eY).1
   have K3:=vl aD;rw[<-hs _ _ _ K3 eY];exact g4 _ (aar aD)
theorem s9.jD(hM:ax ρ m w){n:Nat}(gg:∀i,Y i<m.length->i<n){j9 i j:Nat}{pos pos':Option (Nat×Nat×Nat)}{p:Option Nat}(Wz:(pos=none/\pos'=none/\p=none)\/(pos=some (Y j9,i,j)/\pos'=some (j9,i,j)/\p=some (Y j9))){c c':CC}(h:s9 Y m Z p c c')(jW:∀s e,c= .d5 s e->pos=some (Y j9,i,j)->dP m (Y j9) i j s e){v:Value}(hd:bi ρ w pos c v):bi (ρ.vw Y Z m n) w pos' c' v:=by
 cases h with
 |aF c=>exact hd.one
 |un=>
  cases(show de ρ.S w (.val (.slice none 0 0)) v from hd)with
  |val _ h=>simp[cn]at h
  |no a=>exact⟨a,rfl⟩
 |hi id e lo hb=>
  have hn:=hM.n;obtain⟨g1,_⟩:=hM.bk _ _ hb;obtain⟨h1,h2,h3,h4,h5,a,rfl,ha⟩:=hd;simp only[acJ]at h2 h3;refine⟨gg id (by rw[<-hn];exact h1),?_⟩
  simp only[abH,bG.vw,gd.bg,g1];exact⟨h2,h3,h4,h5,a,rfl,ha⟩
 |lo id e lo hb=>
  have hn:=hM.n;obtain⟨g1,_⟩:=hM.bk _ _ hb;obtain⟨h1,h2,h3,h4,h5,a,rfl,ha⟩:=hd;simp only[abH,g1]at h2 h3;refine⟨gg id (by rw[<-hn];exact h1),?_⟩
  simp only[acJ,abH,bG.vw,gd.bg,g1];exact⟨h2,h3,h4,h5,a,rfl,ha⟩
 |fE h=>
  refine h.jD hM ?_ hd;intro id hid s e he;rcases Wz with⟨_,_,rfl⟩|⟨rfl,rfl,rfl⟩
  .cases hid
  .cases hid;exact⟨i,j,rfl,jW s e he rfl⟩
 |bg=>
  have hn:=hM.n;cases c'<;>simp only[CC.bg,bi]at hd|-
  case aF=>exact hd
  case ah=>exact hd.mono (λ_ h=>.inl h) (λ_ _=>rfl)
  case ptr id k=>exact⟨gg id (by rw[<-hn];exact hd.1),hd.2⟩
  case nv id _ _ _=>exact⟨gg id (by rw[<-hn];exact hd.1),hd.2⟩
  case rk=>
   obtain⟨b,off,h1,h2,h3⟩:=hd;refine⟨b,off,h1,.inl h2,λj d hj=>?_⟩
   obtain⟨u,hu,cu⟩:=h3 j d hj;exact⟨u,hu,cu.mono (λ_ h=>.inl h) (λ_ _=>rfl)⟩
  case row id _ _ _=>exact⟨gg id (by rw[<-hn];exact hd.1),hd.2⟩
  case aK=>exact hd
  case map id=>exact⟨gg id (by rw[<-hn];exact hd.1),hd.2⟩
  case fn f eD=>
   refine⟨λid hid=>gg id (by rw[<-hn];exact hd.1 _ (aas.2 ⟨id,hid,rfl⟩)),?_⟩
   rw[hd.2,abZ];rfl
  case d5 s e=>
   obtain⟨a,b,c,h1,h2⟩:=hd;rcases Wz with⟨rfl,rfl,rfl⟩|⟨rfl,rfl,rfl⟩
   .cases h1
   .cases h1;exact⟨j9,i,j,rfl,h2⟩
theorem s9.Jd(hM:ax ρ m w){n:Nat}(gg:∀i,Y i<m.length->i<n){c c':CC}(h:s9 Y m Z none c c'){v:Value}(hd:bi ρ w none c v):bi (ρ.vw Y Z m n) w none c' v:=
 s9.jD (j9:=0) (i:=0) (j:=0) hM gg (.inl ⟨rfl,rfl,rfl⟩) h (λ_ _ _ h=>by cases h) hd
theorem yf.jD(hM:ax ρ m w){n:Nat}(gg:∀i,Y i<m.length->i<n){c c':RV}(h:yf Y m Z c c'){v:Value}(hd:df ρ w c v):df (ρ.vw Y Z m n) w c' v:=by
 cases h with
 |one h=>exact h.Jd hM gg hd
 |agg hl h=>
  obtain⟨vs,rfl,h1,h2⟩:=hd;refine⟨vs,rfl,h1.trans hl,λi c' hi=>?_⟩
  rename_i cs e7;have aD:i<cs.length:=by rw[hl];exact(JJ.1 hi).1
  obtain⟨u,hu,hd⟩:=h2 i _ (vl aD);exact⟨u,hu,(h i _ _ (vl aD) hi).Jd hM gg hd⟩
theorem ri.jD(hM:ax ρ m w){n:Nat}(gg:∀i,Y i<m.length->i<n){c c':CV}(h:ri Y m Z c c'){v:Value}(hd:bZ ρ w c v):bZ (ρ.vw Y Z m n) w c' v:=by
 cases h with
 |aF=>trivial
 |undef=>exact hd
 |rv h=>exact h.jD hM gg hd
 |bz hl h=>
  obtain⟨vs,rfl,h1,h2⟩:=hd;refine⟨vs,rfl,h1.trans hl,λi c' hi=>?_⟩
  rename_i cs e7;have aD:i<cs.length:=by rw[hl];exact(JJ.1 hi).1
  obtain⟨u,hu,hd⟩:=h2 i _ (vl aD);exact⟨u,hu,(h i _ _ (vl aD) hi).jD hM gg hd⟩
theorem mi.jD(hM:ax ρ m w){n:Nat}(gg:∀i,Y i<m.length->i<n){id:Nat}{b b':Bk}(hb:m[Y id]? =some b)(h:mi Y m Z (Y id) b b'):cI (ρ.vw Y Z m n) w id b':=by
 have hd:=hM.bk _ _ hb;cases h with
 | @var cs e7 h=>
  obtain⟨cur,hc,hd⟩:=hd;refine⟨cur,hc,λj c' hj=>?_⟩
  obtain⟨c,og,hv⟩:=h j c' hj;obtain⟨u,hu,cu⟩:=hd j c og;refine⟨u,hu,?_⟩;cases hv with
  |aF c=>exact cu.one
  |bg=>exact s9.Jd hM gg (.bg c') cu
  |un=>exact s9.Jd hM gg .un cu
  |hi j9 e lo tn=>exact s9.Jd hM gg (.hi j9 e lo tn) cu
  |lo j9 e lo tn=>exact s9.Jd hM gg (.lo j9 e lo tn) cu
  |fE hf=>exact hf.jD hM (λj9 _ s e he=>by rw[he]at cu;obtain⟨_,_,_,hx,_⟩:=cu;cases hx) cu
 | @row esz es br hl hs h=>
  obtain⟨h2,h3,h4,h5,bW⟩:=hd;refine⟨hl.symm.trans h2,h3,h4,λe7 LB=>?_,λcH=>?_⟩
  .obtain⟨i,hi⟩:=X1 LB;have aD:i<es.length:=by rw[hl];exact(JJ.1 hi).1
   rw[<-hs i _ _ (vl aD) hi];exact h5 _ (aar aD)
  .obtain⟨cur,hc,h1,h6⟩:=bW cH;refine⟨cur,hc,h1,λi e7 j c' hi hj=>?_⟩
   have aD:i<es.length:=by rw[hl];exact(JJ.1 hi).1
   have eH:=vl aD;have d9:j<es[i].length:=by rw[hs i _ _ eH hi];exact(JJ.1 hj).1
   have og:=vl d9;obtain⟨u,hu,cu⟩:=h6 _ _ _ _ eH og;refine⟨u,hu,s9.jD (j9:=id) (i:=i) (j:=j) hM gg (.inr ⟨rfl,rfl,rfl⟩) (h i _ _ j _ _ eH hi og hj) (λs e he _=>⟨_,hb,.row eH (by rw[og,he])⟩) cu⟩
 |it cur left=>
  obtain⟨mb,seen,ck,br,h2,h3,h4,h5,h6⟩:=hd;exact⟨mb,seen,ck,br,h2,h3,.inl h4,h5,h6⟩
 |mo esz es so=>
  obtain⟨ae,clock,hc,⟨h1,h2⟩,h3⟩:=hd;refine⟨ae,clock,hc,⟨by simpa using h1,λi e hi=>?_⟩,h3⟩
  obtain⟨K4,K5,hk,hp,pL⟩:=h2 i (e.bg Y) (by rw[Sf,hi];rfl)
  obtain⟨k,v⟩:=e;cases v with
  |d5 l=>
   refine⟨K4,K5,hk,hp,?_⟩;obtain⟨a,b,c,q1,q2⟩:=pL;cases q1;exact⟨id,i,0,rfl,q2⟩
  |row n=>
   refine⟨K4,K5,hk,hp,?_⟩;have hn:=hM.n;exact⟨gg n (by rw[<-hn];exact pL.1),pL.2⟩
 |Z6 esz=>
  obtain⟨ae,clock,hc,h1,h2⟩:=hd;exact⟨ae,clock,hc,⟨h1,aC⟩,aC⟩
 |iw mid gZ seen=>
  obtain⟨h1,h2,s,h3,h4⟩:=hd;have hn:=hM.n;exact⟨gg mid (by rw[<-hn];exact h1),h2,s,h3,h4⟩
 | @mp es br hl h=>
  obtain⟨ae,clock,hc,h1,h2⟩:=hd;refine⟨ae,clock,hc,h1.trans hl,λi e' hi=>?_⟩
  have aD:i<es.length:=by rw[hl];exact(JJ.1 hi).1
  obtain⟨K4,K5,hk,pL⟩:=h2 i _ (vl aD);obtain⟨fS,hv⟩:=h i _ _ (vl aD) hi;exact⟨K4,K5,hk.trans fS.symm,hv.jD hM gg pL⟩
theorem Live.RN{ρ:bG}{m:Mem}{k:gd}(h:Live ρ m k):m[k.id]? ≠some .aR:=by
 cases k with
 |aj id=>obtain⟨bk,h1,h2,_⟩:=h;intro e;rw[gd.id,h1]at e;cases e;exact h2 rfl
 |sub id i j=>obtain⟨⟨s,e,bk,h1,ho⟩,_⟩:=h;intro e;rw[gd.id,h1]at e;cases e;cases ho
theorem vB{m':Mem}(hM:ax ρ m w)(jL:∀i,i<n0->Y i=i)(oJ:∀i j,i<m'.length->j<m'.length->m'[i]? ≠some .aR->m'[j]? ≠some .aR->Y i=Y j->i=j)(gg:∀i,Y i<m.length->i<m'.length)(ic:∀(i:Nat)b',m'[i]? =some b'->b'= .aR\/(¬Z (Y i)/\∃b,m[Y i]? =some b/\mi Y m Z (Y i) b b')):
  ax (ρ.vw Y Z m m'.length) m' w/\SL n0 ρ m (ρ.vw Y Z m m'.length) m'/\∀k,Live (ρ.vw Y Z m m'.length) m' k->Live ρ m (k.bg Y):=by
 have jW:∀{id i j s1 e},dP m' id i j s1 e->¬Z (Y id)/\dP m (Y id) i j s1 e:=by
  rintro id i j s1 e ⟨b',tn,e8⟩;rcases ic id _ tn with h|⟨hz,b,hb,hv⟩
  .subst h;cases e8
  .cases hv with
   |var=>cases e8
   |mp=>cases e8
   |it=>cases e8
   |iw=>cases e8
   |Z6=>obtain⟨k,hi,_⟩:=e8.Rm;simp at hi
   |mo esz es so=>
    obtain⟨k,hi,rfl,rfl⟩:=e8.Rm;exact⟨hz,_,hb,.mo (k:=k) (by rw[Sf,hi];rfl)⟩
   | @row _ es _ hl hs h=>
    obtain⟨e7,eH,og⟩:=e8.yi;have aD:i<es.length:=by rw[hl];exact(JJ.1 eH).1
    have hi:=vl aD;have d9:j<es[i].length:=by rw[hs i _ _ hi eH];exact(JJ.1 og).1
    have hj:=vl d9;have hv:=h i _ _ j _ _ hi eH hj og;have hc:es[i][j]= .d5 s1 e:=by
     generalize es[i][j]=c at hv;cases hv with
     |bg=>rfl
    exact⟨hz,_,hb,.row hi (by rw[hj,hc])⟩
 have bX:∀k,Live (ρ.vw Y Z m m'.length) m' k->¬Z (Y k.id)/\Live ρ m (k.bg Y):=by
  intro k hk;cases k with
  |aj k=>
   obtain⟨b',tn,lH,bc⟩:=hk;rcases ic k _ tn with h|⟨hz,b,hb,hv⟩
   .exact absurd h lH
   .refine⟨hz,b,hb,?_,?_⟩
    .rintro rfl;cases hv
    .rintro⟨esz,es,rfl⟩;cases hv with
     |row=>exact bc ⟨_,_,rfl⟩
  |sub k i j=>
   obtain⟨⟨esz,e,ho⟩,bc⟩:=hk;exact⟨(jW ho).1,⟨_,_,(jW ho).2⟩,bc⟩
 refine⟨⟨rfl,?_,λk hk=>?_,λk k' hk fS he=>?_,λid b' tn=>?_,λid i j esz e ho bc=>?_⟩,⟨λid hid=>?_,λb h=>.inl h,?_,λk hk=>⟨_,(bX k hk).2,rfl⟩⟩,λk hk=>(bX k hk).2⟩
 .rintro b (hb|⟨k,hk,_,rfl⟩)
  .exact hM.S b hb
  .exact(hM.aP k hk).1
 .obtain⟨hz,hl⟩:=bX k hk;refine⟨(hM.aP _ hl).1,?_⟩;rintro(hb|⟨k0,Hs,Eb,he⟩)
  .exact(hM.aP _ hl).2 hb
  .have:=hM.inj k0 (k.bg Y) Hs hl he;subst this;apply hz;cases k<;>exact Eb
 .have yW:=hk.eK;have WA:=fS.eK;have u6:=hk.RN;have yd:=fS.RN;have:=hM.inj _ _ (bX k hk).2 (bX k' fS).2 he;cases k<;>cases k'<;>simp only[gd.bg,gd.aj.injEq,gd.sub.injEq,gd.id,reduceCtorEq]at this yW WA u6 yd
  .rw[oJ _ _ yW WA u6 yd this]
  .obtain⟨h1,rfl,rfl⟩:=this;rw[oJ _ _ yW WA u6 yd h1]
 .rcases ic id b' tn with rfl|⟨hz,b,hb,hv⟩
  .trivial
  .exact mi.jD hM gg hb hv
 .obtain⟨cur,hc,h1,h2,h3⟩:=hM.d5 _ _ _ _ _ (jW ho).2 bc;refine⟨cur,hc,h1,h2,λi2 cs j2 d eY lG=>?_⟩
  obtain⟨u,hu,cu⟩:=h3 i2 cs j2 d eY lG;exact⟨u,hu,cu.mono (λ_ h=>.inl h) (λ_ _=>rfl)⟩
 .show ρ.aH (.aj (Y id))=_;rw[jL id hid]
 .rintro b (hb|⟨k,hk,_,he⟩)
  .exact .inl hb
  .exact .inr ⟨k,hk,he⟩
theorem View.mk'{s s':St}(Y:Nat->Nat)(Z:Nat->Prop)(Ha:n0<=s'.mem.length)(hlen:s'.aX.length=s.aX.length)(jL:∀i,i<n0->Y i=i)(oJ:∀i j,i<s'.mem.length->j<s'.mem.length->Y i=Y j->i=j)(gg:∀i,Y i<s.mem.length->i<s'.mem.length)(oQ:∀(i:Nat)c',s'.aX[i]? =some c'->∃c,s.aX[i]? =some c/\ri Y s.mem Z c c')(ic:∀(i:Nat)b',s'.mem[i]? =some b'->b'= .aR\/(¬Z (Y i)/\∃b,s.mem[Y i]? =some b/\mi Y s.mem Z (Y i) b b')):View n0 s s':=by
 refine⟨Ha,hlen,λρ w hM=>?_⟩
 obtain⟨h1,h2,_⟩:=vB (n0:=n0) (Y:=Y) (Z:=Z) hM jL (λi j a b _ _=>oJ i j a b) gg ic
 refine⟨_,h1,h2,λi c' hi=>?_⟩
 obtain⟨c,hc,hv⟩:=oQ i c' hi;exact⟨c,hc,λv hd=>hv.jD hM gg hd⟩
theorem View.mk2{s s':St}(Y:Nat->Nat)(Ha:n0<=s'.mem.length)(hlen:s'.aX.length=s.aX.length)(jL:∀i,i<n0->Y i=i)(oJ:∀i j,i<s'.mem.length->j<s'.mem.length->s'.mem[i]? ≠some .aR->s'.mem[j]? ≠some .aR->Y i=Y j->i=j)(gg:∀i,Y i<s.mem.length->i<s'.mem.length)(oQ:∀(i:Nat)c',s'.aX[i]? =some c'->∃c,s.aX[i]? =some c/\ri Y s.mem (λ_=>False) c c')(ic:∀(i:Nat)b',s'.mem[i]? =some b'->b'= .aR\/∃b,s.mem[Y i]? =some b/\mi Y s.mem (λ_=>False) (Y i) b b'):View n0 s s':=by
 refine⟨Ha,hlen,λρ w hM=>?_⟩
 obtain⟨h1,h2,_⟩:=vB (n0:=n0) (Y:=Y) (Z:=λ_=>False) hM jL oJ gg (λi b' h=>(ic i b' h).imp id λh=>⟨λh=>h,h⟩)
 refine⟨_,h1,h2,λi c' hi=>?_⟩
 obtain⟨c,hc,hv⟩:=oQ i c' hi;exact⟨c,hc,λv hd=>hv.jD hM gg hd⟩
end
section
variable {P:Program} {n0:Nat} {Y:Nat->Nat} {Z:Nat->Prop} {ρ:bG} {m:Mem} {w:World}
def sg(l:List Nat)(n:Nat)(i:Nat):Nat:=match cD l i with|some x=>x|none=>n+(i-l.length)
def bx:List Nat->Nat->Bool
 | [],_=>false
 |x::r,k=>Nat.beq x k||bx r k
def fy:List Nat->Bool
 | []=>true
 |x::r=>!(bx r x)&&fy r
def eI(n:Nat):List Nat->Bool
 | []=>true
 |x::r=>Nat.blt x n&&eI n r
def CN(l:List Nat):Nat->Bool
 |0=>true
 |k+1=>(match cD l k with|some x=>Nat.beq x k|none=>false)&&CN l k
theorem wH:∀{l:List Nat}{k:Nat},bx l k=true↔k∈l
 | [],k=>by simp[bx]
 |x::r,k=>by
  simp only[bx,ab8,aaB,wH];constructor
  .rintro(h|h)
   .exact .inl (aam h).symm
   .exact .inr h
  .rintro(rfl|h)
   .exact .inl (ac8 _)
   .exact .inr h
theorem wI:∀{l:List Nat},fy l=true->∀i j:Nat,i<l.length->j<l.length->l[i]? =l[j]? ->i=j
 | [],_,i,j,hi,_,_=>by simp at hi
 |x::r,h,i,j,hi,hj,he=>by
  simp only[fy,aac,ab2]at h;have hx:∀k:Nat,r[k]? ≠some x:=λk hk=>by have:=wH.2 (Sj hk);rw[h.1]at this;cases this
  cases i with
  |zero=>
   cases j with
   |zero=>rfl
   |succ j=>simp at he;exact absurd he.symm (hx j)
  |succ i=>
   cases j with
   |zero=>simp at he;exact absurd he (hx i)
   |succ j=>
    simp at he hi hj;rw[wI h.2 i j hi hj he]
theorem mS{n:Nat}:∀{l:List Nat},eI n l=true->∀x,x∈l->x<n
 | [],_,x,hx=>by simp at hx
 |y::r,h,x,hx=>by
  simp only[eI,aac]at h;rcases aaB.1 hx with rfl|hx
  .exact aah h.1
  .exact mS h.2 x hx
theorem rU{l:List Nat}:∀{k:Nat},CN l k=true->∀i,i<k->l[i]? =some i
 |0,_,i,hi=>om
 |k+1,h,i,hi=>by
  simp only[CN,aac]at h;rcases aaf i k with h1|h1
  .exact rU h.2 i h1
  .have:i=k:=om;subst this;rw[<-aT];cases hn:cD l i with
   |none=>rw[hn]at h;simp at h
   |some x=>rw[hn]at h;simp only at h;rw[aam h.1]
theorem mT{l:List Nat}{n i:Nat}(h:i<l.length):sg l n i=l[i]:=by simp[sg,aT,vl h]
theorem rV{l:List Nat}{n i:Nat}(h:l.length<=i):sg l n i=n+(i-l.length):=by simp[sg,aT,aaz h]
theorem AP{l:List Nat}{n:Nat}(hd:fy l=true)(hl:eI n l=true){i j:Nat}(h:sg l n i=sg l n j):i=j:=by
 rcases aaf i l.length with hi|hi<;>rcases aaf j l.length with hj|hj
 .rw[mT hi,mT hj]at h;exact wI hd i j hi hj (by rw[vl hi,vl hj,h])
 .rw[mT hi,rV hj]at h;have:=mS hl _ (aar hi);omega
 .rw[rV hi,mT hj]at h;have:=mS hl _ (aar hj);omega
 .rw[rV hi,rV hj]at h;omega
def RV.bg(Y:Nat->Nat):RV->RV
 | .one c=>.one (c.bg Y)
 | .agg cs=>.agg (cs.map (CC.bg Y))
def CV.bg(Y:Nat->Nat):CV->CV
 | .rv r=>.rv (r.bg Y)
 | .bz rs=>.bz (rs.map (RV.bg Y))
 | .aF=>.aF
 | .undef=>.undef
def Bk.bg(Y:Nat->Nat):Bk->Bk
 | .aR=>.aR
 | .var cs=>.var (cs.map (CC.bg Y))
 | .row s es=>.row s (es.map λcs=>cs.map (CC.bg Y))
 | .mp es=>.mp (es.map λe=>⟨e.key,e.val.bg Y⟩)
 | .it cur left=>.it cur left
 | .mo esz es so=>.mo esz (es.map (MO.bg Y)) so
 | .iw mid gZ seen=>.iw (Y mid) gZ seen
theorem yf.bg(r:RV):yf Y m Z (r.bg Y) r:=by
 cases r with
 |one c=>exact .one (.bg c)
 |agg cs=>
  refine .agg aC λi c c' h h'=>?_
  rw[Sf,h']at h;cases h;exact .bg c'
theorem ri.Fa(v:CV):ri Y m Z (v.bg Y) v:=by
 cases v with
 |rv r=>exact .rv (.bg r)
 |bz rs=>
  refine .bz aC λi c c' h h'=>?_
  rw[Sf,h']at h;cases h;exact .bg c'
 |aF=>exact .aF _
 |undef=>exact .undef
theorem ri.bg{v v':CV}(h:v'.bg Y=v):ri Y m Z v v':=h▸ .Fa v'
theorem mi.Fa{id:Nat}(b:Bk)(hb:b≠.aR):mi Y m Z id (b.bg Y) b:=by
 cases b with
 |aR=>exact absurd rfl hb
 |var cs=>
  refine .var λi c' h=>⟨c'.bg Y,by rw[Sf,h];rfl,.bg c'⟩
 |row s es=>
  refine .row s aC (λi cs e7 h h'=>?_) λi cs e7 j c c' h h' g g'=>?_
  .rw[Sf,h']at h;cases h;simp
  .rw[Sf,h']at h;cases h;rw[Sf,g']at g;cases g;exact .bg c'
 |mp es=>
  refine .mp aC λi e e' h h'=>?_
  rw[Sf,h']at h;cases h;exact⟨rfl,.bg _⟩
 |it cur left=>exact .it cur left
 |mo esz es so=>exact .mo esz es so
 |iw mid gZ seen=>exact .iw mid gZ seen
theorem pV.RQ{Y:Nat->Nat}{b:Bk}{i j s:Nat}{e:List (List Dt)}(h:pV (b.bg Y) i j s e):pV b i j s e:=by
 cases b with
 |row s0 Zn=>
  obtain⟨cs,hi,hj⟩:=h.yi;rw[Sf]at hi;obtain⟨CL,vy,rfl⟩:=aau.1 hi;rw[Sf]at hj;obtain⟨c0,hj0,LJ⟩:=aau.1 hj;have:c0= .d5 s e:=by cases c0<;>simp[CC.bg]at LJ|-;exact LJ
  subst this;exact .row vy hj0
 |mo esz es so=>
  obtain⟨k,hi,rfl,rfl⟩:=h.Rm;rw[Sf]at hi;obtain⟨e0,vy,he⟩:=aau.1 hi;obtain⟨k0,v0⟩:=e0;cases v0 with
  |d5 l=>simp only[MO.bg,MO.mk.injEq,MV.d5.injEq]at he;obtain⟨rfl,rfl⟩:=he;exact .mo vy
  |row n=>simp[MO.bg]at he
 |_=>cases h
def aa(ds:List (List Dt)):List (List CC):=ds.map λes=>es.map .ah
theorem dA(ds:List (List Dt)):(aa ds).map (λcs=>cs.map (CC.bg Y))=aa ds:=by simp[aa,CC.bg]
theorem Bk.js(s:Nat)(ds:List (List Dt)):(Bk.row s (aa ds)).bg Y= .row s (aa ds):=by simp only[Bk.bg,dA]
theorem dR.eW{p:Option Nat}{id esz:Nat}{ds:List (List Dt)}(hz:Z id)(h:m[id]? =some (.row esz (aa ds)))(lo:Nat)(hi:Option Nat):dR m Z p (.row id esz lo hi) (.sl esz (bV ds lo hi)):=by
 refine .row id esz lo hi _ ds hz h (by simp[aa]) (λi cs es h1 h2=>?_) λi cs es j c d h1 h2 h3 h4=>?_
 .simp only[aa,Sf,h2,aax,aat]at h1;subst h1;simp
 .simp only[aa,Sf,h2,aax,aat]at h1;subst h1;simp only[Sf,h4,aax,aat]at h3;subst h3;exact .ah d
inductive io(Y:Nat->Nat)(m:Mem)(Z:Nat->Prop):List CV->List CV->Prop
 |nil:io Y m Z [] []
 |aF {v:CV} {e e':List CV} (h:io Y m Z e e'):io Y m Z (v::e) (.aF::e')
 |put {v v':CV} {e e':List CV} (hv:ri Y m Z v v') (h:io Y m Z e e'):io Y m Z (v::e) (v'::e')
theorem io.len{e e':List CV}(h:io Y m Z e e'):e'.length=e.length:=by
 induction h<;>simp[*]
theorem io.get{e e':List CV}(h:io Y m Z e e'):∀(i:Nat)c',e'[i]? =some c'->∃c,e[i]? =some c/\ri Y m Z c c':=by
 induction h with
 |nil=>intro i v h;simp at h
 |aF h ih=>
  intro i v hv;cases i with
  |zero=>simp at hv;subst hv;exact⟨_,rfl,.aF _⟩
  |succ i=>simpa using ih i v (by simpa using hv)
 |put hx h ih=>
  intro i v hv;cases i with
  |zero=>simp at hv;subst hv;exact⟨_,rfl,hx⟩
  |succ i=>simpa using ih i v (by simpa using hv)
theorem io.eq{v v':CV}{e e':List CV}(hv:v'.bg Y=v)(h:io Y m Z e e'):io Y m Z (v::e) (v'::e'):= .put (.bg hv) h
inductive ew(Y:Nat->Nat)(m:Mem)(Z:Nat->Prop):Nat->Mem->Prop
 |nil (k:Nat):ew Y m Z k []
 |aR {k:Nat} {r:Mem} (h:ew Y m Z (k+1) r):ew Y m Z k (.aR::r)
 |put {k:Nat} {b b':Bk} {r:Mem} (hz:¬Z (Y k)) (hb:cD m (Y k)=some b) (hv:mi Y m Z (Y k) b b') (h:ew Y m Z (k+1) r):ew Y m Z k (b'::r)
theorem ew.get{k:Nat}{m':Mem}(h:ew Y m Z k m'):∀(i:Nat)b',m'[i]? =some b'->b'= .aR\/(¬Z (Y (k+i))/\∃b,m[Y (k+i)]? =some b/\mi Y m Z (Y (k+i)) b b'):=by
 induction h with
 |nil k=>intro i b' h;simp at h
 | @aR k r h ih=>
  intro i b' hi;cases i with
  |zero=>simp at hi;exact .inl hi.symm
  |succ i=>
   have:=ih i b' (by simpa using hi)
   rwa [show k+1+i=k+(i+1) by omega]at this
 | @put k b b1 r hz hb hv h ih=>
  intro i b' hi;cases i with
  |zero=>simp at hi;subst hi;exact .inr ⟨hz,_,by rw[<-aT];exact hb,hv⟩
  |succ i=>
   have:=ih i b' (by simpa using hi)
   rwa [show k+1+i=k+(i+1) by omega]at this
theorem View.of{e e':List CV}{m m':Mem}(n:Nat)(l F:List Nat)(hn:m.length=n)(hl:m'.length=l.length)(h0:Nat.ble n0 l.length=true)(hi:CN l n0=true)(hd:fy l=true)(ha:eI n l=true)(oQ:io (sg l n) m (λk=>bx F k=true) e e')(ic:ew (sg l n) m (λk=>bx F k=true) 0 m'):View n0 ⟨e,m⟩ ⟨e',m'⟩:=by
 have h0':n0<=l.length:=aah h0;refine View.mk' (sg l n) _ (by simp only;omega) oQ.len (λi aD=>?_) (λi j _ _ h=>AP hd ha h) (λi aD=>?_) (λi c' h=>oQ.get i c' h) (λi b' h=>by have:=ic.get i b' h;simpa using this)
 .rw[mT om];have:=rU hi i aD;rw[vl om]at this;simpa using this
 .rcases aaf i l.length with h|h
  .simp only;omega
  .rw[rV h]at aD;simp only at aD;omega
theorem View.of2{e e':List CV}{m m':Mem}(n x:Nat)(l:List Nat)(hn:m.length=n)(hl:m'.length=l.length+1)(h0:Nat.ble n0 l.length=true)(hi:CN l n0=true)(hd:fy l=true)(ha:eI n l=true)(hx:Nat.blt x n0=true)(je:cD m' x=some .aR)(oQ:io (sg (gn l [x]) n) m (λk=>bx [] k=true) e e')(ic:ew (sg (gn l [x]) n) m (λk=>bx [] k=true) 0 m'):View n0 ⟨e,m⟩ ⟨e',m'⟩:=by
 have h0':n0<=l.length:=aah h0;have tm:x<n0:=aah hx;have Z7:l[x]? =some x:=rU hi x tm;have hxn:x<n:=mS ha x (Sj Z7);rw[b7]at oQ ic;rw[aT]at je;have hz:(λk=>bx [] k=true)=λ_=>False:=by funext k;simp[bx]
 rw[hz]at oQ ic;have hL:(l++ [x]).length=l.length+1:=aC;have old:∀i,i<l.length->sg (l++ [x]) n i=sg l n i:=λi h=>by rw[mT om,mT h,List.getElem_append_left h]
 have new:sg (l++ [x]) n l.length=x:=by rw[mT om];simp
 refine View.mk2 (sg (l++ [x]) n) (by simp only;omega) oQ.len (λi aD=>?_) (λi j IF yu Ec Tq h=>?_) (λi aD=>?_) (λi c' h=>oQ.get i c' h) (λi b' h=>by have:=ic.get i b' h;simpa using this)
 .rw[old i om,mT om];have:=rU hi i aD;rw[vl om]at this;simpa using this
 .have key:∀i,i<l.length->m'[i]? ≠some .aR->sg (l++ [x]) n i=x->False:=by
   intro i h Ec he;rw[old i h]at he;have:sg l n i=sg l n x:=by rw[he,mT om];rw[vl om]at Z7;simpa using Z7.symm
   have:=AP hd ha this;subst this;exact Ec je
  simp only at IF yu Ec Tq;rw[hl]at IF yu;by_cases h1:i=l.length<;>by_cases h2:j=l.length
  .rw[h1,h2]
  .rw[h1,new]at h;exact(key j om Tq h.symm).elim
  .rw[h2,new]at h;exact(key i om Ec h).elim
  .rw[old i om,old j om]at h;exact AP hd ha h
 .rcases aaf i (l.length+1)with h|h
  .simp only;omega
  .rw[rV om]at aD;simp only at aD;omega
theorem bH{f:Nat}{args:List CV}{m:Mem}{K0 K:CV->Mem->Prop}(h:ap P f args m K0)(hK:∀r m1,K0 r m1->∃r' m',View m.length ⟨[r],m1⟩ ⟨[r'],m'⟩/\K r' m'):ap P f args m K:=by
 refine⟨h.1,λρ w vs hM hl hd=>?_⟩
 refine(h.2 ρ w vs hM hl hd).mono λe w'⟨v,r,m1,ρ1,he,hk,rH,u6,hx⟩=>?_
 obtain⟨r',m',hv,fS⟩:=hK r m1 hk;obtain⟨U',i4,hc,pL⟩:=hv.go ρ1 w' rH;have hn:=hM.n;refine⟨v,r',m',U',he,fS,i4,?_,⟨by rw[hn,i4.n];exact hv.hn,λid hid=>(hc.aH id (by rw[<-hn];exact hid)).trans (hx.aH id hid),λb hb=>hc.S b (hx.S b hb),λb hb=>?_,λk hk=>?_,hx.frame,hx.size,hx.os,hx.tape,hx.output⟩⟩
 .obtain⟨c,rA,L9⟩:=pL 0 r' rfl;simp at rA;subst rA;exact L9 v u6
 .rcases hc.S' b hb with h|⟨k,hk,rfl⟩
  .exact hx.S' b h
  .exact .inr (hx.aP k hk)
 .obtain⟨k0,h0,e0⟩:=hc.aP k hk;rw[<-e0];exact hx.aP k0 h0
def mU(Y:Nat->Nat):Mem->Mem
 | []=>[]
 |b::r=>b.bg Y::mU Y r
theorem AQ(Y:Nat->Nat):∀m,mU Y m=m.map (Bk.bg Y)
 | []=>rfl
 |b::r=>by simp[mU,AQ Y r]
def cW:Mem->List Nat->Mem->Mem
 |m,[],ms=>gn m ms
 |m,_::_,[]=>m
 |m,id::l,b::ms=>cW (aW m id b) l ms
theorem zm:∀(l:List Nat)(m ms:Mem),l.length<=ms.length->(cW m l ms).length=m.length+(ms.length-l.length)
 | [],m,ms,_=>by simp[cW,b7]
 |_::l,m,[],h=>by simp at h
 |id::l,m,b::ms,h=>by simp at h;rw[cW,zm l _ _ h,aY];simp
theorem tC:∀(l:List Nat)(m ms:Mem)(j:Nat),j<m.length->j∉l->(cW m l ms)[j]? =m[j]?
 | [],m,ms,j,hj,_=>by simp[cW,b7,YN hj]
 |_::l,m,[],j,_,_=>by simp[cW]
 |id::l,m,b::ms,j,hj,hn=>by
  simp at hn;rw[cW,tC l _ _ j (by rw[aY];simpa using hj) hn.2,aY,Xg (λh=>hn.1 h.symm)]
theorem zn:∀(l:List Nat)(m ms:Mem),fy l=true->eI m.length l=true->l.length<=ms.length->∀(i:Nat),i<ms.length->(cW m l ms)[sg l m.length i]? =ms[i]?
 | [],m,ms,_,_,_,i,hi=>by simp only[cW,b7,sg,cD,aa9,acr];rw[Xi om];simp
 |_::l,m,[],_,_,h,_,_=>by simp at h
 |id::l,m,b::ms,hd,ha,h,i,hi=>by
  simp only[fy,aac,ab2]at hd;simp only[eI,aac]at ha;simp at h hi;have hlen:(aW m id b).length=m.length:=by rw[aY];simp
  have hid:id<m.length:=aah ha.1;cases i with
  |zero=>
   rw[cW];show(cW (aW m id b) l ms)[id]? =some b;rw[tC l _ _ id (by rw[hlen];exact hid) (λh=>by rw[wH.2 h]at hd;cases hd.1),aY]
   simp[hid]
  |succ i=>
   have:=zn l (aW m id b) ms hd.2 (by rw[hlen];exact ha.2) h i om
   rw[hlen]at this;rw[cW];have e:sg (id::l) m.length (i+1)=sg l m.length i:=by simp[sg,cD]
   rw[e,this];simp
theorem bi.pos{ρ:bG}{w:World}{pos pos':Option (Nat×Nat×Nat)}{c:CC}{v:Value}(hc:∀s e,c≠.d5 s e)(h:bi ρ w pos c v):bi ρ w pos' c v:=by
 cases c<;>simp only[bi]at h|-
 case d5=>exact absurd rfl (hc _ _)
 all_goals exact h
theorem bi.Z8{ρ U':bG}{w:World}{pos:Option (Nat×Nat×Nat)}(hn:ρ.n<=U'.n)(bM:∀id,id<ρ.n->U'.aH (.aj id)=ρ.aH (.aj id))(iC:∀id i j,pos=some (id,i,j)->U'.aH (.sub id i j)=ρ.aH (.sub id i j))(hS:∀b,ρ.S b->U'.S b){w':World}(ei:∀b,ρ.S b->w'.heap[b]? =w.heap[b]?){c:CC}{v:Value}(h:bi ρ w pos c v):bi U' w' pos c v:=by
 let ρ1:bG:={n:=U'.n,aH:=λk=>match k with| .aj id=>U'.aH (.aj id)|k=>ρ.aH k,S:=U'.S}
 have g:iA ρ w ρ1 w':=⟨hn,λk hk=>by
  cases k with
  |aj id=>exact bM id hk
  |sub id i j=>rfl,hS,ei⟩
 by_cases hc:∃s e,c= .d5 s e
 .obtain⟨esz,elems,rfl⟩:=hc;obtain⟨id,i,j,cH,hr⟩:=h;refine⟨id,i,j,cH,?_⟩;rw[iC id i j cH];exact hr
 .have hc:∀s e,c≠.d5 s e:=λs e h=>hc ⟨s,e,h⟩
  have h1:=bi.pos (pos':=pos) hc (bi.ce g aC (bi.pos (pos':=none) hc h));cases c<;>simp only[bi]at h1|-
  case d5=>exact absurd rfl (hc _ _)
  all_goals exact h1
theorem bi.bg{ρ U':bG}{τ:Nat->Nat}{w:World}{pos pos':Option (Nat×Nat×Nat)}(hτ:∀i,i<ρ.n->τ i<U'.n)(dE:∀i,i<ρ.n->U'.aH (.aj (τ i))=ρ.aH (.aj i))(hS:∀b,ρ.S b->U'.S b)(cH:∀id i j,pos=some (id,i,j)->pos'=some (τ id,i,j)/\U'.aH (.sub (τ id) i j)=ρ.aH (.sub id i j)){c:CC}{v:Value}(h:bi ρ w pos c v):bi U' w pos' (c.bg τ) v:=by
 cases c<;>simp only[bi,CC.bg]at h|-
 case aF=>exact h
 case ah=>exact h.mono hS (λ_ _=>rfl)
 case ptr id _=>rw[dE id h.1];exact⟨hτ id h.1,h.2⟩
 case nv id _ _ _=>rw[dE id h.1];exact⟨hτ id h.1,h.2⟩
 case rk=>
  obtain⟨b,off,h1,h2,h3⟩:=h;refine⟨b,off,h1,hS _ h2,λj d hj=>?_⟩
  obtain⟨u,hu,cu⟩:=h3 j d hj;exact⟨u,hu,cu.mono hS (λ_ _=>rfl)⟩
 case row id _ _ _=>rw[dE id h.1];exact⟨hτ id h.1,h.2⟩
 case aK=>exact h
 case map id=>rw[dE id h.1];exact⟨hτ id h.1,h.2⟩
 case fn f eD=>
  refine⟨λid hid=>?_,?_⟩
  .obtain⟨i,hi,rfl⟩:=aas.1 hid;exact hτ i (h.1 i hi)
  .rw[h.2];congr 2;rw[abZ];exact acE λid hid=>by simp only[Function.comp];rw[dE id (h.1 id hid)]
 case d5 s e=>
  obtain⟨a,b,c,h1,h2⟩:=h;obtain⟨h3,h4⟩:=cH a b c h1;refine⟨τ a,b,c,h3,?_⟩;rw[h4];exact h2
theorem df.bg{ρ U':bG}{τ:Nat->Nat}{w:World}(hτ:∀i,i<ρ.n->τ i<U'.n)(dE:∀i,i<ρ.n->U'.aH (.aj (τ i))=ρ.aH (.aj i))(hS:∀b,ρ.S b->U'.S b){c:RV}{v:Value}(h:df ρ w c v):df U' w (c.bg τ) v:=by
 cases c with
 |one c=>exact bi.bg hτ dE hS (λ_ _ _ h=>by cases h) h
 |agg cs=>
  obtain⟨vs,rfl,h1,h2⟩:=h;refine⟨vs,rfl,by simpa using h1,λi c hi=>?_⟩
  rw[Sf]at hi;obtain⟨c0,h0,rfl⟩:=aau.1 hi;obtain⟨u,hu,hd⟩:=h2 i c0 h0;exact⟨u,hu,bi.bg hτ dE hS (λ_ _ _ h=>by cases h) hd⟩
theorem bZ.bg{ρ U':bG}{τ:Nat->Nat}{w:World}(hτ:∀i,i<ρ.n->τ i<U'.n)(dE:∀i,i<ρ.n->U'.aH (.aj (τ i))=ρ.aH (.aj i))(hS:∀b,ρ.S b->U'.S b){c:CV}{v:Value}(h:bZ ρ w c v):bZ U' w (c.bg τ) v:=by
 cases c with
 |aF=>trivial
 |undef=>exact h
 |rv r=>exact df.bg hτ dE hS h
 |bz cs=>
  obtain⟨vs,rfl,h1,h2⟩:=h;refine⟨vs,rfl,by simpa using h1,λi c hi=>?_⟩
  rw[Sf]at hi;obtain⟨c0,h0,rfl⟩:=aau.1 hi;obtain⟨u,hu,hd⟩:=h2 i c0 h0;exact⟨u,hu,df.bg hτ dE hS hd⟩
theorem cI.bg{ρ U':bG}{τ:Nat->Nat}{w:World}(hτ:∀i,i<ρ.n->τ i<U'.n)(dE:∀i,i<ρ.n->U'.aH (.aj (τ i))=ρ.aH (.aj i))(hS:∀b,ρ.S b->U'.S b){id:Nat}(hid:id<ρ.n)(iC:∀i j,U'.aH (.sub (τ id) i j)=ρ.aH (.sub id i j)){b:Bk}(h:cI ρ w id b):cI U' w (τ id) (b.bg τ):=by
 cases b with
 |aR=>trivial
 |var cs=>
  obtain⟨cur,hc,hd⟩:=h;simp only[Bk.bg,cI,dE id hid];refine⟨cur,hc,λj c hj=>?_⟩
  rw[Sf]at hj;obtain⟨c0,h0,rfl⟩:=aau.1 hj;obtain⟨u,hu,cu⟩:=hd j c0 h0;exact⟨u,hu,bi.bg hτ dE hS (λ_ _ _ h=>by cases h) cu⟩
 |row s es=>
  obtain⟨h2,h3,h4,h5,bW⟩:=h;simp only[Bk.bg,cI,dE id hid];refine⟨by simpa using h2,h3,h4,λcs eC=>?_,λcH=>?_⟩
  .obtain⟨CL,h0,rfl⟩:=aas.1 eC;simpa using h5 CL h0
  .obtain⟨cur,hc,h1,h6⟩:=bW cH;refine⟨cur,hc,h1,λi cs j c hi hj=>?_⟩
   rw[Sf]at hi;obtain⟨CL,h0,rfl⟩:=aau.1 hi;rw[Sf]at hj;obtain⟨c0,US,rfl⟩:=aau.1 hj;obtain⟨u,hu,cu⟩:=h6 i CL j c0 h0 US;exact⟨u,hu,bi.bg hτ dE hS (λa b c h=>by cases h;exact⟨rfl,iC _ _⟩) cu⟩
 |mp es=>
  obtain⟨ae,clock,hc,h1,h2⟩:=h;simp only[Bk.bg,cI,dE id hid];refine⟨ae,clock,hc,by simpa using h1,λi e hi=>?_⟩
  rw[Sf]at hi;obtain⟨e0,h0,rfl⟩:=aau.1 hi;obtain⟨K4,K5,hk,pL⟩:=h2 i e0 h0;exact⟨K4,K5,hk,df.bg hτ dE hS pL⟩
 |it cur left=>
  obtain⟨mb,seen,ck,br,h2,h3,h4,h5,h6⟩:=h;simp only[Bk.bg,cI,dE id hid];exact⟨mb,seen,ck,br,h2,h3,hS _ h4,h5,h6⟩
 |mo esz es so=>
  obtain⟨ae,clock,hc,⟨h1,h2⟩,h3⟩:=h;simp only[Bk.bg,cI,dE id hid];refine⟨ae,clock,hc,⟨by simpa using h1,λi e hi=>?_⟩,h3⟩
  rw[Sf]at hi;obtain⟨e0,h0,rfl⟩:=aau.1 hi;obtain⟨K4,K5,hk,hp,pL⟩:=h2 i e0 h0;have yd:=bi.bg (pos':=some (τ id,i,0)) hτ dE hS (λa b c h=>by cases h;exact⟨rfl,iC _ _⟩) pL
  obtain⟨k,v⟩:=e0;cases v<;>exact⟨K4,K5,hk,hp,yd⟩
 |iw mid gZ seen=>
  obtain⟨h1,h2,s,h3,h4⟩:=h;simp only[Bk.bg,cI,dE id hid,dE mid h1];exact⟨hτ mid h1,h2,s,h3,h4⟩
end
section
variable {P:Program}
theorem Fb{l:List Nat}{n i:Nat}(hi:sg l n i<n):i<l.length:=by
 rcases aaf i l.length with h|h
 .exact h
 .rw[rV h]at hi;omega
theorem bu{f:Nat}{args args0:List CV}{m m0:Mem}{K0 K:CV->Mem->Prop}(l:List Nat)(n:Nat)(hn:m.length=n)(hl:m0.length=l.length)(hd:fy l=true)(ha:eI n l=true)(eO:args=args0.map (CV.bg (sg l n)))(hm:∀(i:Nat)b',m0[i]? =some b'->b'= .aR\/(¬False/\∃b,m[sg l n i]? =some b/\mi (sg l n) m (λ_=>False) (sg l n i) b b'))(h:ap P f args0 m0 K0)(hK:∀r m1,K0 r m1->l.length<=m1.length/\K (r.bg (sg l n)) (cW m l (mU (sg l n) m1))):ap P f args m K:=by
 subst hn;refine⟨h.1,λρ w vs hM yr Z9=>?_⟩
 have oJ:∀i j,sg l m.length i=sg l m.length j->i=j:=λi j h=>AP hd ha h
 obtain⟨lY,hC0,Pe⟩:=vB (n0:=0) (Y:=sg l m.length) (Z:=λ_=>False) (m':=m0) hM (λi h=>absurd h (aaR i)) (λi j _ _ _ _ h=>oJ i j h) (λi h=>by rw[hl];exact Fb h) hm
 have Yu:∀b,(ρ.vw (sg l m.length) (λ_=>False) m m0.length).S b↔ρ.S b:=λb=>⟨λh=>h.elim id λ⟨k,_,hf,_⟩=>hf.elim,.inl⟩
 have jY:ρ.n=m.length:=hM.n;refine(h.2 _ w vs lY (by rw[yr,eO];simp) λi c hi=>?_).mono λe w'⟨v,r,m1,ρ1,he,hk,rH,u6,hx⟩=>?_
 .obtain⟨v,hv,pL⟩:=Z9 i (c.bg (sg l m.length)) (by rw[eO,Sf,hi];rfl)
  exact⟨v,hv,ri.jD hM (λi h=>by rw[hl];exact Fb h) (.Fa c) pL⟩
 .obtain⟨hle,fS⟩:=hK r m1 hk;have qE:ρ1.n=m1.length:=rH.n;let back:Nat->Option Nat:=λj=>(List.range m1.length).find? λi=>sg l m.length i==j
  have kP:∀{j i},back j=some i->i<m1.length/\sg l m.length i=j:=by
   intro j i hb;have h1:=List.mem_of_find?_eq_some hb;have h2:=List.find?_some hb;exact⟨by simpa using h1,by simpa using h2⟩
  have Ht:∀{i},i<m1.length->back (sg l m.length i)=some i:=by
   intro i hi;cases hb:back (sg l m.length i)with
   |none=>
    have:=adh.1 hb i (by simpa using hi)
    simp at this
   |some j=>rw[oJ _ _ (kP hb).2]
  have pB:∀{j},j<m.length+(m1.length-l.length)->back j=none->j<m.length/\j∉l:=by
   intro j hj hb;have jX:=adh.1 hb;refine⟨?_,λnu=>?_⟩
   .rcases aaf j m.length with h|h
    .exact h
    .have:=jX (l.length+(j-m.length)) (by simp;omega)
     rw[rV om]at this;simp at this;omega
   .obtain⟨i,hi⟩:=X1 nu;obtain⟨aD,rfl⟩:=JJ.1 hi;have:=jX i (by simp;omega)
    rw[mT aD]at this;simp at this
  let U':bG:={n:=m.length+(m1.length-l.length),aH:=λk=>match back k.id with
   |some i=>(match k with| .aj _=>ρ1.aH (.aj i)| .sub _ a b=>ρ1.aH (.sub i a b))
   |none=>ρ.aH k,S:=ρ1.S}
  have P2:∀i,i<ρ1.n->U'.aH (.aj (sg l m.length i))=ρ1.aH (.aj i):=by intro i hi;rw[qE]at hi;simp only[U',gd.id,Ht hi]
  have Tr:∀i a b,i<ρ1.n->U'.aH (.sub (sg l m.length i) a b)=ρ1.aH (.sub i a b):=by intro i a b hi;rw[qE]at hi;simp only[U',gd.id,Ht hi]
  have Je:∀k:gd,back k.id=none->U'.aH k=ρ.aH k:=by intro k hb;simp only[U',hb]
  have Fc:∀id,id<ρ.n->U'.aH (.aj id)=ρ.aH (.aj id):=by
   intro id hid;cases hb:back id with
   |none=>exact Je (.aj id) hb
   |some i=>
    obtain⟨h1,h2⟩:=kP hb;have hi:i<l.length:=Fb (by rw[h2,<-jY];exact hid)
    rw[<-h2,P2 i (by rw[qE];exact h1),hx.aH i (by show i<m0.length;omega)]
    rfl
  have mM:∀i,i<ρ1.n->sg l m.length i<U'.n:=by
   intro i hi;rw[qE]at hi;show _<m.length+(m1.length-l.length);rcases aaf i l.length with h|h
   .rw[mT h];have:=mS ha _ (aar h);omega
   .rw[rV h];omega
  have Hu:(mU (sg l m.length) m1).length=m1.length:=by rw[AQ];simp
  have Yv:(cW m l (mU (sg l m.length) m1)).length=m.length+(m1.length-l.length):=by
   rw[zm l m _ (by rw[Hu];exact hle),Hu]
  have Yw:∀i,i<m1.length->(cW m l (mU (sg l m.length) m1))[sg l m.length i]? =(m1[i]?).map (Bk.bg (sg l m.length)):=by
   intro i hi;rw[zn l m _ hd ha (by rw[Hu];exact hle) i (by rw[Hu];exact hi),AQ,Sf]
  have hwo:∀j,back j=none->j<m.length+(m1.length-l.length)->(cW m l (mU (sg l m.length) m1))[j]? =m[j]? :=by intro j hb hj;obtain⟨h1,h2⟩:=pB hj hb;exact tC l m _ j h1 h2
  have vA:∀k,Live ρ m k->(k.id<m.length->k.id∉l)->(∀k0,Live (ρ.vw (sg l m.length) (λ_=>False) m m0.length) m0 k0->((ρ.vw (sg l m.length) (λ_=>False) m m0.length).aH k0).b≠(ρ.aH k).b):=by
   intro k hk Mu k0 Hs he;have h1:=Pe k0 Hs;have h2:=hM.inj _ _ h1 hk he;have h3:=Hs.eK;rw[hl]at h3;apply Mu hk.eK;rw[<-h2];cases k0<;>simp only[gd.bg,gd.id]at h3|-<;>rw[mT h3]<;>exact aar h3
  have ei:∀k,Live ρ m k->(k.id<m.length->k.id∉l)->w'.heap[(ρ.aH k).b]? =w.heap[(ρ.aH k).b]? :=λk hk Mu=>hx.frame _ (hM.aP k hk).1 (vA k hk Mu)
  have wg:∀b,ρ.S b->w'.heap[b]? =w.heap[b]? :=λb hb=>hx.frame b (hM.S b hb) λk hk he=>(lY.aP k hk).2 (he▸(Yu b).2 hb)
  have Yx:∀b,ρ.S b->ρ1.S b:=λb hb=>hx.S b ((Yu b).2 hb)
  have WB:∀k,Live ρ m k->(k.id<m.length->k.id∉l)->¬ρ1.S (ρ.aH k).b:=by
   intro k hk Mu hs;rcases hx.S' _ hs with h|h|⟨k0,Hs,he⟩
   .exact(hM.aP k hk).2 ((Yu _).1 h)
   .have:=(hM.aP k hk).1;omega
   .exact vA k hk Mu k0 Hs he
  have fU:∀k,Live U' (cW m l (mU (sg l m.length) m1)) k->(∃k1,k1.id<m1.length/\k=k1.bg (sg l m.length)/\Live ρ1 m1 k1/\U'.aH k=ρ1.aH k1)\/(back k.id=none/\k.id<m.length/\k.id∉l/\Live ρ m k/\U'.aH k=ρ.aH k):=by
   intro k hk;have aD:=hk.eK;rw[Yv]at aD;cases hb:back k.id with
   |none=>
    obtain⟨h1,h2⟩:=pB aD hb;have Ts:=hwo k.id hb aD;refine .inr ⟨rfl,h1,h2,?_,Je k hb⟩;have bM:=Je k hb;cases k with
    |aj id=>
     obtain⟨bk,c9,lH,bc⟩:=hk;simp only[gd.id]at Ts;rw[Ts]at c9;rw[bM]at bc;exact⟨bk,c9,lH,bc⟩
    |sub id a b=>
     obtain⟨⟨s,e,b2,c9,ho⟩,bc⟩:=hk;simp only[gd.id]at Ts;rw[Ts]at c9;rw[bM]at bc;exact⟨⟨s,e,b2,c9,ho⟩,bc⟩
   |some i=>
    obtain⟨h1,h2⟩:=kP hb;have Ts:=Yw i h1;cases k with
    |aj id=>
     simp only[gd.id]at h2;subst h2;have bM:=P2 i (by rw[qE];exact h1)
     refine .inl ⟨.aj i,h1,rfl,?_,bM⟩;obtain⟨bk,c9,lH,bc⟩:=hk;rw[Ts]at c9;obtain⟨b0,h0,rfl⟩:=aau.1 c9;rw[bM]at bc;refine⟨b0,h0,?_,?_⟩
     .rintro rfl;exact lH rfl
     .rintro⟨s,es,rfl⟩;exact bc ⟨_,_,rfl⟩
    |sub id a b=>
     simp only[gd.id]at h2;subst h2;have bM:=Tr i a b (by rw[qE];exact h1)
     refine .inl ⟨.sub i a b,h1,rfl,?_,bM⟩;obtain⟨⟨s,e,b2,c9,ho⟩,bc⟩:=hk;rw[Ts]at c9;obtain⟨b0,h0,rfl⟩:=aau.1 c9;rw[bM]at bc;exact⟨⟨s,e,_,h0,ho.RQ⟩,bc⟩
  have aab:∀{j i},back j=some i->i<ρ1.n/\sg l m.length i=j:=λhb=>by rw[qE];exact kP hb
  refine⟨v,r.bg (sg l m.length),cW m l (mU (sg l m.length) m1),U',he,fS,⟨Yv.symm,λb hb=>rH.S b hb,λk hk=>?_,λk k' hk oL nI=>?_,λid b hb=>?_,λid i j esz e ho bc=>?_⟩,bZ.bg mM P2 (λ_ h=>h) u6,
   ⟨by show ρ.n<=_;rw[jY];exact Nat.le_add_right _ _,Fc,Yx,λb hb=>?_,λk hk=>?_,λb hb hnk=>hx.frame b hb λk hk he=>hnk _ (Pe k hk) he,hx.size,hx.os,hx.tape,hx.output⟩⟩
  .rcases fU k hk with⟨k1,_,_,kg,bM⟩|⟨_,h1,h2,kg,bM⟩
   .rw[bM];exact rH.aP k1 kg
   .rw[bM];exact⟨aaA (hM.aP k kg).1 hx.size,WB k kg λ_=>h2⟩
  .have mixed:∀k1 k2,Live ρ1 m1 k1->Live ρ m k2->k2.id∉l->(ρ1.aH k1).b≠(ρ.aH k2).b:=by
    intro k1 k2 kg oL S4 ke;rcases hx.aP k1 kg with h|⟨k0,Hs,e0⟩
    .have:=(hM.aP k2 oL).1;omega
    .exact vA k2 oL (λ_=>S4) k0 Hs (e0.trans ke)
   rcases fU k hk with⟨k1,_,rfl,kg,bM⟩|⟨_,h1,h2,kg,bM⟩<;>rcases fU k' oL with⟨k1',_,rfl,Mv,jN⟩|⟨_,Cp,KX,Mv,jN⟩
   .rw[bM,jN]at nI;rw[rH.inj k1 k1' kg Mv nI]
   .rw[bM,jN]at nI;exact absurd nI (mixed k1 k' kg Mv KX)
   .rw[bM,jN]at nI;exact absurd nI.symm (mixed k1' k Mv kg h2)
   .rw[bM,jN]at nI;exact hM.inj k k' kg Mv nI
  .have aD:id<m.length+(m1.length-l.length):=by rw[<-Yv];exact(JJ.1 hb).1
   cases c9:back id with
   |some i=>
    obtain⟨h1,rfl⟩:=kP c9;rw[Yw i h1]at hb;obtain⟨b0,h0,rfl⟩:=aau.1 hb;exact cI.bg mM P2 (λ_ h=>h) (by rw[qE];exact h1) (λa b=>Tr i a b (by rw[qE];exact h1)) (rH.bk i b0 h0)
   |none=>
    obtain⟨h1,h2⟩:=pB aD c9;rw[hwo id c9 aD]at hb;have eu:=hM.bk id b hb;have bM:U'.aH (.aj id)=ρ.aH (.aj id):=Je (.aj id) c9;have ek:ρ.n<=U'.n:=by rw[jY];exact Nat.le_add_right _ _
    have jd:∀{p c u},(∀a i j,p=some (a,i,j)->a=id)->bi ρ w p c u->bi U' w' p c u:=λ{p c u}hp hd=>bi.Z8 ek Fc (λa i j yn=>by rw[hp a i j yn];exact Je (.sub id i j) c9) Yx wg hd
    have jM:∀{c u},df ρ w c u->df U' w' c u:=by
     intro c u hd;cases c with
     |one c=>exact jd (λ_ _ _ h=>by cases h) hd
     |agg cs=>
      obtain⟨vs,hv,Ax,hc⟩:=hd;exact⟨vs,hv,Ax,λi c hi=>let⟨u,hu,hd⟩:=hc i c hi;⟨u,hu,jd (λ_ _ _ h=>by cases h) hd⟩⟩
    have hh:b≠.aR->((∃esz elems,b= .row esz elems)->0<(ρ.aH (.aj id)).cap)->w'.heap[(ρ.aH (.aj id)).b]? =w.heap[(ρ.aH (.aj id)).b]? :=λlH bc=>ei (.aj id) ⟨b,hb,lH,bc⟩ λ_=>h2
    cases b with
    |aR=>trivial
    |var cs=>
     obtain⟨cur,hc,yp⟩:=eu;simp only[cI,bM];refine⟨cur,hc.dB (hh aC (by rintro⟨_,_,h⟩;cases h)),λj c hj=>?_⟩
     obtain⟨u,hu,cu⟩:=yp j c hj;exact⟨u,hu,jd (λ_ _ _ h=>by cases h) cu⟩
    |row esz elems=>
     obtain⟨g2,g3,g4,g5,bW⟩:=eu;simp only[cI,bM];refine⟨g2,g3,g4,g5,λcH=>?_⟩
     obtain⟨cur,hc,q1,q6⟩:=bW cH;refine⟨cur,hc.dB (hh aC (λ_=>cH)),q1,λi cs j c hi hj=>?_⟩
     obtain⟨u,hu,cu⟩:=q6 i cs j c hi hj;exact⟨u,hu,jd (λ_ _ _ h=>by cases h;rfl) cu⟩
    |mp es=>
     obtain⟨ae,clock,hc,q1,q2⟩:=eu;simp only[cI,bM];refine⟨ae,clock,⟨(hh aC (by rintro⟨_,_,h⟩;cases h)).trans hc.1,hc.2⟩,q1,λi e hi=>?_⟩
     obtain⟨K4,K5,BX,pL⟩:=q2 i e hi;exact⟨K4,K5,BX,jM pL⟩
    |it cur left=>
     obtain⟨mb,seen,ck,br,q2,q3,q4,q5,q6⟩:=eu;simp only[cI,bM];exact⟨mb,seen,ck,br,(hh aC (by rintro⟨_,_,h⟩;cases h)).trans q2,q3,Yx _ q4,(wg mb q4).trans q5,q6⟩
    |mo esz es so=>
     obtain⟨ae,clock,hc,⟨q1,q2⟩,q3⟩:=eu;simp only[cI,bM];refine⟨ae,clock,⟨(hh aC (by rintro⟨_,_,h⟩;cases h)).trans hc.1,hc.2⟩,⟨q1,λi e hi=>?_⟩,q3⟩
     obtain⟨K4,K5,BX,hp,pL⟩:=q2 i e hi;exact⟨K4,K5,BX,hp,jd (λ_ _ _ h=>by cases h;rfl) pL⟩
    |iw mid gZ seen=>
     obtain⟨q1,q2,s,q3,q4⟩:=eu;simp only[cI,bM];refine⟨aaA q1 ek,q2,s,(hh aC (by rintro⟨_,_,h⟩;cases h)).trans ?_,q4⟩
     rw[q3,Fc mid q1]
  .have hk:Live U' (cW m l (mU (sg l m.length) m1)) (.sub id i j):=⟨⟨_,_,ho⟩,bc⟩;obtain⟨b2,hb,Pf⟩:=ho;have aD:id<m.length+(m1.length-l.length):=by rw[<-Yv];exact(JJ.1 hb).1
   cases c9:back id with
   |some i0=>
    obtain⟨h1,rfl⟩:=kP c9;have bM:=Tr i0 i j (by rw[qE];exact h1)
    rw[bM]at bc|-;rw[Yw i0 h1]at hb;obtain⟨b0,h0,rfl⟩:=aau.1 hb;exact rH.d5 i0 i j esz e ⟨_,h0,Pf.RQ⟩ bc
   |none=>
    obtain⟨h1,h2⟩:=pB aD c9;have bM:=Je (.sub id i j) c9;rw[bM]at bc|-;rw[hwo id c9 aD]at hb;have jW:dP m id i j esz e:=⟨_,hb,Pf⟩;obtain⟨cur,hc,q1,q2,q3⟩:=hM.d5 id i j esz e jW bc;refine⟨cur,hc.dB (ei (.sub id i j) ⟨⟨_,_,jW⟩,bc⟩ λ_=>h2),q1,q2,λi2 Yk j2 d eY lG=>?_⟩
    obtain⟨u,hu,cu⟩:=q3 i2 Yk j2 d eY lG;exact⟨u,hu,cu.mono Yx wg⟩
  .rcases hx.S' b hb with h|h|⟨k0,Hs,he⟩
   .exact .inl ((Yu b).1 h)
   .exact .inr (.inl h)
   .exact .inr (.inr ⟨_,Pe k0 Hs,he⟩)
  .rcases fU k hk with⟨k1,_,_,kg,bM⟩|⟨_,h1,h2,kg,bM⟩
   .rw[bM];rcases hx.aP k1 kg with h|⟨k0,Hs,e0⟩
    .exact .inl h
    .exact .inr ⟨_,Pe k0 Hs,e0⟩
   .rw[bM];exact .inr ⟨k,kg,rfl⟩
end
section
variable {P:Program}
theorem View.aK{n0:Nat}{e:List CV}{m:Mem}(t esz n:Nat)(hn:m.length=n)(he:kp e t= .rv (.one .aK))(h0:Nat.ble n0 n=true):
  View n0 ⟨e,m⟩ ⟨aW e t (.rv (.one (.row n esz 0 none))),gn m [.row esz []]⟩:=by
 subst hn;have h0:=aah h0;rw[aY,b7];refine⟨by simp;omega,aC,λρ w hM=>?_⟩
 have hn:ρ.n=m.length:=hM.n;let U':bG:={n:=m.length+1,aH:=λk=>if k.id=m.length then⟨0,0,0,0⟩else ρ.aH k,S:=ρ.S}
 have bM:∀k:gd,k.id<ρ.n->U'.aH k=ρ.aH k:=λk hk=>by simp only[U'];rw[if_neg om]
 have g:iA ρ w U' w:=⟨by show ρ.n<=m.length+1;omega,bM,λ_ h=>h,λ_ _=>rfl⟩
 have bX:∀k,Live U' (m++ [.row esz []]) k->Live ρ m k:=by
  intro k hk;have aD:=hk.eK;simp at aD;cases k with
  |aj id=>
   obtain⟨bk,hb,lH,bc⟩:=hk;simp only[gd.id]at aD;rcases aaf id m.length with h|h
   .rw[YN h]at hb;rw[bM (.aj id) (by simp only[gd.id];omega)]at bc
    exact⟨bk,hb,lH,bc⟩
   .have:id=m.length:=om;subst this;simp at hb;subst hb;have:=bc ⟨_,_,rfl⟩;simp[U',gd.id]at this
  |sub id i j=>
   obtain⟨⟨s,el,b2,hb,ho⟩,bc⟩:=hk;simp only[gd.id]at aD;rcases aaf id m.length with h|h
   .rw[YN h]at hb;rw[bM (.sub id i j) (by simp only[gd.id];omega)]at bc
    exact⟨⟨s,el,b2,hb,ho⟩,bc⟩
   .have:id=m.length:=om;subst this;simp at hb;subst hb;obtain⟨cs,hi,hj⟩:=ho.yi;simp at hi
 have jN:∀k,Live ρ m k->U'.aH k=ρ.aH k:=λk hk=>bM k (by rw[hn];exact hk.eK)
 refine⟨U',⟨by simp[U'],hM.S,λk hk=>?_,λk k' hk fS nI=>?_,λid b hb=>?_,λid i j s el ho bc=>?_⟩,⟨λid hid=>bM (.aj id) (by simp only[gd.id];omega),λ_ h=>h,λ_ h=>.inl h,λk hk=>⟨k,bX k hk,(by rw[jN k (bX k hk)])⟩⟩,λi c' hi=>?_⟩
 .rw[jN k (bX k hk)];exact hM.aP k (bX k hk)
 .rw[jN k (bX k hk),jN k' (bX k' fS)]at nI;exact hM.inj k k' (bX k hk) (bX k' fS) nI
 .rcases aaf id m.length with h|h
  .rw[YN h]at hb;exact(hM.bk id b hb).ce g om λ_ _=>rfl
  .have aD:=(JJ.1 hb).1;simp at aD;have:id=m.length:=om;subst this;simp at hb;subst hb;simp[cI,U',gd.id]
 .have hk:Live ρ m (.sub id i j):=bX (.sub id i j) ⟨⟨_,_,ho⟩,bc⟩;have hid:=hk.eK;simp only[gd.id]at hid;rw[jN _ hk]at bc|-;obtain⟨b2,hb,ho⟩:=ho;rw[YN hid]at hb;obtain⟨cur,hc,q1,q2,q3⟩:=hM.d5 id i j s el ⟨b2,hb,ho⟩ bc;exact⟨cur,hc,q1,q2,q3⟩
 .simp only at hi;have aD:=(JJ.1 hi).1;simp at aD;rw[aaS]at hi;split at hi
  .rename_i Mw;subst Mw;rw[if_pos aD]at hi;cases hi;refine⟨.rv (.one .aK),?_,λv hd=>?_⟩
   .rw[lS,vl aD]at he;rw[vl aD];simpa using he
   .obtain⟨a,rfl⟩:=hd;simp[bZ,df,bi,U',gd.id]
  .exact⟨c',hi,λv hd=>bZ.ce g hd⟩
theorem rW{n0:Nat}{b:LC}{K:Ex->St->Prop}{s:St}{α:Type}(J:α->Prop)(f:α->List (Nat×CV))(M:α->Mem)(μ:α->Nat)(a0:α)(h0:J a0)(start:View n0 s ⟨CI s.aX (f a0),M a0⟩)(round:∀a,J a->aw P n0 b (G6 n0 J (λa=>⟨CI s.aX (f a),M a⟩) μ (μ a) K) ⟨CI s.aX (f a),M a⟩):aw P n0 (.loop b) K s:=
 ⟨α,J,λa=>⟨CI s.aX (f a),M a⟩,μ,⟨a0,h0,start⟩,round⟩
theorem zo:∀{cs:List CC}{k:Nat}{c:CC},cs[k]? =some c->ja cs k 1=some [c]
 | [],k,c,h=>by simp at h
 |x::r,0,c,h=>by simp at h;subst h;cases r<;>rfl
 |x::r,k+1,c,h=>by
  show ja r k 1=_;exact zo (by simpa using h)
theorem mi.bI{Y:Nat->Nat}{m:Mem}{Z:Nat->Prop}{id s:Nat}{es:List (List CC)}{ds:List (List Dt)}(h:es=aa ds):mi Y m Z id (.row s es) (.row s (aa ds)):=by subst h;have:=mi.Fa (Y:=Y) (m:=m) (Z:=Z) (id:=id) (.row s (aa ds)) aC;rwa [Bk.js]at this
theorem dD{F:List Nat}{k:Nat}(h:bx F k=false):¬bx F k=true:=by rw[h];simp
theorem mi.eq{Y:Nat->Nat}{m:Mem}{Z:Nat->Prop}{id:Nat}{b b':Bk}(h:b'.bg Y=b)(hd:b'≠.aR):mi Y m Z id b b':=h▸ .Fa b' hd
theorem mi.l5{Y:Nat->Nat}{m:Mem}{Z:Nat->Prop}{id:Nat}{cs:List CC}{ds:List Dt}(h:cs=ds.map .ah):mi Y m Z id (.var cs) (.var (ds.map .ah)):=by subst h;have:=mi.Fa (Y:=Y) (m:=m) (Z:=Z) (id:=id) (.var (ds.map .ah)) aC;simpa[Bk.bg,CC.bg,acZ]using this
theorem ri.hi{Y:Nat->Nat}{m:Mem}{Z:Nat->Prop}{j9 id e lo n esz:Nat}{elems:List (List CC)}(hσ:Y id=j9)(hb:cD m j9=some (.row esz elems))(hn:elems.length=n):
  ri Y m Z (.rv (.one (.row j9 e lo none))) (.rv (.one (.row id e lo (some n)))):=by
 subst hσ;subst hn;exact .rv (.one (.hi id e lo (by rw[<-aT];exact hb)))
theorem aN{p:Prop}{i:Decidable p}{A B:Prop}(ha:p->A)(hb:¬p->B): @Bool.rec (λ_=>Prop) B A (@decide p i):=by
 cases hd: @decide p i
 .exact hb (of_decide_eq_false hd)
 .exact ha (of_decide_eq_true hd)
theorem bs{a b:Int}{A B:Prop}(ha:a=b->A)(hb:a≠b->B): @Bool.rec (λ_=>Prop) B A (a==b):=by
 cases hd:(a==b)
 .exact hb (by simpa using hd)
 .exact ha (by simpa using hd)
theorem bt{a b:Int}{A B:Prop}(ha:a≠b->A)(hb:a=b->B): @Bool.rec (λ_=>Prop) B A (a !=b):=by
 cases hd:(a !=b)
 .exact hb (by simpa using hd)
 .exact ha (by simpa using hd)
theorem ri.fE{Y:Nat->Nat}{m:Mem}{F:List Nat}(id:Nat)(ds:List (List Dt)){esz:Nat}(hz:bx F id=true)(hb:cD m id=some (.row esz (aa ds))):
  ri Y m (λk=>bx F k=true) (.rv (.one (.row id esz 0 none))) (.rv (.one (.ah (.sl esz ds)))):=
 .rv (.one (.fE (dR.eW (Z:=λk=>bx F k=true) hz (by rw[<-aT];exact hb) 0 none)))
def RS(i:Nat):List (Nat×CV)->Option CV
 | []=>none
 |(j,x)::r=>match Nat.beq i j with|true=>some x|false=>RS i r
def kpV(eN:List Nat)(f:List (Nat×CV))(i:Nat)(v:CV):CV:=
 match RS i f with
 |some x=>x
 |none=>match bx eN i with|true=>v|false=>.aF
def WC(eN:List Nat)(f:List (Nat×CV)):Nat->List CV->(List CV->List CV)->List CV
 |_,[],k=>k []
 |i,v::r,k=>fV (kpV eN f i v) λv'=>WC eN f (i+1) r λr'=>k (v'::r')
def UY(eN:List Nat)(e:List CV)(f:List (Nat×CV)):List CV:=WC eN f 0 e λe=>e
theorem ba{n0:Nat}{b:LC}{K:Ex->St->Prop}{s:St}{α:Type}(J:α->Prop)(eN:List Nat)(f:α->List (Nat×CV))(M:α->Mem)(μ:α->Nat)(a0:α)(h0:J a0)(start:View n0 s ⟨UY eN s.aX (f a0),M a0⟩)(round:∀a,J a->aw P n0 b (G6 n0 J (λa=>⟨UY eN s.aX (f a),M a⟩) μ (μ a) K) ⟨UY eN s.aX (f a),M a⟩):aw P n0 (.loop b) K s:=
 ⟨α,J,λa=>⟨UY eN s.aX (f a),M a⟩,μ,⟨a0,h0,start⟩,round⟩
theorem gq{n0:Nat}{b:LC}{K:Ex->St->Prop}{s:St}(eN:List Nat)(f:List (Nat×CV))(M:Mem)(hv:View n0 s ⟨UY eN s.aX f,M⟩)(h:aw P n0 b K ⟨UY eN s.aX f,M⟩):aw P n0 (.cU b) K s:=⟨_,hv,h⟩
end
theorem View.o{n0:Nat}{e e':List CV}{m m':Mem}(n:Nat)(l F:List Nat)(oQ:io (sg l n) m (λk=>bx F k=true) e e')(ic:ew (sg l n) m (λk=>bx F k=true) 0 m')(hn:m.length=n:=by exact rfl)(hl:m'.length=l.length:=by exact rfl)(h0:Nat.ble n0 l.length=true:=by exact rfl)(hi:CN l n0=true:=by exact rfl)(hd:fy l=true:=by exact rfl)(ha:eI n l=true:=by exact rfl):View n0 ⟨e,m⟩ ⟨e',m'⟩:=View.of n l F hn hl h0 hi hd ha oQ ic
theorem View.o1{n0:Nat}{e e':List CV}{m m':Mem}(n:Nat)(l F:List Nat)(ic:ew (sg l n) m (λk=>bx F k=true) 0 m')(hn:m.length=n:=by exact rfl)(hl:m'.length=l.length:=by exact rfl)(h0:Nat.ble n0 l.length=true:=by exact rfl)(hi:CN l n0=true:=by exact rfl)(hd:fy l=true:=by exact rfl)(ha:eI n l=true:=by exact rfl)(oQ:io (sg l n) m (λk=>bx F k=true) e e':=by repeat(first|exact .nil|refine .aF ?_|refine .eq rfl ?_)):View n0 ⟨e,m⟩ ⟨e',m'⟩:=View.of n l F hn hl h0 hi hd ha oQ ic
theorem View.o2{n0:Nat}{e e':List CV}{m m':Mem}(n:Nat)(l F:List Nat)(ic:ew (sg l n) m (λk=>bx F k=true) 0 m')(hn:m.length=n:=by exact rfl)(hl:m'.length=l.length:=by exact rfl)(h0:Nat.ble n0 l.length=true:=by exact rfl)(hi:CN l n0=true:=by exact rfl)(hd:fy l=true:=by exact rfl)(ha:eI n l=true:=by exact rfl)(oQ:io (sg l n) m (λk=>bx F k=true) e e':=by repeat(first|exact .nil|refine .aF ?_|refine .put (.bg (cP om).symm) ?_|refine .eq rfl ?_)):View n0 ⟨e,m⟩ ⟨e',m'⟩:=View.of n l F hn hl h0 hi hd ha oQ ic
theorem ew.pt{Y:Nat->Nat}{m:Mem}{F:List Nat}{k:Nat}{b b':Bk}{r:Mem}(hz:bx F (Y k)=false)(hb:cD m (Y k)=some b)(hv:mi Y m (λk=>bx F k=true) (Y k) b b')(h:ew Y m (λk=>bx F k=true) (k+1) r):ew Y m (λk=>bx F k=true) k (b' ::r):=.put (dD hz) hb hv h
theorem ew.pe{Y:Nat->Nat}{m:Mem}{F:List Nat}{k:Nat}{b b':Bk}{r:Mem}(hz:bx F (Y k)=false)(hb:cD m (Y k)=some b)(hv:b'.bg Y=b)(h:ew Y m (λk=>bx F k=true) (k+1) r)(hd:b'≠.aR:=by simp):ew Y m (λk=>bx F k=true) k (b' ::r):=.put (dD hz) hb (.eq hv hd) h
theorem ew.pm{Y:Nat->Nat}{m:Mem}{F:List Nat}{k:Nat}{b b':Bk}(hz:bx F (Y k)=false)(hb:cD m (Y k)=some b)(hv:b'.bg Y=b)(hd:b'≠.aR:=by simp):ew Y m (λk=>bx F k=true) k [b']:=.put (dD hz) hb (.eq hv hd) (.nil _)
theorem ew.pr{Y:Nat->Nat}{m:Mem}{F:List Nat}{k:Nat}{esz:Nat}{es:List (List CC)}{ds:List (List Dt)}{r:Mem}(hz:bx F (Y k)=false)(hb:cD m (Y k)=some (.row esz es))(he:es=aa ds)(h:ew Y m (λk=>bx F k=true) (k+1) r):ew Y m (λk=>bx F k=true) k (.row esz (aa ds) ::r):=.put (dD hz) hb (.bI he) h
theorem ew.pn{Y:Nat->Nat}{m:Mem}{F:List Nat}{k:Nat}{esz:Nat}{es:List (List CC)}{ds:List (List Dt)}(hz:bx F (Y k)=false)(hb:cD m (Y k)=some (.row esz es))(he:es=aa ds):ew Y m (λk=>bx F k=true) k [.row esz (aa ds)]:=.put (dD hz) hb (.bI he) (.nil _)
theorem ew.au{Y:Nat->Nat}{m:Mem}{F:List Nat}{r:Mem}(h:ew Y m (λk=>bx F k=true) 0 r:=by repeat(first|exact .nil _|refine .pr rfl rfl rfl ?_|refine .pe rfl rfl rfl ?_ (by intro h;cases h))):ew Y m (λk=>bx F k=true) 0 r:=h
theorem aZ{P:Program}{f:Nat}{fn:Func}{lf:LF}{args:List CV}{m:Mem}{K:CV->Mem->Prop}(hf:P.funcs[f]? =some fn)(hl:bw P fn=some lf)(h:body P lf args m K)(hn:(fn.name== "runtime.NumGoroutine")=false:=by exact rfl)(hle:Nat.ble args.length lf.n=true:=by exact rfl):ap P f args m K:=wC hf hl hn (aah hle) h
theorem b8{P:Program}{f:Nat}{fn:Func}{lf:LF}{args:List CV}{m:Mem}{K:CV->Mem->Prop}(hf:P.funcs[f]? =some fn)(hl:bw P fn=some lf.er)(h:body P lf args m K)(hn:(fn.name== "runtime.NumGoroutine")=false:=by exact rfl)(hle:Nat.ble args.length lf.n=true:=by exact rfl):ap P f args m K:=nG hf hl hn (aah hle) h
theorem Dt.Mx(d:Dt):1<=d.size:=by
 cases d with
 |val v=>cases v<;>simp[Dt.size]
 |sl e l=>simp[Dt.size]
theorem Dt.Jf{l:List Dt}(h:l≠[]):1<=Dt.fF l:=by
 cases l with
 |nil=>exact absurd rfl h
 |cons d r=>simp only[Dt.fF];have:=d.Mx;omega
theorem Dt.kZ:∀(l:List (List Dt)),(∀e,e∈l->e≠[])->l.length<=Dt.dH l
 | [],_=>aC
 |e::r,h=>by
  have h1:=Dt.Jf (h e aC);have h2:=Dt.kZ r λx hx=>h x (by simp[hx])
  simp only[Dt.dH,aaj];omega
theorem iD.ne{ls:List Lf}{ds:List Dt}(h:iD ls ds)(hl:ls≠[]):ds≠[]:=by
 cases h<;>simp_all
theorem mV{α:Type}{es:List Lf}(enc:α->List Dt)(p:α->Prop)(dec:∀e,iD es e->∃a,p a/\e=enc a):∀{elems:List (List Dt)},(∀e,e∈elems->iD es e)->∃l:List α,(∀a,a∈l->p a)/\elems=l.map enc
 | [],_=>⟨[],aC,rfl⟩
 |e::r,h=>by
  obtain⟨a,ha,rfl⟩:=dec e (h e aC);obtain⟨l,hl,rfl⟩:=mV enc p dec (elems:=r) λx hx=>h x (by simp[hx])
  exact⟨a::l,by simpa using⟨ha,hl⟩,rfl⟩
section
variable {P:Program}
def CC.ig:CC->Bool
 | .ah (.val _)=>true
 |_=>false
def AR:List CC->Bool
 | []=>true
 |c::r=>c.ig&&AR r
def RV.ig:RV->Bool
 | .one c=>c.ig
 | .agg cs=>AR cs
def vC:List RV->Bool
 | []=>true
 |c::r=>c.ig&&vC r
def CV.ig:CV->Bool
 | .rv r=>r.ig
 | .bz rs=>vC rs
 |_=>false
theorem wJ:∀{l:List CC},AR l=true->∀c,c∈l->c.ig=true
 | [],_,c,h=>by simp at h
 |x::r,h,c,hc=>by
  simp only[AR,aac]at h;rcases aaB.1 hc with rfl|hc
  .exact h.1
  .exact wJ h.2 c hc
theorem uT:∀{l:List RV},vC l=true->∀c,c∈l->c.ig=true
 | [],_,c,h=>by simp at h
 |x::r,h,c,hc=>by
  simp only[vC,aac]at h;rcases aaB.1 hc with rfl|hc
  .exact h.1
  .exact uT h.2 c hc
theorem CC.ju{ρ U':bG}{w:World}{c:CC}{v:Value}(h:c.ig=true)(hd:bi ρ w .none c v):bi U' w .none c v:=by
 cases c with
 |ah d=>
  cases d with
  |val x=>
   cases hd with
   |val v hp=>exact .val _ hp
   |no a=>exact .no a
  |sl=>simp[CC.ig]at h
 |_=>simp[CC.ig]at h
theorem RV.ju{ρ U':bG}{w:World}{c:RV}{v:Value}(h:c.ig=true)(hd:df ρ w c v):df U' w c v:=by
 cases c with
 |one c=>exact CC.ju h hd
 |agg cs=>
  obtain⟨vs,rfl,h1,h2⟩:=hd;exact⟨vs,rfl,h1,λi c hi=>let⟨u,hu,hd⟩:=h2 i c hi;⟨u,hu,CC.ju (wJ h c (Sj hi)) hd⟩⟩
theorem CV.ju{ρ U':bG}{w:World}{c:CV}{v:Value}(h:c.ig=true)(hd:bZ ρ w c v):bZ U' w c v:=by
 cases c with
 |rv r=>exact RV.ju h hd
 |bz rs=>
  obtain⟨vs,rfl,h1,h2⟩:=hd;exact⟨vs,rfl,h1,λi c hi=>let⟨u,hu,hd⟩:=h2 i c hi;⟨u,hu,RV.ju (uT h c (Sj hi)) hd⟩⟩
 |_=>simp[CV.ig]at h
theorem My{f:Nat}{args args0:List CV}{m:Mem}{K0 K:CV->Mem->Prop}(F:List Nat)(h:ap P f args0 [] K0)(eO:io (sg [] m.length) m (λk=>bx F k=true) args args0)(hK:∀r m1,K0 r m1->r.ig=true/\K r m):ap P f args m K:=by
 refine⟨h.1,λρ w vs hM yr Z9=>?_⟩
 have gg:∀i,sg [] m.length i<m.length->i<0:=λi h=>by simp[sg,cD]at h;omega
 obtain⟨lY,hC0,_⟩:=vB (n0:=0) (Y:=sg [] m.length) (Z:=λk=>bx F k=true) (m':=[]) hM (λi h=>absurd h (aaR i)) (λi j h _ _ _ _=>absurd h (aaR i)) gg (λi b' h=>by simp at h)
 refine(h.2 _ w vs lY (yr.trans eO.len.symm) λi c hi=>?_).mono λe w'⟨v,r,m1,ρ1,he,hk,rH,u6,hx⟩=>?_
 .obtain⟨c0,LJ,hv⟩:=eO.get i c hi;obtain⟨v,vd,hd⟩:=Z9 i c0 LJ;exact⟨v,vd,hv.jD hM gg hd⟩
 .obtain⟨hp,K2⟩:=hK r m1 hk;have jY:∀k,¬Live (ρ.vw (sg [] m.length) (λk=>bx F k=true) m 0) [] k:=λk h=>by have:=h.eK;simp at this
  have P0:eG w w':=⟨λb hb=>hx.frame b hb λk hk=>absurd hk (jY k),hx.size,hx.os,hx.tape,hx.output⟩
  obtain⟨h1,h2⟩:=hM.Ms P0;exact⟨v,r,m,ρ,he,K2,h1,CV.ju hp u6,h2⟩
end
section
variable {P:Program}
theorem CC.rX{Y:Nat->Nat}{c:CC}(h:c.dv=true):c.bg Y=c:=by
 cases c
 case fn f eD=>
  cases eD with
  |nil=>rfl
  |cons c r=>simp[CC.dv]at h
 all_goals first|rfl|simp[CC.dv]at h
theorem RV.rX{Y:Nat->Nat}{r:RV}(h:r.dv=true):r.bg Y=r:=by
 cases r with
 |one c=>exact congrArg RV.one (CC.rX h)
 |agg cs=>
  refine congrArg RV.agg ?_
  conv=>rhs;rw[<-List.map_id cs]
  exact acE λc hc=>CC.rX (abA.1 h c hc)
theorem CV.CO{Y:Nat->Nat}{v:CV}(h:v.CK=true):v.bg Y=v:=by
 cases v with
 |rv r=>exact congrArg CV.rv (RV.rX h)
 |bz rs=>
  refine congrArg CV.bz ?_
  conv=>rhs;rw[<-List.map_id rs]
  exact acE λc hc=>RV.rX (abA.1 h c hc)
 |_=>rfl
theorem Bk.Mz{Y:Nat->Nat}(ds:List Dt):(Bk.var (ds.map .ah)).bg Y= .var (ds.map .ah):=by simp[Bk.bg,CC.bg,acZ]
theorem Fd{m:Mem}{id:Nat}{b:Bk}(h:cD m id=some b):cW m [id] [b]=m:=by
 rw[aT]at h;simp only[cW,b7,ab3,aY];exact abN λi=>by
  rw[aaS];split
  .rename_i hi;subst hi;have:=(JJ.1 h).1;rw[if_pos this,h]
  .rfl
theorem fo{f:Nat}{args args0:List CV}{m:Mem}{cs:List Dt}{r0:CV}{K:CV->Mem->Prop}(id:Nat)(hb:cD m id=some (.var (cs.map .ah)))(eO:args=args0.map (CV.bg (sg [id] m.length)))(hr:r0.CK=true)(h:∀K:CV->Mem->Prop,K r0 [.var (cs.map .ah)]->ap P f args0 [.var (cs.map .ah)] K)(hK:K r0 m):ap P f args m K:=by
 have hid:id<m.length:=by rw[aT]at hb;exact(JJ.1 hb).1
 refine bu (K0:=λr m1=>r=r0/\m1=[.var (cs.map .ah)]) [id] m.length rfl rfl rfl ?_ eO (λi b' hi=>?_) (h _ ⟨rfl,rfl⟩) (λr m1 rS=>?_)
 .simp[eI,hid]
 .cases i with
  |zero=>
   simp at hi;subst hi;refine .inr ⟨λh=>h,.var (cs.map .ah),?_,.l5 rfl⟩
   rw[aT]at hb;exact hb
  |succ i=>simp at hi
 .obtain⟨rfl,rfl⟩:=rS;refine⟨T5 _,?_⟩;rw[CV.CO hr];have:cW m [id] (mU (sg [id] m.length) [.var (cs.map .ah)])=m:=by show cW m [id] [Bk.bg _ _]=m;rw[Bk.Mz];exact Fd hb
  rw[this];exact hK
theorem eQ{f:Nat}{args:List CV}{cs:List Dt}{r0:CV}{K:CV->Mem->Prop}(hr:r0.CK=true)(h:ap P f args [.var (cs.map .ah)] λr m=>r=r0/\∃ex,m= .var (cs.map .ah)::ex)(hK:K r0 [.var (cs.map .ah)]):ap P f args [.var (cs.map .ah)] K:=by
 refine bH h λr m1⟨h1,ex,h2⟩=>⟨r0,[.var (cs.map .ah)],?_,hK⟩
 subst h1;subst h2;refine View.of (ex.length+1) [0] [] aC rfl rfl rfl rfl (by simp[eI]) ?_ ?_
 .exact .eq (CV.CO hr) .nil
 .exact .put (by simp[bx]) rfl (.l5 rfl) (.nil _)
theorem mi.Jg{Y:Nat->Nat}{m:Mem}{Z:Nat->Prop}{id s:Nat}{R R':List (List CC)}{x y:List CC}(hR:R'.map (λcs=>cs.map (CC.bg Y))=R)(hx:x.length=y.length)(I6:∀(j:Nat)c c',x[j]? =some c->y[j]? =some c'->s9 Y m Z (some id) c c'):mi Y m Z id (.row s (R++ [x])) (.row s (R'++ [y])):=by
 subst hR;refine .row s aC (λi cs e7 h1 h2=>?_) (λi cs e7 j c c' h1 h2 h3 h4=>?_)
 .rcases aaf i R'.length with h|h
  .rw[YN (by simpa using h),Sf]at h1
   rw[YN h]at h2;rw[h2]at h1;cases h1;simp
  .rw[Xi (by simpa using h),Nr]at h1
   rw[Xi h]at h2;cases hi:i-R'.length with
   |zero=>
    rw[hi]at h1 h2;cases h1;cases h2;exact hx
   |succ n=>rw[hi]at h1;simp at h1
 .rcases aaf i R'.length with h|h
  .rw[YN (by simpa using h),Sf]at h1
   rw[YN h]at h2;rw[h2]at h1;cases h1;rw[Sf,h4]at h3;cases h3;exact .bg c'
  .rw[Xi (by simpa using h),Nr]at h1
   rw[Xi h]at h2;cases hi:i-R'.length with
   |zero=>
    rw[hi]at h1 h2;cases h1;cases h2;exact I6 j c c' h3 h4
   |succ n=>rw[hi]at h1;simp at h1
theorem ew.fW{Y:Nat->Nat}{m:Mem}{Z:Nat->Prop}{k:Nat}{b:Bk}{r:Mem}(hz:¬Z (Y k))(hb:cD m (Y k)=some b)(hr:b.bg Y=b)(h:ew Y m Z (k+1) r):ew Y m Z k (b::r):=by
 cases b with
 |aR=>exact .aR h
 |_=>exact .put hz hb (.eq hr aC) h
inductive CP:CC->CC->Prop
 |dB (c:CC):CP c c
 |aK (s:Nat):CP .aK (.ah (.sl s []))
 |no:CP .aK (.ah (.val (.slice none 0 0)))
theorem CP.jD{c c':CC}(h:CP c c'){ρ:bG}{w:World}{v:Value}(hd:bi ρ w none c v):bi ρ w none c' v:=by
 cases h with
 |dB=>exact hd
 |aK s=>
  obtain⟨a,rfl⟩:=hd;exact .nil s a 0 (aan _)
 |no=>
  obtain⟨a,rfl⟩:=hd;exact .no a
inductive CR:List CC->List CC->Prop
 |nil:CR [] []
 |cons {c c':CC} {r r':List CC} (h:CP c c') (t:CR r r'):CR (c::r) (c'::r')
theorem CR.len{a b:List CC}(h:CR a b):a.length=b.length:=by
 induction h<;>simp[*]
theorem CR.get{a b:List CC}(h:CR a b):∀(i:Nat)c',b[i]? =some c'->∃c,a[i]? =some c/\CP c c':=by
 induction h with
 |nil=>intro i c' h;simp at h
 |cons h t ih=>
  intro i c' hi;cases i with
  |zero=>simp at hi;subst hi;exact⟨_,rfl,h⟩
  |succ i=>simpa using ih i c' (by simpa using hi)
inductive k6:List CV->List CV->Prop
 |nil:k6 [] []
 |dB (c:CV) {r r':List CV} (t:k6 r r'):k6 (c::r) (c::r')
 |one {c c':CC} {r r':List CV} (h:CP c c') (t:k6 r r'):k6 (.rv (.one c)::r) (.rv (.one c')::r')
 |agg {cs e7:List CC} {r r':List CV} (h:CR cs e7) (t:k6 r r'):k6 (.rv (.agg cs)::r) (.rv (.agg e7)::r')
theorem k6.len{a b:List CV}(h:k6 a b):a.length=b.length:=by
 induction h<;>simp[*]
theorem k6.get{a b:List CV}(h:k6 a b):∀(i:Nat)c',b[i]? =some c'->∃c,a[i]? =some c/\∀ρ w v,bZ ρ w c v->bZ ρ w c' v:=by
 induction h with
 |nil=>intro i c' h;simp at h
 |dB c t ih=>
  intro i c' hi;cases i with
  |zero=>simp at hi;subst hi;exact⟨_,rfl,λ_ _ _ h=>h⟩
  |succ i=>simpa using ih i c' (by simpa using hi)
 |one h t ih=>
  intro i c' hi;cases i with
  |zero=>simp at hi;subst hi;exact⟨_,rfl,λ_ _ _ hd=>h.jD hd⟩
  |succ i=>simpa using ih i c' (by simpa using hi)
 |agg h t ih=>
  intro i c' hi;cases i with
  |zero=>
   simp at hi;subst hi;refine⟨_,rfl,λρ w v hd=>?_⟩
   obtain⟨vs,hv,hl,hc⟩:=hd;exact⟨vs,hv,hl.trans h.len,λi c' hi=>let⟨c,rA,hle⟩:=h.get i c' hi;let⟨u,hu,cu⟩:=hc i c rA;⟨u,hu,hle.jD cu⟩⟩
  |succ i=>simpa using ih i c' (by simpa using hi)
theorem mW{f:Nat}{args p4:List CV}{m:Mem}{K:CV->Mem->Prop}(ha:k6 args p4)(h:ap P f p4 m K):ap P f args m K:=by
 refine⟨h.1,λρ w vs hM hl hd=>h.2 ρ w vs hM (hl.trans ha.len) λi c' hi=>?_⟩
 obtain⟨c,hc,L9⟩:=ha.get i c' hi;obtain⟨v,hv,pL⟩:=hd i c hc;exact⟨v,hv,L9 _ _ _ pL⟩
theorem pC{f:Nat}{args p4:List CV}{m m':Mem}{K:CV->Mem->Prop}(hv:View m.length ⟨args,m⟩ ⟨p4,m'⟩)(h:ap P f p4 m' K):ap P f args m K:=by
 refine⟨h.1,λρ w vs hM hl hd=>?_⟩
 obtain⟨U',i4,hc,pL⟩:=hv.go ρ w hM;have hlen:p4.length=args.length:=hv.len;refine(h.2 U' w vs i4 (hl.trans hlen.symm) λi c' hi=>?_).mono λe w'⟨v,r,m1,ρ1,he,hk,rH,u6,hx⟩=>?_
 .obtain⟨c,LJ,yp⟩:=pL i c' hi;obtain⟨v,hv,cg⟩:=hd i c LJ;exact⟨v,hv,yp v cg⟩
 .have VR:Ext ρ m w U' m' w:=⟨by rw[hM.n,i4.n];exact hv.hn,λid hid=>hc.aH id (by rw[<-hM.n];exact hid),hc.S,λb hb=>(hc.S' b hb).elim .inl λh=>.inr (.inr h),λk hk=>.inr (hc.aP k hk),λ_ _ _=>rfl,T5 _,rfl,rfl,rfl⟩
  exact⟨v,r,m1,ρ1,he,hk,rH,u6,VR.trans hx⟩
end
end Go.AM
