/- Part 11 of 23. -/
import Derived.Test.YtllkfpggoigbaaaGreatDoorW09
import Derived.Test.YtllkfpggoigbaaaGreatDoorW10
import Derived.Carry
import Derived.ProofKit
set_option linter.unusedVariables false
set_option linter.unusedSimpArgs false
set_option maxRecDepth 100000
set_option maxHeartbeats 0
namespace Go.AM
open Go.ChangeShapes Go.WideShapes Go.ChangeAt Go.RowKit
section
variable {H:Type} {enc:TypeId×Value->H} {P:Program} {W:World}
theorem Xg{aB:Nat}{t:TypeId}{v:Value}{agg:Bool}(ha:fl P t=some agg){d:Nat}{ls:List Lf}(hl:qD P d t=some ls)(k7:Value.okWide P W .any aB t v):
  (agg=true->∃vs,v= .agg vs)/\(agg=false->v.oneCell'=true):=by
 cases d with
 |zero=>simp[qD]at hl
 |succ d=>
  simp only[qD]at hl;unfold fl at ha;unfold Value.okWide at k7;split at hl
  .rename_i ht;rw[ht]at ha k7;simp at ha;subst ha;refine⟨aG,λ_=>?_⟩
   simp only[Cell.okWide,ht,Cell.ok]at k7;cases v<;>simp_all[Value.oneCell']
  .rename_i k ht;rw[ht]at ha k7;simp at ha;subst ha;refine⟨aG,λ_=>?_⟩
   simp only[Cell.okWide,ht,Cell.ok]at k7;cases v<;>simp_all[Value.oneCell']
  .rename_i ht;rw[ht]at ha k7;simp at ha;subst ha;refine⟨aG,λ_=>?_⟩
   simp only[Cell.okWide,ht,Cell.ok]at k7;cases v<;>simp_all[Value.oneCell']
  .rename_i e ht;rw[ht]at ha k7;simp at ha;subst ha;refine⟨aG,λ_=>?_⟩
   simp only[Cell.okWide,ht,Cell.ok]at k7;cases v<;>simp_all[Value.oneCell']
  .rename_i fs ht;rw[ht]at ha k7;simp at ha;subst ha;obtain⟨cs,rfl,_⟩:=k7;exact⟨λ_=>⟨cs,rfl⟩,aG⟩
  .rename_i n e ht;rw[ht]at ha k7;simp at ha;subst ha;obtain⟨cs,rfl,_⟩:=k7;exact⟨λ_=>⟨cs,rfl⟩,aG⟩
  .cases hl
structure Sh where
 agg:Bool
 ls:List Lf
def LL(P:Program):List TypeId->Option (List Sh)
 | []=>some []
 |t::r=>match fl P t,qD P 12 t,LL P r with
  |some a,some ls,some r=>some (⟨a,ls⟩::r)
  |_,_,_=>none
inductive Bf:List Sh->List (List Dt)->Prop
 |nil:Bf [] []
 |cons {s:Sh} {ds:List Dt} {r:List Sh} {l:List (List Dt)} (h:ke s.ls ds) (hr:Bf r l):Bf (s::r) (ds::l)
def tK:List Sh->List (List Dt)->List CV
 |s::r,ds::l=>aaQ s.agg ds::tK r l
 |_,_=>[]
theorem Bg(bk:S3 H){aB b2:Nat}:∀(ts:List TypeId)(vs:List Value)(dw:List (DataW H))(ps:List MemPlace)(O0:List Sh),LL P ts=some O0->DataW.TrodAll enc P W aB (λ_=>true) true ts vs dw ps->
  (∀(j:Nat)t v,ts[j]? =some t->vs[j]? =some v->Value.okWide P W .any b2 t v)->
  ∃sG,Bf O0 sG/\vs.length=(tK O0 sG).length/\(∀(i:Nat)c,(tK O0 sG)[i]? =some c->∃v,vs[i]? =some v/\cG (LI W) W c v)/\Dt.ep sG<=m7 bk.f dw
 | [],[],[],ps,O0,hs,h,k7=>by
  simp[LL]at hs;subst hs;exact⟨[],.nil,rfl,by simp[tK],by simp[Dt.ep]⟩
 | [],_::_,_,_,_,_,h,_=>by cases h
 | [],[],_::_,_,_,_,h,_=>by cases h
 |_::_,[],_,_,_,_,h,_=>by cases h
 |_::_,_::_,[],_,_,_,h,_=>by cases h
 |t::ts,v::vs,d::dw,ps,O0,hs,h,k7=>by
  obtain⟨p,q,⟨fuel,h1⟩,h2,_⟩:=h;simp only[LL]at hs;split at hs
  .rename_i a ls r ha hl hr;cases hs;obtain⟨ds,f1,r1,s1⟩:=G7 bk 12 t ls hl fuel _ _ h1;obtain⟨sG,f2,l2,d2,s2⟩:=Bg bk ts vs dw q r hr h2 λj t' v' ht hv=>k7 (j+1) t' v' (by simpa using ht) (by simpa using hv)
   obtain⟨g1,g2⟩:=Xg ha hl (k7 0 t v rfl rfl);refine⟨ds::sG,.cons f1 f2,by simp[tK,l2],λi c hi=>?_,by simp only[Dt.ep,m7];simp only at s1;omega⟩
   cases i with
   |zero=>
    simp[tK]at hi;subst hi;exact⟨v,rfl,OZ r1 g1 g2⟩
   |succ i=>simpa using d2 i c (by simpa[tK]using hi)
  .cases hs
theorem Bh(hl:laidOutB P=true){W':World}(hb:Below W.heap.size W W'):∀(ts:List TypeId)(vs:List Value)(dw:List (DataW H))(ps:List MemPlace),(ts.all λt=>P.readableRec t&&decide (t<P.types.size))=true->
  DataW.TrodAll enc P W 0 (λ_=>true) true ts vs dw ps->(∀x,x∈ps->x.block<W.heap.size)->DataW.TrodAll enc P W' 0 (λb=>decide (b<W.heap.size)) true ts vs dw ps
 | [],[],[],_,_,h,_=>h
 | [],_::_,_,_,_,h,_=>by cases h
 | [],[],_::_,_,_,h,_=>by cases h
 |_::_,[],_,_,_,h,_=>by cases h
 |_::_,_::_,[],_,_,h,_=>by cases h
 |t::ts,v::vs,d::dw,ps,ht,h,ay=>by obtain⟨p,q,h1,h2,rfl⟩:=h;simp only[List.all_cons,aaJ,decide_eq_true_eq]at ht;exact⟨p,q,Below.trod hl ht.1.1 ht.1.2 h1 hb (λx hx=>ay x (by simp[hx])),Bh hl hb ts vs dw q (by simpa using ht.2) h2 (λx hx=>ay x (by simp[hx])),rfl⟩
theorem Cz{f:Nat}{fn:Func}{s:ChangeSpec}{args:Array Value}{ds gs:List (DataW H)}{before:List MemPlace}{aB:Nat}(bk:S3 H)(hl:laidOutB P=true){tb:TypeId}(htb:P.underlying tb=some .bool)(afj:fn.resultTypes= #[tb])(VJ:s.vars=[])(aaR:∀ds:List (DataW H),ds.length=fn.params.size->s.fn H ds={results:=[.lit (.bool true)],args:=ds}){O0:List Sh}(hsh:LL P fn.params.toList=some O0)(hts:(fn.params.toList.all λt=>P.readableRec t&&decide (t<P.types.size))=true)(walk:∀sG,Bf O0 sG->Dt.ep sG<=m7 bk.f ds->aq P f (tK O0 sG) [] λr _=>r=ar true)(lj:∀(j:Nat)t v,fn.params[j]? =some t->args[j]? =some v->Value.okWide P W .any aB t v)(hW:DataW.Whole enc P fn.params.toList s.vars false W args.toList ds gs before):
  Calls P f args W λe W'=>∃v,e= .returned v/\s.post enc P fn false true false false W args v W':=by
 have hW':=hW;obtain⟨p,q,hA,hV,rfl,hfz,s9⟩:=hW;obtain⟨sG,hf,hlen,cL,eu⟩:=Bg bk fn.params.toList args.toList ds p O0 hsh hA λj t v ht hv=>lj j t v (by simpa using ht) (by simpa using hv)
 have Co:=qB (u:= .bool true) (walk sG hf eu) W args.toList hlen cL aG (λr m h=>h)
 have ay:∀x,x∈p->x.block<W.heap.size:=λx hx=>by simpa using hW'.lt x (by simp[hx])
 rw[VJ]at hV;obtain⟨rfl,rfl⟩:=trodVars_none hV;have lF:ds.length=fn.params.size:=by
  have:∀(ts:List TypeId)(vs:List Value)(dw:List (DataW H))(ps:List MemPlace),DataW.TrodAll enc P W 0 (λ_=>true) true ts vs dw ps->dw.length=ts.length:=by
   intro ts
   induction ts with
   |nil=>intro vs dw ps h;obtain⟨_,rfl,_⟩:=trodAll_nil h;rfl
   |cons t ts ih=>
    intro vs dw ps h;obtain⟨v,Zm,d,ds1,a,b,rfl,rfl,rfl,h1,h2⟩:=trodAll_cons h;simp[ih _ _ _ h2]
  simpa using this _ _ _ _ hA
 refine Co.mono λe W'⟨he,hb⟩=>?_
 subst he;have hs:s.fn H (ds++ [])={results:=[.lit (.bool true)],args:=ds}:=by rw[adn];exact aaR ds lF
 refine⟨_,rfl,ds,[],p++ [],[],p,[],hW',?_,?_,?_,hb.frame _,λh=>by cases h⟩
 .rw[hs,afj];exact trodAll_cons_mk (shut_bool htb _) trodAll_mk0
 .rw[hs];exact Bh hl hb _ _ _ _ hts hA ay
 .rw[hs,VJ];rfl
end
end Go.AM
namespace Go.AM
section
variable {P:Program}
theorem aN.JF{ρ:b9}{m:Mem}{w w':World}(hM:aN ρ m w)(hw:fu w w'):aN ρ m w'/\Ext ρ m w ρ m w':=by
 have hn:=hM.n;have g:j7 ρ w ρ w':=⟨aah _,λ_ _=>rfl,λ_ h=>h,λb hb=>hw.heap b (hM.S b hb)⟩
 refine⟨⟨hn,λb hb=>abV (hM.S b hb) hw.size,λk hk=>⟨abV (hM.aF k hk).1 hw.size,(hM.aF k hk).2⟩,hM.inj,λid b hb=>?_,λid i j esz e ho bF=>?_⟩,
  ⟨aah _,λ_ _=>rfl,λ_ h=>h,λ_ h=>.inl h,λk hk=>.inr ⟨k,hk,rfl⟩,λb hb _=>hw.heap b hb,hw.size,hw.os,hw.tape,hw.output⟩⟩
 .exact(hM.bk id b hb).dg g (by rw[hn];exact(Mp.1 hb).1) λgj bF=>hw.heap _ (hM.aF (.aA id) ⟨b,hb,gj,bF⟩).1
 .exact(hM.jj id i j esz e ho bF).dg g (hw.heap _ (hM.aF (.sub id i j) ⟨⟨esz,e,ho⟩,bF⟩).1)
theorem LM{f:Nat}{args:List CV}{m:Mem}{K0 K:CV->Mem->Prop}(h:aq P f args [] K0)(ha:∀c,c∈args->c.cY=true)(hK:∀r m1,K0 r m1->(r= .rv (.one .bv)/\K (.rv (.one .bv)) m)\/
   ∃id esz elems,r= .rv (.one (.row id esz 0 none))/\m1[id]? =some (.row esz elems)/\(∀cs,cs∈elems->∀c,c∈cs->∃d,c= .ai d)/\
    (∀(i:Nat)cs(j:Nat)d,elems[i]? =some cs->cs[j]? =some (.ai d)->∃v,d= .val v)/\
    K (.rv (.one (.row m.length esz 0 none))) (m++ [.row esz elems])):aq P f args m K:=by
 refine⟨h.1,λρ w vs hM hl hd=>?_⟩
 let ρ0:b9:={n:=0,aW:=λ_=>⟨0,0,0,0⟩,S:=ρ.S}
 have m5:aN ρ0 [] w:={
  n:=rfl
  S:=hM.S
  aF:=λk h=>by have:=h.it;simp at this
  inj:=λk k' h=>by have:=h.it;simp at this
  bk:=λid b h=>by simp at h
  jj:=λid i j esz elems h=>by obtain⟨_,_,_,h,_⟩:=h;simp at h}
 refine(h.2 ρ0 w vs m5 hl λi c hi=>?_).mono λe w'⟨v,r,m1,ρ1,he,hk,yy,xA,hx⟩=>?_
 .obtain⟨v,hv,hd⟩:=hd i c hi;exact⟨v,hv,CV.tJ (ρ:=ρ) (U':=ρ0) (ha c (Wm hi)) (λ_ h=>h) hd⟩
 .have lQ:∀k,¬Live ρ0 [] k:=λk h=>by have:=h.it;simp at this
  have uM:∀b,b<w.heap.size->w'.heap[b]? =w.heap[b]? :=λb hb=>hx.frame b hb λk hk=>absurd hk (lQ k)
  have LN:fu w w':=by
   refine⟨?_,?_,?_,?_,?_⟩;all_goals first|exact hx.size|exact uM|exact hx.os|exact hx.tape|exact hx.output
  rcases hK r m1 hk with⟨rfl,jd⟩|⟨id,esz,elems,rfl,hb,S4,lj,jd⟩
  .obtain⟨ad,rfl⟩:=xA;obtain⟨El,qF⟩:=hM.JF LN;exact⟨_,_,m,ρ,he,jd,El,⟨ad,rfl⟩,qF⟩
  .obtain⟨g1,g2,g3,g4,g5⟩:=yy.bk id _ hb;obtain⟨q1,q2,q3,q4,q5,ad,rfl,u0⟩:=xA;have hn:=hM.n;let l:=ρ1.aW (.aA id);have gV:ft (ρ.push l) w' m.length (.row esz elems):=by
    have da:(ρ.push l).aW (.aA m.length)=l:=by rw[<-hn];exact ρ.lg l
    simp only[ft,da];refine⟨g1,g2,g3,g4,λhp=>?_⟩
    obtain⟨cur,cC,h7,h8⟩:=g5 hp;refine⟨cur,cC,h7,λi cs j c hi hj=>?_⟩
    obtain⟨u,hu,cP⟩:=h8 i cs j c hi hj;obtain⟨d,rfl⟩:=S4 cs (Wm hi) c (Wm hj);obtain⟨v,rfl⟩:=lj i cs j d hi hj;refine⟨u,hu,?_⟩;cases cP with
    |val _ fb=>exact dG.val _ fb
    |no a=>exact .no a
   have O1:Bk.Oj (.row esz elems):=by intro i cs j c hi hj s e hce;obtain⟨d,hd⟩:=S4 cs (Wm hi) c (Wm hj);rw[hd]at hce;cases hce
   obtain⟨El,qF⟩:=hM.Vp LN (λbR=>by
    obtain⟨bk,lY,gj,bF⟩:=bR;have aaT:0<l.cap:=by rw[hn,aaO (aah _)]at lY;simp at lY;have:=bF ⟨esz,elems,lY.symm⟩;rwa [ρ.lg l]at this
    have aaU:Live ρ1 m1 (.aA id):=⟨_,hb,aG,λ_=>aaT⟩
    refine⟨?_,(yy.aF _ aaU).1⟩;rcases hx.aF _ aaU with h|⟨k0,h0,_⟩
    .exact h
    .exact absurd h0 (lQ k0)) gV O1
   refine⟨_,_,_,_,he,jd,El,?_,qF⟩;have da:(ρ.push l).aW (.aA m.length)=l:=by rw[<-hn];exact ρ.lg l
   refine⟨by simp[b9.push,hn],?_⟩
   simp only[da];exact⟨q2,q3,q4,q5,ad,rfl,u0⟩
end
theorem WL.trans{n0:Nat}{ρ ρ1 ρ2:b9}{m m1 m2:Mem}(a:WL n0 ρ m ρ1 m1)(b:WL n0 ρ1 m1 ρ2 m2):WL n0 ρ m ρ2 m2 where
 aW id h:=(b.aW id h).trans (a.aW id h)
 S x h:=b.S x (a.S x h)
 S' x h:=by
  rcases b.S' x h with h|⟨k,hk,he⟩
  .exact a.S' x h
  .obtain⟨k0,h0,e0⟩:=a.aF k hk;exact .inr ⟨k0,h0,e0.trans he⟩
 aF k h:=by obtain⟨k1,h1,e1⟩:=b.aF k h;obtain⟨k0,h0,e0⟩:=a.aF k1 h1;exact⟨k0,h0,e0.trans e1⟩
theorem View.trans{n0:Nat}{s s1 s2:St}(a:View n0 s s1)(b:View n0 s1 s2):View n0 s s2:=by
 refine⟨b.hn,b.len.trans a.len,λρ w hM=>?_⟩
 obtain⟨ρ1,yy,GA,xA⟩:=a.go ρ w hM;obtain⟨ρ2,El,yf,Gb⟩:=b.go ρ1 w yy;refine⟨ρ2,El,GA.trans yf,λi c' hi=>?_⟩
 obtain⟨c1,Vr,h1⟩:=Gb i c' hi;obtain⟨c0,s7,h0⟩:=xA i c1 Vr;exact⟨c0,s7,λv hv=>h1 v (h0 v hv)⟩
def CC.aO(Y:Nat->Nat):CC->CC
 | .ptr id j=>.ptr (Y id) j
 | .oU id e i j=>.oU (Y id) e i j
 | .row id e lo hi=>.row (Y id) e lo hi
 | .map id=>.map (Y id)
 | .fn f fc=>.fn f (fc.map Y)
 |c=>c
def lA.aO(Y:Nat->Nat):lA->lA
 | .aA id=>.aA (Y id)
 | .sub id i j=>.sub (Y id) i j
inductive CA:Dt->Dt->Prop
 |refl (d:Dt):CA d d
 |no (s:Nat):CA (.val (.slice none 0 0)) (.sl s [])
 |sl (s:Nat) {es fH:List (List Dt)} (hl:es.length=fH.length) (hs:∀(i:Nat)cs fD,es[i]? =some cs->fH[i]? =some fD->cs.length=fD.length)
   (h:∀(i:Nat)cs fD(j:Nat)d d',es[i]? =some cs->fH[i]? =some fD->cs[j]? =some d->fD[j]? =some d'->CA d d'):CA (.sl s es) (.sl s fH)
theorem CA.mB{S:Nat->Prop}{w:World}{d d':Dt}(h:CA d d'):∀{v:Value},dG S w d v->dG S w d' v:=by
 induction h with
 |refl d=>exact λh=>h
 |no s=>
  intro v h;cases h with
  |val _ h=>simp[eE]at h
  |no a=>exact .nil s a 0 (aad _)
 | @sl s es fH hl hs h ih=>
  intro v hd;cases hd with
  |nil _ a cap hc=>
   have:fH=[]:=aaW hl.symm;subst this;exact .nil s a cap hc
  |sl _ _ b off cap u hS uK bF eu hc hd=>
   have get:∀(i:Nat)fD,fH[i]? =some fD->∃cs,es[i]? =some cs:=λi fD hi=>by have:=(Mp.1 hi).1;exact⟨_,xm om⟩
   have aaV:∀(i:Nat)cs fD(j:Nat)d',es[i]? =some cs->fH[i]? =some fD->fD[j]? =some d'->∃d,cs[j]? =some d:=λi cs fD j d' hi fm hj=>by have h1:=(Mp.1 hj).1;have h2:=hs i cs fD hi fm;exact⟨_,xm om⟩
   rw[hl];refine .sl s fH b off cap u hS om bF (λfD hm=>?_) (λi fD j d' hi hj=>?_) (λi fD j d' hi hj=>?_)
   .obtain⟨i,hi⟩:=aag hm;obtain⟨cs,fF⟩:=get i fD hi;rw[<-hs i cs fD fF hi];exact eu cs (Wm fF)
   .obtain⟨cs,fF⟩:=get i fD hi;obtain⟨d,hdj⟩:=aaV i cs fD j d' fF hi hj;exact hc i cs j d fF hdj
   .obtain⟨cs,fF⟩:=get i fD hi;obtain⟨d,hdj⟩:=aaV i cs fD j d' fF hi hj;exact ih i cs fD j d d' fF hi hdj hj (hd i cs j d fF hdj)
inductive cV(m:Mem)(Z:Nat->Prop):Option Nat->CC->Dt->Prop
 |ai {p:Option Nat} (d:Dt):cV m Z p (.ai d) d
 |jj {id:Nat} (s:Nat) (e:List (List Dt)) (hz:Z id):cV m Z (some id) (.jj s e) (.sl s e)
 |bv {p:Option Nat} (s:Nat):cV m Z p .bv (.sl s [])
 |no {p:Option Nat}:cV m Z p .bv (.val (.slice none 0 0))
 |le {p:Option Nat} {d d':Dt} (h:CA d d'):cV m Z p (.ai d) d'
 |row {p:Option Nat} (id esz lo:Nat) (hi:Option Nat) (elems:List (List CC)) (ds:List (List Dt)) (hz:Z id) (h:m[id]? =some (.row esz elems)) (hl:elems.length=ds.length)
   (hs:∀(i:Nat)cs es,elems[i]? =some cs->ds[i]? =some es->cs.length=es.length)
   (hd:∀(i:Nat)cs es(j:Nat)c d,elems[i]? =some cs->ds[i]? =some es->cs[j]? =some c->es[j]? =some d->cV m Z (some id) c d):cV m Z p (.row id esz lo hi) (.sl esz (bt ds lo hi))
inductive tL(Y:Nat->Nat)(m:Mem)(Z:Nat->Prop):Option Nat->CC->CC->Prop
 |aL {p:Option Nat} (c:CC):tL Y m Z p c .aL
 |aO {p:Option Nat} (c:CC):tL Y m Z p (c.aO Y) c
 |dO {p:Option Nat} {c:CC} {d:Dt} (h:cV m Z p c d):tL Y m Z p c (.ai d)
 |un {p:Option Nat}:tL Y m Z p (.ai (.val (.slice none 0 0))) .bv
 |hi {p:Option Nat} (id e lo:Nat) {esz:Nat} {elems:List (List CC)} (h:m[Y id]? =some (.row esz elems)):tL Y m Z p (.row (Y id) e lo none) (.row id e lo (some elems.length))
 |lo {p:Option Nat} (id e lo:Nat) {esz:Nat} {elems:List (List CC)} (h:m[Y id]? =some (.row esz elems)):tL Y m Z p (.row (Y id) e lo (some elems.length)) (.row id e lo none)
inductive Ac(Y:Nat->Nat)(m:Mem)(Z:Nat->Prop):RV->RV->Prop
 |one {c c':CC} (h:tL Y m Z none c c'):Ac Y m Z (.one c) (.one c')
 |agg {cs fD:List CC} (hl:cs.length=fD.length) (h:∀(i:Nat)c c',cs[i]? =some c->fD[i]? =some c'->tL Y m Z none c c'):Ac Y m Z (.agg cs) (.agg fD)
inductive ta(Y:Nat->Nat)(m:Mem)(Z:Nat->Prop):CV->CV->Prop
 |aL (v:CV):ta Y m Z v .aL
 |undef:ta Y m Z .undef .undef
 |rv {r r':RV} (h:Ac Y m Z r r'):ta Y m Z (.rv r) (.rv r')
 |bI {rs LH:List RV} (hl:rs.length=LH.length) (h:∀(i:Nat)r r',rs[i]? =some r->LH[i]? =some r'->Ac Y m Z r r'):ta Y m Z (.bI rs) (.bI LH)
inductive o6(Y:Nat->Nat)(m:Mem)(Z:Nat->Prop)(id:Nat):Bk->Bk->Prop
 |var {cs fD:List CC} (h:∀(i:Nat)c',fD[i]? =some c'->∃c,cs[i]? =some c/\tL Y m Z (some id) c c'):o6 Y m Z id (.var cs) (.var fD)
 |row (esz:Nat) {es fH:List (List CC)} (hl:es.length=fH.length) (hs:∀(i:Nat)cs fD,es[i]? =some cs->fH[i]? =some fD->cs.length=fD.length)
   (h:∀(i:Nat)cs fD(j:Nat)c c',es[i]? =some cs->fH[i]? =some fD->cs[j]? =some c->fD[j]? =some c'->tL Y m Z (some id) c c'):o6 Y m Z id (.row esz es) (.row esz fH)
 |mp {es fH:List ME} (hl:es.length=fH.length) (h:∀(i:Nat)e e',es[i]? =some e->fH[i]? =some e'->e'.key=e.key/\Ac Y m Z e.val e'.val):o6 Y m Z id (.mp es) (.mp fH)
section
variable {n0:Nat} {Y:Nat->Nat} {Z:Nat->Prop} {ρ:b9} {m:Mem} {w:World}
def b9.vw(ρ:b9)(Y:Nat->Nat)(Z:Nat->Prop)(m:Mem)(n:Nat):b9:=
 {n:=n,aW:=λk=>ρ.aW (k.aO Y),S:=λb=>ρ.S b\/∃k,Live ρ m k/\Z k.id/\(ρ.aW k).b=b}
theorem cV.mB(hM:aN ρ m w){pos:Option (Nat×Nat×Nat)}{p:Option Nat}{c:CC}{d:Dt}(h:cV m Z p c d)(hp:∀id,p=some id->∀s e,c= .jj s e->∃i j,pos=some (id,i,j)/\ir m id i j s e){v:Value}(hd:bJ ρ w pos c v){n:Nat}:dG (ρ.vw Y Z m n).S w d v:=by
 induction h generalizing pos v with
 |ai d=>exact hd.mono (λ_ h=>.inl h) (λ_ _=>rfl)
 |bv s=>
  obtain⟨a,rfl⟩:=hd;exact .nil s a 0 (aad _)
 |no=>
  obtain⟨a,rfl⟩:=hd;exact .no a
 |le h=>exact(h.mB hd).mono (λ_ h=>.inl h) (λ_ _=>rfl)
 | @jj id s e hz=>
  obtain⟨i,j,wu,ol⟩:=hp id rfl s e rfl;obtain⟨lO,i',j',Be,q1,q2,a',rfl,q3⟩:=hd;rw[wu]at Be;simp only[abi,Prod.mk.injEq]at Be;obtain⟨rfl,rfl,rfl⟩:=Be;rcases acO e.length with he|he
  .rw[aaW he];exact .nil s a' _ om
  .obtain⟨iT,Eb,w1,w2,w3⟩:=hM.jj _ _ _ _ _ ol om;rw[q3 om];have D7:Live ρ m (.sub id i j):=⟨⟨_,_,ol⟩,om⟩;have ky:∀(i2:Nat)cs(j2:Nat)d2,e[i2]? =some cs->cs[j2]? =some d2->∃u,w.cell? ⟨(ρ.aW (.sub id i j)).b,(ρ.aW (.sub id i j)).aB+i2*s+j2,.none⟩=some u/\dG (ρ.vw Y Z m n).S w d2 u:=by
    intro i2 cs j2 d2 fh mg;obtain⟨u,hu,hd⟩:=w3 i2 cs j2 d2 fh mg;exact⟨u,by rw[Eb.cell];exact hu,hd.mono (λ_ h=>.inl h) (λ_ _=>rfl)⟩
   exact dG.sl s e _ _ _ (λi2 j2=>(w.cell? ⟨(ρ.aW (.sub id i j)).b,(ρ.aW (.sub id i j)).aB+i2*s+j2,.none⟩).getD Go.undef) (.inr ⟨_,D7,hz,rfl⟩) q1 q2 w2
    (λi2 cs j2 d2 fh mg=>by obtain⟨u,hu,_⟩:=ky i2 cs j2 d2 fh mg;rw[hu];rfl)
    (λi2 cs j2 d2 fh mg=>by obtain⟨u,hu,hd⟩:=ky i2 cs j2 d2 fh mg;rw[hu];exact hd)
 |row id esz lo hi elems ds hz hb hl hs Gf ih=>
  obtain⟨h1,h2,h3,h4,h5,a,rfl,ha⟩:=hd;obtain⟨g1,g2,g3,g4,g5⟩:=hM.bk id _ hb;have lF:ds.length=(ρ.aW (.aA id)).len:=om;have hlen:(bt ds lo hi).length=hi.getD (ρ.aW (.aA id)).len-lo:=by
   rw[<-lF];exact Ep ds lo hi (by rw[lF];exact h2) (by rw[lF];exact h3)
  rw[<-hlen];rcases acO (bt ds lo hi).length with h0|dQ
  .rw[h0,aaW h0];exact .nil esz a _ om
  .have iY:lo<(ρ.aW (.aA id)).cap:=om;obtain⟨cur,cC,eu,fg⟩:=g5 om;rw[ha iY];have key:∀(i:Nat)es(j:Nat)d,(bt ds lo hi)[i]? =some es->es[j]? =some d->∃u,w.cell? ⟨(ρ.aW (.aA id)).b,(ρ.aW (.aA id)).aB+lo*esz+i*esz+j,.none⟩=some u/\dG (ρ.vw Y Z m n).S w d u:=by
    intro i es j d fm hj;have fh:=tI ds lo hi i es fm;have ay:lo+i<elems.length:=by rw[hl];exact(Mp.1 fh).1
    have NN:=xm ay;have bV:j<elems[lo+i].length:=by rw[hs _ _ _ NN fh];exact(Mp.1 hj).1
    have VI:=xm bV;obtain⟨u,hu,cP⟩:=fg _ _ _ _ NN VI;refine⟨u,?_,?_⟩
    .rw[cC.cell,<-hu];congr 1;rw[ade];omega
    .refine ih _ _ _ _ _ _ NN fh VI hj ?_ cP;intro lO hid s e he;cases hid;exact⟨_,_,rfl,_,_,_,hb,NN,by rw[VI,he]⟩
   refine dG.sl esz (bt ds lo hi) _ _ _ (λi j=>(w.cell? ⟨(ρ.aW (.aA id)).b,(ρ.aW (.aA id)).aB+lo*esz+i*esz+j,.none⟩).getD Go.undef) (.inr ⟨.aA id,⟨_,hb,aG,λ_=>om⟩,hz,rfl⟩) om om (λes oR=>?_)
    (λi cs j d fm hj=>by obtain⟨u,hu,_⟩:=key i cs j d fm hj;rw[hu];rfl)
    (λi cs j d fm hj=>by obtain⟨u,hu,hd⟩:=key i cs j d fm hj;rw[hu];exact hd)
   obtain⟨i,fm⟩:=aag oR;have fh:=tI ds lo hi i es fm;have ay:lo+i<elems.length:=by rw[hl];exact(Mp.1 fh).1
   have NN:=xm ay;rw[<-hs _ _ _ NN fh];exact g4 _ (aaP ay)
theorem tL.mB(hM:aN ρ m w){n:Nat}(ib:∀i,Y i<m.length->i<n){lO i j:Nat}{pos pos':Option (Nat×Nat×Nat)}{p:Option Nat}(tM:(pos=none/\pos'=none/\p=none)\/(pos=some (Y lO,i,j)/\pos'=some (lO,i,j)/\p=some (Y lO))){c c':CC}(h:tL Y m Z p c c')(ol:∀s e,c= .jj s e->pos=some (Y lO,i,j)->ir m (Y lO) i j s e){v:Value}(hd:bJ ρ w pos c v):bJ (ρ.vw Y Z m n) w pos' c' v:=by
 cases h with
 |aL c=>exact hd.one
 |un=>
  cases(show dG ρ.S w (.val (.slice none 0 0)) v from hd)with
  |val _ h=>simp[eE]at h
  |no a=>exact⟨a,rfl⟩
 |hi id e lo hb=>
  have hn:=hM.n;obtain⟨g1,_⟩:=hM.bk _ _ hb;obtain⟨h1,h2,h3,h4,h5,a,rfl,ha⟩:=hd;simp only[aed]at h2 h3;refine⟨ib id (by rw[<-hn];exact h1),?_⟩
  simp only[adl,b9.vw,lA.aO,g1];exact⟨h2,h3,h4,h5,a,rfl,ha⟩
 |lo id e lo hb=>
  have hn:=hM.n;obtain⟨g1,_⟩:=hM.bk _ _ hb;obtain⟨h1,h2,h3,h4,h5,a,rfl,ha⟩:=hd;simp only[adl,g1]at h2 h3;refine⟨ib id (by rw[<-hn];exact h1),?_⟩
  simp only[aed,adl,b9.vw,lA.aO,g1];exact⟨h2,h3,h4,h5,a,rfl,ha⟩
 |dO h=>
  refine h.mB hM ?_ hd;intro id hid s e he;rcases tM with⟨_,_,rfl⟩|⟨rfl,rfl,rfl⟩
  .cases hid
  .cases hid;exact⟨i,j,rfl,ol s e he rfl⟩
 |aO=>
  have hn:=hM.n;cases c'<;>simp only[CC.aO,bJ]at hd|-
  case aL=>exact hd
  case ai=>exact hd.mono (λ_ h=>.inl h) (λ_ _=>rfl)
  case ptr id k=>exact⟨ib id (by rw[<-hn];exact hd.1),hd.2⟩
  case oU id _ _ _=>exact⟨ib id (by rw[<-hn];exact hd.1),hd.2⟩
  case tc=>
   obtain⟨b,off,h1,h2,h3⟩:=hd;refine⟨b,off,h1,.inl h2,λj d hj=>?_⟩
   obtain⟨u,hu,cP⟩:=h3 j d hj;exact⟨u,hu,cP.mono (λ_ h=>.inl h) (λ_ _=>rfl)⟩
  case row id _ _ _=>exact⟨ib id (by rw[<-hn];exact hd.1),hd.2⟩
  case bv=>exact hd
  case map id=>exact⟨ib id (by rw[<-hn];exact hd.1),hd.2⟩
  case fn f fc=>
   refine⟨λid hid=>ib id (by rw[<-hn];exact hd.1 _ (abm.2 ⟨id,hid,rfl⟩)),?_⟩
   rw[hd.2,adu];rfl
  case jj s e=>
   obtain⟨a,b,c,h1,h2⟩:=hd;rcases tM with⟨rfl,rfl,rfl⟩|⟨rfl,rfl,rfl⟩
   .cases h1
   .cases h1;exact⟨lO,i,j,rfl,h2⟩
theorem tL.LP(hM:aN ρ m w){n:Nat}(ib:∀i,Y i<m.length->i<n){c c':CC}(h:tL Y m Z none c c'){v:Value}(hd:bJ ρ w none c v):bJ (ρ.vw Y Z m n) w none c' v:=
 tL.mB (lO:=0) (i:=0) (j:=0) hM ib (.inl ⟨rfl,rfl,rfl⟩) h (λ_ _ _ h=>by cases h) hd
theorem Ac.mB(hM:aN ρ m w){n:Nat}(ib:∀i,Y i<m.length->i<n){c c':RV}(h:Ac Y m Z c c'){v:Value}(hd:eU ρ w c v):eU (ρ.vw Y Z m n) w c' v:=by
 cases h with
 |one h=>exact h.LP hM ib hd
 |agg hl h=>
  obtain⟨vs,rfl,h1,h2⟩:=hd;refine⟨vs,rfl,h1.trans hl,λi c' hi=>?_⟩
  rename_i cs fD;have ay:i<cs.length:=by rw[hl];exact(Mp.1 hi).1
  obtain⟨u,hu,hd⟩:=h2 i _ (xm ay);exact⟨u,hu,(h i _ _ (xm ay) hi).LP hM ib hd⟩
theorem ta.mB(hM:aN ρ m w){n:Nat}(ib:∀i,Y i<m.length->i<n){c c':CV}(h:ta Y m Z c c'){v:Value}(hd:cG ρ w c v):cG (ρ.vw Y Z m n) w c' v:=by
 cases h with
 |aL=>trivial
 |undef=>exact hd
 |rv h=>exact h.mB hM ib hd
 |bI hl h=>
  obtain⟨vs,rfl,h1,h2⟩:=hd;refine⟨vs,rfl,h1.trans hl,λi c' hi=>?_⟩
  rename_i cs fD;have ay:i<cs.length:=by rw[hl];exact(Mp.1 hi).1
  obtain⟨u,hu,hd⟩:=h2 i _ (xm ay);exact⟨u,hu,(h i _ _ (xm ay) hi).mB hM ib hd⟩
theorem o6.mB(hM:aN ρ m w){n:Nat}(ib:∀i,Y i<m.length->i<n){id:Nat}{b b':Bk}(hb:m[Y id]? =some b)(h:o6 Y m Z (Y id) b b'):ft (ρ.vw Y Z m n) w id b':=by
 have hd:=hM.bk _ _ hb;cases h with
 | @var cs fD h=>
  obtain⟨cur,hc,hd⟩:=hd;refine⟨cur,hc,λj c' hj=>?_⟩
  obtain⟨c,su,hv⟩:=h j c' hj;obtain⟨u,hu,cP⟩:=hd j c su;refine⟨u,hu,?_⟩;cases hv with
  |aL c=>exact cP.one
  |aO=>exact tL.LP hM ib (.aO c') cP
  |un=>exact tL.LP hM ib .un cP
  |hi lO e lo uY=>exact tL.LP hM ib (.hi lO e lo uY) cP
  |lo lO e lo uY=>exact tL.LP hM ib (.lo lO e lo uY) cP
  |dO hf=>exact hf.mB hM (λlO _ s e he=>by rw[he]at cP;obtain⟨_,_,_,hx,_⟩:=cP;cases hx) cP
 | @row esz es fH hl hs h=>
  obtain⟨h2,h3,h4,h5,cC⟩:=hd;refine⟨hl.symm.trans h2,h3,h4,λfD Ow=>?_,λdQ=>?_⟩
  .obtain⟨i,hi⟩:=aag Ow;have ay:i<es.length:=by rw[hl];exact(Mp.1 hi).1
   rw[<-hs i _ _ (xm ay) hi];exact h5 _ (aaP ay)
  .obtain⟨cur,hc,h1,h6⟩:=cC dQ;refine⟨cur,hc,h1,λi fD j c' hi hj=>?_⟩
   have ay:i<es.length:=by rw[hl];exact(Mp.1 hi).1
   have fm:=xm ay;have bV:j<es[i].length:=by rw[hs i _ _ fm hi];exact(Mp.1 hj).1
   have su:=xm bV;obtain⟨u,hu,cP⟩:=h6 _ _ _ _ fm su;refine⟨u,hu,tL.mB (lO:=id) (i:=i) (j:=j) hM ib (.inr ⟨rfl,rfl,rfl⟩) (h i _ _ j _ _ fm hi su hj) (λs e he _=>⟨_,_,_,hb,fm,by rw[su,he]⟩) cP⟩
 | @mp es fH hl h=>
  obtain⟨ae,clock,hc,h1,h2⟩:=hd;refine⟨ae,clock,hc,h1.trans hl,λi e' hi=>?_⟩
  have ay:i<es.length:=by rw[hl];exact(Mp.1 hi).1
  obtain⟨ae',hae,hk,z8⟩:=h2 i _ (xm ay);obtain⟨jd,hv⟩:=h i _ _ (xm ay) hi;exact⟨ae',hae,hk.trans jd.symm,hv.mB hM ib z8⟩
theorem xD{m':Mem}(hM:aN ρ m w)(l5:∀i,i<n0->Y i=i)(uX:∀i j,i<m'.length->j<m'.length->Y i=Y j->i=j)(ib:∀i,Y i<m.length->i<m'.length)(lE:∀(i:Nat)b',m'[i]? =some b'->b'= .aE\/(¬Z (Y i)/\∃b,m[Y i]? =some b/\o6 Y m Z (Y i) b b')):
  aN (ρ.vw Y Z m m'.length) m' w/\WL n0 ρ m (ρ.vw Y Z m m'.length) m'/\∀k,Live (ρ.vw Y Z m m'.length) m' k->Live ρ m (k.aO Y):=by
 have ol:∀{id i j s1 e},ir m' id i j s1 e->¬Z (Y id)/\ir m (Y id) i j s1 e:=by
  rintro id i j s1 e ⟨fH,nn,fD,uY,fm,su⟩;rcases lE id _ uY with h|⟨hz,b,hb,hv⟩
  .cases h
  .cases hv with
   | @row _ es _ hl hs h=>
    have ay:i<es.length:=by rw[hl];exact(Mp.1 fm).1
    have hi:=xm ay;have bV:j<es[i].length:=by rw[hs i _ _ hi fm];exact(Mp.1 su).1
    have hj:=xm bV;have hv:=h i _ _ j _ _ hi fm hj su;have hc:es[i][j]= .jj s1 e:=by
     generalize es[i][j]=c at hv;cases hv with
     |aO=>rfl
    exact⟨hz,_,_,_,hb,hi,by rw[hj,hc]⟩
 have dj:∀k,Live (ρ.vw Y Z m m'.length) m' k->¬Z (Y k.id)/\Live ρ m (k.aO Y):=by
  intro k hk;cases k with
  |aA k=>
   obtain⟨b',uY,s9,bF⟩:=hk;rcases lE k _ uY with h|⟨hz,b,hb,hv⟩
   .exact absurd h s9
   .refine⟨hz,b,hb,?_,?_⟩
    .rintro rfl;cases hv
    .rintro⟨esz,es,rfl⟩;cases hv with
     |row=>exact bF ⟨_,_,rfl⟩
  |sub k i j=>
   obtain⟨⟨esz,e,ho⟩,bF⟩:=hk;exact⟨(ol ho).1,⟨_,_,(ol ho).2⟩,bF⟩
 refine⟨⟨rfl,?_,λk hk=>?_,λk k' hk jd he=>?_,λid b' uY=>?_,λid i j esz e ho bF=>?_⟩,⟨λid hid=>?_,λb h=>.inl h,?_,λk hk=>⟨_,(dj k hk).2,rfl⟩⟩,λk hk=>(dj k hk).2⟩
 .rintro b (hb|⟨k,hk,_,rfl⟩)
  .exact hM.S b hb
  .exact(hM.aF k hk).1
 .obtain⟨hz,hl⟩:=dj k hk;refine⟨(hM.aF _ hl).1,?_⟩;rintro(hb|⟨k0,Ad,DF,he⟩)
  .exact(hM.aF _ hl).2 hb
  .have:=hM.inj k0 (k.aO Y) Ad hl he;subst this;apply hz;cases k<;>exact DF
 .have sx:=hk.it;have hl2:=jd.it;have:=hM.inj _ _ (dj k hk).2 (dj k' jd).2 he;cases k<;>cases k'<;>simp only[lA.aO,lA.aA.injEq,lA.sub.injEq,lA.id,reduceCtorEq]at this sx hl2
  .rw[uX _ _ sx hl2 this]
  .obtain⟨h1,rfl,rfl⟩:=this;rw[uX _ _ sx hl2 h1]
 .rcases lE id b' uY with rfl|⟨hz,b,hb,hv⟩
  .trivial
  .exact o6.mB hM ib hb hv
 .obtain⟨cur,hc,h1,h2,h3⟩:=hM.jj _ _ _ _ _ (ol ho).2 bF;refine⟨cur,hc,h1,h2,λi2 cs j2 d fh mg=>?_⟩
  obtain⟨u,hu,cP⟩:=h3 i2 cs j2 d fh mg;exact⟨u,hu,cP.mono (λ_ h=>.inl h) (λ_ _=>rfl)⟩
 .show ρ.aW (.aA (Y id))=_;rw[l5 id hid]
 .rintro b (hb|⟨k,hk,_,he⟩)
  .exact .inl hb
  .exact .inr ⟨k,hk,he⟩
theorem View.mk'{s s':St}(Y:Nat->Nat)(Z:Nat->Prop)(SG:n0<=s'.mem.length)(hlen:s'.ba.length=s.ba.length)(l5:∀i,i<n0->Y i=i)(uX:∀i j,i<s'.mem.length->j<s'.mem.length->Y i=Y j->i=j)(ib:∀i,Y i<s.mem.length->i<s'.mem.length)(Aw:∀(i:Nat)c',s'.ba[i]? =some c'->∃c,s.ba[i]? =some c/\ta Y s.mem Z c c')(lE:∀(i:Nat)b',s'.mem[i]? =some b'->b'= .aE\/(¬Z (Y i)/\∃b,s.mem[Y i]? =some b/\o6 Y s.mem Z (Y i) b b')):View n0 s s':=by
 refine⟨SG,hlen,λρ w hM=>?_⟩
 obtain⟨h1,h2,_⟩:=xD (n0:=n0) (Y:=Y) (Z:=Z) hM l5 uX ib lE;refine⟨_,h1,h2,λi c' hi=>?_⟩
 obtain⟨c,hc,hv⟩:=Aw i c' hi;exact⟨c,hc,λv hd=>hv.mB hM ib hd⟩
end
section
variable {P:Program} {n0:Nat} {Y:Nat->Nat} {Z:Nat->Prop} {ρ:b9} {m:Mem} {w:World}
def sg(l:List Nat)(n:Nat)(i:Nat):Nat:=match dp l i with|some x=>x|none=>n+(i-l.length)
def bh:List Nat->Nat->Bool
 | [],_=>false
 |x::r,k=>Nat.beq x k||bh r k
def iv:List Nat->Bool
 | []=>true
 |x::r=>!(bh r x)&&iv r
def eP(n:Nat):List Nat->Bool
 | []=>true
 |x::r=>Nat.blt x n&&eP n r
def G8(l:List Nat):Nat->Bool
 |0=>true
 |k+1=>(match dp l k with|some x=>Nat.beq x k|none=>false)&&G8 l k
theorem yA:∀{l:List Nat}{k:Nat},bh l k=true↔k∈l
 | [],k=>by simp[bh]
 |x::r,k=>by
  simp only[bh,adB,abH,yA];constructor
  .rintro(h|h)
   .exact .inl (aaX h).symm
   .exact .inr h
  .rintro(rfl|h)
   .exact .inl (aeq _)
   .exact .inr h
theorem yB:∀{l:List Nat},iv l=true->∀i j:Nat,i<l.length->j<l.length->l[i]? =l[j]? ->i=j
 | [],_,i,j,hi,_,_=>by simp at hi
 |x::r,h,i,j,hi,hj,he=>by
  simp only[iv,aaJ,adx]at h;have hx:∀k:Nat,r[k]? ≠some x:=λk hk=>by have:=yA.2 (Wm hk);rw[h.1]at this;cases this
  cases i with
  |zero=>
   cases j with
   |zero=>rfl
   |succ j=>simp at he;exact absurd he.symm (hx j)
  |succ i=>
   cases j with
   |zero=>simp at he;exact absurd he (hx i)
   |succ j=>
    simp at he hi hj;rw[yB h.2 i j hi hj he]
theorem rm{n:Nat}:∀{l:List Nat},eP n l=true->∀x,x∈l->x<n
 | [],_,x,hx=>by simp at hx
 |y::r,h,x,hx=>by
  simp only[eP,aaJ]at h;rcases abH.1 hx with rfl|hx
  .exact aat h.1
  .exact rm h.2 x hx
theorem Et{l:List Nat}:∀{k:Nat},G8 l k=true->∀i,i<k->l[i]? =some i
 |0,_,i,hi=>om
 |k+1,h,i,hi=>by
  simp only[G8,aaJ]at h;rcases aaD i k with h1|h1
  .exact Et h.2 i h1
  .have:i=k:=om;subst this;rw[<-aX];cases hn:dp l i with
   |none=>rw[hn]at h;simp at h
   |some x=>rw[hn]at h;simp only at h;rw[aaX h.1]
theorem wG{l:List Nat}{n i:Nat}(h:i<l.length):sg l n i=l[i]:=by simp[sg,aX,xm h]
theorem wH{l:List Nat}{n i:Nat}(h:l.length<=i):sg l n i=n+(i-l.length):=by simp[sg,aX,abk h]
theorem O4{l:List Nat}{n:Nat}(hd:iv l=true)(hl:eP n l=true){i j:Nat}(h:sg l n i=sg l n j):i=j:=by
 rcases aaD i l.length with hi|hi<;>rcases aaD j l.length with hj|hj
 .rw[wG hi,wG hj]at h;exact yB hd i j hi hj (by rw[xm hi,xm hj,h])
 .rw[wG hi,wH hj]at h;have:=rm hl _ (aaP hi);omega
 .rw[wH hi,wG hj]at h;have:=rm hl _ (aaP hj);omega
 .rw[wH hi,wH hj]at h;omega
def RV.aO(Y:Nat->Nat):RV->RV
 | .one c=>.one (c.aO Y)
 | .agg cs=>.agg (cs.map (CC.aO Y))
def CV.aO(Y:Nat->Nat):CV->CV
 | .rv r=>.rv (r.aO Y)
 | .bI rs=>.bI (rs.map (RV.aO Y))
 | .aL=>.aL
 | .undef=>.undef
def Bk.aO(Y:Nat->Nat):Bk->Bk
 | .aE=>.aE
 | .var cs=>.var (cs.map (CC.aO Y))
 | .row s es=>.row s (es.map λcs=>cs.map (CC.aO Y))
 | .mp es=>.mp (es.map λe=>⟨e.key,e.val.aO Y⟩)
theorem Ac.aO(r:RV):Ac Y m Z (r.aO Y) r:=by
 cases r with
 |one c=>exact .one (.aO c)
 |agg cs=>
  refine .agg aG λi c c' h h'=>?_
  rw[Rn,h']at h;cases h;exact .aO c'
theorem ta.LQ(v:CV):ta Y m Z (v.aO Y) v:=by
 cases v with
 |rv r=>exact .rv (.aO r)
 |bI rs=>
  refine .bI aG λi c c' h h'=>?_
  rw[Rn,h']at h;cases h;exact .aO c'
 |aL=>exact .aL _
 |undef=>exact .undef
theorem ta.aO{v v':CV}(h:v'.aO Y=v):ta Y m Z v v':=h▸ .LQ v'
theorem o6.LQ{id:Nat}(b:Bk)(hb:b≠.aE):o6 Y m Z id (b.aO Y) b:=by
 cases b with
 |aE=>exact absurd rfl hb
 |var cs=>
  refine .var λi c' h=>⟨c'.aO Y,by rw[Rn,h];rfl,.aO c'⟩
 |row s es=>
  refine .row s aG (λi cs fD h h'=>?_) λi cs fD j c c' h h' g g'=>?_
  .rw[Rn,h']at h;cases h;simp
  .rw[Rn,h']at h;cases h;rw[Rn,g']at g;cases g;exact .aO c'
 |mp es=>
  refine .mp aG λi e e' h h'=>?_
  rw[Rn,h']at h;cases h;exact⟨rfl,.aO _⟩
def aa(ds:List (List Dt)):List (List CC):=ds.map λes=>es.map .ai
theorem dv(ds:List (List Dt)):(aa ds).map (λcs=>cs.map (CC.aO Y))=aa ds:=by simp[aa,CC.aO]
theorem Bk.eQ(s:Nat)(ds:List (List Dt)):(Bk.row s (aa ds)).aO Y= .row s (aa ds):=by simp only[Bk.aO,dv]
theorem cV.db{p:Option Nat}{id esz:Nat}{ds:List (List Dt)}(hz:Z id)(h:m[id]? =some (.row esz (aa ds)))(lo:Nat)(hi:Option Nat):cV m Z p (.row id esz lo hi) (.sl esz (bt ds lo hi)):=by
 refine .row id esz lo hi _ ds hz h (by simp[aa]) (λi cs es h1 h2=>?_) λi cs es j c d h1 h2 h3 h4=>?_
 .simp only[aa,Rn,h2,aaS,abi]at h1;subst h1;simp
 .simp only[aa,Rn,h2,aaS,abi]at h1;subst h1;simp only[Rn,h4,aaS,abi]at h3;subst h3;exact .ai d
inductive i4(Y:Nat->Nat)(m:Mem)(Z:Nat->Prop):List CV->List CV->Prop
 |nil:i4 Y m Z [] []
 |aL {v:CV} {e e':List CV} (h:i4 Y m Z e e'):i4 Y m Z (v::e) (.aL::e')
 |put {v v':CV} {e e':List CV} (hv:ta Y m Z v v') (h:i4 Y m Z e e'):i4 Y m Z (v::e) (v'::e')
theorem i4.len{e e':List CV}(h:i4 Y m Z e e'):e'.length=e.length:=by
 induction h<;>simp[*]
theorem i4.get{e e':List CV}(h:i4 Y m Z e e'):∀(i:Nat)c',e'[i]? =some c'->∃c,e[i]? =some c/\ta Y m Z c c':=by
 induction h with
 |nil=>intro i v h;simp at h
 |aL h ih=>
  intro i v hv;cases i with
  |zero=>simp at hv;subst hv;exact⟨_,rfl,.aL _⟩
  |succ i=>simpa using ih i v (by simpa using hv)
 |put hx h ih=>
  intro i v hv;cases i with
  |zero=>simp at hv;subst hv;exact⟨_,rfl,hx⟩
  |succ i=>simpa using ih i v (by simpa using hv)
theorem i4.eq{v v':CV}{e e':List CV}(hv:v'.aO Y=v)(h:i4 Y m Z e e'):i4 Y m Z (v::e) (v'::e'):= .put (.aO hv) h
inductive b8(Y:Nat->Nat)(m:Mem)(Z:Nat->Prop):Nat->Mem->Prop
 |nil (k:Nat):b8 Y m Z k []
 |aE {k:Nat} {r:Mem} (h:b8 Y m Z (k+1) r):b8 Y m Z k (.aE::r)
 |put {k:Nat} {b b':Bk} {r:Mem} (hz:¬Z (Y k)) (hb:dp m (Y k)=some b) (hv:o6 Y m Z (Y k) b b') (h:b8 Y m Z (k+1) r):b8 Y m Z k (b'::r)
theorem b8.get{k:Nat}{m':Mem}(h:b8 Y m Z k m'):∀(i:Nat)b',m'[i]? =some b'->b'= .aE\/(¬Z (Y (k+i))/\∃b,m[Y (k+i)]? =some b/\o6 Y m Z (Y (k+i)) b b'):=by
 induction h with
 |nil k=>intro i b' h;simp at h
 | @aE k r h ih=>
  intro i b' hi;cases i with
  |zero=>simp at hi;exact .inl hi.symm
  |succ i=>
   have:=ih i b' (by simpa using hi)
   rwa [show k+1+i=k+(i+1) by omega]at this
 | @put k b b1 r hz hb hv h ih=>
  intro i b' hi;cases i with
  |zero=>simp at hi;subst hi;exact .inr ⟨hz,_,by rw[<-aX];exact hb,hv⟩
  |succ i=>
   have:=ih i b' (by simpa using hi)
   rwa [show k+1+i=k+(i+1) by omega]at this
theorem View.of{e e':List CV}{m m':Mem}(n:Nat)(l F:List Nat)(hn:m.length=n)(hl:m'.length=l.length)(h0:Nat.ble n0 l.length=true)(hi:G8 l n0=true)(hd:iv l=true)(ha:eP n l=true)(Aw:i4 (sg l n) m (λk=>bh F k=true) e e')(lE:b8 (sg l n) m (λk=>bh F k=true) 0 m'):View n0 ⟨e,m⟩ ⟨e',m'⟩:=by
 have h0':n0<=l.length:=aat h0;refine View.mk' (sg l n) _ (by simp only;omega) Aw.len (λi ay=>?_) (λi j _ _ h=>O4 hd ha h) (λi ay=>?_) (λi c' h=>Aw.get i c' h) (λi b' h=>by have:=lE.get i b' h;simpa using this)
 .rw[wG om];have:=Et hi i ay;rw[xm om]at this;simpa using this
 .rcases aaD i l.length with h|h
  .simp only;omega
  .rw[wH h]at ay;simp only at ay;omega
theorem bP{f:Nat}{args:List CV}{m:Mem}{K0 K:CV->Mem->Prop}(h:aq P f args m K0)(hK:∀r m1,K0 r m1->∃r' m',View m.length ⟨[r],m1⟩ ⟨[r'],m'⟩/\K r' m'):aq P f args m K:=by
 refine⟨h.1,λρ w vs hM hl hd=>?_⟩
 refine(h.2 ρ w vs hM hl hd).mono λe w'⟨v,r,m1,ρ1,he,hk,yy,xA,hx⟩=>?_
 obtain⟨r',m',hv,jd⟩:=hK r m1 hk;obtain⟨U',oq,hc,z8⟩:=hv.go ρ1 w' yy;have hn:=hM.n;refine⟨v,r',m',U',he,jd,oq,?_,⟨by rw[hn,oq.n];exact hv.hn,λid hid=>(hc.aW id (by rw[<-hn];exact hid)).trans (hx.aW id hid),λb hb=>hc.S b (hx.S b hb),λb hb=>?_,λk hk=>?_,hx.frame,hx.size,hx.os,hx.tape,hx.output⟩⟩
 .obtain⟨c,tm,Gf⟩:=z8 0 r' rfl;simp at tm;subst tm;exact Gf v xA
 .rcases hc.S' b hb with h|⟨k,hk,rfl⟩
  .exact hx.S' b h
  .exact .inr (hx.aF k hk)
 .obtain⟨k0,h0,e0⟩:=hc.aF k hk;rw[<-e0];exact hx.aF k0 h0
def tN(Y:Nat->Nat):Mem->Mem
 | []=>[]
 |b::r=>b.aO Y::tN Y r
theorem CB(Y:Nat->Nat):∀m,tN Y m=m.map (Bk.aO Y)
 | []=>rfl
 |b::r=>by simp[tN,CB Y r]
def dA:Mem->List Nat->Mem->Mem
 |m,[],ms=>gC m ms
 |m,_::_,[]=>m
 |m,id::l,b::ms=>dA (aZ m id b) l ms
theorem Bi:∀(l:List Nat)(m ms:Mem),l.length<=ms.length->(dA m l ms).length=m.length+(ms.length-l.length)
 | [],m,ms,_=>by simp[dA,cw]
 |_::l,m,[],h=>by simp at h
 |id::l,m,b::ms,h=>by simp at h;rw[dA,Bi l _ _ h,br];simp
theorem va:∀(l:List Nat)(m ms:Mem)(j:Nat),j<m.length->j∉l->(dA m l ms)[j]? =m[j]?
 | [],m,ms,j,hj,_=>by simp[dA,cw,aaM hj]
 |_::l,m,[],j,_,_=>by simp[dA]
 |id::l,m,b::ms,j,hj,hn=>by
  simp at hn;rw[dA,va l _ _ j (by rw[br];simpa using hj) hn.2,br,aap (λh=>hn.1 h.symm)]
theorem Bj:∀(l:List Nat)(m ms:Mem),iv l=true->eP m.length l=true->l.length<=ms.length->∀(i:Nat),i<ms.length->(dA m l ms)[sg l m.length i]? =ms[i]?
 | [],m,ms,_,_,_,i,hi=>by simp only[dA,cw,sg,dp,acg,adW];rw[aaO om];simp
 |_::l,m,[],_,_,h,_,_=>by simp at h
 |id::l,m,b::ms,hd,ha,h,i,hi=>by
  simp only[iv,aaJ,adx]at hd;simp only[eP,aaJ]at ha;simp at h hi;have hlen:(aZ m id b).length=m.length:=by rw[br];simp
  have hid:id<m.length:=aat ha.1;cases i with
  |zero=>
   rw[dA];show(dA (aZ m id b) l ms)[id]? =some b;rw[va l _ _ id (by rw[hlen];exact hid) (λh=>by rw[yA.2 h]at hd;cases hd.1),br]
   simp[hid]
  |succ i=>
   have:=Bj l (aZ m id b) ms hd.2 (by rw[hlen];exact ha.2) h i om
   rw[hlen]at this;rw[dA];have e:sg (id::l) m.length (i+1)=sg l m.length i:=by simp[sg,dp]
   rw[e,this];simp
theorem bJ.pos{ρ:b9}{w:World}{pos pos':Option (Nat×Nat×Nat)}{c:CC}{v:Value}(hc:∀s e,c≠.jj s e)(h:bJ ρ w pos c v):bJ ρ w pos' c v:=by
 cases c<;>simp only[bJ]at h|-
 case jj=>exact absurd rfl (hc _ _)
 all_goals exact h
theorem bJ.afk{ρ U':b9}{w:World}{pos:Option (Nat×Nat×Nat)}(hn:ρ.n<=U'.n)(da:∀id,id<ρ.n->U'.aW (.aA id)=ρ.aW (.aA id))(sy:∀id i j,pos=some (id,i,j)->U'.aW (.sub id i j)=ρ.aW (.sub id i j))(hS:∀b,ρ.S b->U'.S b){w':World}(nl:∀b,ρ.S b->w'.heap[b]? =w.heap[b]?){c:CC}{v:Value}(h:bJ ρ w pos c v):bJ U' w' pos c v:=by
 let ρ1:b9:={n:=U'.n,aW:=λk=>match k with| .aA id=>U'.aW (.aA id)|k=>ρ.aW k,S:=U'.S}
 have g:j7 ρ w ρ1 w':=⟨hn,λk hk=>by
  cases k with
  |aA id=>exact da id hk
  |sub id i j=>rfl,hS,nl⟩
 by_cases hc:∃s e,c= .jj s e
 .obtain⟨esz,elems,rfl⟩:=hc;obtain⟨id,i,j,dQ,hr⟩:=h;refine⟨id,i,j,dQ,?_⟩;rw[sy id i j dQ];exact hr
 .have hc:∀s e,c≠.jj s e:=λs e h=>hc ⟨s,e,h⟩
  have h1:=bJ.pos (pos':=pos) hc (bJ.dg g aG (bJ.pos (pos':=none) hc h));cases c<;>simp only[bJ]at h1|-
  case jj=>exact absurd rfl (hc _ _)
  all_goals exact h1
theorem bJ.aO{ρ U':b9}{τ:Nat->Nat}{w:World}{pos pos':Option (Nat×Nat×Nat)}(hτ:∀i,i<ρ.n->τ i<U'.n)(iN:∀i,i<ρ.n->U'.aW (.aA (τ i))=ρ.aW (.aA i))(hS:∀b,ρ.S b->U'.S b)(dQ:∀id i j,pos=some (id,i,j)->pos'=some (τ id,i,j)/\U'.aW (.sub (τ id) i j)=ρ.aW (.sub id i j)){c:CC}{v:Value}(h:bJ ρ w pos c v):bJ U' w pos' (c.aO τ) v:=by
 cases c<;>simp only[bJ,CC.aO]at h|-
 case aL=>exact h
 case ai=>exact h.mono hS (λ_ _=>rfl)
 case ptr id _=>rw[iN id h.1];exact⟨hτ id h.1,h.2⟩
 case oU id _ _ _=>rw[iN id h.1];exact⟨hτ id h.1,h.2⟩
 case tc=>
  obtain⟨b,off,h1,h2,h3⟩:=h;refine⟨b,off,h1,hS _ h2,λj d hj=>?_⟩
  obtain⟨u,hu,cP⟩:=h3 j d hj;exact⟨u,hu,cP.mono hS (λ_ _=>rfl)⟩
 case row id _ _ _=>rw[iN id h.1];exact⟨hτ id h.1,h.2⟩
 case bv=>exact h
 case map id=>rw[iN id h.1];exact⟨hτ id h.1,h.2⟩
 case fn f fc=>
  refine⟨λid hid=>?_,?_⟩
  .obtain⟨i,hi,rfl⟩:=abm.1 hid;exact hτ i (h.1 i hi)
  .rw[h.2];congr 2;rw[adu];exact adO λid hid=>by simp only[Function.comp];rw[iN id (h.1 id hid)]
 case jj s e=>
  obtain⟨a,b,c,h1,h2⟩:=h;obtain⟨h3,h4⟩:=dQ a b c h1;refine⟨τ a,b,c,h3,?_⟩;rw[h4];exact h2
theorem eU.aO{ρ U':b9}{τ:Nat->Nat}{w:World}(hτ:∀i,i<ρ.n->τ i<U'.n)(iN:∀i,i<ρ.n->U'.aW (.aA (τ i))=ρ.aW (.aA i))(hS:∀b,ρ.S b->U'.S b){c:RV}{v:Value}(h:eU ρ w c v):eU U' w (c.aO τ) v:=by
 cases c with
 |one c=>exact bJ.aO hτ iN hS (λ_ _ _ h=>by cases h) h
 |agg cs=>
  obtain⟨vs,rfl,h1,h2⟩:=h;refine⟨vs,rfl,by simpa using h1,λi c hi=>?_⟩
  rw[Rn]at hi;obtain⟨c0,h0,rfl⟩:=aba.1 hi;obtain⟨u,hu,hd⟩:=h2 i c0 h0;exact⟨u,hu,bJ.aO hτ iN hS (λ_ _ _ h=>by cases h) hd⟩
theorem cG.aO{ρ U':b9}{τ:Nat->Nat}{w:World}(hτ:∀i,i<ρ.n->τ i<U'.n)(iN:∀i,i<ρ.n->U'.aW (.aA (τ i))=ρ.aW (.aA i))(hS:∀b,ρ.S b->U'.S b){c:CV}{v:Value}(h:cG ρ w c v):cG U' w (c.aO τ) v:=by
 cases c with
 |aL=>trivial
 |undef=>exact h
 |rv r=>exact eU.aO hτ iN hS h
 |bI cs=>
  obtain⟨vs,rfl,h1,h2⟩:=h;refine⟨vs,rfl,by simpa using h1,λi c hi=>?_⟩
  rw[Rn]at hi;obtain⟨c0,h0,rfl⟩:=aba.1 hi;obtain⟨u,hu,hd⟩:=h2 i c0 h0;exact⟨u,hu,eU.aO hτ iN hS hd⟩
theorem ft.aO{ρ U':b9}{τ:Nat->Nat}{w:World}(hτ:∀i,i<ρ.n->τ i<U'.n)(iN:∀i,i<ρ.n->U'.aW (.aA (τ i))=ρ.aW (.aA i))(hS:∀b,ρ.S b->U'.S b){id:Nat}(hid:id<ρ.n)(sy:∀i j,U'.aW (.sub (τ id) i j)=ρ.aW (.sub id i j)){b:Bk}(h:ft ρ w id b):ft U' w (τ id) (b.aO τ):=by
 cases b with
 |aE=>trivial
 |var cs=>
  obtain⟨cur,hc,hd⟩:=h;simp only[Bk.aO,ft,iN id hid];refine⟨cur,hc,λj c hj=>?_⟩
  rw[Rn]at hj;obtain⟨c0,h0,rfl⟩:=aba.1 hj;obtain⟨u,hu,cP⟩:=hd j c0 h0;exact⟨u,hu,bJ.aO hτ iN hS (λ_ _ _ h=>by cases h) cP⟩
 |row s es=>
  obtain⟨h2,h3,h4,h5,cC⟩:=h;simp only[Bk.aO,ft,iN id hid];refine⟨by simpa using h2,h3,h4,λcs fF=>?_,λdQ=>?_⟩
  .obtain⟨DM,h0,rfl⟩:=abm.1 fF;simpa using h5 DM h0
  .obtain⟨cur,hc,h1,h6⟩:=cC dQ;refine⟨cur,hc,h1,λi cs j c hi hj=>?_⟩
   rw[Rn]at hi;obtain⟨DM,h0,rfl⟩:=aba.1 hi;rw[Rn]at hj;obtain⟨c0,h00,rfl⟩:=aba.1 hj;obtain⟨u,hu,cP⟩:=h6 i DM j c0 h0 h00;exact⟨u,hu,bJ.aO hτ iN hS (λa b c h=>by cases h;exact⟨rfl,sy _ _⟩) cP⟩
 |mp es=>
  obtain⟨ae,clock,hc,h1,h2⟩:=h;simp only[Bk.aO,ft,iN id hid];refine⟨ae,clock,hc,by simpa using h1,λi e hi=>?_⟩
  rw[Rn]at hi;obtain⟨e0,h0,rfl⟩:=aba.1 hi;obtain⟨ae',hae,hk,z8⟩:=h2 i e0 h0;exact⟨ae',hae,hk,eU.aO hτ iN hS z8⟩
end
section
variable {P:Program}
theorem Ha{l:List Nat}{n i:Nat}(hi:sg l n i<n):i<l.length:=by
 rcases aaD i l.length with h|h
 .exact h
 .rw[wH h]at hi;omega
theorem bi{f:Nat}{args args0:List CV}{m m0:Mem}{K0 K:CV->Mem->Prop}(l:List Nat)(n:Nat)(hn:m.length=n)(hl:m0.length=l.length)(hd:iv l=true)(ha:eP n l=true)(ez:args=args0.map (CV.aO (sg l n)))(hm:∀(i:Nat)b',m0[i]? =some b'->b'= .aE\/(¬False/\∃b,m[sg l n i]? =some b/\o6 (sg l n) m (λ_=>False) (sg l n i) b b'))(h:aq P f args0 m0 K0)(hK:∀r m1,K0 r m1->l.length<=m1.length/\K (r.aO (sg l n)) (dA m l (tN (sg l n) m1))):aq P f args m K:=by
 subst hn;refine⟨h.1,λρ w vs hM wv hvd=>?_⟩
 have uX:∀i j,sg l m.length i=sg l m.length j->i=j:=λi j h=>O4 hd ha h
 obtain⟨m5,hC0,Xh⟩:=xD (n0:=0) (Y:=sg l m.length) (Z:=λ_=>False) (m':=m0) hM (λi h=>absurd h (abq i)) (λi j _ _ h=>uX i j h) (λi h=>by rw[hl];exact Ha h) hm
 have hS0:∀b,(ρ.vw (sg l m.length) (λ_=>False) m m0.length).S b↔ρ.S b:=λb=>⟨λh=>h.elim id λ⟨k,_,hf,_⟩=>hf.elim,.inl⟩
 have lQ:ρ.n=m.length:=hM.n;refine(h.2 _ w vs m5 (by rw[wv,ez];simp) λi c hi=>?_).mono λe w'⟨v,r,m1,ρ1,he,hk,yy,xA,hx⟩=>?_
 .obtain⟨v,hv,z8⟩:=hvd i (c.aO (sg l m.length)) (by rw[ez,Rn,hi];rfl)
  exact⟨v,hv,ta.mB hM (λi h=>by rw[hl];exact Ha h) (.LQ c) z8⟩
 .obtain⟨hle,jd⟩:=hK r m1 hk;have qj:ρ1.n=m1.length:=yy.n;let back:Nat->Option Nat:=λj=>(List.range m1.length).find? λi=>sg l m.length i==j
  have mh:∀{j i},back j=some i->i<m1.length/\sg l m.length i=j:=by
   intro j i hb;have h1:=List.mem_of_find?_eq_some hb;have h2:=List.find?_some hb;exact⟨by simpa using h1,by simpa using h2⟩
  have JG:∀{i},i<m1.length->back (sg l m.length i)=some i:=by
   intro i hi;cases hb:back (sg l m.length i)with
   |none=>
    have:=afl.1 hb i (by simpa using hi)
    simp at this
   |some j=>rw[uX _ _ (mh hb).2]
  have rn:∀{j},j<m.length+(m1.length-l.length)->back j=none->j<m.length/\j∉l:=by
   intro j hj hb;have k6:=afl.1 hb;refine⟨?_,λgH=>?_⟩
   .rcases aaD j m.length with h|h
    .exact h
    .have:=k6 (l.length+(j-m.length)) (by simp;omega)
     rw[wH om]at this;simp at this;omega
   .obtain⟨i,hi⟩:=aag gH;obtain⟨ay,rfl⟩:=Mp.1 hi;have:=k6 i (by simp;omega)
    rw[wG ay]at this;simp at this
  let U':b9:={n:=m.length+(m1.length-l.length),aW:=λk=>match back k.id with
   |some i=>(match k with| .aA _=>ρ1.aW (.aA i)| .sub _ a b=>ρ1.aW (.sub i a b))
   |none=>ρ.aW k,S:=ρ1.S}
  have S5:∀i,i<ρ1.n->U'.aW (.aA (sg l m.length i))=ρ1.aW (.aA i):=by intro i hi;rw[qj]at hi;simp only[U',lA.id,JG hi]
  have Xi:∀i a b,i<ρ1.n->U'.aW (.sub (sg l m.length i) a b)=ρ1.aW (.sub i a b):=by intro i a b hi;rw[qj]at hi;simp only[U',lA.id,JG hi]
  have LR:∀k:lA,back k.id=none->U'.aW k=ρ.aW k:=by intro k hb;simp only[U',hb]
  have O5:∀id,id<ρ.n->U'.aW (.aA id)=ρ.aW (.aA id):=by
   intro id hid;cases hb:back id with
   |none=>exact LR (.aA id) hb
   |some i=>
    obtain⟨h1,h2⟩:=mh hb;have hi:i<l.length:=Ha (by rw[h2,<-lQ];exact hid)
    rw[<-h2,S5 i (by rw[qj];exact h1),hx.aW i (by show i<m0.length;omega)]
    rfl
  have uZ:∀i,i<ρ1.n->sg l m.length i<U'.n:=by
   intro i hi;rw[qj]at hi;show _<m.length+(m1.length-l.length);rcases aaD i l.length with h|h
   .rw[wG h];have:=rm ha _ (aaP h);omega
   .rw[wH h];omega
  have JH:(tN (sg l m.length) m1).length=m1.length:=by rw[CB];simp
  have Ae:(dA m l (tN (sg l m.length) m1)).length=m.length+(m1.length-l.length):=by
   rw[Bi l m _ (by rw[JH];exact hle),JH]
  have hwn:∀i,i<m1.length->(dA m l (tN (sg l m.length) m1))[sg l m.length i]? =(m1[i]?).map (Bk.aO (sg l m.length)):=by
   intro i hi;rw[Bj l m _ hd ha (by rw[JH];exact hle) i (by rw[JH];exact hi),CB,Rn]
  have hwo:∀j,back j=none->j<m.length+(m1.length-l.length)->(dA m l (tN (sg l m.length) m1))[j]? =m[j]? :=by intro j hb hj;obtain⟨h1,h2⟩:=rn hj hb;exact va l m _ j h1 h2
  have uM:∀k,Live ρ m k->(k.id<m.length->k.id∉l)->(∀k0,Live (ρ.vw (sg l m.length) (λ_=>False) m m0.length) m0 k0->((ρ.vw (sg l m.length) (λ_=>False) m m0.length).aW k0).b≠(ρ.aW k).b):=by
   intro k hk O6 k0 Ad he;have h1:=Xh k0 Ad;have h2:=hM.inj _ _ h1 hk he;have h3:=Ad.it;rw[hl]at h3;apply O6 hk.it;rw[<-h2];cases k0<;>simp only[lA.aO,lA.id]at h3|-<;>rw[wG h3]<;>exact aaP h3
  have nl:∀k,Live ρ m k->(k.id<m.length->k.id∉l)->w'.heap[(ρ.aW k).b]? =w.heap[(ρ.aW k).b]? :=λk hk O6=>hx.frame _ (hM.aF k hk).1 (uM k hk O6)
  have Cg:∀b,ρ.S b->w'.heap[b]? =w.heap[b]? :=λb hb=>hx.frame b (hM.S b hb) λk hk he=>(m5.aF k hk).2 (he▸(hS0 b).2 hb)
  have hSS:∀b,ρ.S b->ρ1.S b:=λb hb=>hx.S b ((hS0 b).2 hb)
  have aaZ:∀k,Live ρ m k->(k.id<m.length->k.id∉l)->¬ρ1.S (ρ.aW k).b:=by
   intro k hk O6 hs;rcases hx.S' _ hs with h|h|⟨k0,Ad,he⟩
   .exact(hM.aF k hk).2 ((hS0 _).1 h)
   .have:=(hM.aF k hk).1;omega
   .exact uM k hk O6 k0 Ad he
  have pY:∀k,Live U' (dA m l (tN (sg l m.length) m1)) k->(∃k1,k1.id<m1.length/\k=k1.aO (sg l m.length)/\Live ρ1 m1 k1/\U'.aW k=ρ1.aW k1)\/(back k.id=none/\k.id<m.length/\k.id∉l/\Live ρ m k/\U'.aW k=ρ.aW k):=by
   intro k hk;have ay:=hk.it;rw[Ae]at ay;cases hb:back k.id with
   |none=>
    obtain⟨h1,h2⟩:=rn ay hb;have Xj:=hwo k.id hb ay;refine .inr ⟨rfl,h1,h2,?_,LR k hb⟩;have da:=LR k hb;cases k with
    |aA id=>
     obtain⟨bk,gV,s9,bF⟩:=hk;simp only[lA.id]at Xj;rw[Xj]at gV;rw[da]at bF;exact⟨bk,gV,s9,bF⟩
    |sub id a b=>
     obtain⟨⟨s,e,es,rows,cs,gV,hi,hj⟩,bF⟩:=hk;simp only[lA.id]at Xj;rw[Xj]at gV;rw[da]at bF;exact⟨⟨s,e,es,rows,cs,gV,hi,hj⟩,bF⟩
   |some i=>
    obtain⟨h1,h2⟩:=mh hb;have Xj:=hwn i h1;cases k with
    |aA id=>
     simp only[lA.id]at h2;subst h2;have da:=S5 i (by rw[qj];exact h1)
     refine .inl ⟨.aA i,h1,rfl,?_,da⟩;obtain⟨bk,gV,s9,bF⟩:=hk;rw[Xj]at gV;obtain⟨b0,h0,rfl⟩:=aba.1 gV;rw[da]at bF;refine⟨b0,h0,?_,?_⟩
     .rintro rfl;exact s9 rfl
     .rintro⟨s,es,rfl⟩;exact bF ⟨_,_,rfl⟩
    |sub id a b=>
     simp only[lA.id]at h2;subst h2;have da:=Xi i a b (by rw[qj];exact h1)
     refine .inl ⟨.sub i a b,h1,rfl,?_,da⟩;obtain⟨⟨s,e,es,rows,cs,gV,hi,hj⟩,bF⟩:=hk;rw[Xj]at gV;obtain⟨b0,h0,wb⟩:=aba.1 gV;rw[da]at bF;cases b0 with
     |row s0 es0=>
      simp only[Bk.aO,Bk.row.injEq]at wb;obtain⟨rfl,rfl⟩:=wb;rw[Rn]at hi;obtain⟨DM,s7,rfl⟩:=aba.1 hi;rw[Rn]at hj;obtain⟨c0,hj0,Jq⟩:=aba.1 hj;have:c0= .jj s e:=by cases c0<;>simp[CC.aO]at Jq|-;exact Jq
      subst this;exact⟨⟨s,e,_,_,_,h0,s7,hj0⟩,bF⟩
     |_=>simp[Bk.aO]at wb
  have afo:∀{j i},back j=some i->i<ρ1.n/\sg l m.length i=j:=λhb=>by rw[qj];exact mh hb
  refine⟨v,r.aO (sg l m.length),dA m l (tN (sg l m.length) m1),U',he,jd,⟨Ae.symm,λb hb=>yy.S b hb,λk hk=>?_,λk k' hk mC o7=>?_,λid b hb=>?_,λid i j esz e ho bF=>?_⟩,cG.aO uZ S5 (λ_ h=>h) xA,
   ⟨by show ρ.n<=_;rw[lQ];exact Nat.le_add_right _ _,O5,hSS,λb hb=>?_,λk hk=>?_,λb hb Zx=>hx.frame b hb λk hk he=>Zx _ (Xh k hk) he,hx.size,hx.os,hx.tape,hx.output⟩⟩
  .rcases pY k hk with⟨k1,_,_,lP,da⟩|⟨_,h1,h2,lP,da⟩
   .rw[da];exact yy.aF k1 lP
   .rw[da];exact⟨abV (hM.aF k lP).1 hx.size,aaZ k lP λ_=>h2⟩
  .have mixed:∀k1 k2,Live ρ1 m1 k1->Live ρ m k2->k2.id∉l->(ρ1.aW k1).b≠(ρ.aW k2).b:=by
    intro k1 k2 lP mC afp pW;rcases hx.aF k1 lP with h|⟨k0,Ad,e0⟩
    .have:=(hM.aF k2 mC).1;omega
    .exact uM k2 mC (λ_=>afp) k0 Ad (e0.trans pW)
   rcases pY k hk with⟨k1,_,rfl,lP,da⟩|⟨_,h1,h2,lP,da⟩<;>rcases pY k' mC with⟨k1',_,rfl,O7,lm⟩|⟨_,S6,VK,O7,lm⟩
   .rw[da,lm]at o7;rw[yy.inj k1 k1' lP O7 o7]
   .rw[da,lm]at o7;exact absurd o7 (mixed k1 k' lP O7 VK)
   .rw[da,lm]at o7;exact absurd o7.symm (mixed k1' k O7 lP h2)
   .rw[da,lm]at o7;exact hM.inj k k' lP O7 o7
  .have ay:id<m.length+(m1.length-l.length):=by rw[<-Ae];exact(Mp.1 hb).1
   cases gV:back id with
   |some i=>
    obtain⟨h1,rfl⟩:=mh gV;rw[hwn i h1]at hb;obtain⟨b0,h0,rfl⟩:=aba.1 hb;exact ft.aO uZ S5 (λ_ h=>h) (by rw[qj];exact h1) (λa b=>Xi i a b (by rw[qj];exact h1)) (yy.bk i b0 h0)
   |none=>
    obtain⟨h1,h2⟩:=rn ay gV;rw[hwo id gV ay]at hb;have yi:=hM.bk id b hb;have da:U'.aW (.aA id)=ρ.aW (.aA id):=LR (.aA id) gV;have eO:ρ.n<=U'.n:=by rw[lQ];exact Nat.le_add_right _ _
    have li:∀{p c u},(∀a i j,p=some (a,i,j)->a=id)->bJ ρ w p c u->bJ U' w' p c u:=λ{p c u}hp hd=>bJ.afk eO O5 (λa i j wu=>by rw[hp a i j wu];exact LR (.sub id i j) gV) hSS Cg hd
    have lj:∀{c u},eU ρ w c u->eU U' w' c u:=by
     intro c u hd;cases c with
     |one c=>exact li (λ_ _ _ h=>by cases h) hd
     |agg cs=>
      obtain⟨vs,hv,D7,hc⟩:=hd;exact⟨vs,hv,D7,λi c hi=>let⟨u,hu,hd⟩:=hc i c hi;⟨u,hu,li (λ_ _ _ h=>by cases h) hd⟩⟩
    have hh:b≠.aE->((∃esz elems,b= .row esz elems)->0<(ρ.aW (.aA id)).cap)->w'.heap[(ρ.aW (.aA id)).b]? =w.heap[(ρ.aW (.aA id)).b]? :=λs9 bF=>nl (.aA id) ⟨b,hb,s9,bF⟩ λ_=>h2
    cases b with
    |aE=>trivial
    |var cs=>
     obtain⟨cur,hc,Cp⟩:=yi;simp only[ft,da];refine⟨cur,hc.cT (hh aG (by rintro⟨_,_,h⟩;cases h)),λj c hj=>?_⟩
     obtain⟨u,hu,cP⟩:=Cp j c hj;exact⟨u,hu,li (λ_ _ _ h=>by cases h) cP⟩
    |row esz elems=>
     obtain⟨g2,g3,g4,g5,cC⟩:=yi;simp only[ft,da];refine⟨g2,g3,g4,g5,λdQ=>?_⟩
     obtain⟨cur,hc,q1,q6⟩:=cC dQ;refine⟨cur,hc.cT (hh aG (λ_=>dQ)),q1,λi cs j c hi hj=>?_⟩
     obtain⟨u,hu,cP⟩:=q6 i cs j c hi hj;exact⟨u,hu,li (λ_ _ _ h=>by cases h;rfl) cP⟩
    |mp es=>
     obtain⟨ae,clock,hc,q1,q2⟩:=yi;simp only[ft,da];refine⟨ae,clock,(hh aG (by rintro⟨_,_,h⟩;cases h)).trans hc,q1,λi e hi=>?_⟩
     obtain⟨ae',hae,Ge,z8⟩:=q2 i e hi;exact⟨ae',hae,Ge,lj z8⟩
  .have hk:Live U' (dA m l (tN (sg l m.length) m1)) (.sub id i j):=⟨⟨_,_,ho⟩,bF⟩;obtain⟨es,rows,cs,hb,hi,hj⟩:=ho;have ay:id<m.length+(m1.length-l.length):=by rw[<-Ae];exact(Mp.1 hb).1
   cases gV:back id with
   |some i0=>
    obtain⟨h1,rfl⟩:=mh gV;have da:=Xi i0 i j (by rw[qj];exact h1)
    rw[da]at bF|-;rw[hwn i0 h1]at hb;obtain⟨b0,h0,wb⟩:=aba.1 hb;cases b0 with
    |row s0 es0=>
     simp only[Bk.aO,Bk.row.injEq]at wb;obtain⟨rfl,rfl⟩:=wb;rw[Rn]at hi;obtain⟨DM,s7,rfl⟩:=aba.1 hi;rw[Rn]at hj;obtain⟨c0,hj0,Jq⟩:=aba.1 hj;have:c0= .jj esz e:=by cases c0<;>simp[CC.aO]at Jq|-;exact Jq
     subst this;exact yy.jj i0 i j esz e ⟨_,_,_,h0,s7,hj0⟩ bF
    |_=>simp[Bk.aO]at wb
   |none=>
    obtain⟨h1,h2⟩:=rn ay gV;have da:=LR (.sub id i j) gV;rw[da]at bF|-;rw[hwo id gV ay]at hb;have ol:ir m id i j esz e:=⟨_,_,_,hb,hi,hj⟩;obtain⟨cur,hc,q1,q2,q3⟩:=hM.jj id i j esz e ol bF;refine⟨cur,hc.cT (nl (.sub id i j) ⟨⟨_,_,ol⟩,bF⟩ λ_=>h2),q1,q2,λi2 R3 j2 d fh mg=>?_⟩
    obtain⟨u,hu,cP⟩:=q3 i2 R3 j2 d fh mg;exact⟨u,hu,cP.mono hSS Cg⟩
  .rcases hx.S' b hb with h|h|⟨k0,Ad,he⟩
   .exact .inl ((hS0 b).1 h)
   .exact .inr (.inl h)
   .exact .inr (.inr ⟨_,Xh k0 Ad,he⟩)
  .rcases pY k hk with⟨k1,_,_,lP,da⟩|⟨_,h1,h2,lP,da⟩
   .rw[da];rcases hx.aF k1 lP with h|⟨k0,Ad,e0⟩
    .exact .inl h
    .exact .inr ⟨_,Xh k0 Ad,e0⟩
   .rw[da];exact .inr ⟨k,lP,rfl⟩
end
section
variable {P:Program}
theorem View.bv{n0:Nat}{e:List CV}{m:Mem}(t esz n:Nat)(hn:m.length=n)(he:lV e t= .rv (.one .bv))(h0:Nat.ble n0 n=true):
  View n0 ⟨e,m⟩ ⟨aZ e t (.rv (.one (.row n esz 0 none))),gC m [.row esz []]⟩:=by
 subst hn;have h0:=aat h0;rw[br,cw];refine⟨by simp;omega,aG,λρ w hM=>?_⟩
 have hn:ρ.n=m.length:=hM.n;let U':b9:={n:=m.length+1,aW:=λk=>if k.id=m.length then⟨0,0,0,0⟩else ρ.aW k,S:=ρ.S}
 have da:∀k:lA,k.id<ρ.n->U'.aW k=ρ.aW k:=λk hk=>by simp only[U'];rw[if_neg om]
 have g:j7 ρ w U' w:=⟨by show ρ.n<=m.length+1;omega,da,λ_ h=>h,λ_ _=>rfl⟩
 have dj:∀k,Live U' (m++ [.row esz []]) k->Live ρ m k:=by
  intro k hk;have ay:=hk.it;simp at ay;cases k with
  |aA id=>
   obtain⟨bk,hb,s9,bF⟩:=hk;simp only[lA.id]at ay;rcases aaD id m.length with h|h
   .rw[aaM h]at hb;rw[da (.aA id) (by simp only[lA.id];omega)]at bF
    exact⟨bk,hb,s9,bF⟩
   .have:id=m.length:=om;subst this;simp at hb;subst hb;have:=bF ⟨_,_,rfl⟩;simp[U',lA.id]at this
  |sub id i j=>
   obtain⟨⟨s,el,es,rows,cs,hb,hi,hj⟩,bF⟩:=hk;simp only[lA.id]at ay;rcases aaD id m.length with h|h
   .rw[aaM h]at hb;rw[da (.sub id i j) (by simp only[lA.id];omega)]at bF
    exact⟨⟨s,el,es,rows,cs,hb,hi,hj⟩,bF⟩
   .have:id=m.length:=om;subst this;simp at hb;obtain⟨_,rfl⟩:=hb;simp at hi
 have lm:∀k,Live ρ m k->U'.aW k=ρ.aW k:=λk hk=>da k (by rw[hn];exact hk.it)
 refine⟨U',⟨by simp[U'],hM.S,λk hk=>?_,λk k' hk jd o7=>?_,λid b hb=>?_,λid i j s el ho bF=>?_⟩,⟨λid hid=>da (.aA id) (by simp only[lA.id];omega),λ_ h=>h,λ_ h=>.inl h,λk hk=>⟨k,dj k hk,(by rw[lm k (dj k hk)])⟩⟩,λi c' hi=>?_⟩
 .rw[lm k (dj k hk)];exact hM.aF k (dj k hk)
 .rw[lm k (dj k hk),lm k' (dj k' jd)]at o7;exact hM.inj k k' (dj k hk) (dj k' jd) o7
 .rcases aaD id m.length with h|h
  .rw[aaM h]at hb;exact(hM.bk id b hb).dg g om λ_ _=>rfl
  .have ay:=(Mp.1 hb).1;simp at ay;have:id=m.length:=om;subst this;simp at hb;subst hb;simp[ft,U',lA.id]
 .have hk:Live ρ m (.sub id i j):=dj (.sub id i j) ⟨⟨_,_,ho⟩,bF⟩;have hid:=hk.it;simp only[lA.id]at hid;rw[lm _ hk]at bF|-;obtain⟨es,rows,cs,hb,hi,hj⟩:=ho;rw[aaM hid]at hb;obtain⟨cur,hc,q1,q2,q3⟩:=hM.jj id i j s el ⟨es,rows,cs,hb,hi,hj⟩ bF;exact⟨cur,hc,q1,q2,q3⟩
 .simp only at hi;have ay:=(Mp.1 hi).1;simp at ay;rw[acy]at hi;split at hi
  .rename_i O8;subst O8;rw[if_pos ay]at hi;cases hi;refine⟨.rv (.one .bv),?_,λv hd=>?_⟩
   .rw[nj,xm ay]at he;rw[xm ay];simpa using he
   .obtain⟨a,rfl⟩:=hd;simp[cG,eU,bJ,U',lA.id]
  .exact⟨c',hi,λv hd=>cG.dg g hd⟩
theorem yC{n0:Nat}{b:LC}{K:Ex->St->Prop}{s:St}{α:Type}(J:α->Prop)(f:α->List (Nat×CV))(M:α->Mem)(μ:α->Nat)(a0:α)(h0:J a0)(start:View n0 s ⟨Eo s.ba (f a0),M a0⟩)(round:∀a,J a->aw P n0 b (Jl n0 J (λa=>⟨Eo s.ba (f a),M a⟩) μ (μ a) K) ⟨Eo s.ba (f a),M a⟩):aw P n0 (.loop b) K s:=
 ⟨α,J,λa=>⟨Eo s.ba (f a),M a⟩,μ,⟨a0,h0,start⟩,round⟩
theorem Bl:∀{cs:List CC}{k:Nat}{c:CC},cs[k]? =some c->kh cs k 1=some [c]
 | [],k,c,h=>by simp at h
 |x::r,0,c,h=>by simp at h;subst h;cases r<;>rfl
 |x::r,k+1,c,h=>by
  show kh r k 1=_;exact Bl (by simpa using h)
theorem o6.bg{Y:Nat->Nat}{m:Mem}{Z:Nat->Prop}{id s:Nat}{es:List (List CC)}{ds:List (List Dt)}(h:es=aa ds):o6 Y m Z id (.row s es) (.row s (aa ds)):=by subst h;have:=o6.LQ (Y:=Y) (m:=m) (Z:=Z) (id:=id) (.row s (aa ds)) aG;rwa [Bk.eQ]at this
theorem fR{F:List Nat}{k:Nat}(h:bh F k=false):¬bh F k=true:=by rw[h];simp
theorem o6.eq{Y:Nat->Nat}{m:Mem}{Z:Nat->Prop}{id:Nat}{b b':Bk}(h:b'.aO Y=b)(hd:b'≠.aE):o6 Y m Z id b b':=h▸ .LQ b' hd
theorem o6.lR{Y:Nat->Nat}{m:Mem}{Z:Nat->Prop}{id:Nat}{cs:List CC}{ds:List Dt}(h:cs=ds.map .ai):o6 Y m Z id (.var cs) (.var (ds.map .ai)):=by subst h;have:=o6.LQ (Y:=Y) (m:=m) (Z:=Z) (id:=id) (.var (ds.map .ai)) aG;simpa[Bk.aO,CC.aO,ad3]using this
theorem ta.hi{Y:Nat->Nat}{m:Mem}{Z:Nat->Prop}{lO id e lo n esz:Nat}{elems:List (List CC)}(hσ:Y id=lO)(hb:dp m lO=some (.row esz elems))(hn:elems.length=n):
  ta Y m Z (.rv (.one (.row lO e lo none))) (.rv (.one (.row id e lo (some n)))):=by
 subst hσ;subst hn;exact .rv (.one (.hi id e lo (by rw[<-aX];exact hb)))
theorem an{p:Prop}{i:Decidable p}{A B:Prop}(ha:p->A)(hb:¬p->B): @Bool.rec (λ_=>Prop) B A (@decide p i):=by
 cases hd: @decide p i
 .exact hb (of_decide_eq_false hd)
 .exact ha (of_decide_eq_true hd)
theorem bc{a b:Int}{A B:Prop}(ha:a=b->A)(hb:a≠b->B): @Bool.rec (λ_=>Prop) B A (a==b):=by
 cases hd:(a==b)
 .exact hb (by simpa using hd)
 .exact ha (by simpa using hd)
theorem bO{a b:Int}{A B:Prop}(ha:a≠b->A)(hb:a=b->B): @Bool.rec (λ_=>Prop) B A (a !=b):=by
 cases hd:(a !=b)
 .exact hb (by simpa using hd)
 .exact ha (by simpa using hd)
theorem ta.dO{Y:Nat->Nat}{m:Mem}{F:List Nat}(id:Nat)(ds:List (List Dt)){esz:Nat}(hz:bh F id=true)(hb:dp m id=some (.row esz (aa ds))):
  ta Y m (λk=>bh F k=true) (.rv (.one (.row id esz 0 none))) (.rv (.one (.ai (.sl esz ds)))):=
 .rv (.one (.dO (cV.db (Z:=λk=>bh F k=true) hz (by rw[<-aX];exact hb) 0 none)))
def VL(i:Nat):List (Nat×CV)->Option CV
 | []=>none
 |(j,x)::r=>match Nat.beq i j with|true=>some x|false=>VL i r
def kpV(eX:List Nat)(f:List (Nat×CV))(i:Nat)(v:CV):CV:=
 match VL i f with
 |some x=>x
 |none=>match bh eX i with|true=>v|false=>.aL
def aa0(eX:List Nat)(f:List (Nat×CV)):Nat->List CV->(List CV->List CV)->List CV
 |_,[],k=>k []
 |i,v::r,k=>fV (kpV eX f i v) λv'=>aa0 eX f (i+1) r λr'=>k (v'::r')
def VM(eX:List Nat)(e:List CV)(f:List (Nat×CV)):List CV:=aa0 eX f 0 e λe=>e
theorem ax{n0:Nat}{b:LC}{K:Ex->St->Prop}{s:St}{α:Type}(J:α->Prop)(eX:List Nat)(f:α->List (Nat×CV))(M:α->Mem)(μ:α->Nat)(a0:α)(h0:J a0)(start:View n0 s ⟨VM eX s.ba (f a0),M a0⟩)(round:∀a,J a->aw P n0 b (Jl n0 J (λa=>⟨VM eX s.ba (f a),M a⟩) μ (μ a) K) ⟨VM eX s.ba (f a),M a⟩):aw P n0 (.loop b) K s:=
 ⟨α,J,λa=>⟨VM eX s.ba (f a),M a⟩,μ,⟨a0,h0,start⟩,round⟩
theorem bW{n0:Nat}{b:LC}{K:Ex->St->Prop}{s:St}(eX:List Nat)(f:List (Nat×CV))(M:Mem)(hv:View n0 s ⟨VM eX s.ba f,M⟩)(h:aw P n0 b K ⟨VM eX s.ba f,M⟩):aw P n0 (.rO b) K s:=⟨_,hv,h⟩
end
theorem View.o{n0:Nat}{e e':List CV}{m m':Mem}(n:Nat)(l F:List Nat)(Aw:i4 (sg l n) m (λk=>bh F k=true) e e')(lE:b8 (sg l n) m (λk=>bh F k=true) 0 m')(hn:m.length=n:=by exact rfl)(hl:m'.length=l.length:=by exact rfl)(h0:Nat.ble n0 l.length=true:=by exact rfl)(hi:G8 l n0=true:=by exact rfl)(hd:iv l=true:=by exact rfl)(ha:eP n l=true:=by exact rfl):View n0 ⟨e,m⟩ ⟨e',m'⟩:=View.of n l F hn hl h0 hi hd ha Aw lE
theorem View.o1{n0:Nat}{e e':List CV}{m m':Mem}(n:Nat)(l F:List Nat)(lE:b8 (sg l n) m (λk=>bh F k=true) 0 m')(hn:m.length=n:=by exact rfl)(hl:m'.length=l.length:=by exact rfl)(h0:Nat.ble n0 l.length=true:=by exact rfl)(hi:G8 l n0=true:=by exact rfl)(hd:iv l=true:=by exact rfl)(ha:eP n l=true:=by exact rfl)(Aw:i4 (sg l n) m (λk=>bh F k=true) e e':=by repeat(first|exact .nil|refine .aL ?_|refine .eq rfl ?_)):View n0 ⟨e,m⟩ ⟨e',m'⟩:=View.of n l F hn hl h0 hi hd ha Aw lE
theorem View.o2{n0:Nat}{e e':List CV}{m m':Mem}(n:Nat)(l F:List Nat)(lE:b8 (sg l n) m (λk=>bh F k=true) 0 m')(hn:m.length=n:=by exact rfl)(hl:m'.length=l.length:=by exact rfl)(h0:Nat.ble n0 l.length=true:=by exact rfl)(hi:G8 l n0=true:=by exact rfl)(hd:iv l=true:=by exact rfl)(ha:eP n l=true:=by exact rfl)(Aw:i4 (sg l n) m (λk=>bh F k=true) e e':=by repeat(first|exact .nil|refine .aL ?_|refine .put (.aO (bC om).symm) ?_|refine .eq rfl ?_)):View n0 ⟨e,m⟩ ⟨e',m'⟩:=View.of n l F hn hl h0 hi hd ha Aw lE
theorem b8.pt{Y:Nat->Nat}{m:Mem}{F:List Nat}{k:Nat}{b b':Bk}{r:Mem}(hz:bh F (Y k)=false)(hb:dp m (Y k)=some b)(hv:o6 Y m (λk=>bh F k=true) (Y k) b b')(h:b8 Y m (λk=>bh F k=true) (k+1) r):b8 Y m (λk=>bh F k=true) k (b' ::r):=.put (fR hz) hb hv h
theorem b8.pe{Y:Nat->Nat}{m:Mem}{F:List Nat}{k:Nat}{b b':Bk}{r:Mem}(hz:bh F (Y k)=false)(hb:dp m (Y k)=some b)(hv:b'.aO Y=b)(h:b8 Y m (λk=>bh F k=true) (k+1) r)(hd:b'≠.aE:=by simp):b8 Y m (λk=>bh F k=true) k (b' ::r):=.put (fR hz) hb (.eq hv hd) h
theorem b8.pm{Y:Nat->Nat}{m:Mem}{F:List Nat}{k:Nat}{b b':Bk}(hz:bh F (Y k)=false)(hb:dp m (Y k)=some b)(hv:b'.aO Y=b)(hd:b'≠.aE:=by simp):b8 Y m (λk=>bh F k=true) k [b']:=.put (fR hz) hb (.eq hv hd) (.nil _)
theorem b8.pr{Y:Nat->Nat}{m:Mem}{F:List Nat}{k:Nat}{esz:Nat}{es:List (List CC)}{ds:List (List Dt)}{r:Mem}(hz:bh F (Y k)=false)(hb:dp m (Y k)=some (.row esz es))(he:es=aa ds)(h:b8 Y m (λk=>bh F k=true) (k+1) r):b8 Y m (λk=>bh F k=true) k (.row esz (aa ds) ::r):=.put (fR hz) hb (.bg he) h
theorem b8.pn{Y:Nat->Nat}{m:Mem}{F:List Nat}{k:Nat}{esz:Nat}{es:List (List CC)}{ds:List (List Dt)}(hz:bh F (Y k)=false)(hb:dp m (Y k)=some (.row esz es))(he:es=aa ds):b8 Y m (λk=>bh F k=true) k [.row esz (aa ds)]:=.put (fR hz) hb (.bg he) (.nil _)
theorem b8.au{Y:Nat->Nat}{m:Mem}{F:List Nat}{r:Mem}(h:b8 Y m (λk=>bh F k=true) 0 r:=by repeat(first|exact .nil _|refine .pr rfl rfl rfl ?_|refine .pe rfl rfl rfl ?_ (by intro h;cases h))):b8 Y m (λk=>bh F k=true) 0 r:=h
theorem aR{P:Program}{f:Nat}{fn:Func}{lf:LF}{args:List CV}{m:Mem}{K:CV->Mem->Prop}(hf:P.funcs[f]? =some fn)(hl:bA P fn=some lf)(h:body P lf args m K)(hn:(fn.name== "runtime.NumGoroutine")=false:=by exact rfl)(hle:Nat.ble args.length lf.n=true:=by exact rfl):aq P f args m K:=mF hf hl hn (aat hle) h
theorem cN{P:Program}{f:Nat}{fn:Func}{lf:LF}{args:List CV}{m:Mem}{K:CV->Mem->Prop}(hf:P.funcs[f]? =some fn)(hl:bA P fn=some lf.er)(h:body P lf args m K)(hn:(fn.name== "runtime.NumGoroutine")=false:=by exact rfl)(hle:Nat.ble args.length lf.n=true:=by exact rfl):aq P f args m K:=jJ hf hl hn (aat hle) h
theorem Dt.O9(d:Dt):1<=d.size:=by
 cases d with
 |val v=>cases v<;>simp[Dt.size]
 |sl e l=>simp[Dt.size]
theorem Dt.LS{l:List Dt}(h:l≠[]):1<=Dt.gW l:=by
 cases l with
 |nil=>exact absurd rfl h
 |cons d r=>simp only[Dt.gW];have:=d.O9;omega
theorem Dt.o8:∀(l:List (List Dt)),(∀e,e∈l->e≠[])->l.length<=Dt.ep l
 | [],_=>aG
 |e::r,h=>by
  have h1:=Dt.LS (h e aG);have h2:=Dt.o8 r λx hx=>h x (by simp[hx])
  simp only[Dt.ep,aaY];omega
theorem ke.ne{ls:List Lf}{ds:List Dt}(h:ke ls ds)(hl:ls≠[]):ds≠[]:=by
 cases h<;>simp_all
theorem vd{α:Type}{es:List Lf}(enc:α->List Dt)(p:α->Prop)(dec:∀e,ke es e->∃a,p a/\e=enc a):∀{elems:List (List Dt)},(∀e,e∈elems->ke es e)->∃l:List α,(∀a,a∈l->p a)/\elems=l.map enc
 | [],_=>⟨[],aG,rfl⟩
 |e::r,h=>by
  obtain⟨a,ha,rfl⟩:=dec e (h e aG);obtain⟨l,hl,rfl⟩:=vd enc p dec (elems:=r) λx hx=>h x (by simp[hx])
  exact⟨a::l,by simpa using⟨ha,hl⟩,rfl⟩
section
variable {P:Program}
def CC.jk:CC->Bool
 | .ai (.val _)=>true
 |_=>false
def CD:List CC->Bool
 | []=>true
 |c::r=>c.jk&&CD r
def RV.jk:RV->Bool
 | .one c=>c.jk
 | .agg cs=>CD cs
def xE:List RV->Bool
 | []=>true
 |c::r=>c.jk&&xE r
def CV.jk:CV->Bool
 | .rv r=>r.jk
 | .bI rs=>xE rs
 |_=>false
theorem yD:∀{l:List CC},CD l=true->∀c,c∈l->c.jk=true
 | [],_,c,h=>by simp at h
 |x::r,h,c,hc=>by
  simp only[CD,aaJ]at h;rcases abH.1 hc with rfl|hc
  .exact h.1
  .exact yD h.2 c hc
theorem wI:∀{l:List RV},xE l=true->∀c,c∈l->c.jk=true
 | [],_,c,h=>by simp at h
 |x::r,h,c,hc=>by
  simp only[xE,aaJ]at h;rcases abH.1 hc with rfl|hc
  .exact h.1
  .exact wI h.2 c hc
theorem CC.kK{ρ U':b9}{w:World}{c:CC}{v:Value}(h:c.jk=true)(hd:bJ ρ w .none c v):bJ U' w .none c v:=by
 cases c with
 |ai d=>
  cases d with
  |val x=>
   cases hd with
   |val v hp=>exact .val _ hp
   |no a=>exact .no a
  |sl=>simp[CC.jk]at h
 |_=>simp[CC.jk]at h
theorem RV.kK{ρ U':b9}{w:World}{c:RV}{v:Value}(h:c.jk=true)(hd:eU ρ w c v):eU U' w c v:=by
 cases c with
 |one c=>exact CC.kK h hd
 |agg cs=>
  obtain⟨vs,rfl,h1,h2⟩:=hd;exact⟨vs,rfl,h1,λi c hi=>let⟨u,hu,hd⟩:=h2 i c hi;⟨u,hu,CC.kK (yD h c (Wm hi)) hd⟩⟩
theorem CV.kK{ρ U':b9}{w:World}{c:CV}{v:Value}(h:c.jk=true)(hd:cG ρ w c v):cG U' w c v:=by
 cases c with
 |rv r=>exact RV.kK h hd
 |bI rs=>
  obtain⟨vs,rfl,h1,h2⟩:=hd;exact⟨vs,rfl,h1,λi c hi=>let⟨u,hu,hd⟩:=h2 i c hi;⟨u,hu,RV.kK (wI h c (Wm hi)) hd⟩⟩
 |_=>simp[CV.jk]at h
theorem yE{f:Nat}{args args0:List CV}{m:Mem}{K0 K:CV->Mem->Prop}(F:List Nat)(h:aq P f args0 [] K0)(ez:i4 (sg [] m.length) m (λk=>bh F k=true) args args0)(hK:∀r m1,K0 r m1->r.jk=true/\K r m):aq P f args m K:=by
 refine⟨h.1,λρ w vs hM wv hvd=>?_⟩
 have ib:∀i,sg [] m.length i<m.length->i<0:=λi h=>by simp[sg,dp]at h;omega
 obtain⟨m5,hC0,_⟩:=xD (n0:=0) (Y:=sg [] m.length) (Z:=λk=>bh F k=true) (m':=[]) hM (λi h=>absurd h (abq i)) (λi j h _ _=>absurd h (abq i)) ib (λi b' h=>by simp at h)
 refine(h.2 _ w vs m5 (wv.trans ez.len.symm) λi c hi=>?_).mono λe w'⟨v,r,m1,ρ1,he,hk,yy,xA,hx⟩=>?_
 .obtain⟨c0,Jq,hv⟩:=ez.get i c hi;obtain⟨v,Al,hd⟩:=hvd i c0 Jq;exact⟨v,Al,hv.mB hM ib hd⟩
 .obtain⟨hp,Ju⟩:=hK r m1 hk;have lQ:∀k,¬Live (ρ.vw (sg [] m.length) (λk=>bh F k=true) m 0) [] k:=λk h=>by have:=h.it;simp at this
  have LN:fu w w':=⟨λb hb=>hx.frame b hb λk hk=>absurd hk (lQ k),hx.size,hx.os,hx.tape,hx.output⟩
  obtain⟨h1,h2⟩:=hM.JF LN;exact⟨v,r,m,ρ,he,Ju,h1,CV.kK hp xA,h2⟩
end
section
variable {P:Program}
theorem CC.tO{Y:Nat->Nat}{c:CC}(h:c.cY=true):c.aO Y=c:=by
 cases c
 case fn f fc=>
  cases fc with
  |nil=>rfl
  |cons c r=>simp[CC.cY]at h
 all_goals first|rfl|simp[CC.cY]at h
theorem RV.tO{Y:Nat->Nat}{r:RV}(h:r.cY=true):r.aO Y=r:=by
 cases r with
 |one c=>exact congrArg RV.one (CC.tO h)
 |agg cs=>
  refine congrArg RV.agg ?_
  conv=>rhs;rw[<-List.map_id cs]
  exact adO λc hc=>CC.tO (adk.1 h c hc)
theorem CV.Eu{Y:Nat->Nat}{v:CV}(h:v.Er=true):v.aO Y=v:=by
 cases v with
 |rv r=>exact congrArg CV.rv (RV.tO h)
 |bI rs=>
  refine congrArg CV.bI ?_
  conv=>rhs;rw[<-List.map_id rs]
  exact adO λc hc=>RV.tO (adk.1 h c hc)
 |_=>rfl
theorem Bk.Pa{Y:Nat->Nat}(ds:List Dt):(Bk.var (ds.map .ai)).aO Y= .var (ds.map .ai):=by simp[Bk.aO,CC.aO,ad3]
theorem Hb{m:Mem}{id:Nat}{b:Bk}(h:dp m id=some b):dA m [id] [b]=m:=by
 rw[aX]at h;simp only[dA,cw,adn,br];exact acq λi=>by
  rw[acy];split
  .rename_i hi;subst hi;have:=(Mp.1 h).1;rw[if_pos this,h]
  .rfl
theorem gN{f:Nat}{args args0:List CV}{m:Mem}{cs:List Dt}{r0:CV}{K:CV->Mem->Prop}(id:Nat)(hb:dp m id=some (.var (cs.map .ai)))(ez:args=args0.map (CV.aO (sg [id] m.length)))(hr:r0.Er=true)(h:∀K:CV->Mem->Prop,K r0 [.var (cs.map .ai)]->aq P f args0 [.var (cs.map .ai)] K)(hK:K r0 m):aq P f args m K:=by
 have hid:id<m.length:=by rw[aX]at hb;exact(Mp.1 hb).1
 refine bi (K0:=λr m1=>r=r0/\m1=[.var (cs.map .ai)]) [id] m.length rfl rfl rfl ?_ ez (λi b' hi=>?_) (h _ ⟨rfl,rfl⟩) (λr m1 DN=>?_)
 .simp[eP,hid]
 .cases i with
  |zero=>
   simp at hi;subst hi;refine .inr ⟨λh=>h,.var (cs.map .ai),?_,.lR rfl⟩
   rw[aX]at hb;exact hb
  |succ i=>simp at hi
 .obtain⟨rfl,rfl⟩:=DN;refine⟨aah _,?_⟩;rw[CV.Eu hr];have:dA m [id] (tN (sg [id] m.length) [.var (cs.map .ai)])=m:=by show dA m [id] [Bk.aO _ _]=m;rw[Bk.Pa];exact Hb hb
  rw[this];exact hK
theorem fX{f:Nat}{args:List CV}{cs:List Dt}{r0:CV}{K:CV->Mem->Prop}(hr:r0.Er=true)(h:aq P f args [.var (cs.map .ai)] λr m=>r=r0/\∃ex,m= .var (cs.map .ai)::ex)(hK:K r0 [.var (cs.map .ai)]):aq P f args [.var (cs.map .ai)] K:=by
 refine bP h λr m1⟨h1,ex,h2⟩=>⟨r0,[.var (cs.map .ai)],?_,hK⟩
 subst h1;subst h2;refine View.of (ex.length+1) [0] [] aG rfl rfl rfl rfl (by simp[eP]) ?_ ?_
 .exact .eq (CV.Eu hr) .nil
 .exact .put (by simp[bh]) rfl (.lR rfl) (.nil _)
theorem o6.ve{Y:Nat->Nat}{m:Mem}{Z:Nat->Prop}{id s:Nat}{R R':List (List CC)}{x y:List CC}(hR:R'.map (λcs=>cs.map (CC.aO Y))=R)(hx:x.length=y.length)(OO:∀(j:Nat)c c',x[j]? =some c->y[j]? =some c'->tL Y m Z (some id) c c'):o6 Y m Z id (.row s (R++ [x])) (.row s (R'++ [y])):=by
 subst hR;refine .row s aG (λi cs fD h1 h2=>?_) (λi cs fD j c c' h1 h2 h3 h4=>?_)
 .rcases aaD i R'.length with h|h
  .rw[aaM (by simpa using h),Rn]at h1
   rw[aaM h]at h2;rw[h2]at h1;cases h1;simp
  .rw[aaO (by simpa using h),P2]at h1
   rw[aaO h]at h2;cases hi:i-R'.length with
   |zero=>
    rw[hi]at h1 h2;cases h1;cases h2;exact hx
   |succ n=>rw[hi]at h1;simp at h1
 .rcases aaD i R'.length with h|h
  .rw[aaM (by simpa using h),Rn]at h1
   rw[aaM h]at h2;rw[h2]at h1;cases h1;rw[Rn,h4]at h3;cases h3;exact .aO c'
  .rw[aaO (by simpa using h),P2]at h1
   rw[aaO h]at h2;cases hi:i-R'.length with
   |zero=>
    rw[hi]at h1 h2;cases h1;cases h2;exact OO j c c' h3 h4
   |succ n=>rw[hi]at h1;simp at h1
theorem b8.Bm{Y:Nat->Nat}{m:Mem}{Z:Nat->Prop}{k:Nat}{b:Bk}{r:Mem}(hz:¬Z (Y k))(hb:dp m (Y k)=some b)(hr:b.aO Y=b)(h:b8 Y m Z (k+1) r):b8 Y m Z k (b::r):=by
 cases b with
 |aE=>exact .aE h
 |_=>exact .put hz hb (.eq hr aG) h
inductive Ev:CC->CC->Prop
 |cT (c:CC):Ev c c
 |bv (s:Nat):Ev .bv (.ai (.sl s []))
 |no:Ev .bv (.ai (.val (.slice none 0 0)))
theorem Ev.mB{c c':CC}(h:Ev c c'){ρ:b9}{w:World}{v:Value}(hd:bJ ρ w none c v):bJ ρ w none c' v:=by
 cases h with
 |cT=>exact hd
 |bv s=>
  obtain⟨a,rfl⟩:=hd;exact .nil s a 0 (aad _)
 |no=>
  obtain⟨a,rfl⟩:=hd;exact .no a
inductive Ew:List CC->List CC->Prop
 |nil:Ew [] []
 |cons {c c':CC} {r r':List CC} (h:Ev c c') (t:Ew r r'):Ew (c::r) (c'::r')
theorem Ew.len{a b:List CC}(h:Ew a b):a.length=b.length:=by
 induction h<;>simp[*]
theorem Ew.get{a b:List CC}(h:Ew a b):∀(i:Nat)c',b[i]? =some c'->∃c,a[i]? =some c/\Ev c c':=by
 induction h with
 |nil=>intro i c' h;simp at h
 |cons h t ih=>
  intro i c' hi;cases i with
  |zero=>simp at hi;subst hi;exact⟨_,rfl,h⟩
  |succ i=>simpa using ih i c' (by simpa using hi)
inductive ln:List CV->List CV->Prop
 |nil:ln [] []
 |cT (c:CV) {r r':List CV} (t:ln r r'):ln (c::r) (c::r')
 |one {c c':CC} {r r':List CV} (h:Ev c c') (t:ln r r'):ln (.rv (.one c)::r) (.rv (.one c')::r')
 |agg {cs fD:List CC} {r r':List CV} (h:Ew cs fD) (t:ln r r'):ln (.rv (.agg cs)::r) (.rv (.agg fD)::r')
theorem ln.len{a b:List CV}(h:ln a b):a.length=b.length:=by
 induction h<;>simp[*]
theorem ln.get{a b:List CV}(h:ln a b):∀(i:Nat)c',b[i]? =some c'->∃c,a[i]? =some c/\∀ρ w v,cG ρ w c v->cG ρ w c' v:=by
 induction h with
 |nil=>intro i c' h;simp at h
 |cT c t ih=>
  intro i c' hi;cases i with
  |zero=>simp at hi;subst hi;exact⟨_,rfl,λ_ _ _ h=>h⟩
  |succ i=>simpa using ih i c' (by simpa using hi)
 |one h t ih=>
  intro i c' hi;cases i with
  |zero=>simp at hi;subst hi;exact⟨_,rfl,λ_ _ _ hd=>h.mB hd⟩
  |succ i=>simpa using ih i c' (by simpa using hi)
 |agg h t ih=>
  intro i c' hi;cases i with
  |zero=>
   simp at hi;subst hi;refine⟨_,rfl,λρ w v hd=>?_⟩
   obtain⟨vs,hv,hl,hc⟩:=hd;exact⟨vs,hv,hl.trans h.len,λi c' hi=>let⟨c,tm,hle⟩:=h.get i c' hi;let⟨u,hu,cP⟩:=hc i c tm;⟨u,hu,hle.mB cP⟩⟩
  |succ i=>simpa using ih i c' (by simpa using hi)
theorem jK{f:Nat}{args jr:List CV}{m:Mem}{K:CV->Mem->Prop}(ha:ln args jr)(h:aq P f jr m K):aq P f args m K:=by
 refine⟨h.1,λρ w vs hM hl hd=>h.2 ρ w vs hM (hl.trans ha.len) λi c' hi=>?_⟩
 obtain⟨c,hc,Gf⟩:=ha.get i c' hi;obtain⟨v,hv,z8⟩:=hd i c hc;exact⟨v,hv,Gf _ _ _ z8⟩
theorem eR{f:Nat}{args jr:List CV}{m m':Mem}{K:CV->Mem->Prop}(hv:View m.length ⟨args,m⟩ ⟨jr,m'⟩)(h:aq P f jr m' K):aq P f args m K:=by
 refine⟨h.1,λρ w vs hM hl hd=>?_⟩
 obtain⟨U',oq,hc,z8⟩:=hv.go ρ w hM;have hlen:jr.length=args.length:=hv.len;refine(h.2 U' w vs oq (hl.trans hlen.symm) λi c' hi=>?_).mono λe w'⟨v,r,m1,ρ1,he,hk,yy,xA,hx⟩=>?_
 .obtain⟨c,Jq,Cp⟩:=z8 i c' hi;obtain⟨v,hv,cL⟩:=hd i c Jq;exact⟨v,hv,Cp v cL⟩
 .have hx0:Ext ρ m w U' m' w:=⟨by rw[hM.n,oq.n];exact hv.hn,λid hid=>hc.aW id (by rw[<-hM.n];exact hid),hc.S,λb hb=>(hc.S' b hb).elim .inl λh=>.inr (.inr h),λk hk=>.inr (hc.aF k hk),λ_ _ _=>rfl,aah _,rfl,rfl,rfl⟩
  exact⟨v,r,m1,ρ1,he,hk,yy,xA,hx0.trans hx⟩
end
def LC.gp:List Nat->LC->LC
 | [],c=>c
 | [0],c=>.rO c
 |0::p,.seq a b=>.seq (a.gp p) b
 |(n+1)::p,.seq a b=>.seq a (b.gp (n::p))
 |0::p,.cond x a b=>.cond x (a.gp p) b
 |(n+1)::p,.cond x a b=>.cond x a (b.gp (n::p))
 |0::p,.block i a=>.block i (a.gp p)
 |0::p,.loop a=>.loop (a.gp p)
 |0::p,.rO a=>.rO (a.gp p)
 |_,c=>c
def aa1(ops:List Oper):Option (Nat×Bool)->Option (Option (Nat×Bool))
 |none=>some none
 |some (j,b)=>match dp ops j with
  |some o=>match o.dst with
   |some d=>some (some (d,b))
   |none=>none
  |none=>none
def Hc(P:Program)(ops:List Oper):List Oper->Option (List LO)
 | []=>some []
 |o::r=>match tj P o,aa1 ops o.guard with
  |some i,some g=>match Hc P ops r with
   |some l=>some (⟨o.dst,i,g⟩::l)
   |none=>none
  |_,_=>none
def yF(P:Program):Code->List (List ng)->Option (LC×List (List ng))
 | .skip,s=>some (.skip,s)
 | .region _ ops true,s=>match s with
  | []=>none
  |t::s=>do some (.jF (<-Hc P ops.toList ops.toList) t,s)
 | .region _ ops false,s=>do some (.DD (<-Hc P ops.toList ops.toList),s)
 | .seq a b,s=>match yF P a s with
  |none=>none
  |some (a,s)=>match yF P b s with
   |none=>none
   |some (b,s)=>some (.seq a b,s)
 | .cond x a b,s=>match bG x,yF P a s with
  |some x,some (a,s)=>match yF P b s with
   |none=>none
   |some (b,s)=>some (.cond x a b,s)
  |_,_=>none
 | .block id b,s=>match yF P b s with
  |none=>none
  |some (b,s)=>some (.block id b,s)
 | .loop b,s=>match yF P b s with
  |none=>none
  |some (b,s)=>some (.loop b,s)
 | .exit id,s=>some (.exit id,s)
 | .ret,s=>some (.ret,s)
 |_,_=>none
def aa2(P:Program)(fn:Func)(g:List (List Nat))(s:List (List ng)):Option LF:=do
 some ⟨fn.ntmps,<-oW P fn.results.toList,g.foldl (λc p=>c.gp p) (<-yF P (<-fn.body) s).1⟩
theorem afq(n:Nat):Int.ofNat (no_index (OfNat.ofNat n))=(OfNat.ofNat n:Int):=rfl
theorem afr:Int.negSucc 0= -1:=rfl
theorem afs{α:Type}(l:List α):Array.mk l=l.toArray:=rfl
abbrev Cq(P:Program)(f:Func)(g:List (List Nat))(s:List (List ng)){c:LF}(_:aa2 P f g s=some c:=by conv=>lhs;reduce;try dsimp only[afq,afr,afs]):LF:=c
end Go.AM
