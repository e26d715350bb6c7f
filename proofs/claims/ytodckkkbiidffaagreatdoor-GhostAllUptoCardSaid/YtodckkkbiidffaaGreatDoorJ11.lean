/- Part 11 of 16. -/
import Derived.Test.YtodckkkbiidffaaGreatDoorJ09
import Derived.Test.YtodckkkbiidffaaGreatDoorJ10
import Derived.Carry
import Derived.ProofKit
set_option linter.unusedVariables false
set_option linter.unusedSimpArgs false
set_option maxRecDepth 100000
set_option maxHeartbeats 0
namespace Go.AM
open Go.ChangeShapes Go.WideShapes Go.ChangeAt Go.RowKit
section
variable {H:Type} {enc:TypeId×Value->H} {P:Program} {W:World}
theorem Uw{ar:Nat}{t:TypeId}{v:Value}{agg:Bool}(ha:ec P t=some agg){d:Nat}{ls:List Lf}(hl:o6 P d t=some ls)(fA:Value.okWide P W .any ar t v):
  (agg=true->∃vs,v= .agg vs)/\(agg=false->v.oneCell'=true):=by
 cases d with
 |zero=>simp[o6]at hl
 |succ d=>
  simp only[o6]at hl;unfold ec at ha;unfold Value.okWide at fA;split at hl
  .rename_i ht;rw[ht]at ha fA;simp at ha;subst ha;refine⟨aC,λ_=>?_⟩
   simp only[Cell.okWide,ht,Cell.ok]at fA;cases v<;>simp_all[Value.oneCell']
  .rename_i k ht;rw[ht]at ha fA;simp at ha;subst ha;refine⟨aC,λ_=>?_⟩
   simp only[Cell.okWide,ht,Cell.ok]at fA;cases v<;>simp_all[Value.oneCell']
  .rename_i ht;rw[ht]at ha fA;simp at ha;subst ha;refine⟨aC,λ_=>?_⟩
   simp only[Cell.okWide,ht,Cell.ok]at fA;cases v<;>simp_all[Value.oneCell']
  .rename_i e ht;rw[ht]at ha fA;simp at ha;subst ha;refine⟨aC,λ_=>?_⟩
   simp only[Cell.okWide,ht,Cell.ok]at fA;cases v<;>simp_all[Value.oneCell']
  .rename_i fs ht;rw[ht]at ha fA;simp at ha;subst ha;obtain⟨cs,rfl,_⟩:=fA;exact⟨λ_=>⟨cs,rfl⟩,aC⟩
  .rename_i n e ht;rw[ht]at ha fA;simp at ha;subst ha;obtain⟨cs,rfl,_⟩:=fA;exact⟨λ_=>⟨cs,rfl⟩,aC⟩
  .cases hl
structure Sh where
 agg:Bool
 ls:List Lf
def JK(P:Program):List TypeId->Option (List Sh)
 | []=>some []
 |t::r=>match ec P t,o6 P 12 t,JK P r with
  |some a,some ls,some r=>some (⟨a,ls⟩::r)
  |_,_,_=>none
inductive zL:List Sh->List (List Dt)->Prop
 |nil:zL [] []
 |cons {s:Sh} {ds:List Dt} {r:List Sh} {l:List (List Dt)} (h:iP s.ls ds) (hr:zL r l):zL (s::r) (ds::l)
def su:List Sh->List (List Dt)->List CV
 |s::r,ds::l=>XD s.agg ds::su r l
 |_,_=>[]
theorem zM(bk:QQ H){ar b2:Nat}:∀(ts:List TypeId)(vs:List Value)(dw:List (DataW H))(ps:List MemPlace)(M8:List Sh),JK P ts=some M8->DataW.TrodAll enc P W ar (λ_=>true) true ts vs dw ps->
  (∀(j:Nat)t v,ts[j]? =some t->vs[j]? =some v->Value.okWide P W .any b2 t v)->
  ∃ra,zL M8 ra/\vs.length=(su M8 ra).length/\(∀(i:Nat)c,(su M8 ra)[i]? =some c->∃v,vs[i]? =some v/\cf (JI W) W c v)/\Dt.dO ra<=l8 bk.f dw
 | [],[],[],ps,M8,hs,h,fA=>by
  simp[JK]at hs;subst hs;exact⟨[],.nil,rfl,by simp[su],by simp[Dt.dO]⟩
 | [],_::_,_,_,_,_,h,_=>by cases h
 | [],[],_::_,_,_,_,h,_=>by cases h
 |_::_,[],_,_,_,_,h,_=>by cases h
 |_::_,_::_,[],_,_,_,h,_=>by cases h
 |t::ts,v::vs,d::dw,ps,M8,hs,h,fA=>by
  obtain⟨p,q,⟨fuel,h1⟩,h2,_⟩:=h;simp only[JK]at hs;split at hs
  .rename_i a ls r ha hl hr;cases hs;obtain⟨ds,f1,r1,s1⟩:=FL bk 12 t ls hl fuel _ _ h1;obtain⟨ra,f2,l2,d2,s2⟩:=zM bk ts vs dw q r hr h2 λj t' v' ht hv=>fA (j+1) t' v' (by simpa using ht) (by simpa using hv)
   obtain⟨g1,g2⟩:=Uw ha hl (fA 0 t v rfl rfl);refine⟨ds::ra,.cons f1 f2,by simp[su,l2],λi c hi=>?_,by simp only[Dt.dO,l8];simp only at s1;omega⟩
   cases i with
   |zero=>
    simp[su]at hi;subst hi;exact⟨v,rfl,M7 r1 g1 g2⟩
   |succ i=>simpa using d2 i c (by simpa[su]using hi)
  .cases hs
theorem zN(hl:laidOutB P=true){W':World}(hb:Below W.heap.size W W'):∀(ts:List TypeId)(vs:List Value)(dw:List (DataW H))(ps:List MemPlace),(ts.all λt=>P.readableRec t&&decide (t<P.types.size))=true->
  DataW.TrodAll enc P W 0 (λ_=>true) true ts vs dw ps->(∀x,x∈ps->x.block<W.heap.size)->DataW.TrodAll enc P W' 0 (λb=>decide (b<W.heap.size)) true ts vs dw ps
 | [],[],[],_,_,h,_=>h
 | [],_::_,_,_,_,h,_=>by cases h
 | [],[],_::_,_,_,h,_=>by cases h
 |_::_,[],_,_,_,h,_=>by cases h
 |_::_,_::_,[],_,_,h,_=>by cases h
 |t::ts,v::vs,d::dw,ps,ht,h,aD=>by obtain⟨p,q,h1,h2,rfl⟩:=h;simp only[List.all_cons,aae,decide_eq_true_eq]at ht;exact⟨p,q,Below.trod hl ht.1.1 ht.1.2 h1 hb (λx hx=>aD x (by simp[hx])),zN hl hb ts vs dw q (by simpa using ht.2) h2 (λx hx=>aD x (by simp[hx])),rfl⟩
theorem A7{f:Nat}{fn:Func}{s:ChangeSpec}{args:Array Value}{ds gs:List (DataW H)}{before:List MemPlace}{ar:Nat}(bk:QQ H)(hl:laidOutB P=true){tb:TypeId}(htb:P.underlying tb=some .bool)(abd:fn.resultTypes= #[tb])(S3:s.vars=[])(HT:∀ds:List (DataW H),ds.length=fn.params.size->s.fn H ds={results:=[.lit (.bool true)],args:=ds}){M8:List Sh}(hsh:JK P fn.params.toList=some M8)(hts:(fn.params.toList.all λt=>P.readableRec t&&decide (t<P.types.size))=true)(walk:∀ra,zL M8 ra->Dt.dO ra<=l8 bk.f ds->aq P f (su M8 ra) [] λr _=>r=aF true)(j7:∀(j:Nat)t v,fn.params[j]? =some t->args[j]? =some v->Value.okWide P W .any ar t v)(hW:DataW.Whole enc P fn.params.toList s.vars false W args.toList ds gs before):
  Calls P f args W λe W'=>∃v,e= .returned v/\s.post enc P fn false true false false W args v W':=by
 have hW':=hW;obtain⟨p,q,hA,hV,rfl,XE,l5⟩:=hW;obtain⟨ra,hf,hlen,cr,dq⟩:=zM bk fn.params.toList args.toList ds p M8 hsh hA λj t v ht hv=>j7 j t v (by simpa using ht) (by simpa using hv)
 have AT:=o5 (u:= .bool true) (walk ra hf dq) W args.toList hlen cr aC (λr m h=>h)
 have aD:∀x,x∈p->x.block<W.heap.size:=λx hx=>by simpa using hW'.lt x (by simp[hx])
 rw[S3]at hV;obtain⟨rfl,rfl⟩:=trodVars_none hV;have my:ds.length=fn.params.size:=by
  have:∀(ts:List TypeId)(vs:List Value)(dw:List (DataW H))(ps:List MemPlace),DataW.TrodAll enc P W 0 (λ_=>true) true ts vs dw ps->dw.length=ts.length:=by
   intro ts
   induction ts with
   |nil=>intro vs dw ps h;obtain⟨_,rfl,_⟩:=trodAll_nil h;rfl
   |cons t ts ih=>
    intro vs dw ps h;obtain⟨v,VR,d,ZC,a,b,rfl,rfl,rfl,h1,h2⟩:=trodAll_cons h;simp[ih _ _ _ h2]
  simpa using this _ _ _ _ hA
 refine AT.mono λe W'⟨he,hb⟩=>?_
 subst he;have hs:s.fn H (ds++ [])={results:=[.lit (.bool true)],args:=ds}:=by rw[abV];exact HT ds my
 refine⟨_,rfl,ds,[],p++ [],[],p,[],hW',?_,?_,?_,hb.frame _,λh=>by cases h⟩
 .rw[hs,abd];exact trodAll_cons_mk (shut_bool htb _) trodAll_mk0
 .rw[hs];exact zN hl hb _ _ _ _ hts hA aD
 .rw[hs,S3];rfl
end
end Go.AM
namespace Go.AM
section
variable {P:Program}
theorem aA.M9{ρ:bJ}{m:Mem}{w w':World}(hM:aA ρ m w)(hw:eP w w'):aA ρ m w'/\Ext ρ m w ρ m w':=by
 have hn:=hM.n;have g:iM ρ w ρ w':=⟨Yj _,λ_ _=>rfl,λ_ h=>h,λb hb=>hw.heap b (hM.S b hb)⟩
 refine⟨⟨hn,λb hb=>aaJ (hM.S b hb) hw.size,λk hk=>⟨aaJ (hM.aO k hk).1 hw.size,(hM.aO k hk).2⟩,hM.inj,λid b hb=>?_,λid i j esz e ho bg=>?_⟩,
  ⟨Yj _,λ_ _=>rfl,λ_ h=>h,λ_ h=>.inl h,λk hk=>.inr ⟨k,hk,rfl⟩,λb hb _=>hw.heap b hb,hw.size,hw.os,hw.tape,hw.output⟩⟩
 .exact(hM.bk id b hb).cn g (by rw[hn];exact(Ki.1 hb).1) λdy bg=>hw.heap _ (hM.aO (.aj id) ⟨b,hb,dy,bg⟩).1
 .exact(hM.ei id i j esz e ho bg).cn g (hw.heap _ (hM.aO (.sub id i j) ⟨⟨esz,e,ho⟩,bg⟩).1)
theorem JL{f:Nat}{args:List CV}{m:Mem}{K0 K:CV->Mem->Prop}(h:aq P f args [] K0)(ha:∀c,c∈args->c.dC=true)(hK:∀r m1,K0 r m1->(r= .rv (.one .aM)/\K (.rv (.one .aM)) m)\/
   ∃id esz elems,r= .rv (.one (.row id esz 0 none))/\m1[id]? =some (.row esz elems)/\(∀cs,cs∈elems->∀c,c∈cs->∃d,c= .ah d)/\
    (∀(i:Nat)cs(j:Nat)d,elems[i]? =some cs->cs[j]? =some (.ah d)->∃v,d= .val v)/\
    K (.rv (.one (.row m.length esz 0 none))) (m++ [.row esz elems])):aq P f args m K:=by
 refine⟨h.1,λρ w vs hM hl hd=>?_⟩
 let ρ0:bJ:={n:=0,aI:=λ_=>⟨0,0,0,0⟩,S:=ρ.S}
 have mr:aA ρ0 [] w:={
  n:=rfl
  S:=hM.S
  aO:=λk h=>by have:=h.eT;simp at this
  inj:=λk k' h=>by have:=h.eT;simp at this
  bk:=λid b h=>by simp at h
  ei:=λid i j esz elems h=>by obtain⟨_,h,_⟩:=h;simp at h}
 refine(h.2 ρ0 w vs mr hl λi c hi=>?_).mono λe w'⟨v,r,m1,ρ1,he,hk,rZ,vD,hx⟩=>?_
 .obtain⟨v,hv,hd⟩:=hd i c hi;exact⟨v,hv,CV.sq (ρ:=ρ) (U':=ρ0) (ha c (Tu hi)) (λ_ h=>h) hd⟩
 .have jT:∀k,¬Live ρ0 [] k:=λk h=>by have:=h.eT;simp at this
  have u9:∀b,b<w.heap.size->w'.heap[b]? =w.heap[b]? :=λb hb=>hx.frame b hb λk hk=>absurd hk (jT k)
  have QR:eP w w':=by
   refine⟨?_,?_,?_,?_,?_⟩;all_goals first|exact hx.size|exact u9|exact hx.os|exact hx.tape|exact hx.output
  rcases hK r m1 hk with⟨rfl,gh⟩|⟨id,esz,elems,rfl,hb,QS,j7,gh⟩
  .obtain⟨ad,rfl⟩:=vD;obtain⟨FH,o7⟩:=hM.M9 QR;exact⟨_,_,m,ρ,he,gh,FH,⟨ad,rfl⟩,o7⟩
  .obtain⟨g1,g2,g3,g4,g5⟩:=rZ.bk id _ hb;obtain⟨q1,q2,q3,q4,q5,ad,rfl,tM⟩:=vD;have hn:=hM.n;let l:=ρ1.aI (.aj id);have df:cK (ρ.push l) w' m.length (.row esz elems):=by
    have bQ:(ρ.push l).aI (.aj m.length)=l:=by rw[<-hn];exact ρ.gi l
    simp only[cK,bQ];refine⟨g1,g2,g3,g4,λhp=>?_⟩
    obtain⟨cur,b8,h7,h8⟩:=g5 hp;refine⟨cur,b8,h7,λi cs j c hi hj=>?_⟩
    obtain⟨u,hu,cz⟩:=h8 i cs j c hi hj;obtain⟨d,rfl⟩:=QS cs (Tu hi) c (Tu hj);obtain⟨v,rfl⟩:=j7 i cs j d hi hj;refine⟨u,hu,?_⟩;cases cz with
    |val _ jY=>exact dj.val _ jY
    |no a=>exact .no a
   have Na:Bk.yP (.row esz elems):=by intro i cs j c hi hj s e hce;obtain⟨d,hd⟩:=QS cs (Tu hi) c (Tu hj);rw[hd]at hce;cases hce
   obtain⟨FH,o7⟩:=hM.SE QR (λbK=>by
    obtain⟨bk,fK,dy,bg⟩:=bK;have XF:0<l.cap:=by rw[hn,Y5 (Yj _)]at fK;simp at fK;have:=bg ⟨esz,elems,fK.symm⟩;rwa [ρ.gi l]at this
    have XG:Live ρ1 m1 (.aj id):=⟨_,hb,aC,λ_=>XF⟩
    refine⟨?_,(rZ.aO _ XG).1⟩;rcases hx.aO _ XG with h|⟨k0,h0,_⟩
    .exact h
    .exact absurd h0 (jT k0)) df Na
   refine⟨_,_,_,_,he,gh,FH,?_,o7⟩;have bQ:(ρ.push l).aI (.aj m.length)=l:=by rw[<-hn];exact ρ.gi l
   refine⟨by simp[bJ.push,hn],?_⟩
   simp only[bQ];exact⟨q2,q3,q4,q5,ad,rfl,tM⟩
end
theorem TY.trans{n0:Nat}{ρ ρ1 ρ2:bJ}{m m1 m2:Mem}(a:TY n0 ρ m ρ1 m1)(b:TY n0 ρ1 m1 ρ2 m2):TY n0 ρ m ρ2 m2 where
 aI id h:=(b.aI id h).trans (a.aI id h)
 S x h:=b.S x (a.S x h)
 S' x h:=by
  rcases b.S' x h with h|⟨k,hk,he⟩
  .exact a.S' x h
  .obtain⟨k0,h0,e0⟩:=a.aO k hk;exact .inr ⟨k0,h0,e0.trans he⟩
 aO k h:=by obtain⟨k1,h1,e1⟩:=b.aO k h;obtain⟨k0,h0,e0⟩:=a.aO k1 h1;exact⟨k0,h0,e0.trans e1⟩
theorem View.trans{n0:Nat}{s s1 s2:St}(a:View n0 s s1)(b:View n0 s1 s2):View n0 s s2:=by
 refine⟨b.hn,b.len.trans a.len,λρ w hM=>?_⟩
 obtain⟨ρ1,rZ,Cq,vD⟩:=a.go ρ w hM;obtain⟨ρ2,FH,wO,yF⟩:=b.go ρ1 w rZ;refine⟨ρ2,FH,Cq.trans wO,λi c' hi=>?_⟩
 obtain⟨c1,Je,h1⟩:=yF i c' hi;obtain⟨c0,vZ,h0⟩:=vD i c1 Je;exact⟨c0,vZ,λv hv=>h1 v (h0 v hv)⟩
def CC.bh(Y:Nat->Nat):CC->CC
 | .ptr id j=>.ptr (Y id) j
 | .nH id e i j=>.nH (Y id) e i j
 | .row id e lo hi=>.row (Y id) e lo hi
 | .map id=>.map (Y id)
 | .fn f eM=>.fn f (eM.map Y)
 |c=>c
def MO.bh(Y:Nat->Nat)(e:MO):MO:=match e with|⟨k,.ei l⟩=>⟨k,.ei l⟩|⟨k,.row n⟩=>⟨k,.row (Y n)⟩
def gv.bh(Y:Nat->Nat):gv->gv
 | .aj id=>.aj (Y id)
 | .sub id i j=>.sub (Y id) i j
inductive FN:Dt->Dt->Prop
 |refl (d:Dt):FN d d
 |no (s:Nat):FN (.val (.slice none 0 0)) (.sl s [])
 |sl (s:Nat) {es bt:List (List Dt)} (hl:es.length=bt.length) (hs:∀(i:Nat)cs fk,es[i]? =some cs->bt[i]? =some fk->cs.length=fk.length)
   (h:∀(i:Nat)cs fk(j:Nat)d d',es[i]? =some cs->bt[i]? =some fk->cs[j]? =some d->fk[j]? =some d'->FN d d'):FN (.sl s es) (.sl s bt)
theorem FN.jR{S:Nat->Prop}{w:World}{d d':Dt}(h:FN d d'):∀{v:Value},dj S w d v->dj S w d' v:=by
 induction h with
 |refl d=>exact λh=>h
 |no s=>
  intro v h;cases h with
  |val _ h=>simp[cu]at h
  |no a=>exact .nil s a 0 (aav _)
 | @sl s es bt hl hs h ih=>
  intro v hd;cases hd with
  |nil _ a cap hc=>
   have:bt=[]:=aaq hl.symm;subst this;exact .nil s a cap hc
  |sl _ _ b off cap u hS oW bg dq hc hd=>
   have get:∀(i:Nat)fk,bt[i]? =some fk->∃cs,es[i]? =some cs:=λi fk hi=>by have:=(Ki.1 hi).1;exact⟨_,vR om⟩
   have XH:∀(i:Nat)cs fk(j:Nat)d',es[i]? =some cs->bt[i]? =some fk->fk[j]? =some d'->∃d,cs[j]? =some d:=λi cs fk j d' hi eQ hj=>by have h1:=(Ki.1 hj).1;have h2:=hs i cs fk hi eQ;exact⟨_,vR om⟩
   rw[hl];refine .sl s bt b off cap u hS om bg (λfk hm=>?_) (λi fk j d' hi hj=>?_) (λi fk j d' hi hj=>?_)
   .obtain⟨i,hi⟩:=aab hm;obtain⟨cs,eL⟩:=get i fk hi;rw[<-hs i cs fk eL hi];exact dq cs (Tu eL)
   .obtain⟨cs,eL⟩:=get i fk hi;obtain⟨d,Ux⟩:=XH i cs fk j d' eL hi hj;exact hc i cs j d eL Ux
   .obtain⟨cs,eL⟩:=get i fk hi;obtain⟨d,Ux⟩:=XH i cs fk j d' eL hi hj;exact ih i cs fk j d d' eL hi Ux hj (hd i cs j d eL Ux)
inductive d6(m:Mem)(Z:Nat->Prop):Option Nat->CC->Dt->Prop
 |ah {p:Option Nat} (d:Dt):d6 m Z p (.ah d) d
 |ei {id:Nat} (s:Nat) (e:List (List Dt)) (hz:Z id):d6 m Z (some id) (.ei s e) (.sl s e)
 |aM {p:Option Nat} (s:Nat):d6 m Z p .aM (.sl s [])
 |no {p:Option Nat}:d6 m Z p .aM (.val (.slice none 0 0))
 |le {p:Option Nat} {d d':Dt} (h:FN d d'):d6 m Z p (.ah d) d'
 |row {p:Option Nat} (id esz lo:Nat) (hi:Option Nat) (elems:List (List CC)) (ds:List (List Dt)) (hz:Z id) (h:m[id]? =some (.row esz elems)) (hl:elems.length=ds.length)
   (hs:∀(i:Nat)cs es,elems[i]? =some cs->ds[i]? =some es->cs.length=es.length)
   (hd:∀(i:Nat)cs es(j:Nat)c d,elems[i]? =some cs->ds[i]? =some es->cs[j]? =some c->es[j]? =some d->d6 m Z (some id) c d):d6 m Z p (.row id esz lo hi) (.sl esz (b7 ds lo hi))
inductive tv(Y:Nat->Nat)(m:Mem)(Z:Nat->Prop):Option Nat->CC->CC->Prop
 |aH {p:Option Nat} (c:CC):tv Y m Z p c .aH
 |bh {p:Option Nat} (c:CC):tv Y m Z p (c.bh Y) c
 |fT {p:Option Nat} {c:CC} {d:Dt} (h:d6 m Z p c d):tv Y m Z p c (.ah d)
 |un {p:Option Nat}:tv Y m Z p (.ah (.val (.slice none 0 0))) .aM
 |hi {p:Option Nat} (id e lo:Nat) {esz:Nat} {elems:List (List CC)} (h:m[Y id]? =some (.row esz elems)):tv Y m Z p (.row (Y id) e lo none) (.row id e lo (some elems.length))
 |lo {p:Option Nat} (id e lo:Nat) {esz:Nat} {elems:List (List CC)} (h:m[Y id]? =some (.row esz elems)):tv Y m Z p (.row (Y id) e lo (some elems.length)) (.row id e lo none)
inductive yH(Y:Nat->Nat)(m:Mem)(Z:Nat->Prop):RV->RV->Prop
 |one {c c':CC} (h:tv Y m Z none c c'):yH Y m Z (.one c) (.one c')
 |agg {cs fk:List CC} (hl:cs.length=fk.length) (h:∀(i:Nat)c c',cs[i]? =some c->fk[i]? =some c'->tv Y m Z none c c'):yH Y m Z (.agg cs) (.agg fk)
inductive rJ(Y:Nat->Nat)(m:Mem)(Z:Nat->Prop):CV->CV->Prop
 |aH (v:CV):rJ Y m Z v .aH
 |undef:rJ Y m Z .undef .undef
 |rv {r r':RV} (h:yH Y m Z r r'):rJ Y m Z (.rv r) (.rv r')
 |bx {rs JH:List RV} (hl:rs.length=JH.length) (h:∀(i:Nat)r r',rs[i]? =some r->JH[i]? =some r'->yH Y m Z r r'):rJ Y m Z (.bx rs) (.bx JH)
inductive mH(Y:Nat->Nat)(m:Mem)(Z:Nat->Prop)(id:Nat):Bk->Bk->Prop
 |var {cs fk:List CC} (h:∀(i:Nat)c',fk[i]? =some c'->∃c,cs[i]? =some c/\tv Y m Z (some id) c c'):mH Y m Z id (.var cs) (.var fk)
 |row (esz:Nat) {es bt:List (List CC)} (hl:es.length=bt.length) (hs:∀(i:Nat)cs fk,es[i]? =some cs->bt[i]? =some fk->cs.length=fk.length)
   (h:∀(i:Nat)cs fk(j:Nat)c c',es[i]? =some cs->bt[i]? =some fk->cs[j]? =some c->fk[j]? =some c'->tv Y m Z (some id) c c'):mH Y m Z id (.row esz es) (.row esz bt)
 |mp {es bt:List ME} (hl:es.length=bt.length) (h:∀(i:Nat)e e',es[i]? =some e->bt[i]? =some e'->e'.key=e.key/\yH Y m Z e.val e'.val):mH Y m Z id (.mp es) (.mp bt)
 |it (cur left:List (Value×Value)):mH Y m Z id (.it cur left) (.it cur left)
 |mo (esz:Nat) (es:List MO) (so:Option (List Nat×Nat)):mH Y m Z id (.mo esz (es.map (MO.bh Y)) so) (.mo esz es so)
 |mo0 (esz:Nat):mH Y m Z id (.mp []) (.mo esz [] none)
 |iw (mid ip:Nat) (seen:List Nat):mH Y m Z id (.iw (Y mid) ip seen) (.iw mid ip seen)
section
variable {n0:Nat} {Y:Nat->Nat} {Z:Nat->Prop} {ρ:bJ} {m:Mem} {w:World}
def bJ.vw(ρ:bJ)(Y:Nat->Nat)(Z:Nat->Prop)(m:Mem)(n:Nat):bJ:=
 {n:=n,aI:=λk=>ρ.aI (k.bh Y),S:=λb=>ρ.S b\/∃k,Live ρ m k/\Z k.id/\(ρ.aI k).b=b}
theorem d6.jR(hM:aA ρ m w){pos:Option (Nat×Nat×Nat)}{p:Option Nat}{c:CC}{d:Dt}(h:d6 m Z p c d)(hp:∀id,p=some id->∀s e,c= .ei s e->∃i j,pos=some (id,i,j)/\dZ m id i j s e){v:Value}(hd:bm ρ w pos c v){n:Nat}:dj (ρ.vw Y Z m n).S w d v:=by
 induction h generalizing pos v with
 |ah d=>exact hd.mono (λ_ h=>.inl h) (λ_ _=>rfl)
 |aM s=>
  obtain⟨a,rfl⟩:=hd;exact .nil s a 0 (aav _)
 |no=>
  obtain⟨a,rfl⟩:=hd;exact .no a
 |le h=>exact(h.jR hd).mono (λ_ h=>.inl h) (λ_ _=>rfl)
 | @ei id s e hz=>
  obtain⟨i,j,yR,kq⟩:=hp id rfl s e rfl;obtain⟨kJ,i',j',zK,q1,q2,a',rfl,q3⟩:=hd;rw[yR]at zK;simp only[aaA,adp]at zK;obtain⟨rfl,rfl,rfl⟩:=zK;rcases abp e.length with he|he
  .rw[aaq he];exact .nil s a' _ om
  .obtain⟨gZ,C0,w1,w2,w3⟩:=hM.ei _ _ _ _ _ kq om;rw[q3 om];have AP:Live ρ m (.sub id i j):=⟨⟨_,_,kq⟩,om⟩;have ky:∀(i2:Nat)cs(j2:Nat)d2,e[i2]? =some cs->cs[j2]? =some d2->∃u,w.cell? ⟨(ρ.aI (.sub id i j)).b,(ρ.aI (.sub id i j)).ar+i2*s+j2,.none⟩=some u/\dj (ρ.vw Y Z m n).S w d2 u:=by
    intro i2 cs j2 d2 eW l4;obtain⟨u,hu,hd⟩:=w3 i2 cs j2 d2 eW l4;exact⟨u,by rw[C0.cell];exact hu,hd.mono (λ_ h=>.inl h) (λ_ _=>rfl)⟩
   exact dj.sl s e _ _ _ (λi2 j2=>(w.cell? ⟨(ρ.aI (.sub id i j)).b,(ρ.aI (.sub id i j)).ar+i2*s+j2,.none⟩).getD Go.undef) (.inr ⟨_,AP,hz,rfl⟩) q1 q2 w2
    (λi2 cs j2 d2 eW l4=>by obtain⟨u,hu,_⟩:=ky i2 cs j2 d2 eW l4;rw[hu];rfl)
    (λi2 cs j2 d2 eW l4=>by obtain⟨u,hu,hd⟩:=ky i2 cs j2 d2 eW l4;rw[hu];exact hd)
 |row id esz lo hi elems ds hz hb hl hs MP ih=>
  obtain⟨h1,h2,h3,h4,h5,a,rfl,ha⟩:=hd;obtain⟨g1,g2,g3,g4,g5⟩:=hM.bk id _ hb;have my:ds.length=(ρ.aI (.aj id)).len:=om;have hlen:(b7 ds lo hi).length=hi.getD (ρ.aI (.aj id)).len-lo:=by
   rw[<-my];exact Dc ds lo hi (by rw[my];exact h2) (by rw[my];exact h3)
  rw[<-hlen];rcases abp (b7 ds lo hi).length with h0|cJ
  .rw[h0,aaq h0];exact .nil esz a _ om
  .have ir:lo<(ρ.aI (.aj id)).cap:=om;obtain⟨cur,b8,dq,dN⟩:=g5 om;rw[ha ir];have key:∀(i:Nat)es(j:Nat)d,(b7 ds lo hi)[i]? =some es->es[j]? =some d->∃u,w.cell? ⟨(ρ.aI (.aj id)).b,(ρ.aI (.aj id)).ar+lo*esz+i*esz+j,.none⟩=some u/\dj (ρ.vw Y Z m n).S w d u:=by
    intro i es j d eQ hj;have eW:=sn ds lo hi i es eQ;have aD:lo+i<elems.length:=by rw[hl];exact(Ki.1 eW).1
    have LJ:=vR aD;have ez:j<elems[lo+i].length:=by rw[hs _ _ _ LJ eW];exact(Ki.1 hj).1
    have S0:=vR ez;obtain⟨u,hu,cz⟩:=dN _ _ _ _ LJ S0;refine⟨u,?_,?_⟩
    .rw[b8.cell,<-hu];congr 1;rw[abk];omega
    .refine ih _ _ _ _ _ _ LJ eW S0 hj ?_ cz;intro kJ hid s e he;cases hid;exact⟨_,_,rfl,_,hb,.row LJ (by rw[S0,he])⟩
   refine dj.sl esz (b7 ds lo hi) _ _ _ (λi j=>(w.cell? ⟨(ρ.aI (.aj id)).b,(ρ.aI (.aj id)).ar+lo*esz+i*esz+j,.none⟩).getD Go.undef) (.inr ⟨.aj id,⟨_,hb,aC,λ_=>om⟩,hz,rfl⟩) om om (λes ol=>?_)
    (λi cs j d eQ hj=>by obtain⟨u,hu,_⟩:=key i cs j d eQ hj;rw[hu];rfl)
    (λi cs j d eQ hj=>by obtain⟨u,hu,hd⟩:=key i cs j d eQ hj;rw[hu];exact hd)
   obtain⟨i,eQ⟩:=aab ol;have eW:=sn ds lo hi i es eQ;have aD:lo+i<elems.length:=by rw[hl];exact(Ki.1 eW).1
   have LJ:=vR aD;rw[<-hs _ _ _ LJ eW];exact g4 _ (aay aD)
theorem tv.jR(hM:aA ρ m w){n:Nat}(gw:∀i,Y i<m.length->i<n){kJ i j:Nat}{pos pos':Option (Nat×Nat×Nat)}{p:Option Nat}(LK:(pos=none/\pos'=none/\p=none)\/(pos=some (Y kJ,i,j)/\pos'=some (kJ,i,j)/\p=some (Y kJ))){c c':CC}(h:tv Y m Z p c c')(kq:∀s e,c= .ei s e->pos=some (Y kJ,i,j)->dZ m (Y kJ) i j s e){v:Value}(hd:bm ρ w pos c v):bm (ρ.vw Y Z m n) w pos' c' v:=by
 cases h with
 |aH c=>exact hd.one
 |un=>
  cases(show dj ρ.S w (.val (.slice none 0 0)) v from hd)with
  |val _ h=>simp[cu]at h
  |no a=>exact⟨a,rfl⟩
 |hi id e lo hb=>
  have hn:=hM.n;obtain⟨g1,_⟩:=hM.bk _ _ hb;obtain⟨h1,h2,h3,h4,h5,a,rfl,ha⟩:=hd;simp only[adm]at h2 h3;refine⟨gw id (by rw[<-hn];exact h1),?_⟩
  simp only[abA,bJ.vw,gv.bh,g1];exact⟨h2,h3,h4,h5,a,rfl,ha⟩
 |lo id e lo hb=>
  have hn:=hM.n;obtain⟨g1,_⟩:=hM.bk _ _ hb;obtain⟨h1,h2,h3,h4,h5,a,rfl,ha⟩:=hd;simp only[abA,g1]at h2 h3;refine⟨gw id (by rw[<-hn];exact h1),?_⟩
  simp only[adm,abA,bJ.vw,gv.bh,g1];exact⟨h2,h3,h4,h5,a,rfl,ha⟩
 |fT h=>
  refine h.jR hM ?_ hd;intro id hid s e he;rcases LK with⟨_,_,rfl⟩|⟨rfl,rfl,rfl⟩
  .cases hid
  .cases hid;exact⟨i,j,rfl,kq s e he rfl⟩
 |bh=>
  have hn:=hM.n;cases c'<;>simp only[CC.bh,bm]at hd|-
  case aH=>exact hd
  case ah=>exact hd.mono (λ_ h=>.inl h) (λ_ _=>rfl)
  case ptr id k=>exact⟨gw id (by rw[<-hn];exact hd.1),hd.2⟩
  case nH id _ _ _=>exact⟨gw id (by rw[<-hn];exact hd.1),hd.2⟩
  case rK=>
   obtain⟨b,off,h1,h2,h3⟩:=hd;refine⟨b,off,h1,.inl h2,λj d hj=>?_⟩
   obtain⟨u,hu,cz⟩:=h3 j d hj;exact⟨u,hu,cz.mono (λ_ h=>.inl h) (λ_ _=>rfl)⟩
  case row id _ _ _=>exact⟨gw id (by rw[<-hn];exact hd.1),hd.2⟩
  case aM=>exact hd
  case map id=>exact⟨gw id (by rw[<-hn];exact hd.1),hd.2⟩
  case fn f eM=>
   refine⟨λid hid=>gw id (by rw[<-hn];exact hd.1 _ (aaz.2 ⟨id,hid,rfl⟩)),?_⟩
   rw[hd.2,abJ];rfl
  case ei s e=>
   obtain⟨a,b,c,h1,h2⟩:=hd;rcases LK with⟨rfl,rfl,rfl⟩|⟨rfl,rfl,rfl⟩
   .cases h1
   .cases h1;exact⟨kJ,i,j,rfl,h2⟩
theorem tv.JM(hM:aA ρ m w){n:Nat}(gw:∀i,Y i<m.length->i<n){c c':CC}(h:tv Y m Z none c c'){v:Value}(hd:bm ρ w none c v):bm (ρ.vw Y Z m n) w none c' v:=
 tv.jR (kJ:=0) (i:=0) (j:=0) hM gw (.inl ⟨rfl,rfl,rfl⟩) h (λ_ _ _ h=>by cases h) hd
theorem yH.jR(hM:aA ρ m w){n:Nat}(gw:∀i,Y i<m.length->i<n){c c':RV}(h:yH Y m Z c c'){v:Value}(hd:dk ρ w c v):dk (ρ.vw Y Z m n) w c' v:=by
 cases h with
 |one h=>exact h.JM hM gw hd
 |agg hl h=>
  obtain⟨vs,rfl,h1,h2⟩:=hd;refine⟨vs,rfl,h1.trans hl,λi c' hi=>?_⟩
  rename_i cs fk;have aD:i<cs.length:=by rw[hl];exact(Ki.1 hi).1
  obtain⟨u,hu,hd⟩:=h2 i _ (vR aD);exact⟨u,hu,(h i _ _ (vR aD) hi).JM hM gw hd⟩
theorem rJ.jR(hM:aA ρ m w){n:Nat}(gw:∀i,Y i<m.length->i<n){c c':CV}(h:rJ Y m Z c c'){v:Value}(hd:cf ρ w c v):cf (ρ.vw Y Z m n) w c' v:=by
 cases h with
 |aH=>trivial
 |undef=>exact hd
 |rv h=>exact h.jR hM gw hd
 |bx hl h=>
  obtain⟨vs,rfl,h1,h2⟩:=hd;refine⟨vs,rfl,h1.trans hl,λi c' hi=>?_⟩
  rename_i cs fk;have aD:i<cs.length:=by rw[hl];exact(Ki.1 hi).1
  obtain⟨u,hu,hd⟩:=h2 i _ (vR aD);exact⟨u,hu,(h i _ _ (vR aD) hi).jR hM gw hd⟩
theorem mH.jR(hM:aA ρ m w){n:Nat}(gw:∀i,Y i<m.length->i<n){id:Nat}{b b':Bk}(hb:m[Y id]? =some b)(h:mH Y m Z (Y id) b b'):cK (ρ.vw Y Z m n) w id b':=by
 have hd:=hM.bk _ _ hb;cases h with
 | @var cs fk h=>
  obtain⟨cur,hc,hd⟩:=hd;refine⟨cur,hc,λj c' hj=>?_⟩
  obtain⟨c,oB,hv⟩:=h j c' hj;obtain⟨u,hu,cz⟩:=hd j c oB;refine⟨u,hu,?_⟩;cases hv with
  |aH c=>exact cz.one
  |bh=>exact tv.JM hM gw (.bh c') cz
  |un=>exact tv.JM hM gw .un cz
  |hi kJ e lo tL=>exact tv.JM hM gw (.hi kJ e lo tL) cz
  |lo kJ e lo tL=>exact tv.JM hM gw (.lo kJ e lo tL) cz
  |fT hf=>exact hf.jR hM (λkJ _ s e he=>by rw[he]at cz;obtain⟨_,_,_,hx,_⟩:=cz;cases hx) cz
 | @row esz es bt hl hs h=>
  obtain⟨h2,h3,h4,h5,b8⟩:=hd;refine⟨hl.symm.trans h2,h3,h4,λfk Mn=>?_,λcJ=>?_⟩
  .obtain⟨i,hi⟩:=aab Mn;have aD:i<es.length:=by rw[hl];exact(Ki.1 hi).1
   rw[<-hs i _ _ (vR aD) hi];exact h5 _ (aay aD)
  .obtain⟨cur,hc,h1,h6⟩:=b8 cJ;refine⟨cur,hc,h1,λi fk j c' hi hj=>?_⟩
   have aD:i<es.length:=by rw[hl];exact(Ki.1 hi).1
   have eQ:=vR aD;have ez:j<es[i].length:=by rw[hs i _ _ eQ hi];exact(Ki.1 hj).1
   have oB:=vR ez;obtain⟨u,hu,cz⟩:=h6 _ _ _ _ eQ oB;refine⟨u,hu,tv.jR (kJ:=id) (i:=i) (j:=j) hM gw (.inr ⟨rfl,rfl,rfl⟩) (h i _ _ j _ _ eQ hi oB hj) (λs e he _=>⟨_,hb,.row eQ (by rw[oB,he])⟩) cz⟩
 |it cur left=>
  obtain⟨mb,seen,ck,bt,h2,h3,h4,h5,h6⟩:=hd;exact⟨mb,seen,ck,bt,h2,h3,.inl h4,h5,h6⟩
 |mo esz es so=>
  obtain⟨ae,clock,hc,⟨h1,h2⟩,h3⟩:=hd;refine⟨ae,clock,hc,⟨by simpa using h1,λi e hi=>?_⟩,h3⟩
  obtain⟨LL,LM,hk,hp,p0⟩:=h2 i (e.bh Y) (by rw[Tr,hi];rfl)
  obtain⟨k,v⟩:=e;cases v with
  |ei l=>
   refine⟨LL,LM,hk,hp,?_⟩;obtain⟨a,b,c,q1,q2⟩:=p0;cases q1;exact⟨id,i,0,rfl,q2⟩
  |row n=>
   refine⟨LL,LM,hk,hp,?_⟩;have hn:=hM.n;exact⟨gw n (by rw[<-hn];exact p0.1),p0.2⟩
 |mo0 esz=>
  obtain⟨ae,clock,hc,h1,h2⟩:=hd;exact⟨ae,clock,hc,⟨h1,aC⟩,aC⟩
 |iw mid ip seen=>
  obtain⟨h1,h2,s,h3,h4⟩:=hd;have hn:=hM.n;exact⟨gw mid (by rw[<-hn];exact h1),h2,s,h3,h4⟩
 | @mp es bt hl h=>
  obtain⟨ae,clock,hc,h1,h2⟩:=hd;refine⟨ae,clock,hc,h1.trans hl,λi e' hi=>?_⟩
  have aD:i<es.length:=by rw[hl];exact(Ki.1 hi).1
  obtain⟨LL,LM,hk,p0⟩:=h2 i _ (vR aD);obtain⟨gh,hv⟩:=h i _ _ (vR aD) hi;exact⟨LL,LM,hk.trans gh.symm,hv.jR hM gw p0⟩
theorem Live.S4{ρ:bJ}{m:Mem}{k:gv}(h:Live ρ m k):m[k.id]? ≠some .aU:=by
 cases k with
 |aj id=>obtain⟨bk,h1,h2,_⟩:=h;intro e;rw[gv.id,h1]at e;cases e;exact h2 rfl
 |sub id i j=>obtain⟨⟨s,e,bk,h1,ho⟩,_⟩:=h;intro e;rw[gv.id,h1]at e;cases e;cases ho
theorem wb{m':Mem}(hM:aA ρ m w)(jZ:∀i,i<n0->Y i=i)(oX:∀i j,i<m'.length->j<m'.length->m'[i]? ≠some .aU->m'[j]? ≠some .aU->Y i=Y j->i=j)(gw:∀i,Y i<m.length->i<m'.length)(iv:∀(i:Nat)b',m'[i]? =some b'->b'= .aU\/(¬Z (Y i)/\∃b,m[Y i]? =some b/\mH Y m Z (Y i) b b')):
  aA (ρ.vw Y Z m m'.length) m' w/\TY n0 ρ m (ρ.vw Y Z m m'.length) m'/\∀k,Live (ρ.vw Y Z m m'.length) m' k->Live ρ m (k.bh Y):=by
 have kq:∀{id i j s1 e},dZ m' id i j s1 e->¬Z (Y id)/\dZ m (Y id) i j s1 e:=by
  rintro id i j s1 e ⟨b',tL,fl⟩;rcases iv id _ tL with h|⟨hz,b,hb,hv⟩
  .subst h;cases fl
  .cases hv with
   |var=>cases fl
   |mp=>cases fl
   |it=>cases fl
   |iw=>cases fl
   |mo0=>obtain⟨k,hi,_⟩:=fl.Sz;simp at hi
   |mo esz es so=>
    obtain⟨k,hi,rfl,rfl⟩:=fl.Sz;exact⟨hz,_,hb,.mo (k:=k) (by rw[Tr,hi];rfl)⟩
   | @row _ es _ hl hs h=>
    obtain⟨fk,eQ,oB⟩:=fl.yL;have aD:i<es.length:=by rw[hl];exact(Ki.1 eQ).1
    have hi:=vR aD;have ez:j<es[i].length:=by rw[hs i _ _ hi eQ];exact(Ki.1 oB).1
    have hj:=vR ez;have hv:=h i _ _ j _ _ hi eQ hj oB;have hc:es[i][j]= .ei s1 e:=by
     generalize es[i][j]=c at hv;cases hv with
     |bh=>rfl
    exact⟨hz,_,hb,.row hi (by rw[hj,hc])⟩
 have b9:∀k,Live (ρ.vw Y Z m m'.length) m' k->¬Z (Y k.id)/\Live ρ m (k.bh Y):=by
  intro k hk;cases k with
  |aj k=>
   obtain⟨b',tL,l5,bg⟩:=hk;rcases iv k _ tL with h|⟨hz,b,hb,hv⟩
   .exact absurd h l5
   .refine⟨hz,b,hb,?_,?_⟩
    .rintro rfl;cases hv
    .rintro⟨esz,es,rfl⟩;cases hv with
     |row=>exact bg ⟨_,_,rfl⟩
  |sub k i j=>
   obtain⟨⟨esz,e,ho⟩,bg⟩:=hk;exact⟨(kq ho).1,⟨_,_,(kq ho).2⟩,bg⟩
 refine⟨⟨rfl,?_,λk hk=>?_,λk k' hk gh he=>?_,λid b' tL=>?_,λid i j esz e ho bg=>?_⟩,⟨λid hid=>?_,λb h=>.inl h,?_,λk hk=>⟨_,(b9 k hk).2,rfl⟩⟩,λk hk=>(b9 k hk).2⟩
 .rintro b (hb|⟨k,hk,_,rfl⟩)
  .exact hM.S b hb
  .exact(hM.aO k hk).1
 .obtain⟨hz,hl⟩:=b9 k hk;refine⟨(hM.aO _ hl).1,?_⟩;rintro(hb|⟨k0,H2,EL,he⟩)
  .exact(hM.aO _ hl).2 hb
  .have:=hM.inj k0 (k.bh Y) H2 hl he;subst this;apply hz;cases k<;>exact EL
 .have zs:=hk.eT;have XI:=gh.eT;have vD:=hk.S4;have yF:=gh.S4;have:=hM.inj _ _ (b9 k hk).2 (b9 k' gh).2 he;cases k<;>cases k'<;>simp only[gv.bh,gv.aj.injEq,gv.sub.injEq,gv.id,reduceCtorEq]at this zs XI vD yF
  .rw[oX _ _ zs XI vD yF this]
  .obtain⟨h1,rfl,rfl⟩:=this;rw[oX _ _ zs XI vD yF h1]
 .rcases iv id b' tL with rfl|⟨hz,b,hb,hv⟩
  .trivial
  .exact mH.jR hM gw hb hv
 .obtain⟨cur,hc,h1,h2,h3⟩:=hM.ei _ _ _ _ _ (kq ho).2 bg;refine⟨cur,hc,h1,h2,λi2 cs j2 d eW l4=>?_⟩
  obtain⟨u,hu,cz⟩:=h3 i2 cs j2 d eW l4;exact⟨u,hu,cz.mono (λ_ h=>.inl h) (λ_ _=>rfl)⟩
 .show ρ.aI (.aj (Y id))=_;rw[jZ id hid]
 .rintro b (hb|⟨k,hk,_,he⟩)
  .exact .inl hb
  .exact .inr ⟨k,hk,he⟩
theorem View.mk'{s s':St}(Y:Nat->Nat)(Z:Nat->Prop)(HK:n0<=s'.mem.length)(hlen:s'.aZ.length=s.aZ.length)(jZ:∀i,i<n0->Y i=i)(oX:∀i j,i<s'.mem.length->j<s'.mem.length->Y i=Y j->i=j)(gw:∀i,Y i<s.mem.length->i<s'.mem.length)(o8:∀(i:Nat)c',s'.aZ[i]? =some c'->∃c,s.aZ[i]? =some c/\rJ Y s.mem Z c c')(iv:∀(i:Nat)b',s'.mem[i]? =some b'->b'= .aU\/(¬Z (Y i)/\∃b,s.mem[Y i]? =some b/\mH Y s.mem Z (Y i) b b')):View n0 s s':=by
 refine⟨HK,hlen,λρ w hM=>?_⟩
 obtain⟨h1,h2,_⟩:=wb (n0:=n0) (Y:=Y) (Z:=Z) hM jZ (λi j a b _ _=>oX i j a b) gw iv
 refine⟨_,h1,h2,λi c' hi=>?_⟩
 obtain⟨c,hc,hv⟩:=o8 i c' hi;exact⟨c,hc,λv hd=>hv.jR hM gw hd⟩
theorem View.mk2{s s':St}(Y:Nat->Nat)(HK:n0<=s'.mem.length)(hlen:s'.aZ.length=s.aZ.length)(jZ:∀i,i<n0->Y i=i)(oX:∀i j,i<s'.mem.length->j<s'.mem.length->s'.mem[i]? ≠some .aU->s'.mem[j]? ≠some .aU->Y i=Y j->i=j)(gw:∀i,Y i<s.mem.length->i<s'.mem.length)(o8:∀(i:Nat)c',s'.aZ[i]? =some c'->∃c,s.aZ[i]? =some c/\rJ Y s.mem (λ_=>False) c c')(iv:∀(i:Nat)b',s'.mem[i]? =some b'->b'= .aU\/∃b,s.mem[Y i]? =some b/\mH Y s.mem (λ_=>False) (Y i) b b'):View n0 s s':=by
 refine⟨HK,hlen,λρ w hM=>?_⟩
 obtain⟨h1,h2,_⟩:=wb (n0:=n0) (Y:=Y) (Z:=λ_=>False) hM jZ oX gw (λi b' h=>(iv i b' h).imp id λh=>⟨λh=>h,h⟩)
 refine⟨_,h1,h2,λi c' hi=>?_⟩
 obtain⟨c,hc,hv⟩:=o8 i c' hi;exact⟨c,hc,λv hd=>hv.jR hM gw hd⟩
end
section
variable {P:Program} {n0:Nat} {Y:Nat->Nat} {Z:Nat->Prop} {ρ:bJ} {m:Mem} {w:World}
def sg(l:List Nat)(n:Nat)(i:Nat):Nat:=match cF l i with|some x=>x|none=>n+(i-l.length)
def bD:List Nat->Nat->Bool
 | [],_=>false
 |x::r,k=>Nat.beq x k||bD r k
def fL:List Nat->Bool
 | []=>true
 |x::r=>!(bD r x)&&fL r
def eR(n:Nat):List Nat->Bool
 | []=>true
 |x::r=>Nat.blt x n&&eR n r
def Dg(l:List Nat):Nat->Bool
 |0=>true
 |k+1=>(match cF l k with|some x=>Nat.beq x k|none=>false)&&Dg l k
theorem xf:∀{l:List Nat}{k:Nat},bD l k=true↔k∈l
 | [],k=>by simp[bD]
 |x::r,k=>by
  simp only[bD,ab0,aaL,xf];constructor
  .rintro(h|h)
   .exact .inl (aau h).symm
   .exact .inr h
  .rintro(rfl|h)
   .exact .inl (adL _)
   .exact .inr h
theorem xg:∀{l:List Nat},fL l=true->∀i j:Nat,i<l.length->j<l.length->l[i]? =l[j]? ->i=j
 | [],_,i,j,hi,_,_=>by simp at hi
 |x::r,h,i,j,hi,hj,he=>by
  simp only[fL,aae,abU]at h;have hx:∀k:Nat,r[k]? ≠some x:=λk hk=>by have:=xf.2 (Tu hk);rw[h.1]at this;cases this
  cases i with
  |zero=>
   cases j with
   |zero=>rfl
   |succ j=>simp at he;exact absurd he.symm (hx j)
  |succ i=>
   cases j with
   |zero=>simp at he;exact absurd he (hx i)
   |succ j=>
    simp at he hi hj;rw[xg h.2 i j hi hj he]
theorem nf{n:Nat}:∀{l:List Nat},eR n l=true->∀x,x∈l->x<n
 | [],_,x,hx=>by simp at hx
 |y::r,h,x,hx=>by
  simp only[eR,aae]at h;rcases aaL.1 hx with rfl|hx
  .exact aap h.1
  .exact nf h.2 x hx
theorem sx{l:List Nat}:∀{k:Nat},Dg l k=true->∀i,i<k->l[i]? =some i
 |0,_,i,hi=>om
 |k+1,h,i,hi=>by
  simp only[Dg,aae]at h;rcases aag i k with h1|h1
  .exact sx h.2 i h1
  .have:i=k:=om;subst this;rw[<-aV];cases hn:cF l i with
   |none=>rw[hn]at h;simp at h
   |some x=>rw[hn]at h;simp only at h;rw[aau h.1]
theorem ng{l:List Nat}{n i:Nat}(h:i<l.length):sg l n i=l[i]:=by simp[sg,aV,vR h]
theorem sy{l:List Nat}{n i:Nat}(h:l.length<=i):sg l n i=n+(i-l.length):=by simp[sg,aV,aaH h]
theorem A8{l:List Nat}{n:Nat}(hd:fL l=true)(hl:eR n l=true){i j:Nat}(h:sg l n i=sg l n j):i=j:=by
 rcases aag i l.length with hi|hi<;>rcases aag j l.length with hj|hj
 .rw[ng hi,ng hj]at h;exact xg hd i j hi hj (by rw[vR hi,vR hj,h])
 .rw[ng hi,sy hj]at h;have:=nf hl _ (aay hi);omega
 .rw[sy hi,ng hj]at h;have:=nf hl _ (aay hj);omega
 .rw[sy hi,sy hj]at h;omega
def RV.bh(Y:Nat->Nat):RV->RV
 | .one c=>.one (c.bh Y)
 | .agg cs=>.agg (cs.map (CC.bh Y))
def CV.bh(Y:Nat->Nat):CV->CV
 | .rv r=>.rv (r.bh Y)
 | .bx rs=>.bx (rs.map (RV.bh Y))
 | .aH=>.aH
 | .undef=>.undef
def Bk.bh(Y:Nat->Nat):Bk->Bk
 | .aU=>.aU
 | .var cs=>.var (cs.map (CC.bh Y))
 | .row s es=>.row s (es.map λcs=>cs.map (CC.bh Y))
 | .mp es=>.mp (es.map λe=>⟨e.key,e.val.bh Y⟩)
 | .it cur left=>.it cur left
 | .mo esz es so=>.mo esz (es.map (MO.bh Y)) so
 | .iw mid ip seen=>.iw (Y mid) ip seen
theorem yH.bh(r:RV):yH Y m Z (r.bh Y) r:=by
 cases r with
 |one c=>exact .one (.bh c)
 |agg cs=>
  refine .agg aC λi c c' h h'=>?_
  rw[Tr,h']at h;cases h;exact .bh c'
theorem rJ.FO(v:CV):rJ Y m Z (v.bh Y) v:=by
 cases v with
 |rv r=>exact .rv (.bh r)
 |bx rs=>
  refine .bx aC λi c c' h h'=>?_
  rw[Tr,h']at h;cases h;exact .bh c'
 |aH=>exact .aH _
 |undef=>exact .undef
theorem rJ.bh{v v':CV}(h:v'.bh Y=v):rJ Y m Z v v':=h▸ .FO v'
theorem mH.FO{id:Nat}(b:Bk)(hb:b≠.aU):mH Y m Z id (b.bh Y) b:=by
 cases b with
 |aU=>exact absurd rfl hb
 |var cs=>
  refine .var λi c' h=>⟨c'.bh Y,by rw[Tr,h];rfl,.bh c'⟩
 |row s es=>
  refine .row s aC (λi cs fk h h'=>?_) λi cs fk j c c' h h' g g'=>?_
  .rw[Tr,h']at h;cases h;simp
  .rw[Tr,h']at h;cases h;rw[Tr,g']at g;cases g;exact .bh c'
 |mp es=>
  refine .mp aC λi e e' h h'=>?_
  rw[Tr,h']at h;cases h;exact⟨rfl,.bh _⟩
 |it cur left=>exact .it cur left
 |mo esz es so=>exact .mo esz es so
 |iw mid ip seen=>exact .iw mid ip seen
theorem qk.S5{Y:Nat->Nat}{b:Bk}{i j s:Nat}{e:List (List Dt)}(h:qk (b.bh Y) i j s e):qk b i j s e:=by
 cases b with
 |row s0 es0=>
  obtain⟨cs,hi,hj⟩:=h.yL;rw[Tr]at hi;obtain⟨De,vZ,rfl⟩:=aaB.1 hi;rw[Tr]at hj;obtain⟨c0,hj0,Mu⟩:=aaB.1 hj;have:c0= .ei s e:=by cases c0<;>simp[CC.bh]at Mu|-;exact Mu
  subst this;exact .row vZ hj0
 |mo esz es so=>
  obtain⟨k,hi,rfl,rfl⟩:=h.Sz;rw[Tr]at hi;obtain⟨e0,vZ,he⟩:=aaB.1 hi;obtain⟨k0,v0⟩:=e0;cases v0 with
  |ei l=>simp only[MO.bh,MO.mk.injEq,MV.ei.injEq]at he;obtain⟨rfl,rfl⟩:=he;exact .mo vZ
  |row n=>simp[MO.bh]at he
 |_=>cases h
def aa(ds:List (List Dt)):List (List CC):=ds.map λes=>es.map .ah
theorem dF(ds:List (List Dt)):(aa ds).map (λcs=>cs.map (CC.bh Y))=aa ds:=by simp[aa,CC.bh]
theorem Bk.jG(s:Nat)(ds:List (List Dt)):(Bk.row s (aa ds)).bh Y= .row s (aa ds):=by simp only[Bk.bh,dF]
theorem d6.fg{p:Option Nat}{id esz:Nat}{ds:List (List Dt)}(hz:Z id)(h:m[id]? =some (.row esz (aa ds)))(lo:Nat)(hi:Option Nat):d6 m Z p (.row id esz lo hi) (.sl esz (b7 ds lo hi)):=by
 refine .row id esz lo hi _ ds hz h (by simp[aa]) (λi cs es h1 h2=>?_) λi cs es j c d h1 h2 h3 h4=>?_
 .simp only[aa,Tr,h2,aaG,aaA]at h1;subst h1;simp
 .simp only[aa,Tr,h2,aaG,aaA]at h1;subst h1;simp only[Tr,h4,aaG,aaA]at h3;subst h3;exact .ah d
inductive iC(Y:Nat->Nat)(m:Mem)(Z:Nat->Prop):List CV->List CV->Prop
 |nil:iC Y m Z [] []
 |aH {v:CV} {e e':List CV} (h:iC Y m Z e e'):iC Y m Z (v::e) (.aH::e')
 |put {v v':CV} {e e':List CV} (hv:rJ Y m Z v v') (h:iC Y m Z e e'):iC Y m Z (v::e) (v'::e')
theorem iC.len{e e':List CV}(h:iC Y m Z e e'):e'.length=e.length:=by
 induction h<;>simp[*]
theorem iC.get{e e':List CV}(h:iC Y m Z e e'):∀(i:Nat)c',e'[i]? =some c'->∃c,e[i]? =some c/\rJ Y m Z c c':=by
 induction h with
 |nil=>intro i v h;simp at h
 |aH h ih=>
  intro i v hv;cases i with
  |zero=>simp at hv;subst hv;exact⟨_,rfl,.aH _⟩
  |succ i=>simpa using ih i v (by simpa using hv)
 |put hx h ih=>
  intro i v hv;cases i with
  |zero=>simp at hv;subst hv;exact⟨_,rfl,hx⟩
  |succ i=>simpa using ih i v (by simpa using hv)
theorem iC.eq{v v':CV}{e e':List CV}(hv:v'.bh Y=v)(h:iC Y m Z e e'):iC Y m Z (v::e) (v'::e'):= .put (.bh hv) h
inductive eI(Y:Nat->Nat)(m:Mem)(Z:Nat->Prop):Nat->Mem->Prop
 |nil (k:Nat):eI Y m Z k []
 |aU {k:Nat} {r:Mem} (h:eI Y m Z (k+1) r):eI Y m Z k (.aU::r)
 |put {k:Nat} {b b':Bk} {r:Mem} (hz:¬Z (Y k)) (hb:cF m (Y k)=some b) (hv:mH Y m Z (Y k) b b') (h:eI Y m Z (k+1) r):eI Y m Z k (b'::r)
theorem eI.get{k:Nat}{m':Mem}(h:eI Y m Z k m'):∀(i:Nat)b',m'[i]? =some b'->b'= .aU\/(¬Z (Y (k+i))/\∃b,m[Y (k+i)]? =some b/\mH Y m Z (Y (k+i)) b b'):=by
 induction h with
 |nil k=>intro i b' h;simp at h
 | @aU k r h ih=>
  intro i b' hi;cases i with
  |zero=>simp at hi;exact .inl hi.symm
  |succ i=>
   have:=ih i b' (by simpa using hi)
   rwa [show k+1+i=k+(i+1) by omega]at this
 | @put k b b1 r hz hb hv h ih=>
  intro i b' hi;cases i with
  |zero=>simp at hi;subst hi;exact .inr ⟨hz,_,by rw[<-aV];exact hb,hv⟩
  |succ i=>
   have:=ih i b' (by simpa using hi)
   rwa [show k+1+i=k+(i+1) by omega]at this
theorem View.of{e e':List CV}{m m':Mem}(n:Nat)(l F:List Nat)(hn:m.length=n)(hl:m'.length=l.length)(h0:Nat.ble n0 l.length=true)(hi:Dg l n0=true)(hd:fL l=true)(ha:eR n l=true)(o8:iC (sg l n) m (λk=>bD F k=true) e e')(iv:eI (sg l n) m (λk=>bD F k=true) 0 m'):View n0 ⟨e,m⟩ ⟨e',m'⟩:=by
 have h0':n0<=l.length:=aap h0;refine View.mk' (sg l n) _ (by simp only;omega) o8.len (λi aD=>?_) (λi j _ _ h=>A8 hd ha h) (λi aD=>?_) (λi c' h=>o8.get i c' h) (λi b' h=>by have:=iv.get i b' h;simpa using this)
 .rw[ng om];have:=sx hi i aD;rw[vR om]at this;simpa using this
 .rcases aag i l.length with h|h
  .simp only;omega
  .rw[sy h]at aD;simp only at aD;omega
theorem View.of2{e e':List CV}{m m':Mem}(n x:Nat)(l:List Nat)(hn:m.length=n)(hl:m'.length=l.length+1)(h0:Nat.ble n0 l.length=true)(hi:Dg l n0=true)(hd:fL l=true)(ha:eR n l=true)(hx:Nat.blt x n0=true)(js:cF m' x=some .aU)(o8:iC (sg (gI l [x]) n) m (λk=>bD [] k=true) e e')(iv:eI (sg (gI l [x]) n) m (λk=>bD [] k=true) 0 m'):View n0 ⟨e,m⟩ ⟨e',m'⟩:=by
 have h0':n0<=l.length:=aap h0;have tK:x<n0:=aap hx;have hxl:l[x]? =some x:=sx hi x tK;have hxn:x<n:=nf ha x (Tu hxl);rw[cg]at o8 iv;rw[aV]at js;have hz:(λk=>bD [] k=true)=λ_=>False:=by funext k;simp[bD]
 rw[hz]at o8 iv;have hL:(l++ [x]).length=l.length+1:=aC;have old:∀i,i<l.length->sg (l++ [x]) n i=sg l n i:=λi h=>by rw[ng om,ng h,List.getElem_append_left h]
 have new:sg (l++ [x]) n l.length=x:=by rw[ng om];simp
 refine View.mk2 (sg (l++ [x]) n) (by simp only;omega) o8.len (λi aD=>?_) (λi j Je yX EM Ux h=>?_) (λi aD=>?_) (λi c' h=>o8.get i c' h) (λi b' h=>by have:=iv.get i b' h;simpa using this)
 .rw[old i om,ng om];have:=sx hi i aD;rw[vR om]at this;simpa using this
 .have key:∀i,i<l.length->m'[i]? ≠some .aU->sg (l++ [x]) n i=x->False:=by
   intro i h EM he;rw[old i h]at he;have:sg l n i=sg l n x:=by rw[he,ng om];rw[vR om]at hxl;simpa using hxl.symm
   have:=A8 hd ha this;subst this;exact EM js
  simp only at Je yX EM Ux;rw[hl]at Je yX;by_cases h1:i=l.length<;>by_cases h2:j=l.length
  .rw[h1,h2]
  .rw[h1,new]at h;exact(key j om Ux h.symm).elim
  .rw[h2,new]at h;exact(key i om EM h).elim
  .rw[old i om,old j om]at h;exact A8 hd ha h
 .rcases aag i (l.length+1)with h|h
  .simp only;omega
  .rw[sy om]at aD;simp only at aD;omega
theorem bL{f:Nat}{args:List CV}{m:Mem}{K0 K:CV->Mem->Prop}(h:aq P f args m K0)(hK:∀r m1,K0 r m1->∃r' m',View m.length ⟨[r],m1⟩ ⟨[r'],m'⟩/\K r' m'):aq P f args m K:=by
 refine⟨h.1,λρ w vs hM hl hd=>?_⟩
 refine(h.2 ρ w vs hM hl hd).mono λe w'⟨v,r,m1,ρ1,he,hk,rZ,vD,hx⟩=>?_
 obtain⟨r',m',hv,gh⟩:=hK r m1 hk;obtain⟨U',jl,hc,p0⟩:=hv.go ρ1 w' rZ;have hn:=hM.n;refine⟨v,r',m',U',he,gh,jl,?_,⟨by rw[hn,jl.n];exact hv.hn,λid hid=>(hc.aI id (by rw[<-hn];exact hid)).trans (hx.aI id hid),λb hb=>hc.S b (hx.S b hb),λb hb=>?_,λk hk=>?_,hx.frame,hx.size,hx.os,hx.tape,hx.output⟩⟩
 .obtain⟨c,rS,MP⟩:=p0 0 r' rfl;simp at rS;subst rS;exact MP v vD
 .rcases hc.S' b hb with h|⟨k,hk,rfl⟩
  .exact hx.S' b h
  .exact .inr (hx.aO k hk)
 .obtain⟨k0,h0,e0⟩:=hc.aO k hk;rw[<-e0];exact hx.aO k0 h0
def nh(Y:Nat->Nat):Mem->Mem
 | []=>[]
 |b::r=>b.bh Y::nh Y r
theorem A9(Y:Nat->Nat):∀m,nh Y m=m.map (Bk.bh Y)
 | []=>rfl
 |b::r=>by simp[nh,A9 Y r]
def c9:Mem->List Nat->Mem->Mem
 |m,[],ms=>gI m ms
 |m,_::_,[]=>m
 |m,id::l,b::ms=>c9 (aX m id b) l ms
theorem zO:∀(l:List Nat)(m ms:Mem),l.length<=ms.length->(c9 m l ms).length=m.length+(ms.length-l.length)
 | [],m,ms,_=>by simp[c9,cg]
 |_::l,m,[],h=>by simp at h
 |id::l,m,b::ms,h=>by simp at h;rw[c9,zO l _ _ h,bb];simp
theorem tU:∀(l:List Nat)(m ms:Mem)(j:Nat),j<m.length->j∉l->(c9 m l ms)[j]? =m[j]?
 | [],m,ms,j,hj,_=>by simp[c9,cg,aad hj]
 |_::l,m,[],j,_,_=>by simp[c9]
 |id::l,m,b::ms,j,hj,hn=>by
  simp at hn;rw[c9,tU l _ _ j (by rw[bb];simpa using hj) hn.2,bb,U9 (λh=>hn.1 h.symm)]
theorem zP:∀(l:List Nat)(m ms:Mem),fL l=true->eR m.length l=true->l.length<=ms.length->∀(i:Nat),i<ms.length->(c9 m l ms)[sg l m.length i]? =ms[i]?
 | [],m,ms,_,_,_,i,hi=>by simp only[c9,cg,sg,cF,abm,acW];rw[Y5 om];simp
 |_::l,m,[],_,_,h,_,_=>by simp at h
 |id::l,m,b::ms,hd,ha,h,i,hi=>by
  simp only[fL,aae,abU]at hd;simp only[eR,aae]at ha;simp at h hi;have hlen:(aX m id b).length=m.length:=by rw[bb];simp
  have hid:id<m.length:=aap ha.1;cases i with
  |zero=>
   rw[c9];show(c9 (aX m id b) l ms)[id]? =some b;rw[tU l _ _ id (by rw[hlen];exact hid) (λh=>by rw[xf.2 h]at hd;cases hd.1),bb]
   simp[hid]
  |succ i=>
   have:=zP l (aX m id b) ms hd.2 (by rw[hlen];exact ha.2) h i om
   rw[hlen]at this;rw[c9];have e:sg (id::l) m.length (i+1)=sg l m.length i:=by simp[sg,cF]
   rw[e,this];simp
theorem bm.pos{ρ:bJ}{w:World}{pos pos':Option (Nat×Nat×Nat)}{c:CC}{v:Value}(hc:∀s e,c≠.ei s e)(h:bm ρ w pos c v):bm ρ w pos' c v:=by
 cases c<;>simp only[bm]at h|-
 case ei=>exact absurd rfl (hc _ _)
 all_goals exact h
theorem bm.abg{ρ U':bJ}{w:World}{pos:Option (Nat×Nat×Nat)}(hn:ρ.n<=U'.n)(bQ:∀id,id<ρ.n->U'.aI (.aj id)=ρ.aI (.aj id))(iO:∀id i j,pos=some (id,i,j)->U'.aI (.sub id i j)=ρ.aI (.sub id i j))(hS:∀b,ρ.S b->U'.S b){w':World}(eF:∀b,ρ.S b->w'.heap[b]? =w.heap[b]?){c:CC}{v:Value}(h:bm ρ w pos c v):bm U' w' pos c v:=by
 let ρ1:bJ:={n:=U'.n,aI:=λk=>match k with| .aj id=>U'.aI (.aj id)|k=>ρ.aI k,S:=U'.S}
 have g:iM ρ w ρ1 w':=⟨hn,λk hk=>by
  cases k with
  |aj id=>exact bQ id hk
  |sub id i j=>rfl,hS,eF⟩
 by_cases hc:∃s e,c= .ei s e
 .obtain⟨esz,elems,rfl⟩:=hc;obtain⟨id,i,j,cJ,hr⟩:=h;refine⟨id,i,j,cJ,?_⟩;rw[iO id i j cJ];exact hr
 .have hc:∀s e,c≠.ei s e:=λs e h=>hc ⟨s,e,h⟩
  have h1:=bm.pos (pos':=pos) hc (bm.cn g aC (bm.pos (pos':=none) hc h));cases c<;>simp only[bm]at h1|-
  case ei=>exact absurd rfl (hc _ _)
  all_goals exact h1
theorem bm.bh{ρ U':bJ}{τ:Nat->Nat}{w:World}{pos pos':Option (Nat×Nat×Nat)}(hτ:∀i,i<ρ.n->τ i<U'.n)(dK:∀i,i<ρ.n->U'.aI (.aj (τ i))=ρ.aI (.aj i))(hS:∀b,ρ.S b->U'.S b)(cJ:∀id i j,pos=some (id,i,j)->pos'=some (τ id,i,j)/\U'.aI (.sub (τ id) i j)=ρ.aI (.sub id i j)){c:CC}{v:Value}(h:bm ρ w pos c v):bm U' w pos' (c.bh τ) v:=by
 cases c<;>simp only[bm,CC.bh]at h|-
 case aH=>exact h
 case ah=>exact h.mono hS (λ_ _=>rfl)
 case ptr id _=>rw[dK id h.1];exact⟨hτ id h.1,h.2⟩
 case nH id _ _ _=>rw[dK id h.1];exact⟨hτ id h.1,h.2⟩
 case rK=>
  obtain⟨b,off,h1,h2,h3⟩:=h;refine⟨b,off,h1,hS _ h2,λj d hj=>?_⟩
  obtain⟨u,hu,cz⟩:=h3 j d hj;exact⟨u,hu,cz.mono hS (λ_ _=>rfl)⟩
 case row id _ _ _=>rw[dK id h.1];exact⟨hτ id h.1,h.2⟩
 case aM=>exact h
 case map id=>rw[dK id h.1];exact⟨hτ id h.1,h.2⟩
 case fn f eM=>
  refine⟨λid hid=>?_,?_⟩
  .obtain⟨i,hi,rfl⟩:=aaz.1 hid;exact hτ i (h.1 i hi)
  .rw[h.2];congr 2;rw[abJ];exact acU λid hid=>by simp only[Function.comp];rw[dK id (h.1 id hid)]
 case ei s e=>
  obtain⟨a,b,c,h1,h2⟩:=h;obtain⟨h3,h4⟩:=cJ a b c h1;refine⟨τ a,b,c,h3,?_⟩;rw[h4];exact h2
theorem dk.bh{ρ U':bJ}{τ:Nat->Nat}{w:World}(hτ:∀i,i<ρ.n->τ i<U'.n)(dK:∀i,i<ρ.n->U'.aI (.aj (τ i))=ρ.aI (.aj i))(hS:∀b,ρ.S b->U'.S b){c:RV}{v:Value}(h:dk ρ w c v):dk U' w (c.bh τ) v:=by
 cases c with
 |one c=>exact bm.bh hτ dK hS (λ_ _ _ h=>by cases h) h
 |agg cs=>
  obtain⟨vs,rfl,h1,h2⟩:=h;refine⟨vs,rfl,by simpa using h1,λi c hi=>?_⟩
  rw[Tr]at hi;obtain⟨c0,h0,rfl⟩:=aaB.1 hi;obtain⟨u,hu,hd⟩:=h2 i c0 h0;exact⟨u,hu,bm.bh hτ dK hS (λ_ _ _ h=>by cases h) hd⟩
theorem cf.bh{ρ U':bJ}{τ:Nat->Nat}{w:World}(hτ:∀i,i<ρ.n->τ i<U'.n)(dK:∀i,i<ρ.n->U'.aI (.aj (τ i))=ρ.aI (.aj i))(hS:∀b,ρ.S b->U'.S b){c:CV}{v:Value}(h:cf ρ w c v):cf U' w (c.bh τ) v:=by
 cases c with
 |aH=>trivial
 |undef=>exact h
 |rv r=>exact dk.bh hτ dK hS h
 |bx cs=>
  obtain⟨vs,rfl,h1,h2⟩:=h;refine⟨vs,rfl,by simpa using h1,λi c hi=>?_⟩
  rw[Tr]at hi;obtain⟨c0,h0,rfl⟩:=aaB.1 hi;obtain⟨u,hu,hd⟩:=h2 i c0 h0;exact⟨u,hu,dk.bh hτ dK hS hd⟩
theorem cK.bh{ρ U':bJ}{τ:Nat->Nat}{w:World}(hτ:∀i,i<ρ.n->τ i<U'.n)(dK:∀i,i<ρ.n->U'.aI (.aj (τ i))=ρ.aI (.aj i))(hS:∀b,ρ.S b->U'.S b){id:Nat}(hid:id<ρ.n)(iO:∀i j,U'.aI (.sub (τ id) i j)=ρ.aI (.sub id i j)){b:Bk}(h:cK ρ w id b):cK U' w (τ id) (b.bh τ):=by
 cases b with
 |aU=>trivial
 |var cs=>
  obtain⟨cur,hc,hd⟩:=h;simp only[Bk.bh,cK,dK id hid];refine⟨cur,hc,λj c hj=>?_⟩
  rw[Tr]at hj;obtain⟨c0,h0,rfl⟩:=aaB.1 hj;obtain⟨u,hu,cz⟩:=hd j c0 h0;exact⟨u,hu,bm.bh hτ dK hS (λ_ _ _ h=>by cases h) cz⟩
 |row s es=>
  obtain⟨h2,h3,h4,h5,b8⟩:=h;simp only[Bk.bh,cK,dK id hid];refine⟨by simpa using h2,h3,h4,λcs eL=>?_,λcJ=>?_⟩
  .obtain⟨De,h0,rfl⟩:=aaz.1 eL;simpa using h5 De h0
  .obtain⟨cur,hc,h1,h6⟩:=b8 cJ;refine⟨cur,hc,h1,λi cs j c hi hj=>?_⟩
   rw[Tr]at hi;obtain⟨De,h0,rfl⟩:=aaB.1 hi;rw[Tr]at hj;obtain⟨c0,VX,rfl⟩:=aaB.1 hj;obtain⟨u,hu,cz⟩:=h6 i De j c0 h0 VX;exact⟨u,hu,bm.bh hτ dK hS (λa b c h=>by cases h;exact⟨rfl,iO _ _⟩) cz⟩
 |mp es=>
  obtain⟨ae,clock,hc,h1,h2⟩:=h;simp only[Bk.bh,cK,dK id hid];refine⟨ae,clock,hc,by simpa using h1,λi e hi=>?_⟩
  rw[Tr]at hi;obtain⟨e0,h0,rfl⟩:=aaB.1 hi;obtain⟨LL,LM,hk,p0⟩:=h2 i e0 h0;exact⟨LL,LM,hk,dk.bh hτ dK hS p0⟩
 |it cur left=>
  obtain⟨mb,seen,ck,bt,h2,h3,h4,h5,h6⟩:=h;simp only[Bk.bh,cK,dK id hid];exact⟨mb,seen,ck,bt,h2,h3,hS _ h4,h5,h6⟩
 |mo esz es so=>
  obtain⟨ae,clock,hc,⟨h1,h2⟩,h3⟩:=h;simp only[Bk.bh,cK,dK id hid];refine⟨ae,clock,hc,⟨by simpa using h1,λi e hi=>?_⟩,h3⟩
  rw[Tr]at hi;obtain⟨e0,h0,rfl⟩:=aaB.1 hi;obtain⟨LL,LM,hk,hp,p0⟩:=h2 i e0 h0;have yF:=bm.bh (pos':=some (τ id,i,0)) hτ dK hS (λa b c h=>by cases h;exact⟨rfl,iO _ _⟩) p0
  obtain⟨k,v⟩:=e0;cases v<;>exact⟨LL,LM,hk,hp,yF⟩
 |iw mid ip seen=>
  obtain⟨h1,h2,s,h3,h4⟩:=h;simp only[Bk.bh,cK,dK id hid,dK mid h1];exact⟨hτ mid h1,h2,s,h3,h4⟩
end
section
variable {P:Program}
theorem FP{l:List Nat}{n i:Nat}(hi:sg l n i<n):i<l.length:=by
 rcases aag i l.length with h|h
 .exact h
 .rw[sy h]at hi;omega
theorem bw{f:Nat}{args args0:List CV}{m m0:Mem}{K0 K:CV->Mem->Prop}(l:List Nat)(n:Nat)(hn:m.length=n)(hl:m0.length=l.length)(hd:fL l=true)(ha:eR n l=true)(eY:args=args0.map (CV.bh (sg l n)))(hm:∀(i:Nat)b',m0[i]? =some b'->b'= .aU\/(¬False/\∃b,m[sg l n i]? =some b/\mH (sg l n) m (λ_=>False) (sg l n i) b b'))(h:aq P f args0 m0 K0)(hK:∀r m1,K0 r m1->l.length<=m1.length/\K (r.bh (sg l n)) (c9 m l (nh (sg l n) m1))):aq P f args m K:=by
 subst hn;refine⟨h.1,λρ w vs hM yW hvd=>?_⟩
 have oX:∀i j,sg l m.length i=sg l m.length j->i=j:=λi j h=>A8 hd ha h
 obtain⟨mr,hC0,P9⟩:=wb (n0:=0) (Y:=sg l m.length) (Z:=λ_=>False) (m':=m0) hM (λi h=>absurd h (aa9 i)) (λi j _ _ _ _ h=>oX i j h) (λi h=>by rw[hl];exact FP h) hm
 have ZD:∀b,(ρ.vw (sg l m.length) (λ_=>False) m m0.length).S b↔ρ.S b:=λb=>⟨λh=>h.elim id λ⟨k,_,hf,_⟩=>hf.elim,.inl⟩
 have jT:ρ.n=m.length:=hM.n;refine(h.2 _ w vs mr (by rw[yW,eY];simp) λi c hi=>?_).mono λe w'⟨v,r,m1,ρ1,he,hk,rZ,vD,hx⟩=>?_
 .obtain⟨v,hv,p0⟩:=hvd i (c.bh (sg l m.length)) (by rw[eY,Tr,hi];rfl)
  exact⟨v,hv,rJ.jR hM (λi h=>by rw[hl];exact FP h) (.FO c) p0⟩
 .obtain⟨hle,gh⟩:=hK r m1 hk;have qW:ρ1.n=m1.length:=rZ.n;let back:Nat->Option Nat:=λj=>(List.range m1.length).find? λi=>sg l m.length i==j
  have lh:∀{j i},back j=some i->i<m1.length/\sg l m.length i=j:=by
   intro j i hb;have h1:=List.mem_of_find?_eq_some hb;have h2:=List.find?_some hb;exact⟨by simpa using h1,by simpa using h2⟩
  have H3:∀{i},i<m1.length->back (sg l m.length i)=some i:=by
   intro i hi;cases hb:back (sg l m.length i)with
   |none=>
    have:=adT.1 hb i (by simpa using hi)
    simp at this
   |some j=>rw[oX _ _ (lh hb).2]
  have pR:∀{j},j<m.length+(m1.length-l.length)->back j=none->j<m.length/\j∉l:=by
   intro j hj hb;have kz:=adT.1 hb;refine⟨?_,λkM=>?_⟩
   .rcases aag j m.length with h|h
    .exact h
    .have:=kz (l.length+(j-m.length)) (by simp;omega)
     rw[sy om]at this;simp at this;omega
   .obtain⟨i,hi⟩:=aab kM;obtain⟨aD,rfl⟩:=Ki.1 hi;have:=kz i (by simp;omega)
    rw[ng aD]at this;simp at this
  let U':bJ:={n:=m.length+(m1.length-l.length),aI:=λk=>match back k.id with
   |some i=>(match k with| .aj _=>ρ1.aI (.aj i)| .sub _ a b=>ρ1.aI (.sub i a b))
   |none=>ρ.aI k,S:=ρ1.S}
  have QT:∀i,i<ρ1.n->U'.aI (.aj (sg l m.length i))=ρ1.aI (.aj i):=by intro i hi;rw[qW]at hi;simp only[U',gv.id,H3 hi]
  have Uy:∀i a b,i<ρ1.n->U'.aI (.sub (sg l m.length i) a b)=ρ1.aI (.sub i a b):=by intro i a b hi;rw[qW]at hi;simp only[U',gv.id,H3 hi]
  have JN:∀k:gv,back k.id=none->U'.aI k=ρ.aI k:=by intro k hb;simp only[U',hb]
  have FQ:∀id,id<ρ.n->U'.aI (.aj id)=ρ.aI (.aj id):=by
   intro id hid;cases hb:back id with
   |none=>exact JN (.aj id) hb
   |some i=>
    obtain⟨h1,h2⟩:=lh hb;have hi:i<l.length:=FP (by rw[h2,<-jT];exact hid)
    rw[<-h2,QT i (by rw[qW];exact h1),hx.aI i (by show i<m0.length;omega)]
    rfl
  have m6:∀i,i<ρ1.n->sg l m.length i<U'.n:=by
   intro i hi;rw[qW]at hi;show _<m.length+(m1.length-l.length);rcases aag i l.length with h|h
   .rw[ng h];have:=nf ha _ (aay h);omega
   .rw[sy h];omega
  have H4:(nh (sg l m.length) m1).length=m1.length:=by rw[A9];simp
  have ZE:(c9 m l (nh (sg l m.length) m1)).length=m.length+(m1.length-l.length):=by
   rw[zO l m _ (by rw[H4];exact hle),H4]
  have ZF:∀i,i<m1.length->(c9 m l (nh (sg l m.length) m1))[sg l m.length i]? =(m1[i]?).map (Bk.bh (sg l m.length)):=by
   intro i hi;rw[zP l m _ hd ha (by rw[H4];exact hle) i (by rw[H4];exact hi),A9,Tr]
  have hwo:∀j,back j=none->j<m.length+(m1.length-l.length)->(c9 m l (nh (sg l m.length) m1))[j]? =m[j]? :=by intro j hb hj;obtain⟨h1,h2⟩:=pR hj hb;exact tU l m _ j h1 h2
  have u9:∀k,Live ρ m k->(k.id<m.length->k.id∉l)->(∀k0,Live (ρ.vw (sg l m.length) (λ_=>False) m m0.length) m0 k0->((ρ.vw (sg l m.length) (λ_=>False) m m0.length).aI k0).b≠(ρ.aI k).b):=by
   intro k hk Nb k0 H2 he;have h1:=P9 k0 H2;have h2:=hM.inj _ _ h1 hk he;have h3:=H2.eT;rw[hl]at h3;apply Nb hk.eT;rw[<-h2];cases k0<;>simp only[gv.bh,gv.id]at h3|-<;>rw[ng h3]<;>exact aay h3
  have eF:∀k,Live ρ m k->(k.id<m.length->k.id∉l)->w'.heap[(ρ.aI k).b]? =w.heap[(ρ.aI k).b]? :=λk hk Nb=>hx.frame _ (hM.aO k hk).1 (u9 k hk Nb)
  have wJ:∀b,ρ.S b->w'.heap[b]? =w.heap[b]? :=λb hb=>hx.frame b (hM.S b hb) λk hk he=>(mr.aO k hk).2 (he▸(ZD b).2 hb)
  have ZG:∀b,ρ.S b->ρ1.S b:=λb hb=>hx.S b ((ZD b).2 hb)
  have XJ:∀k,Live ρ m k->(k.id<m.length->k.id∉l)->¬ρ1.S (ρ.aI k).b:=by
   intro k hk Nb hs;rcases hx.S' _ hs with h|h|⟨k0,H2,he⟩
   .exact(hM.aO k hk).2 ((ZD _).1 h)
   .have:=(hM.aO k hk).1;omega
   .exact u9 k hk Nb k0 H2 he
  have gj:∀k,Live U' (c9 m l (nh (sg l m.length) m1)) k->(∃k1,k1.id<m1.length/\k=k1.bh (sg l m.length)/\Live ρ1 m1 k1/\U'.aI k=ρ1.aI k1)\/(back k.id=none/\k.id<m.length/\k.id∉l/\Live ρ m k/\U'.aI k=ρ.aI k):=by
   intro k hk;have aD:=hk.eT;rw[ZE]at aD;cases hb:back k.id with
   |none=>
    obtain⟨h1,h2⟩:=pR aD hb;have Uz:=hwo k.id hb aD;refine .inr ⟨rfl,h1,h2,?_,JN k hb⟩;have bQ:=JN k hb;cases k with
    |aj id=>
     obtain⟨bk,df,l5,bg⟩:=hk;simp only[gv.id]at Uz;rw[Uz]at df;rw[bQ]at bg;exact⟨bk,df,l5,bg⟩
    |sub id a b=>
     obtain⟨⟨s,e,b2,df,ho⟩,bg⟩:=hk;simp only[gv.id]at Uz;rw[Uz]at df;rw[bQ]at bg;exact⟨⟨s,e,b2,df,ho⟩,bg⟩
   |some i=>
    obtain⟨h1,h2⟩:=lh hb;have Uz:=ZF i h1;cases k with
    |aj id=>
     simp only[gv.id]at h2;subst h2;have bQ:=QT i (by rw[qW];exact h1)
     refine .inl ⟨.aj i,h1,rfl,?_,bQ⟩;obtain⟨bk,df,l5,bg⟩:=hk;rw[Uz]at df;obtain⟨b0,h0,rfl⟩:=aaB.1 df;rw[bQ]at bg;refine⟨b0,h0,?_,?_⟩
     .rintro rfl;exact l5 rfl
     .rintro⟨s,es,rfl⟩;exact bg ⟨_,_,rfl⟩
    |sub id a b=>
     simp only[gv.id]at h2;subst h2;have bQ:=Uy i a b (by rw[qW];exact h1)
     refine .inl ⟨.sub i a b,h1,rfl,?_,bQ⟩;obtain⟨⟨s,e,b2,df,ho⟩,bg⟩:=hk;rw[Uz]at df;obtain⟨b0,h0,rfl⟩:=aaB.1 df;rw[bQ]at bg;exact⟨⟨s,e,_,h0,ho.S5⟩,bg⟩
  have abj:∀{j i},back j=some i->i<ρ1.n/\sg l m.length i=j:=λhb=>by rw[qW];exact lh hb
  refine⟨v,r.bh (sg l m.length),c9 m l (nh (sg l m.length) m1),U',he,gh,⟨ZE.symm,λb hb=>rZ.S b hb,λk hk=>?_,λk k' hk oZ nT=>?_,λid b hb=>?_,λid i j esz e ho bg=>?_⟩,cf.bh m6 QT (λ_ h=>h) vD,
   ⟨by show ρ.n<=_;rw[jT];exact Nat.le_add_right _ _,FQ,ZG,λb hb=>?_,λk hk=>?_,λb hb hnk=>hx.frame b hb λk hk he=>hnk _ (P9 k hk) he,hx.size,hx.os,hx.tape,hx.output⟩⟩
  .rcases gj k hk with⟨k1,_,_,kL,bQ⟩|⟨_,h1,h2,kL,bQ⟩
   .rw[bQ];exact rZ.aO k1 kL
   .rw[bQ];exact⟨aaJ (hM.aO k kL).1 hx.size,XJ k kL λ_=>h2⟩
  .have mixed:∀k1 k2,Live ρ1 m1 k1->Live ρ m k2->k2.id∉l->(ρ1.aI k1).b≠(ρ.aI k2).b:=by
    intro k1 k2 kL oZ Uc kK;rcases hx.aO k1 kL with h|⟨k0,H2,e0⟩
    .have:=(hM.aO k2 oZ).1;omega
    .exact u9 k2 oZ (λ_=>Uc) k0 H2 (e0.trans kK)
   rcases gj k hk with⟨k1,_,rfl,kL,bQ⟩|⟨_,h1,h2,kL,bQ⟩<;>rcases gj k' oZ with⟨k1',_,rfl,Nc,j8⟩|⟨_,CS,LD,Nc,j8⟩
   .rw[bQ,j8]at nT;rw[rZ.inj k1 k1' kL Nc nT]
   .rw[bQ,j8]at nT;exact absurd nT (mixed k1 k' kL Nc LD)
   .rw[bQ,j8]at nT;exact absurd nT.symm (mixed k1' k Nc kL h2)
   .rw[bQ,j8]at nT;exact hM.inj k k' kL Nc nT
  .have aD:id<m.length+(m1.length-l.length):=by rw[<-ZE];exact(Ki.1 hb).1
   cases df:back id with
   |some i=>
    obtain⟨h1,rfl⟩:=lh df;rw[ZF i h1]at hb;obtain⟨b0,h0,rfl⟩:=aaB.1 hb;exact cK.bh m6 QT (λ_ h=>h) (by rw[qW];exact h1) (λa b=>Uy i a b (by rw[qW];exact h1)) (rZ.bk i b0 h0)
   |none=>
    obtain⟨h1,h2⟩:=pR aD df;rw[hwo id df aD]at hb;have eH:=hM.bk id b hb;have bQ:U'.aI (.aj id)=ρ.aI (.aj id):=JN (.aj id) df;have eG:ρ.n<=U'.n:=by rw[jT];exact Nat.le_add_right _ _
    have jr:∀{p c u},(∀a i j,p=some (a,i,j)->a=id)->bm ρ w p c u->bm U' w' p c u:=λ{p c u}hp hd=>bm.abg eG FQ (λa i j yR=>by rw[hp a i j yR];exact JN (.sub id i j) df) ZG wJ hd
    have j7:∀{c u},dk ρ w c u->dk U' w' c u:=by
     intro c u hd;cases c with
     |one c=>exact jr (λ_ _ _ h=>by cases h) hd
     |agg cs=>
      obtain⟨vs,hv,AP,hc⟩:=hd;exact⟨vs,hv,AP,λi c hi=>let⟨u,hu,hd⟩:=hc i c hi;⟨u,hu,jr (λ_ _ _ h=>by cases h) hd⟩⟩
    have hh:b≠.aU->((∃esz elems,b= .row esz elems)->0<(ρ.aI (.aj id)).cap)->w'.heap[(ρ.aI (.aj id)).b]? =w.heap[(ρ.aI (.aj id)).b]? :=λl5 bg=>eF (.aj id) ⟨b,hb,l5,bg⟩ λ_=>h2
    cases b with
    |aU=>trivial
    |var cs=>
     obtain⟨cur,hc,yT⟩:=eH;simp only[cK,bQ];refine⟨cur,hc.dH (hh aC (by rintro⟨_,_,h⟩;cases h)),λj c hj=>?_⟩
     obtain⟨u,hu,cz⟩:=yT j c hj;exact⟨u,hu,jr (λ_ _ _ h=>by cases h) cz⟩
    |row esz elems=>
     obtain⟨g2,g3,g4,g5,b8⟩:=eH;simp only[cK,bQ];refine⟨g2,g3,g4,g5,λcJ=>?_⟩
     obtain⟨cur,hc,q1,q6⟩:=b8 cJ;refine⟨cur,hc.dH (hh aC (λ_=>cJ)),q1,λi cs j c hi hj=>?_⟩
     obtain⟨u,hu,cz⟩:=q6 i cs j c hi hj;exact⟨u,hu,jr (λ_ _ _ h=>by cases h;rfl) cz⟩
    |mp es=>
     obtain⟨ae,clock,hc,q1,q2⟩:=eH;simp only[cK,bQ];refine⟨ae,clock,⟨(hh aC (by rintro⟨_,_,h⟩;cases h)).trans hc.1,hc.2⟩,q1,λi e hi=>?_⟩
     obtain⟨LL,LM,Cr,p0⟩:=q2 i e hi;exact⟨LL,LM,Cr,j7 p0⟩
    |it cur left=>
     obtain⟨mb,seen,ck,bt,q2,q3,q4,q5,q6⟩:=eH;simp only[cK,bQ];exact⟨mb,seen,ck,bt,(hh aC (by rintro⟨_,_,h⟩;cases h)).trans q2,q3,ZG _ q4,(wJ mb q4).trans q5,q6⟩
    |mo esz es so=>
     obtain⟨ae,clock,hc,⟨q1,q2⟩,q3⟩:=eH;simp only[cK,bQ];refine⟨ae,clock,⟨(hh aC (by rintro⟨_,_,h⟩;cases h)).trans hc.1,hc.2⟩,⟨q1,λi e hi=>?_⟩,q3⟩
     obtain⟨LL,LM,Cr,hp,p0⟩:=q2 i e hi;exact⟨LL,LM,Cr,hp,jr (λ_ _ _ h=>by cases h;rfl) p0⟩
    |iw mid ip seen=>
     obtain⟨q1,q2,s,q3,q4⟩:=eH;simp only[cK,bQ];refine⟨aaJ q1 eG,q2,s,(hh aC (by rintro⟨_,_,h⟩;cases h)).trans ?_,q4⟩
     rw[q3,FQ mid q1]
  .have hk:Live U' (c9 m l (nh (sg l m.length) m1)) (.sub id i j):=⟨⟨_,_,ho⟩,bg⟩;obtain⟨b2,hb,Qa⟩:=ho;have aD:id<m.length+(m1.length-l.length):=by rw[<-ZE];exact(Ki.1 hb).1
   cases df:back id with
   |some i0=>
    obtain⟨h1,rfl⟩:=lh df;have bQ:=Uy i0 i j (by rw[qW];exact h1)
    rw[bQ]at bg|-;rw[ZF i0 h1]at hb;obtain⟨b0,h0,rfl⟩:=aaB.1 hb;exact rZ.ei i0 i j esz e ⟨_,h0,Qa.S5⟩ bg
   |none=>
    obtain⟨h1,h2⟩:=pR aD df;have bQ:=JN (.sub id i j) df;rw[bQ]at bg|-;rw[hwo id df aD]at hb;have kq:dZ m id i j esz e:=⟨_,hb,Qa⟩;obtain⟨cur,hc,q1,q2,q3⟩:=hM.ei id i j esz e kq bg;refine⟨cur,hc.dH (eF (.sub id i j) ⟨⟨_,_,kq⟩,bg⟩ λ_=>h2),q1,q2,λi2 Zt j2 d eW l4=>?_⟩
    obtain⟨u,hu,cz⟩:=q3 i2 Zt j2 d eW l4;exact⟨u,hu,cz.mono ZG wJ⟩
  .rcases hx.S' b hb with h|h|⟨k0,H2,he⟩
   .exact .inl ((ZD b).1 h)
   .exact .inr (.inl h)
   .exact .inr (.inr ⟨_,P9 k0 H2,he⟩)
  .rcases gj k hk with⟨k1,_,_,kL,bQ⟩|⟨_,h1,h2,kL,bQ⟩
   .rw[bQ];rcases hx.aO k1 kL with h|⟨k0,H2,e0⟩
    .exact .inl h
    .exact .inr ⟨_,P9 k0 H2,e0⟩
   .rw[bQ];exact .inr ⟨k,kL,rfl⟩
end
section
variable {P:Program}
theorem View.aM{n0:Nat}{e:List CV}{m:Mem}(t esz n:Nat)(hn:m.length=n)(he:kP e t= .rv (.one .aM))(h0:Nat.ble n0 n=true):
  View n0 ⟨e,m⟩ ⟨aX e t (.rv (.one (.row n esz 0 none))),gI m [.row esz []]⟩:=by
 subst hn;have h0:=aap h0;rw[bb,cg];refine⟨by simp;omega,aC,λρ w hM=>?_⟩
 have hn:ρ.n=m.length:=hM.n;let U':bJ:={n:=m.length+1,aI:=λk=>if k.id=m.length then⟨0,0,0,0⟩else ρ.aI k,S:=ρ.S}
 have bQ:∀k:gv,k.id<ρ.n->U'.aI k=ρ.aI k:=λk hk=>by simp only[U'];rw[if_neg om]
 have g:iM ρ w U' w:=⟨by show ρ.n<=m.length+1;omega,bQ,λ_ h=>h,λ_ _=>rfl⟩
 have b9:∀k,Live U' (m++ [.row esz []]) k->Live ρ m k:=by
  intro k hk;have aD:=hk.eT;simp at aD;cases k with
  |aj id=>
   obtain⟨bk,hb,l5,bg⟩:=hk;simp only[gv.id]at aD;rcases aag id m.length with h|h
   .rw[aad h]at hb;rw[bQ (.aj id) (by simp only[gv.id];omega)]at bg
    exact⟨bk,hb,l5,bg⟩
   .have:id=m.length:=om;subst this;simp at hb;subst hb;have:=bg ⟨_,_,rfl⟩;simp[U',gv.id]at this
  |sub id i j=>
   obtain⟨⟨s,el,b2,hb,ho⟩,bg⟩:=hk;simp only[gv.id]at aD;rcases aag id m.length with h|h
   .rw[aad h]at hb;rw[bQ (.sub id i j) (by simp only[gv.id];omega)]at bg
    exact⟨⟨s,el,b2,hb,ho⟩,bg⟩
   .have:id=m.length:=om;subst this;simp at hb;subst hb;obtain⟨cs,hi,hj⟩:=ho.yL;simp at hi
 have j8:∀k,Live ρ m k->U'.aI k=ρ.aI k:=λk hk=>bQ k (by rw[hn];exact hk.eT)
 refine⟨U',⟨by simp[U'],hM.S,λk hk=>?_,λk k' hk gh nT=>?_,λid b hb=>?_,λid i j s el ho bg=>?_⟩,⟨λid hid=>bQ (.aj id) (by simp only[gv.id];omega),λ_ h=>h,λ_ h=>.inl h,λk hk=>⟨k,b9 k hk,(by rw[j8 k (b9 k hk)])⟩⟩,λi c' hi=>?_⟩
 .rw[j8 k (b9 k hk)];exact hM.aO k (b9 k hk)
 .rw[j8 k (b9 k hk),j8 k' (b9 k' gh)]at nT;exact hM.inj k k' (b9 k hk) (b9 k' gh) nT
 .rcases aag id m.length with h|h
  .rw[aad h]at hb;exact(hM.bk id b hb).cn g om λ_ _=>rfl
  .have aD:=(Ki.1 hb).1;simp at aD;have:id=m.length:=om;subst this;simp at hb;subst hb;simp[cK,U',gv.id]
 .have hk:Live ρ m (.sub id i j):=b9 (.sub id i j) ⟨⟨_,_,ho⟩,bg⟩;have hid:=hk.eT;simp only[gv.id]at hid;rw[j8 _ hk]at bg|-;obtain⟨b2,hb,ho⟩:=ho;rw[aad hid]at hb;obtain⟨cur,hc,q1,q2,q3⟩:=hM.ei id i j s el ⟨b2,hb,ho⟩ bg;exact⟨cur,hc,q1,q2,q3⟩
 .simp only at hi;have aD:=(Ki.1 hi).1;simp at aD;rw[abb]at hi;split at hi
  .rename_i Nd;subst Nd;rw[if_pos aD]at hi;cases hi;refine⟨.rv (.one .aM),?_,λv hd=>?_⟩
   .rw[mh,vR aD]at he;rw[vR aD];simpa using he
   .obtain⟨a,rfl⟩:=hd;simp[cf,dk,bm,U',gv.id]
  .exact⟨c',hi,λv hd=>cf.cn g hd⟩
theorem sA{n0:Nat}{b:LC}{K:Ex->St->Prop}{s:St}{α:Type}(J:α->Prop)(f:α->List (Nat×CV))(M:α->Mem)(μ:α->Nat)(a0:α)(h0:J a0)(start:View n0 s ⟨Db s.aZ (f a0),M a0⟩)(round:∀a,J a->aw P n0 b (HG n0 J (λa=>⟨Db s.aZ (f a),M a⟩) μ (μ a) K) ⟨Db s.aZ (f a),M a⟩):aw P n0 (.loop b) K s:=
 ⟨α,J,λa=>⟨Db s.aZ (f a),M a⟩,μ,⟨a0,h0,start⟩,round⟩
theorem zQ:∀{cs:List CC}{k:Nat}{c:CC},cs[k]? =some c->jp cs k 1=some [c]
 | [],k,c,h=>by simp at h
 |x::r,0,c,h=>by simp at h;subst h;cases r<;>rfl
 |x::r,k+1,c,h=>by
  show jp r k 1=_;exact zQ (by simpa using h)
theorem mH.bM{Y:Nat->Nat}{m:Mem}{Z:Nat->Prop}{id s:Nat}{es:List (List CC)}{ds:List (List Dt)}(h:es=aa ds):mH Y m Z id (.row s es) (.row s (aa ds)):=by subst h;have:=mH.FO (Y:=Y) (m:=m) (Z:=Z) (id:=id) (.row s (aa ds)) aC;rwa [Bk.jG]at this
theorem dI{F:List Nat}{k:Nat}(h:bD F k=false):¬bD F k=true:=by rw[h];simp
theorem mH.eq{Y:Nat->Nat}{m:Mem}{Z:Nat->Prop}{id:Nat}{b b':Bk}(h:b'.bh Y=b)(hd:b'≠.aU):mH Y m Z id b b':=h▸ .FO b' hd
theorem mH.ju{Y:Nat->Nat}{m:Mem}{Z:Nat->Prop}{id:Nat}{cs:List CC}{ds:List Dt}(h:cs=ds.map .ah):mH Y m Z id (.var cs) (.var (ds.map .ah)):=by subst h;have:=mH.FO (Y:=Y) (m:=m) (Z:=Z) (id:=id) (.var (ds.map .ah)) aC;simpa[Bk.bh,CC.bh,adA]using this
theorem rJ.hi{Y:Nat->Nat}{m:Mem}{Z:Nat->Prop}{kJ id e lo n esz:Nat}{elems:List (List CC)}(hσ:Y id=kJ)(hb:cF m kJ=some (.row esz elems))(hn:elems.length=n):
  rJ Y m Z (.rv (.one (.row kJ e lo none))) (.rv (.one (.row id e lo (some n)))):=by
 subst hσ;subst hn;exact .rv (.one (.hi id e lo (by rw[<-aV];exact hb)))
theorem aP{p:Prop}{i:Decidable p}{A B:Prop}(ha:p->A)(hb:¬p->B): @Bool.rec (λ_=>Prop) B A (@decide p i):=by
 cases hd: @decide p i
 .exact hb (of_decide_eq_false hd)
 .exact ha (of_decide_eq_true hd)
theorem bu{a b:Int}{A B:Prop}(ha:a=b->A)(hb:a≠b->B): @Bool.rec (λ_=>Prop) B A (a==b):=by
 cases hd:(a==b)
 .exact hb (by simpa using hd)
 .exact ha (by simpa using hd)
theorem bv{a b:Int}{A B:Prop}(ha:a≠b->A)(hb:a=b->B): @Bool.rec (λ_=>Prop) B A (a !=b):=by
 cases hd:(a !=b)
 .exact hb (by simpa using hd)
 .exact ha (by simpa using hd)
theorem rJ.fT{Y:Nat->Nat}{m:Mem}{F:List Nat}(id:Nat)(ds:List (List Dt)){esz:Nat}(hz:bD F id=true)(hb:cF m id=some (.row esz (aa ds))):
  rJ Y m (λk=>bD F k=true) (.rv (.one (.row id esz 0 none))) (.rv (.one (.ah (.sl esz ds)))):=
 .rv (.one (.fT (d6.fg (Z:=λk=>bD F k=true) hz (by rw[<-aV];exact hb) 0 none)))
def S6(i:Nat):List (Nat×CV)->Option CV
 | []=>none
 |(j,x)::r=>match Nat.beq i j with|true=>some x|false=>S6 i r
def kpV(eX:List Nat)(f:List (Nat×CV))(i:Nat)(v:CV):CV:=
 match S6 i f with
 |some x=>x
 |none=>match bD eX i with|true=>v|false=>.aH
def XK(eX:List Nat)(f:List (Nat×CV)):Nat->List CV->(List CV->List CV)->List CV
 |_,[],k=>k []
 |i,v::r,k=>fV (kpV eX f i v) λv'=>XK eX f (i+1) r λr'=>k (v'::r')
def V2(eX:List Nat)(e:List CV)(f:List (Nat×CV)):List CV:=XK eX f 0 e λe=>e
theorem ba{n0:Nat}{b:LC}{K:Ex->St->Prop}{s:St}{α:Type}(J:α->Prop)(eX:List Nat)(f:α->List (Nat×CV))(M:α->Mem)(μ:α->Nat)(a0:α)(h0:J a0)(start:View n0 s ⟨V2 eX s.aZ (f a0),M a0⟩)(round:∀a,J a->aw P n0 b (HG n0 J (λa=>⟨V2 eX s.aZ (f a),M a⟩) μ (μ a) K) ⟨V2 eX s.aZ (f a),M a⟩):aw P n0 (.loop b) K s:=
 ⟨α,J,λa=>⟨V2 eX s.aZ (f a),M a⟩,μ,⟨a0,h0,start⟩,round⟩
theorem gK{n0:Nat}{b:LC}{K:Ex->St->Prop}{s:St}(eX:List Nat)(f:List (Nat×CV))(M:Mem)(hv:View n0 s ⟨V2 eX s.aZ f,M⟩)(h:aw P n0 b K ⟨V2 eX s.aZ f,M⟩):aw P n0 (.cX b) K s:=⟨_,hv,h⟩
end
theorem View.o{n0:Nat}{e e':List CV}{m m':Mem}(n:Nat)(l F:List Nat)(o8:iC (sg l n) m (λk=>bD F k=true) e e')(iv:eI (sg l n) m (λk=>bD F k=true) 0 m')(hn:m.length=n:=by exact rfl)(hl:m'.length=l.length:=by exact rfl)(h0:Nat.ble n0 l.length=true:=by exact rfl)(hi:Dg l n0=true:=by exact rfl)(hd:fL l=true:=by exact rfl)(ha:eR n l=true:=by exact rfl):View n0 ⟨e,m⟩ ⟨e',m'⟩:=View.of n l F hn hl h0 hi hd ha o8 iv
theorem View.o1{n0:Nat}{e e':List CV}{m m':Mem}(n:Nat)(l F:List Nat)(iv:eI (sg l n) m (λk=>bD F k=true) 0 m')(hn:m.length=n:=by exact rfl)(hl:m'.length=l.length:=by exact rfl)(h0:Nat.ble n0 l.length=true:=by exact rfl)(hi:Dg l n0=true:=by exact rfl)(hd:fL l=true:=by exact rfl)(ha:eR n l=true:=by exact rfl)(o8:iC (sg l n) m (λk=>bD F k=true) e e':=by repeat(first|exact .nil|refine .aH ?_|refine .eq rfl ?_)):View n0 ⟨e,m⟩ ⟨e',m'⟩:=View.of n l F hn hl h0 hi hd ha o8 iv
theorem View.o2{n0:Nat}{e e':List CV}{m m':Mem}(n:Nat)(l F:List Nat)(iv:eI (sg l n) m (λk=>bD F k=true) 0 m')(hn:m.length=n:=by exact rfl)(hl:m'.length=l.length:=by exact rfl)(h0:Nat.ble n0 l.length=true:=by exact rfl)(hi:Dg l n0=true:=by exact rfl)(hd:fL l=true:=by exact rfl)(ha:eR n l=true:=by exact rfl)(o8:iC (sg l n) m (λk=>bD F k=true) e e':=by repeat(first|exact .nil|refine .aH ?_|refine .put (.bh (cR om).symm) ?_|refine .eq rfl ?_)):View n0 ⟨e,m⟩ ⟨e',m'⟩:=View.of n l F hn hl h0 hi hd ha o8 iv
theorem eI.pt{Y:Nat->Nat}{m:Mem}{F:List Nat}{k:Nat}{b b':Bk}{r:Mem}(hz:bD F (Y k)=false)(hb:cF m (Y k)=some b)(hv:mH Y m (λk=>bD F k=true) (Y k) b b')(h:eI Y m (λk=>bD F k=true) (k+1) r):eI Y m (λk=>bD F k=true) k (b' ::r):=.put (dI hz) hb hv h
theorem eI.pe{Y:Nat->Nat}{m:Mem}{F:List Nat}{k:Nat}{b b':Bk}{r:Mem}(hz:bD F (Y k)=false)(hb:cF m (Y k)=some b)(hv:b'.bh Y=b)(h:eI Y m (λk=>bD F k=true) (k+1) r)(hd:b'≠.aU:=by simp):eI Y m (λk=>bD F k=true) k (b' ::r):=.put (dI hz) hb (.eq hv hd) h
theorem eI.pm{Y:Nat->Nat}{m:Mem}{F:List Nat}{k:Nat}{b b':Bk}(hz:bD F (Y k)=false)(hb:cF m (Y k)=some b)(hv:b'.bh Y=b)(hd:b'≠.aU:=by simp):eI Y m (λk=>bD F k=true) k [b']:=.put (dI hz) hb (.eq hv hd) (.nil _)
theorem eI.pr{Y:Nat->Nat}{m:Mem}{F:List Nat}{k:Nat}{esz:Nat}{es:List (List CC)}{ds:List (List Dt)}{r:Mem}(hz:bD F (Y k)=false)(hb:cF m (Y k)=some (.row esz es))(he:es=aa ds)(h:eI Y m (λk=>bD F k=true) (k+1) r):eI Y m (λk=>bD F k=true) k (.row esz (aa ds) ::r):=.put (dI hz) hb (.bM he) h
theorem eI.pn{Y:Nat->Nat}{m:Mem}{F:List Nat}{k:Nat}{esz:Nat}{es:List (List CC)}{ds:List (List Dt)}(hz:bD F (Y k)=false)(hb:cF m (Y k)=some (.row esz es))(he:es=aa ds):eI Y m (λk=>bD F k=true) k [.row esz (aa ds)]:=.put (dI hz) hb (.bM he) (.nil _)
theorem eI.au{Y:Nat->Nat}{m:Mem}{F:List Nat}{r:Mem}(h:eI Y m (λk=>bD F k=true) 0 r:=by repeat(first|exact .nil _|refine .pr rfl rfl rfl ?_|refine .pe rfl rfl rfl ?_ (by intro h;cases h))):eI Y m (λk=>bD F k=true) 0 r:=h
theorem bc{P:Program}{f:Nat}{fn:Func}{lf:LF}{args:List CV}{m:Mem}{K:CV->Mem->Prop}(hf:P.funcs[f]? =some fn)(hl:bz P fn=some lf)(h:body P lf args m K)(hn:(fn.name== "runtime.NumGoroutine")=false:=by exact rfl)(hle:Nat.ble args.length lf.n=true:=by exact rfl):aq P f args m K:=xb hf hl hn (aap hle) h
theorem cj{P:Program}{f:Nat}{fn:Func}{lf:LF}{args:List CV}{m:Mem}{K:CV->Mem->Prop}(hf:P.funcs[f]? =some fn)(hl:bz P fn=some lf.er)(h:body P lf args m K)(hn:(fn.name== "runtime.NumGoroutine")=false:=by exact rfl)(hle:Nat.ble args.length lf.n=true:=by exact rfl):aq P f args m K:=nR hf hl hn (aap hle) h
theorem Dt.Nf(d:Dt):1<=d.size:=by
 cases d with
 |val v=>cases v<;>simp[Dt.size]
 |sl e l=>simp[Dt.size]
theorem Dt.JO{l:List Dt}(h:l≠[]):1<=Dt.fU l:=by
 cases l with
 |nil=>exact absurd rfl h
 |cons d r=>simp only[Dt.fU];have:=d.Nf;omega
theorem Dt.lB:∀(l:List (List Dt)),(∀e,e∈l->e≠[])->l.length<=Dt.dO l
 | [],_=>aC
 |e::r,h=>by
  have h1:=Dt.JO (h e aC);have h2:=Dt.lB r λx hx=>h x (by simp[hx])
  simp only[Dt.dO,aar];omega
theorem iP.ne{ls:List Lf}{ds:List Dt}(h:iP ls ds)(hl:ls≠[]):ds≠[]:=by
 cases h<;>simp_all
theorem ni{α:Type}{es:List Lf}(enc:α->List Dt)(p:α->Prop)(dec:∀e,iP es e->∃a,p a/\e=enc a):∀{elems:List (List Dt)},(∀e,e∈elems->iP es e)->∃l:List α,(∀a,a∈l->p a)/\elems=l.map enc
 | [],_=>⟨[],aC,rfl⟩
 |e::r,h=>by
  obtain⟨a,ha,rfl⟩:=dec e (h e aC);obtain⟨l,hl,rfl⟩:=ni enc p dec (elems:=r) λx hx=>h x (by simp[hx])
  exact⟨a::l,by simpa using⟨ha,hl⟩,rfl⟩
section
variable {P:Program}
def CC.ix:CC->Bool
 | .ah (.val _)=>true
 |_=>false
def Ba:List CC->Bool
 | []=>true
 |c::r=>c.ix&&Ba r
def RV.ix:RV->Bool
 | .one c=>c.ix
 | .agg cs=>Ba cs
def wd:List RV->Bool
 | []=>true
 |c::r=>c.ix&&wd r
def CV.ix:CV->Bool
 | .rv r=>r.ix
 | .bx rs=>wd rs
 |_=>false
theorem xh:∀{l:List CC},Ba l=true->∀c,c∈l->c.ix=true
 | [],_,c,h=>by simp at h
 |x::r,h,c,hc=>by
  simp only[Ba,aae]at h;rcases aaL.1 hc with rfl|hc
  .exact h.1
  .exact xh h.2 c hc
theorem vm:∀{l:List RV},wd l=true->∀c,c∈l->c.ix=true
 | [],_,c,h=>by simp at h
 |x::r,h,c,hc=>by
  simp only[wd,aae]at h;rcases aaL.1 hc with rfl|hc
  .exact h.1
  .exact vm h.2 c hc
theorem CC.jH{ρ U':bJ}{w:World}{c:CC}{v:Value}(h:c.ix=true)(hd:bm ρ w .none c v):bm U' w .none c v:=by
 cases c with
 |ah d=>
  cases d with
  |val x=>
   cases hd with
   |val v hp=>exact .val _ hp
   |no a=>exact .no a
  |sl=>simp[CC.ix]at h
 |_=>simp[CC.ix]at h
theorem RV.jH{ρ U':bJ}{w:World}{c:RV}{v:Value}(h:c.ix=true)(hd:dk ρ w c v):dk U' w c v:=by
 cases c with
 |one c=>exact CC.jH h hd
 |agg cs=>
  obtain⟨vs,rfl,h1,h2⟩:=hd;exact⟨vs,rfl,h1,λi c hi=>let⟨u,hu,hd⟩:=h2 i c hi;⟨u,hu,CC.jH (xh h c (Tu hi)) hd⟩⟩
theorem CV.jH{ρ U':bJ}{w:World}{c:CV}{v:Value}(h:c.ix=true)(hd:cf ρ w c v):cf U' w c v:=by
 cases c with
 |rv r=>exact RV.jH h hd
 |bx rs=>
  obtain⟨vs,rfl,h1,h2⟩:=hd;exact⟨vs,rfl,h1,λi c hi=>let⟨u,hu,hd⟩:=h2 i c hi;⟨u,hu,RV.jH (vm h c (Tu hi)) hd⟩⟩
 |_=>simp[CV.ix]at h
theorem Ng{f:Nat}{args args0:List CV}{m:Mem}{K0 K:CV->Mem->Prop}(F:List Nat)(h:aq P f args0 [] K0)(eY:iC (sg [] m.length) m (λk=>bD F k=true) args args0)(hK:∀r m1,K0 r m1->r.ix=true/\K r m):aq P f args m K:=by
 refine⟨h.1,λρ w vs hM yW hvd=>?_⟩
 have gw:∀i,sg [] m.length i<m.length->i<0:=λi h=>by simp[sg,cF]at h;omega
 obtain⟨mr,hC0,_⟩:=wb (n0:=0) (Y:=sg [] m.length) (Z:=λk=>bD F k=true) (m':=[]) hM (λi h=>absurd h (aa9 i)) (λi j h _ _ _ _=>absurd h (aa9 i)) gw (λi b' h=>by simp at h)
 refine(h.2 _ w vs mr (yW.trans eY.len.symm) λi c hi=>?_).mono λe w'⟨v,r,m1,ρ1,he,hk,rZ,vD,hx⟩=>?_
 .obtain⟨c0,Mu,hv⟩:=eY.get i c hi;obtain⟨v,vJ,hd⟩:=hvd i c0 Mu;exact⟨v,vJ,hv.jR hM gw hd⟩
 .obtain⟨hp,LI⟩:=hK r m1 hk;have jT:∀k,¬Live (ρ.vw (sg [] m.length) (λk=>bD F k=true) m 0) [] k:=λk h=>by have:=h.eT;simp at this
  have QR:eP w w':=⟨λb hb=>hx.frame b hb λk hk=>absurd hk (jT k),hx.size,hx.os,hx.tape,hx.output⟩
  obtain⟨h1,h2⟩:=hM.M9 QR;exact⟨v,r,m,ρ,he,LI,h1,CV.jH hp vD,h2⟩
end
section
variable {P:Program}
theorem CC.sB{Y:Nat->Nat}{c:CC}(h:c.dC=true):c.bh Y=c:=by
 cases c
 case fn f eM=>
  cases eM with
  |nil=>rfl
  |cons c r=>simp[CC.dC]at h
 all_goals first|rfl|simp[CC.dC]at h
theorem RV.sB{Y:Nat->Nat}{r:RV}(h:r.dC=true):r.bh Y=r:=by
 cases r with
 |one c=>exact congrArg RV.one (CC.sB h)
 |agg cs=>
  refine congrArg RV.agg ?_
  conv=>rhs;rw[<-List.map_id cs]
  exact acU λc hc=>CC.sB (abr.1 h c hc)
theorem CV.Dh{Y:Nat->Nat}{v:CV}(h:v.Dd=true):v.bh Y=v:=by
 cases v with
 |rv r=>exact congrArg CV.rv (RV.sB h)
 |bx rs=>
  refine congrArg CV.bx ?_
  conv=>rhs;rw[<-List.map_id rs]
  exact acU λc hc=>RV.sB (abr.1 h c hc)
 |_=>rfl
theorem Bk.Nh{Y:Nat->Nat}(ds:List Dt):(Bk.var (ds.map .ah)).bh Y= .var (ds.map .ah):=by simp[Bk.bh,CC.bh,adA]
theorem FS{m:Mem}{id:Nat}{b:Bk}(h:cF m id=some b):c9 m [id] [b]=m:=by
 rw[aV]at h;simp only[c9,cg,abV,bb];exact abC λi=>by
  rw[abb];split
  .rename_i hi;subst hi;have:=(Ki.1 h).1;rw[if_pos this,h]
  .rfl
theorem fC{f:Nat}{args args0:List CV}{m:Mem}{cs:List Dt}{r0:CV}{K:CV->Mem->Prop}(id:Nat)(hb:cF m id=some (.var (cs.map .ah)))(eY:args=args0.map (CV.bh (sg [id] m.length)))(hr:r0.Dd=true)(h:∀K:CV->Mem->Prop,K r0 [.var (cs.map .ah)]->aq P f args0 [.var (cs.map .ah)] K)(hK:K r0 m):aq P f args m K:=by
 have hid:id<m.length:=by rw[aV]at hb;exact(Ki.1 hb).1
 refine bw (K0:=λr m1=>r=r0/\m1=[.var (cs.map .ah)]) [id] m.length rfl rfl rfl ?_ eY (λi b' hi=>?_) (h _ ⟨rfl,rfl⟩) (λr m1 sr=>?_)
 .simp[eR,hid]
 .cases i with
  |zero=>
   simp at hi;subst hi;refine .inr ⟨λh=>h,.var (cs.map .ah),?_,.ju rfl⟩
   rw[aV]at hb;exact hb
  |succ i=>simp at hi
 .obtain⟨rfl,rfl⟩:=sr;refine⟨Yj _,?_⟩;rw[CV.Dh hr];have:c9 m [id] (nh (sg [id] m.length) [.var (cs.map .ah)])=m:=by show c9 m [id] [Bk.bh _ _]=m;rw[Bk.Nh];exact FS hb
  rw[this];exact hK
theorem e7{f:Nat}{args:List CV}{cs:List Dt}{r0:CV}{K:CV->Mem->Prop}(hr:r0.Dd=true)(h:aq P f args [.var (cs.map .ah)] λr m=>r=r0/\∃ex,m= .var (cs.map .ah)::ex)(hK:K r0 [.var (cs.map .ah)]):aq P f args [.var (cs.map .ah)] K:=by
 refine bL h λr m1⟨h1,ex,h2⟩=>⟨r0,[.var (cs.map .ah)],?_,hK⟩
 subst h1;subst h2;refine View.of (ex.length+1) [0] [] aC rfl rfl rfl rfl (by simp[eR]) ?_ ?_
 .exact .eq (CV.Dh hr) .nil
 .exact .put (by simp[bD]) rfl (.ju rfl) (.nil _)
theorem mH.JP{Y:Nat->Nat}{m:Mem}{Z:Nat->Prop}{id s:Nat}{R R':List (List CC)}{x y:List CC}(hR:R'.map (λcs=>cs.map (CC.bh Y))=R)(hx:x.length=y.length)(JF:∀(j:Nat)c c',x[j]? =some c->y[j]? =some c'->tv Y m Z (some id) c c'):mH Y m Z id (.row s (R++ [x])) (.row s (R'++ [y])):=by
 subst hR;refine .row s aC (λi cs fk h1 h2=>?_) (λi cs fk j c c' h1 h2 h3 h4=>?_)
 .rcases aag i R'.length with h|h
  .rw[aad (by simpa using h),Tr]at h1
   rw[aad h]at h2;rw[h2]at h1;cases h1;simp
  .rw[Y5 (by simpa using h),N7]at h1
   rw[Y5 h]at h2;cases hi:i-R'.length with
   |zero=>
    rw[hi]at h1 h2;cases h1;cases h2;exact hx
   |succ n=>rw[hi]at h1;simp at h1
 .rcases aag i R'.length with h|h
  .rw[aad (by simpa using h),Tr]at h1
   rw[aad h]at h2;rw[h2]at h1;cases h1;rw[Tr,h4]at h3;cases h3;exact .bh c'
  .rw[Y5 (by simpa using h),N7]at h1
   rw[Y5 h]at h2;cases hi:i-R'.length with
   |zero=>
    rw[hi]at h1 h2;cases h1;cases h2;exact JF j c c' h3 h4
   |succ n=>rw[hi]at h1;simp at h1
theorem eI.gk{Y:Nat->Nat}{m:Mem}{Z:Nat->Prop}{k:Nat}{b:Bk}{r:Mem}(hz:¬Z (Y k))(hb:cF m (Y k)=some b)(hr:b.bh Y=b)(h:eI Y m Z (k+1) r):eI Y m Z k (b::r):=by
 cases b with
 |aU=>exact .aU h
 |_=>exact .put hz hb (.eq hr aC) h
inductive Di:CC->CC->Prop
 |dH (c:CC):Di c c
 |aM (s:Nat):Di .aM (.ah (.sl s []))
 |no:Di .aM (.ah (.val (.slice none 0 0)))
theorem Di.jR{c c':CC}(h:Di c c'){ρ:bJ}{w:World}{v:Value}(hd:bm ρ w none c v):bm ρ w none c' v:=by
 cases h with
 |dH=>exact hd
 |aM s=>
  obtain⟨a,rfl⟩:=hd;exact .nil s a 0 (aav _)
 |no=>
  obtain⟨a,rfl⟩:=hd;exact .no a
inductive Dj:List CC->List CC->Prop
 |nil:Dj [] []
 |cons {c c':CC} {r r':List CC} (h:Di c c') (t:Dj r r'):Dj (c::r) (c'::r')
theorem Dj.len{a b:List CC}(h:Dj a b):a.length=b.length:=by
 induction h<;>simp[*]
theorem Dj.get{a b:List CC}(h:Dj a b):∀(i:Nat)c',b[i]? =some c'->∃c,a[i]? =some c/\Di c c':=by
 induction h with
 |nil=>intro i c' h;simp at h
 |cons h t ih=>
  intro i c' hi;cases i with
  |zero=>simp at hi;subst hi;exact⟨_,rfl,h⟩
  |succ i=>simpa using ih i c' (by simpa using hi)
inductive lC:List CV->List CV->Prop
 |nil:lC [] []
 |dH (c:CV) {r r':List CV} (t:lC r r'):lC (c::r) (c::r')
 |one {c c':CC} {r r':List CV} (h:Di c c') (t:lC r r'):lC (.rv (.one c)::r) (.rv (.one c')::r')
 |agg {cs fk:List CC} {r r':List CV} (h:Dj cs fk) (t:lC r r'):lC (.rv (.agg cs)::r) (.rv (.agg fk)::r')
theorem lC.len{a b:List CV}(h:lC a b):a.length=b.length:=by
 induction h<;>simp[*]
theorem lC.get{a b:List CV}(h:lC a b):∀(i:Nat)c',b[i]? =some c'->∃c,a[i]? =some c/\∀ρ w v,cf ρ w c v->cf ρ w c' v:=by
 induction h with
 |nil=>intro i c' h;simp at h
 |dH c t ih=>
  intro i c' hi;cases i with
  |zero=>simp at hi;subst hi;exact⟨_,rfl,λ_ _ _ h=>h⟩
  |succ i=>simpa using ih i c' (by simpa using hi)
 |one h t ih=>
  intro i c' hi;cases i with
  |zero=>simp at hi;subst hi;exact⟨_,rfl,λ_ _ _ hd=>h.jR hd⟩
  |succ i=>simpa using ih i c' (by simpa using hi)
 |agg h t ih=>
  intro i c' hi;cases i with
  |zero=>
   simp at hi;subst hi;refine⟨_,rfl,λρ w v hd=>?_⟩
   obtain⟨vs,hv,hl,hc⟩:=hd;exact⟨vs,hv,hl.trans h.len,λi c' hi=>let⟨c,rS,hle⟩:=h.get i c' hi;let⟨u,hu,cz⟩:=hc i c rS;⟨u,hu,hle.jR cz⟩⟩
  |succ i=>simpa using ih i c' (by simpa using hi)
theorem nj{f:Nat}{args qx:List CV}{m:Mem}{K:CV->Mem->Prop}(ha:lC args qx)(h:aq P f qx m K):aq P f args m K:=by
 refine⟨h.1,λρ w vs hM hl hd=>h.2 ρ w vs hM (hl.trans ha.len) λi c' hi=>?_⟩
 obtain⟨c,hc,MP⟩:=ha.get i c' hi;obtain⟨v,hv,p0⟩:=hd i c hc;exact⟨v,hv,MP _ _ _ p0⟩
theorem pS{f:Nat}{args qx:List CV}{m m':Mem}{K:CV->Mem->Prop}(hv:View m.length ⟨args,m⟩ ⟨qx,m'⟩)(h:aq P f qx m' K):aq P f args m K:=by
 refine⟨h.1,λρ w vs hM hl hd=>?_⟩
 obtain⟨U',jl,hc,p0⟩:=hv.go ρ w hM;have hlen:qx.length=args.length:=hv.len;refine(h.2 U' w vs jl (hl.trans hlen.symm) λi c' hi=>?_).mono λe w'⟨v,r,m1,ρ1,he,hk,rZ,vD,hx⟩=>?_
 .obtain⟨c,Mu,yT⟩:=p0 i c' hi;obtain⟨v,hv,cr⟩:=hd i c Mu;exact⟨v,hv,yT v cr⟩
 .have WY:Ext ρ m w U' m' w:=⟨by rw[hM.n,jl.n];exact hv.hn,λid hid=>hc.aI id (by rw[<-hM.n];exact hid),hc.S,λb hb=>(hc.S' b hb).elim .inl λh=>.inr (.inr h),λk hk=>.inr (hc.aO k hk),λ_ _ _=>rfl,Yj _,rfl,rfl,rfl⟩
  exact⟨v,r,m1,ρ1,he,hk,rZ,vD,WY.trans hx⟩
end
end Go.AM
