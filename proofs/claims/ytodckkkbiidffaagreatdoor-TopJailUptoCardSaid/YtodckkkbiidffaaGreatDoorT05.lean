/- Part 5 of 39: what the law stands on. -/
import Derived.Test.YtodckkkbiidffaaGreatDoorT04
import Derived.ChangeKeysEq
import Derived.Laws.StructEq
set_option linter.unusedVariables false
set_option linter.unusedSimpArgs false
set_option linter.unnecessarySimpa false
set_option maxRecDepth 100000
set_option maxHeartbeats 64000000
namespace Go.AM
section
variable {P:Program} {ρ:bG} {m:Mem} {w:World} {aV:List CV} {a:Act} {K:CV->Mem->Prop}
def hU:List Kd->List Value->List Value->Option Bool
 | [],[],[]=>some true
 |k::ks,a::r,b::s=>match K8 k a b,hU ks r s with
  |some x,some y=>some (x&&y)
  |_,_=>none
 |_,_,_=>none
theorem mM:∀{ks:List Kd}{a b:List Value}{r:Bool},hU ks a b=some r->a.length=ks.length/\b.length=ks.length
 | [],[],[],r,h=>⟨rfl,rfl⟩
 | [],[],_::_,r,h=>by simp[hU]at h
 | [],_::_,_,r,h=>by simp[hU]at h
 |k::ks,[],_,r,h=>by simp[hU]at h
 |k::ks,_::_,[],r,h=>by simp[hU]at h
 |k::ks,a::l,b::l',r,h=>by
  simp only[hU]at h;split at h
  .rename_i x y hx hy;obtain⟨h1,h2⟩:=mM hy;exact⟨by simp[h1],by simp[h2]⟩
  .cases h
theorem rI:∀{ks ls:List Kd}{u v:List Value}{r:Bool},hU (ks++ls) u v=some r->
  ∃u1 u2 v1 v2 x y,u=u1++u2/\v=v1++v2/\hU ks u1 v1=some x/\hU ls u2 v2=some y/\r=(x&&y)
 | [],ls,u,v,r,h=>⟨[],u,[],v,true,r,rfl,rfl,rfl,h,aI⟩
 |k::ks,ls,[],v,r,h=>by simp[hU]at h
 |k::ks,ls,_::_,[],r,h=>by simp[hU]at h
 |k::ks,ls,a::l,b::l',r,h=>by
  simp only[ab5,hU]at h;split at h
  .rename_i x y hx hy;cases h;obtain⟨u1,u2,v1,v2,x1,y1,rfl,rfl,h1,h2,rfl⟩:=rI hy;exact⟨a::u1,u2,b::v1,v2,x&&x1,y1,rfl,rfl,by simp[hU,hx,h1],h2,by simp[Bool.and_assoc]⟩
  .cases h
def nN(P:Program)(t:TypeId)(us:List Value):Value:=if dO P t=some true then .agg us.toArray else us.headD Go.undef
theorem oY{t:TypeId}{pre us post:List Value}(hs:d6 P t=some us.length)(ha:dO P t=some true\/(dO P t=some false/\us.length=1)):
  (part t (pre++(us++post)).toArray pre.length).run P w= .ok (nN P t us) w:=by
 unfold part nN;rcases ha with ha|⟨ha,h1⟩
 .rw[Sem.run_bind,nn ha];simp only[Result.andThen_ok,if_true,ha];rw[Sem.run_bind,eP hs];simp only[Result.andThen_ok,Sem.run_pure];congr 2;apply aa0;simp
 .rw[Sem.run_bind,nn ha]
  match us,h1 with
  | [u],_=>
   simp[ha]
theorem oZ:∀(d:Nat)(t:TypeId)(ks:List Kd),flatK P d t=some ks->d6 P t=some ks.length/\(dO P t=some true\/(dO P t=some false/\ks.length=1))/\
  ∀(k:Nat),d<=k->∀(us vs:List Value)(b:Bool),hU ks us vs=some b->(Op.equalIn k t (nN P t us) (nN P t vs)).run P w= .ok b w
 |0,t,ks,h=>by simp[flatK]at h
 |d+1,t,ks,h=>by
  simp only[flatK]at h;have plain:∀kd,ks=[kd]->d6 P t=some 1->dO P t=some false->(∀(k:Nat)(x y:Value)b,K8 kd x y=some b->(Op.equalIn (k+1) t x y).run P w= .ok b w)->
    d6 P t=some ks.length/\(dO P t=some true\/(dO P t=some false/\ks.length=1))/\
    ∀(k:Nat),d+1<=k->∀(us vs:List Value)(b:Bool),hU ks us vs=some b->(Op.equalIn k t (nN P t us) (nN P t vs)).run P w= .ok b w:=by
   rintro kd rfl hs ha dq;refine⟨hs,.inr ⟨ha,rfl⟩,fun k hk us vs b he=>?_⟩
   obtain⟨h1,h2⟩:=mM he
   match us,vs,h1,h2 with
   | [x],[y],_,_=>
    obtain⟨k,rfl⟩:∃k',k=k'+1:=⟨k-1,om⟩;simp only[nN,ha];simp only[hU]at he;split at he
    .rename_i p q hp hq;cases he;cases hq;simp only[Bool.and_true];exact dq k x y p hp
    .cases he
  split at h
  .rename_i hu;split at h
   .cases h;refine plain .b rfl (by assumption) (by simp[dO,hu]) fun k x y b he=>?_
    cases x<;>cases y<;>simp only[K8]at he<;>try(cases he;done)
    cases he;simp[Op.equalIn,run_underlying hu]
   .cases h
  .rename_i kk hu;split at h
   .cases h;refine plain .i rfl (by assumption) (by simp[dO,hu]) fun k x y b he=>?_
    cases x<;>cases y<;>simp only[K8]at he<;>try(cases he;done)
    rename_i k1 a k2 b';by_cases hk:k1=k2
    .subst hk;simp at he;subst he;simp[Op.equalIn,run_underlying hu]
    .rw[decide_eq_false hk]at he;cases he
   .cases h
  .rename_i hu;split at h
   .cases h;refine plain .s rfl (by assumption) (by simp[dO,hu]) fun k x y b he=>?_
    cases x<;>cases y<;>simp only[K8]at he<;>try(cases he;done)
    cases he;simp[Op.equalIn,run_underlying hu,beq_toListBytes]
   .cases h
  .rename_i fs hu;split at h
   .rename_i yI;split at h
    .rename_i ks0 hf;split at h
     .rename_i dn;cases h;have ha:dO P t=some true:=by simp[dO,hu]
      refine⟨dn,.inl ha,fun k hk us vs b he=>?_⟩
      obtain⟨k,rfl⟩:∃k',k=k'+1:=⟨k-1,om⟩;have P6:P.fieldsOf t=fs:=by simp[Program.fieldsOf,hu]
      simp only[nN,ha,if_true];rw[run_equalIn_struct w k t us.toArray vs.toArray (by rw[P6];exact hu) yI,P6]
      have key:∀(l:List Field)(pre o0:List Value)(ls:List Kd)(us vs:List Value)(b:Bool),pre.length=o0.length->yW (flatK P d) l pre.length=some ls->hU ls us vs=some b->
        (Op.eqFields k (pre++us).toArray (o0++vs).toArray l).run P w= .ok b w:=by
       intro l
       induction l with
       |nil=>
        intro pre o0 ls us vs b _ qa he;simp[yW]at qa;subst qa;obtain⟨h1,h2⟩:=mM he;cases us<;>cases vs<;>simp[hU]at he h1 h2
        subst he;simp[Op.eqFields]
       |cons f l ih=>
        intro pre o0 ls us vs b QP qa he;simp only[yW]at qa;split at qa
        .rename_i hc;split at qa
         .rename_i YF iP;split at qa
          .rename_i YG y8;cases qa;obtain⟨u1,u2,v1,v2,x,y,rfl,rfl,QQ,pX,rfl⟩:=rI he;obtain⟨g1,g2,g3⟩:=oZ d f.type YF iP;obtain⟨e1,e2⟩:=mM QQ;simp only[Op.eqFields];rw[if_pos hc.1,hc.2];rw[Sem.run_bind,oY (by rw[g1,e1]) (by rw[e1];exact g2)]
           simp only[Result.andThen_ok];rw[Sem.run_bind,QP,oY (by rw[g1,e2]) (by rw[e2];exact g2)]
           simp only[Result.andThen_ok];rw[Sem.run_bind,g3 k om u1 v1 x QQ];simp only[Result.andThen_ok];have:=ih (pre++u1) (o0++v1) YG u2 v2 y (by simp[QP,e1,e2]) (by rw[aaH,e1];exact y8) pX
           simp only[abH]at this;cases x
           .simp
           .simpa using this
          .cases qa
         .cases qa
        .cases qa
      have:=key fs.toList [] [] ks us vs b rfl hf he;simpa using this
     .cases h
    .cases h
   .cases h
  .cases h
theorem mN:∀{ks:List Kd}{cs ds:List CC}{b:Bool}{us vs:List Value},iW ks cs ds=some b->us.length=cs.length->vs.length=ds.length->
  (∀(i:Nat)c,cs[i]? =some c->∃u,us[i]? =some u/\bq ρ w .none c u)->(∀(i:Nat)c,ds[i]? =some c->∃u,vs[i]? =some u/\bq ρ w .none c u)->hU ks us vs=some b
 | [],[],[],b,us,vs,h,h1,h2,_,_=>by simp at h1 h2;subst h1 h2;simpa[iW,hU]using h
 | [],[],_::_,b,us,vs,h,h1,h2,_,_=>by simp[iW]at h
 | [],_::_,_,b,us,vs,h,h1,h2,_,_=>by simp[iW]at h
 |k::ks,[],_,b,us,vs,h,h1,h2,_,_=>by simp[iW]at h
 |k::ks,c::cs,[],b,us,vs,h,h1,h2,_,_=>by cases c<;>simp[iW]at h
 |k::ks,c::cs,d::ds,b,us,vs,h,h1,h2,g1,g2=>by
  unfold iW at h;split at h
  .cases ‹_::_=[]›
  .rename_i k' ks' x r y s e1 e2 e3;cases e1;cases e2;cases e3;split at h
   .rename_i p q hp hq;cases h
    match us,vs,h1,h2 with
    |u::us,v::vs,h1,h2=>
     obtain⟨u',hu,b8⟩:=g1 0 _ rfl;obtain⟨v',hv,uY⟩:=g2 0 _ rfl;simp at hu hv;subst hu hv;obtain⟨rfl,_⟩:=bJ b8 (fun e=>by subst e;cases k<;>simp[K8]at hp)
     obtain⟨rfl,_⟩:=bJ uY (fun e=>by subst e;cases k<;>cases u<;>simp[K8]at hp)
     have:=mN (us:=us) (vs:=vs) hq (by simpa using h1) (by simpa using h2) (fun i c hi=>by simpa using g1 (i+1) c (by simpa using hi)) (fun i c hi=>by simpa using g2 (i+1) c (by simpa using hi))
     simp[hU,hp,this]
   .cases h
  .cases h
theorem vJ(hM:aA ρ m w)(hE:be ρ w aV a.tmps){neg:Bool}{t:TypeId}{fs:Array Field}{ks:List Kd}{x y:Operand}{x' y':X}(ht:P.underlying t=some (.struct fs))(hg:P.eqGuardType P.depth t=false)(hk:flatK P 5 t=some ks)(hx:bh x=some x')(hy:bh y=some y')(h:step P (.K7 neg ks x' y') aV m K):di P (do let v<-(do eqGuard (if neg then .neq else .eql) t x y (a.eval x) (a.eval y);binOp (if neg then .neq else .eql) t (a.eval x) (a.eval y));pure (Next.value v)) ρ m w K:=by
 have hd:=aN hE hx;have nM:=aN hE hy;simp only[step]at h;generalize a.eval x=v at hd⊢;generalize a.eval y=u at nM⊢;generalize x'.ev aV=c at hd h;generalize y'.ev aV=d at nM h;split at h
 .split at h
  .obtain⟨us,rfl,l1,d1⟩:=hd;obtain⟨vs,rfl,l2,d2⟩:=nM;obtain⟨b,he,hK⟩:=bc.1 h;have M9:=mN he l1 l2 d1 d2;have dq:=(oZ (w:=w) 5 t ks hk).2.2 10000 om us vs b M9;have ha:dO P t=some true:=by simp[dO,ht]
   simp only[nN,ha,if_true]at dq;refine di.pure hM (v:=_) ?_ hK (b9 rfl);rw[Sem.run_bind,Sem.run_bind,run_eqGuard_agg w _ t x y _ _ hg];cases neg
   .simp only[Result.andThen_ok,aaV,if_false,run_eql_struct,dq,Sem.run_pure]
   .simp only[Result.andThen_ok,if_true,run_neq_struct,dq,Sem.run_pure]
  .exact h.elim
 .exact h.elim
theorem o4{e:TypeId}{kk:IntKind}(hu:P.underlying e=some (.int kk))(hs:d6 P e=some 1)(d:Nat):∀(us vs pre o0:List Value)(b:Bool),pre.length=o0.length->hU (fC us.length .i) us vs=some b->
  (Op.eqItems (d+1) e 1 (pre++us).toArray (o0++vs).toArray (List.range' pre.length us.length)).run P w= .ok b w
 | [],[],pre,o0,b,_,he=>by simp[fC,hU]at he;subst he;simp[Op.eqItems]
 | [],v::vs,pre,o0,b,_,he=>by simp[fC,hU]at he
 |u::us,[],pre,o0,b,_,he=>by simp[fC,hU]at he
 |u::us,v::vs,pre,o0,b,hp,he=>by
  have ha:dO P e=some false:=by simp[dO,hu]
  simp only[Wo,fC,hU]at he;split at he
  .rename_i x y hx hy;cases he;have ih:=o4 hu hs d us vs (pre++ [u]) (o0++ [v]) y (by simp[hp]) hy
   have p1:=oY (w:=w) (t:=e) (pre:=pre) (us:=[u]) (post:=us) hs (.inr ⟨ha,rfl⟩);have p2:=oY (w:=w) (t:=e) (pre:=o0) (us:=[v]) (post:=vs) hs (.inr ⟨ha,rfl⟩);simp only[nN,ha,List.singleton_append]at p1 p2;have p3:(Op.equalIn (d+1) e u v).run P w= .ok x w:=by
    cases u<;>cases v<;>simp only[K8]at hx<;>try(cases hx;done)
    rename_i k1 a k2 b';by_cases hk:k1=k2
    .subst hk;simp at hx;subst hx;simp[Op.equalIn,run_underlying hu]
    .rw[decide_eq_false hk]at hx;cases hx
   simp only[Wo,abO,Op.eqItems,Sem.run_bind,Nat.mul_one];rw[p1];simp only[Result.andThen_ok];rw[hp,p2];simp only[Result.andThen_ok,Wm,aaV,if_false,List.headD_cons];rw[p3];simp only[Result.andThen_ok];cases x
   .simp
   .simp only[ab1,aaV,if_false,Bool.true_and];rw[<-hp];simpa using ih
  .cases he
theorem tk(hM:aA ρ m w)(hE:be ρ w aV a.tmps){neg:Bool}{t e:TypeId}{n:Nat}{kk:IntKind}{x y:Operand}{x' y':X}(ht:P.underlying t=some (.array n e))(hg:P.eqGuardType P.depth t=false)(hu:P.underlying e=some (.int kk))(hs:d6 P e=some 1)(hx:bh x=some x')(hy:bh y=some y')(h:step P (.K7 neg (fC n .i) x' y') aV m K):di P (do let v<-(do eqGuard (if neg then .neq else .eql) t x y (a.eval x) (a.eval y);binOp (if neg then .neq else .eql) t (a.eval x) (a.eval y));pure (Next.value v)) ρ m w K:=by
 have hd:=aN hE hx;have nM:=aN hE hy;simp only[step]at h;generalize a.eval x=v at hd⊢;generalize a.eval y=u at nM⊢;generalize x'.ev aV=c at hd h;generalize y'.ev aV=d at nM h;split at h
 .split at h
  .obtain⟨us,rfl,l1,d1⟩:=hd;obtain⟨vs,rfl,l2,d2⟩:=nM;obtain⟨b,he,hK⟩:=bc.1 h;have M9:=mN he l1 l2 d1 d2;obtain⟨e1,e2⟩:=mM M9;have hn:us.length=n:=by rw[e1,fb];simp
   have Xo:=hs;simp only[d6,Yx]at Xo;obtain⟨i,hi,M8⟩:=Xo;have hc:P.cellsOf e=1:=by simp[Program.cellsOf,hi,M8]
   have dq:=o4 (w:=w) hu hs 9998 us vs [] [] b rfl (by rw[hn];exact M9)
   simp only[aca,aaq]at dq;have vK:(Op.equalIn 10000 t (.agg us.toArray) (.agg vs.toArray)).run P w= .ok b w:=by rw[run_equalIn_array w 9999 _ _ ht hi,hc,<-hn,List.range_eq_range'];exact dq
   refine di.pure hM (v:=_) ?_ hK (b9 rfl);rw[Sem.run_bind,Sem.run_bind,run_eqGuard_agg w _ t x y _ _ hg];cases neg
   .simp only[Result.andThen_ok,aaV,if_false,run_eql_struct,vK,Sem.run_pure]
   .simp only[Result.andThen_ok,if_true,run_neq_struct,vK,Sem.run_pure]
  .exact h.elim
 .exact h.elim
end
section
variable {P:Program} {ρ:bG} {m:Mem} {w:World} {aV:List CV} {a:Act} {K:CV->Mem->Prop}
def bG.move(ρ:bG)(l:uW)(src:Nat->Nat->kH):bG:=
 {n:=ρ.n+1
  aP:=fun k=>match k with
   | .ap id=>if id=ρ.n then l else ρ.aP (.ap id)
   | .sub id i j=>if id=ρ.n then ρ.aP (src i j)else ρ.aP (.sub id i j)
  S:=ρ.S}
theorem aA.move{w':World}(hM:aA ρ m w){m1:Mem}{D:Nat->Prop}{esz:Nat}{E:List (List CC)}{l:uW}{src:Nat->Nat->kH}(hlen:m1.length=m.length)(Fm:∀(id:Nat)b,m1[id]? =some b->b= .aO\/(m[id]? =some b/\¬D id))(dn:w.heap.size<=w'.heap.size)(QR:w'.os=w.os)(QS:w'.tape=w.tape)(fR:w'.output=w.output)(j8:∀b,b<w.heap.size->(∀id,D id->Live ρ m (.ap id)->(ρ.aP (.ap id)).b≠b)->w'.heap[b]? =w.heap[b]?)(hl:0<l.cap->l.b<w'.heap.size/\(w.heap.size<=l.b\/∃id,D id/\Live ρ m (.ap id)/\(ρ.aP (.ap id)).b=l.b))(hE:E.length=l.len)(pY:l.len<=l.cap)(bl:l.cap<=maxLen)(nD:∀cs,cs∈E->cs.length=esz)(dK:hB ρ w (ρ.move l src) w'->0<l.cap->∃cur,kQ (esz=1) w' l.b cur/\l.au+l.cap*esz<=cur.size/\
   ∀(i:Nat)cs(j:Nat)c,E[i]? =some cs->cs[j]? =some c->∃u,cur[l.au+i*esz+j]? =some u/\bq (ρ.move l src) w' (some (ρ.n,i,j)) c u)(kY:∀(i:Nat)cs(j:Nat)s e,E[i]? =some cs->cs[j]? =some (.gh s e)->∃iO i' j',src i j= .sub iO i' j'/\D iO/\fg m iO i' j' s e)(qj:∀i j i' j',src i j=src i' j'->(∃cs s e,E[i]? =some cs/\cs[j]? =some (.gh s e))->(∃cs s e,E[i']? =some cs/\cs[j']? =some (.gh s e))->i=i'/\j=j'):
  aA (ρ.move l src) (m1++ [.row esz E]) w'/\Ext ρ m w (ρ.move l src) (m1++ [.row esz E]) w':=by
 have hn:=hM.n;have old:∀k:kH,k.id<ρ.n->(ρ.move l src).aP k=ρ.aP k:=by
  intro k hk;cases k with
  |ap id=>simp only[bG.move];rw[if_neg (by simp only[kH.id]at hk;omega)]
  |sub id i j=>simp only[bG.move];rw[if_neg (by simp only[kH.id]at hk;omega)]
 have tm:(ρ.move l src).aP (.ap ρ.n)=l:=by simp[bG.move]
 have ve:∀i j,(ρ.move l src).aP (.sub ρ.n i j)=ρ.aP (src i j):=by intro i j;simp[bG.move]
 have tn:∀b,ρ.S b->w'.heap[b]? =w.heap[b]? :=fun b hb=>j8 b (hM.S b hb) fun id _ dD e=>(hM.a7 _ dD).2 (e▸hb)
 have g:hB ρ w (ρ.move l src) w':=⟨by simp[bG.move],old,fun b hb=>hb,tn⟩
 have get:∀{id:Nat}{b:Bk},(m1++ [.row esz E])[id]? =some b->(id<ρ.n/\(b= .aO\/(m[id]? =some b/\¬D id)))\/(id=ρ.n/\b= .row esz E):=by
  intro id b hb;rcases Wj id m1.length with h|h
  .rw[Tz h]at hb;exact .inl ⟨om,Fm id b hb⟩
  .rw[SF h]at hb;have:id-m1.length=0:=by
    rcases aap (id-m1.length)with h0|h0
    .exact h0
    .rw[aae (by simp;omega)]at hb;cases hb
   rw[this]at hb;exact .inr ⟨om,by simpa using hb.symm⟩
 have gz:∀{id i j s e},fg (m1++ [.row esz E]) id i j s e->(id<ρ.n/\¬D id/\fg m id i j s e)\/
   (id=ρ.n/\(∃cs s e,E[i]? =some cs/\cs[j]? =some (.gh s e))/\∃iO i' j',src i j= .sub iO i' j'/\D iO/\fg m iO i' j' s e):=by
  rintro id i j s e ⟨es,rows,cs,va,hi,hj⟩;rcases get va with⟨aE,hb|⟨hb,hD⟩⟩|⟨rfl,hb⟩
  .cases hb
  .exact .inl ⟨aE,hD,es,rows,cs,hb,hi,hj⟩
  .injection hb with Oo mL
   subst Oo mL;exact .inr ⟨rfl,⟨cs,_,_,hi,hj⟩,kY i cs j s e hi hj⟩
 have cW:∀k,Live (ρ.move l src) (m1++ [.row esz E]) k->
   (k.id<ρ.n/\¬D k.id/\Live ρ m k)\/(k= .ap ρ.n/\0<l.cap)\/
   (∃i j,k= .sub ρ.n i j/\(∃cs s e,E[i]? =some cs/\cs[j]? =some (.gh s e))/\Live ρ m (src i j)/\D (src i j).id/\∃a b c,src i j= .sub a b c):=by
  intro k hk;cases k with
  |ap id=>
   obtain⟨b,hb,eG,uZ⟩:=hk;rcases get hb with⟨aE,rfl|⟨hb,hD⟩⟩|⟨rfl,rfl⟩
   .exact absurd rfl eG
   .rw[old (.ap id) aE]at uZ;exact .inl ⟨aE,hD,b,hb,eG,uZ⟩
   .rw[tm]at uZ;exact .inr (.inl ⟨rfl,uZ ⟨_,_,rfl⟩⟩)
  |sub id i j=>
   obtain⟨⟨s,e,ho⟩,uZ⟩:=hk;rcases gz ho with⟨aE,hD,ho⟩|⟨rfl,iy,iO,i',j',hs,hD,ho⟩
   .rw[old (.sub id i j) aE]at uZ;exact .inl ⟨aE,hD,⟨s,e,ho⟩,uZ⟩
   .rw[ve]at uZ;exact .inr (.inr ⟨i,j,rfl,iy,by rw[hs]at uZ⊢;exact⟨⟨s,e,ho⟩,uZ⟩,by rw[hs];exact hD,_,_,_,hs⟩)
 have eQ:∀k,Live ρ m k->(k.id<ρ.n/\¬D k.id)\/(∃a b c,k= .sub a b c)->w'.heap[(ρ.aP k).b]? =w.heap[(ρ.aP k).b]? :=by
  intro k hk QT;refine j8 _ (hM.a7 k hk).1 fun id hD dD e=>?_
  have:=hM.inj _ _ dD hk e;rcases QT with⟨_,UF⟩|⟨_,_,_,rfl⟩
  .exact UF (by rw[<-this];exact hD)
  .cases this
 refine⟨⟨by simp[bG.move,hn,hlen],fun b hb=>aad (hM.S b hb) dn,?_,?_,?_,?_⟩,
  ⟨by simp[bG.move],fun id hid=>old (.ap id) hid,fun b hb=>hb,fun b hb=>.inl hb,?_,?_,dn,QR,QS,fR⟩⟩
 .intro k hk;rcases cW k hk with⟨aE,_,hk⟩|⟨rfl,hc⟩|⟨i,j,rfl,_,hk,_⟩
  .rw[old k aE];exact⟨aad (hM.a7 k hk).1 dn,(hM.a7 k hk).2⟩
  .rw[tm];obtain⟨h1,h2⟩:=hl hc;refine⟨h1,fun hs=>?_⟩
   rcases h2 with h2|⟨id,hD,dD,e⟩
   .have:=hM.S _ hs;omega
   .exact(hM.a7 _ dD).2 (e▸hs)
  .rw[ve];exact⟨aad (hM.a7 _ hk).1 dn,(hM.a7 _ hk).2⟩
 ·
  have xg:0<l.cap->∀k,Live ρ m k->(k.id<ρ.n/\¬D k.id)\/(∃a b c,k= .sub a b c)->(ρ.aP k).b≠l.b:=by
   intro hc k hk QT e;obtain⟨h1,h2⟩:=hl hc;rcases h2 with h2|⟨id,hD,dD,e2⟩
   .have:=(hM.a7 k hk).1;omega
   .have:=hM.inj _ _ dD hk (e2.trans e.symm);rcases QT with⟨_,UF⟩|⟨_,_,_,rfl⟩
    .exact UF (by rw[<-this];exact hD)
    .cases this
  intro k k' hk gv he;rcases cW k hk with⟨aE,hD,hk⟩|⟨rfl,hc⟩|⟨i,j,rfl,hx,hk,YH,qk⟩<;>rcases cW k' gv with⟨mK,QU,gv⟩|⟨rfl,oX⟩|⟨i',j',rfl,sn,gv,UG,QW⟩
  .rw[old k aE,old k' mK]at he;exact hM.inj k k' hk gv he
  .rw[old k aE,tm]at he;exact absurd he (xg oX k hk (.inl ⟨aE,hD⟩))
  .rw[old k aE,ve]at he;have:=hM.inj _ _ hk gv he;exact absurd (by rw[this];exact UG) hD
  .rw[old k' mK,tm]at he;exact absurd he.symm (xg hc k' gv (.inl ⟨mK,QU⟩))
  .rfl
  .rw[tm,ve]at he;exact absurd he.symm (xg hc _ gv (.inr QW))
  .rw[old k' mK,ve]at he;have:=hM.inj _ _ hk gv he;exact absurd (by rw[<-this];exact YH) QU
  .rw[tm,ve]at he;exact absurd he (xg oX _ hk (.inr qk))
  .rw[ve,ve]at he;obtain⟨rfl,rfl⟩:=qj i j i' j' (hM.inj _ _ hk gv he) hx sn;rfl
 .intro id b hb;rcases get hb with⟨aE,rfl|⟨hb,hD⟩⟩|⟨rfl,rfl⟩
  .trivial
  .exact(hM.bk id b hb).cE g aE fun eG uZ=>eQ (.ap id) ⟨b,hb,eG,uZ⟩ (.inl ⟨aE,hD⟩)
  .exact⟨by rw[tm];exact hE,by rw[tm];exact pY,by rw[tm];exact bl,nD,fun hc=>by rw[tm]at hc⊢;exact dK g hc⟩
 .intro id i j s e ho uZ;rcases gz ho with⟨aE,hD,ho⟩|⟨rfl,_,iO,i',j',hs,hD,ho⟩
  .rw[old (.sub id i j) aE]at uZ⊢;exact(hM.gh id i j s e ho uZ).cE g (eQ (.sub id i j) ⟨⟨s,e,ho⟩,uZ⟩ (.inr ⟨_,_,_,rfl⟩))
  .rw[ve,hs]at uZ⊢;exact(hM.gh iO i' j' s e ho uZ).cE g (eQ (.sub iO i' j') ⟨⟨s,e,ho⟩,uZ⟩ (.inr ⟨_,_,_,rfl⟩))
 .intro k hk;rcases cW k hk with⟨aE,_,hk⟩|⟨rfl,hc⟩|⟨i,j,rfl,_,hk,_⟩
  .exact .inr ⟨k,hk,by rw[old k aE]⟩
  .rw[tm];obtain⟨h1,h2⟩:=hl hc;rcases h2 with h2|⟨id,hD,dD,e⟩
   .exact .inl h2
   .exact .inr ⟨_,dD,e⟩
  .exact .inr ⟨_,hk,by rw[ve]⟩
 .intro b hb hk;exact j8 b hb fun id hD dD e=>hk _ dD e
def vL(ad:Option Addr)(k:Nat)(vs:List Value):Sem Unit:=
 match ad with
 |some a=>storeCells (a.add k) vs
 |none=>pure ()
theorem mO{t t2 ty e e2:TypeId}{i:TypeInfo}{z:Value}(ht:P.underlying t=some (.slice e))(tp:P.underlying t2=some (.slice e2))(hi:P.info? e=some i)(hz:i.zero=some z){a0:Option Addr}{n1 c1 n2:Nat}{src:Value}{olds news:List Value}(hlen:(Builtin.lenOf src).run P w= .ok n2 w)(Na:∀k,(Builtin.firstCells i.size n2 src).run P (w.drewN k)= .ok news.toArray (w.drewN k))(holds:∀k,(Builtin.firstCells i.size n1 (.slice a0 n1 c1)).run P (w.drewN k)= .ok olds.toArray (w.drewN k))(hb:0<i.bytes)(iX:(n1+n2)*i.bytes<=140737488355328):
  (Builtin.append_ #[t,t2] ty #[.slice a0 n1 c1,src]).run P w=if n1+n2<=c1 then
    ((vL a0 (n1*i.size) news).run P w).andThen fun _ w'=>.ok (.slice a0 (n1+n2) c1) w'
   else .ok (.slice (some ⟨w.heap.size,0,none⟩) (n1+n2) (grownCap w (n1+n2) c1 e)) (w.drew.alloc (.cells (olds.toArray++news.toArray++Builtin.zeroCells z.cells (grownCap w (n1+n2) c1 e-(n1+n2))) e)):=by
 have Lc:=Na 0;have og:=Na 1;have Xp:=holds 1;have e0:w.drewN 0=w:=rfl;have e1:w.drewN 1=w.drew:=rfl;rw[e0]at Lc;rw[e1]at og Xp;have BG:n1+n2<=140737488355328:=aaP (abG _ hb) iX;unfold Builtin.append_;by_cases hc:n1+n2<=c1
 .simp[run_underlying ht,run_underlying tp,sizeOf,typeInfo,hi,hlen,hc,Lc];cases a0<;>simp[vL]
 .have UH:¬(9223372036854775807<((n1:Int)+(n2:Int))):=om;have UI:¬(281474976710656<Builtin.nextslicecap (n1+n2) c1*i.bytes):=by have:=growslice_fits (need:=n1+n2) (old:=c1) om iX;omega
  have qn:¬i.bytes=0:=om;simp[run_underlying ht,run_underlying tp,sizeOf,typeInfo,zeroValue,hi,hz,hlen,hc,UH,UI,Question.forced,og,Xp,newRow,grownCap];congr 2;apply aa0;simp[abH]
def tq(v:CV)(i j:Nat):Option (Nat×Nat×Nat):=
 match v with
 | .rv (.one (.row id _ lo _))=>some (id,lo+i,j)
 |_=>none
theorem ke{α:Type}(l:List α)(lo:Nat)(hi:Option Nat):cu l lo hi=(match hi with|none=>l|some h=>l.take h).drop lo:=by
 cases lo<;>cases hi<;>simp[cu]
structure xh(ρ:bG)(w:World)(esz:Nat)(pos:Nat->Nat->Option (Nat×Nat×Nat))(E:List (List CC))(ad:Option Addr)(vs:List Value):Prop where
 len:vs.length=E.length*esz
 jR:∀cs,cs∈E->cs.length=esz
 Oq:0<E.length->∃b off,ad=some ⟨b,off,none⟩/\∀k u,vs[k]? =some u->w.cell? ⟨b,off+k,none⟩=some u
 jP:∀(i:Nat)cs(j:Nat)c,E[i]? =some cs->cs[j]? =some c->∃u,vs[i*esz+j]? =some u/\bq ρ w (pos i j) c u
 one:∀u,u∈vs->u.oneCell'=true
theorem vM{esz:Nat}{pos:Nat->Nat->Option (Nat×Nat×Nat)}{E:List (List CC)}{b off:Nat}(jR:∀cs,cs∈E->cs.length=esz)(h:∀(i:Nat)cs(j:Nat)c,E[i]? =some cs->cs[j]? =some c->∃u,w.cell? ⟨b,off+i*esz+j,none⟩=some u/\bq ρ w (pos i j) c u):
  ∃vs,xh ρ w esz pos E (some ⟨b,off,none⟩) vs:=by
 have all:∀k,k<E.length*esz->∃u p c,w.cell? ⟨b,off+k,none⟩=some u/\bq ρ w p c u:=by
  intro k hk;have dd:0<esz:=by
   rcases aap esz with h0|h0
   .subst h0;simp at hk
   .exact h0
  have hi:k/esz<E.length:=Nat.div_lt_of_lt_mul (by rwa [abD])
  have hj:k%esz<esz:=Nat.mod_lt _ dd;have eY:=jR _ (Wl hi);obtain⟨u,hu,hd⟩:=h (k/esz) _ (k%esz) _ (sA hi) (sA (by rw[eY];exact hj))
  have e:off+k/esz*esz+k%esz=off+k:=by have:=Nat.div_add_mod k esz;rw[abD]at this;omega
  rw[e]at hu;exact⟨u,_,_,hu,hd⟩
 let vs:=(List.range (E.length*esz)).map fun k=>(w.cell? ⟨b,off+k,none⟩).getD Go.undef
 have kZ:∀k u,vs[k]? =some u->k<E.length*esz/\w.cell? ⟨b,off+k,none⟩=some u:=by
  intro k u hu;have hk:k<E.length*esz:=by have:=(Gf.1 hu).1;simpa[vs]using this
  obtain⟨u',p,c,so,_⟩:=all k hk;simp only[vs,NO,List.getElem?_range hk,Wn,so,aax,Wm]at hu;exact⟨hk,by rw[so,hu]⟩
 refine⟨vs,by simp[vs],jR,fun _=>⟨b,off,rfl,fun k u hu=>(kZ k u hu).2⟩,fun i cs j c hi hj=>?_,fun u hu=>?_⟩
 .obtain⟨u,hu,hd⟩:=h i cs j c hi hj;refine⟨u,?_,hd⟩;have Nb:=(Gf.1 hi).1;have lG:j<esz:=by rw[<-jR _ (NQ hi)];exact(Gf.1 hj).1
  have aE:i*esz+j<E.length*esz:=by have:(i+1)*esz<=E.length*esz:=aag _ Nb;rw[aas,aaY]at this;omega
  simp only[vs,NO,List.getElem?_range aE,Wn,<-Nat.add_assoc,hu,aax]
 .obtain⟨k,hk,rfl⟩:=abx hu;obtain⟨oh,hc⟩:=kZ k _ (sA hk);obtain⟨u',p,c,so,hd⟩:=all k oh;rw[hc]at so;cases so;exact hd.one
theorem lH(hM:aA ρ m w){esz:Nat}{c:CV}{v:Value}{E:List (List CC)}(h:eK m esz c=some E)(hd:bV ρ w c v):
  ∃ad cap vs,v= .slice ad E.length cap/\E.length<=cap/\cap<=maxLen/\xh ρ w esz (tq c) E ad vs:=by
 unfold eK at h;split at h
 .rename_i e elems;split at h
  .rename_i he;have he:e=esz:=Wh he;subst he;cases h;cases hd with
   |nil _ a cap hc=>exact⟨_,_,[],rfl,aI,hc,aI,aI,aI,aI,aI⟩
   |sl _ _ b off cap u hS hl bl dn hc bY=>
    obtain⟨vs,A7⟩:=vM (ρ:=ρ) (w:=w) (esz:=e) (pos:=fun _ _=>none) (E:=elems.map fun ds=>ds.map .aa) (b:=b) (off:=off) (fun cs eY=>by
     obtain⟨ds,HV,rfl⟩:=Z5.1 eY;simpa using dn ds HV) (fun i cs j c hi hj=>by
     rw[NO]at hi;cases d5:elems[i]? with
     |none=>rw[d5]at hi;cases hi
     |some ds=>
      rw[d5]at hi;cases hi;rw[NO]at hj;cases jm:ds[j]? with
      |none=>rw[jm]at hj;cases hj
      |some d=>
       rw[jm]at hj;cases hj;exact⟨_,hc i ds j d d5 jm,bY i ds j d d5 jm⟩)
    exact⟨_,cap,vs,aI,by simpa using hl,bl,A7⟩
  .cases h
 .rename_i id e lo hi;split at h
  .rename_i e2 rows hb;rw[aU]at hb;split at h
   .rename_i he pX;have he:e=esz:=Wh he;have pX:e2=esz:=Wh pX;subst he;subst pX;cases h;obtain⟨h2,h3,h4,h5,yH⟩:=hM.bk id _ hb;obtain⟨aE,d1,d2,d3,d4,ad,rfl,sj⟩:=hd;have hlen:(cu rows lo hi).length=hi.getD (ρ.aP (.ap id)).len-lo:=by
     rw[ke];cases hi with
     |none=>simp[h2]
     |some h=>simp[h2];simp at d2;omega
    have kZ:∀i cs,(cu rows lo hi)[i]? =some cs->rows[lo+i]? =some cs:=by
     intro i cs BH;rw[ke]at BH;rw[aat]at BH;cases hi with
     |none=>exact BH
     |some h=>
      rw[aaj]at BH;split at BH
      .exact BH
      .cases BH
    rw[<-hlen];rcases aap (cu rows lo hi).length with h0|h0
    .have Ot:=Wg h0;refine⟨ad,_,[],rfl,om,om,?_⟩;rw[Ot];exact⟨aI,aI,aI,aI,aI⟩
    .have dd:0<(ρ.aP (.ap id)).cap:=by clear yH;omega
     obtain⟨cur,bS,h1,bY⟩:=yH dd;rw[sj (by clear yH;omega)]
     obtain⟨vs,A7⟩:=vM (ρ:=ρ) (w:=w) (esz:=e2) (pos:=tq (.rv (.one (.row id e2 lo hi)))) (E:=cu rows lo hi) (b:=(ρ.aP (.ap id)).b) (off:=(ρ.aP (.ap id)).au+lo*e2) (fun cs eY=>by
      obtain⟨i,dP,QX⟩:=abx eY;have:=kZ i cs (by rw[sA dP,QX])
      exact h5 cs (NQ this)) (fun i cs j c dP uX=>by
      obtain⟨u,hu,b8⟩:=bY (lo+i) cs j c (kZ i cs dP) uX;refine⟨u,?_,b8⟩;rw[bS.cell,<-hu];congr 1;rw[aas];omega)
     exact⟨_,_,vs,rfl,by clear yH;omega,by clear yH;omega,A7⟩
   .cases h
  .cases h
 .cases h;obtain⟨ad,rfl⟩:=hd;exact⟨ad,0,[],rfl,aI,by unfold maxLen;omega,aI,aI,aI,aI,aI⟩
 .cases h
theorem xh.firstCells{esz:Nat}{pos:Nat->Nat->Option (Nat×Nat×Nat)}{E:List (List CC)}{ad:Option Addr}{vs:List Value}(h:xh ρ w esz pos E ad vs)(cap k:Nat):
  (Builtin.firstCells esz E.length (.slice ad E.length cap)).run P (w.drewN k)= .ok vs.toArray (w.drewN k):=by
 rcases aap E.length with h0|h0
 .have hv:vs=[]:=Wg (by rw[h.len,h0];simp)
  subst hv;rw[h0];cases ad<;>simp[Builtin.firstCells,loadCells,loadCellsFrom]
 .obtain⟨b,off,rfl,hc⟩:=h.Oq h0;exact run_firstCells_some (P:=P) (w.drewN k) esz E.length ⟨b,off,none⟩ E.length cap vs h.len fun j v hj=>by rw[kI];exact hc j v hj
theorem vN(m:Mem)(c:CV):(gM m c).length=m.length/\∀(id:Nat)b,(gM m c)[id]? =some b->b= .aO\/(m[id]? =some b/\¬∃e lo hi,c= .rv (.one (.row id e lo hi))):=by
 unfold gM;split
 .rename_i id e lo hi;rw[bg];refine⟨aI,fun k b hb=>?_⟩
  by_cases hk:id=k
  .subst hk;have aE:id<m.length:=by
    rcases Wj id m.length with h|h
    .exact h
    .rw[aae (by simpa using h)]at hb;cases hb
   rw[Pr aE]at hb;cases hb;exact .inl rfl
  .rw[Wf hk]at hb;refine .inr ⟨hb,?_⟩;rintro⟨_,_,_,h⟩;cases h;exact hk rfl
 .rename_i iH;refine⟨rfl,fun k b hb=>.inr ⟨hb,?_⟩⟩
  rintro⟨e,lo,hi,rfl⟩;exact iH _ _ _ _ rfl
def oi(c1 c2:CV)(n1:Nat)(i j:Nat):kH:=
 if i<n1 then(match tq c1 i j with|some (a,b,c)=>.sub a b c|none=>.ap 0)
 else(match tq c2 (i-n1) j with|some (a,b,c)=>.sub a b c|none=>.ap 0)
theorem kg{esz:Nat}{c:CV}{E:List (List CC)}(h:eK m esz c=some E){i j:Nat}{cs:List CC}{s:Nat}{e:List (List Dt)}(hi:E[i]? =some cs)(hj:cs[j]? =some (.gh s e)):
  ∃id e0 lo dP,c= .rv (.one (.row id e0 lo dP))/\fg m id (lo+i) j s e:=by
 unfold eK at h;split at h
 .split at h
  .cases h;rw[NO]at hi;cases d5:(_:List (List Dt))[i]? with
   |none=>rw[d5]at hi;cases hi
   |some ds=>
    rw[d5]at hi;cases hi;rw[NO]at hj;cases jm:ds[j]? with
    |none=>rw[jm]at hj;cases hj
    |some d=>rw[jm]at hj;cases hj
  .cases h
 .rename_i id e0 lo dP;split at h
  .rename_i e2 rows hb;rw[aU]at hb;split at h
   .cases h;refine⟨id,e0,lo,dP,rfl,_,rows,cs,hb,?_,hj⟩;rw[ke,aat]at hi;cases dP with
    |none=>exact hi
    |some h=>
     rw[aaj]at hi;split at hi
     .exact hi
     .cases hi
   .cases h
  .cases h
 .cases h;simp at hi
 .cases h
theorem nq{c:CV}{id e lo:Nat}{hi:Option Nat}(h:c= .rv (.one (.row id e lo hi)))(i j:Nat):tq c i j=some (id,lo+i,j):=by subst h;rfl
theorem BI(hM:aA ρ m w)(hE:be ρ w aV a.tmps){t t2 ty e e2:TypeId}{i:TypeInfo}{z:List CC}{x y:Operand}{x' y':X}(ht:P.underlying t=some (.slice e))(tp:P.underlying t2=some (.slice e2))(hi:P.info? e=some i)(hz:dB P e=some z)(dn:i.size=z.length)(dd:0<z.length)(hb:0<i.bytes)(hx:bh x=some x')(hy:bh y=some y')(vQ:(s7 (x'.ev aV)&&DO (x'.ev aV) (y'.ev aV))=true)(g1:ok (eK m i.size (x'.ev aV)) fun E1=>ok (eK m i.size (y'.ev aV)) fun E2=>(E1.length+E2.length)*i.bytes<=140737488355328/\n9 m fun n=>K (.rv (.one (.row n i.size 0 none))) (gL (gM (gM m (x'.ev aV)) (y'.ev aV)) [.row i.size (E1++E2)])):
  di P (do pure (Next.value (<-Builtin.append_ #[t,t2] ty #[a.eval x,a.eval y]))) ρ m w K:=by
 have hd:=aN hE hx;have nM:=aN hE hy;generalize a.eval x=v at hd⊢;generalize a.eval y=v2 at nM⊢;generalize x'.ev aV=c1 at hd vQ g1;generalize y'.ev aV=c2 at nM vQ g1;rw[SD]at vQ;obtain⟨kY,eG⟩:=vQ;obtain⟨E1,xi,g2⟩:=bc.1 g1;obtain⟨E2,A8,iX,g3⟩:=bc.1 g2;rw[gy,cf]at g3;obtain⟨Lg,iY,P7,BJ,QY,Lh,F1⟩:=lH hM xi hd;obtain⟨Xq,HW,HX,xj,QZ,Q0,F2⟩:=lH hM A8 nM;have A6:=hz;simp only[dB,N7,Jm]at A6;obtain⟨i',dP,zv,Li,Le⟩:=A6;rw[hi]at dP;cases dP;have Q1:zv.cells.size=i.size:=by have:=(ep (ρ:=ρ) (w:=w) Le).1;rw[dn];simpa using this
 have BG:E1.length+E2.length<=140737488355328:=aaP (abG _ hb) iX;have dq:=mO (P:=P) (w:=w) (ty:=ty) ht tp hi Li (a0:=Lg) (n1:=E1.length) (c1:=iY) (n2:=E2.length) (src:=v2) (olds:=P7) (news:=HX)
  (by rw[xj];rfl) (fun k=>by rw[xj];exact F2.firstCells HW k) (fun k=>F1.firstCells iY k) hb iX
 rw[<-BJ]at dq;let D:Nat->Prop:=fun id=>(∃e lo hi,c1= .rv (.one (.row id e lo hi)))\/(∃e lo hi,c2= .rv (.one (.row id e lo hi)))
 obtain⟨k1,k2⟩:=vN m c1;obtain⟨k3,k4⟩:=vN (gM m c1) c2;have Fm:∀(id:Nat)b,(gM (gM m c1) c2)[id]? =some b->b= .aO\/(m[id]? =some b/\¬D id):=fun id b hb=>by
  rcases k4 id b hb with h|⟨h,hn⟩
  .exact .inl h
  .rcases k2 id b h with h|⟨h,Nc⟩
   .exact .inl h
   .exact .inr ⟨h,fun hD=>hD.elim Nc hn⟩
 let src:=oi c1 c2 E1.length;have jR:∀cs,cs∈E1++E2->cs.length=i.size:=fun cs eY=>(aaN.1 eY).elim (F1.jR cs) (F2.jR cs)
 have iy:∀{ρ':bG}{w':World},hB ρ w ρ' w'->(∀i j,ρ'.aP (.sub ρ.n i j)=ρ.aP (src i j))->
   ∀(k:Nat)cs(j:Nat)c,(E1++E2)[k]? =some cs->cs[j]? =some c->∃u,(P7++HX)[k*i.size+j]? =some u/\bq ρ' w' (some (ρ.n,k,j)) c u:=by
  intro ρ' w' g cz k cs j c hk hj;have lG:j<i.size:=by rw[<-jR cs (NQ hk)];exact(Gf.1 hj).1
  have conv:∀(p:Option (Nat×Nat×Nat))u,bq ρ w p c u->(∀a b d,p=some (a,b,d)->a<ρ.n/\src k j= .sub a b d)->bq ρ' w' (some (ρ.n,k,j)) c u:=by
   intro p u b8 hp;have h1:=b8.cE g (fun a b d y9=>(hp a b d y9).1)
   cases c<;>try exact h1
   obtain⟨a,b,d,y9,oS⟩:=b8;obtain⟨_,hs⟩:=hp a b d y9;exact⟨ρ.n,k,j,rfl,by rw[cz,hs];exact oS⟩
  have Q2:∀{cc:CV}{vv:Value}{i j a b d:Nat},bV ρ w cc vv->tq cc i j=some (a,b,d)->a<ρ.n:=by
   intro cc vv i j a b d Lj hp;unfold tq at hp;split at hp
   .cases hp;exact Lj.1
   .cases hp
  rcases Wj k E1.length with aE|eu
  .rw[Tz aE]at hk;obtain⟨u,hu,b8⟩:=F1.jP k cs j c hk hj;refine⟨u,?_,conv _ u b8 fun a b d hp=>⟨Q2 hd hp,by simp only[src,oi,if_pos aE,hp]⟩⟩
   rw[Tz]
   .exact hu
   .exact(Gf.1 hu).1
  .rw[SF eu]at hk;obtain⟨u,hu,b8⟩:=F2.jP (k-E1.length) cs j c hk hj;refine⟨u,?_,conv _ u b8 fun a b d hp=>⟨Q2 nM hp,by simp only[src,oi,if_neg (show ¬k<E1.length by omega),hp]⟩⟩
   rw[SF]
   .rw[<-hu];congr 1;rw[F1.len,acf];have:E1.length*i.size<=k*i.size:=aag _ eu;omega
   .rw[F1.len];have:E1.length*i.size<=k*i.size:=aag _ eu;omega
 have HY:∀(k:Nat)cs(j:Nat)s e,(E1++E2)[k]? =some cs->cs[j]? =some (.gh s e)->∃iO i' j',src k j= .sub iO i' j'/\D iO/\fg m iO i' j' s e:=by
  intro k cs j s e hk hj;rcases Wj k E1.length with aE|eu
  .rw[Tz aE]at hk;obtain⟨id,e0,lo,dP,hc,ho⟩:=kg xi hk hj;exact⟨id,lo+k,j,by simp only[src,oi,if_pos aE,nq hc],.inl ⟨_,_,_,hc⟩,ho⟩
  .rw[SF eu]at hk;obtain⟨id,e0,lo,dP,hc,ho⟩:=kg A8 hk hj;exact⟨id,lo+(k-E1.length),j,by simp only[src,oi,if_neg (show ¬k<E1.length by omega),nq hc],.inr ⟨_,_,_,hc⟩,ho⟩
 have qj:∀i j i' j',src i j=src i' j'->(∃cs s e,(E1++E2)[i]? =some cs/\cs[j]? =some (.gh s e))->(∃cs s e,(E1++E2)[i']? =some cs/\cs[j']? =some (.gh s e))->i=i'/\j=j':=by
  have side:∀k j,(∃cs s e,(E1++E2)[k]? =some cs/\cs[j]? =some (.gh s e))->
    (k<E1.length/\∃id e0 lo dP,c1= .rv (.one (.row id e0 lo dP))/\src k j= .sub id (lo+k) j)\/(E1.length<=k/\∃id e0 lo dP,c2= .rv (.one (.row id e0 lo dP))/\src k j= .sub id (lo+(k-E1.length)) j):=by
   rintro k j ⟨cs,s,e,hk,hj⟩;rcases Wj k E1.length with aE|eu
   .rw[Tz aE]at hk;obtain⟨id,e0,lo,dP,hc,ho⟩:=kg xi hk hj;exact .inl ⟨aE,id,e0,lo,dP,hc,by simp only[src,oi,if_pos aE,nq hc]⟩
   .rw[SF eu]at hk;obtain⟨id,e0,lo,dP,hc,ho⟩:=kg A8 hk hj;exact .inr ⟨eu,id,e0,lo,dP,hc,by simp only[src,oi,if_neg (show ¬k<E1.length by omega),nq hc]⟩
  intro k j k' j' hs hk gv;rcases side k j hk with⟨h1,id,e0,lo,sH,hc,Q3⟩|⟨h1,id,e0,lo,sH,hc,Q3⟩<;>rcases side k' j' gv with⟨h2,YI,YJ,YK,UJ,tt,HZ⟩|⟨h2,YI,YJ,YK,UJ,tt,HZ⟩
  .rw[hc]at tt;injection tt with tt;injection tt with tt;injection tt with q1 q2 q3 q4
   subst q3;rw[Q3,HZ]at hs;injection hs with q5 q6 q7
   exact⟨om,q7⟩
  .rw[Q3,HZ]at hs;injection hs with q5 q6 q7
   rw[hc,tt]at eG;simp only[DO,aaT]at eG;exact absurd q5 (abr eG)
  .rw[Q3,HZ]at hs;injection hs with q5 q6 q7
   rw[hc,tt]at eG;simp only[DO,aaT]at eG;exact absurd q5.symm (abr eG)
  .rw[hc]at tt;injection tt with tt;injection tt with tt;injection tt with q1 q2 q3 q4
   subst q3;rw[Q3,HZ]at hs;injection hs with q5 q6 q7
   exact⟨om,q7⟩
 have D0:∀(l:uW)i j,(ρ.move l src).aP (.sub ρ.n i j)=ρ.aP (src i j):=by intro l i j;simp[bG.move]
 have o5:∀(l:uW),(ρ.move l src).aP (.ap m.length)=l:=by intro l;rw[<-hM.n];simp[bG.move]
 have P8:∀(l:uW),l.len=E1.length+E2.length->l.cap<=maxLen->l.len<=l.cap->∀ad,(0<l.cap->ad=some ⟨l.b,l.au,none⟩)->∀w',bV (ρ.move l src) w' (.rv (.one (.row m.length i.size 0 none))) (.slice ad (E1.length+E2.length) l.cap):=by
  intro l hl hc pY ad sj w';refine⟨by simp[bG.move,hM.n],aI,aI,by rw[o5];exact pY,by rw[o5];exact hc,ad,?_,?_⟩
  .rw[o5];simp[hl]
  .rw[o5];intro h0;rw[sj h0];simp
 by_cases l8:E1.length+E2.length<=iY
 .rw[if_pos l8]at dq;rcases aap iY with Hj|Hj
  ·
   have n1:E1.length=0:=om;have n2:E2.length=0:=om;have UK:HX=[]:=Wg (by rw[F2.len,n2];simp)
   subst UK;have yI:((vL Lg (E1.length*i.size) []).run P w)= .ok () w:=by
    cases Lg<;>simp[vL,storeCells]
   rw[yI]at dq;simp only[Result.andThen_ok]at dq;let l:uW:=⟨0,0,0,0⟩;obtain⟨kJ,Nd⟩:=hM.move (m1:=gM (gM m c1) c2) (D:=D) (esz:=i.size) (E:=E1++E2) (l:=l) (src:=src) (w':=w) (by rw[k3,k1]) Fm (Pq _) rfl rfl rfl (fun _ _ _=>rfl)
    (by simp[l]) (by simp[l,n1,n2]) (Pq _) (by simp[l]) jR (by simp[l]) HY qj
   refine⟨_,_,w,_,_,_,by rw[Sem.run_bind,dq];rfl,.inl rfl,g3,kJ,?_,Nd⟩
   have:=P8 l (by simp[l,n1,n2]) (by simp[l]) (Pq _) Lg (by simp[l]) w
   rw[Hj];exact this
  ·
   have mv:∃id lo dP,c1= .rv (.one (.row id i.size lo dP))/\Live ρ m (.ap id)/\Lg=some ⟨(ρ.aP (.ap id)).b,(ρ.aP (.ap id)).au+lo*i.size,none⟩/\iY=(ρ.aP (.ap id)).cap-lo/\
     ∃cur,kQ (i.size=1) w (ρ.aP (.ap id)).b cur/\(ρ.aP (.ap id)).au+(ρ.aP (.ap id)).cap*i.size<=cur.size:=by
    unfold eK at xi;split at xi
    .simp[s7]at kY
    .rename_i id e0 lo dP;split at xi
     .rename_i Xr rows eO;rw[aU]at eO;split at xi
      .rename_i q1 q2;have q1:e0=i.size:=Wh q1;have q2:Xr=i.size:=Wh q2;subst q1;rw[q2]at eO;obtain⟨r2,r3,r4,r5,Fo⟩:=hM.bk id _ eO;obtain⟨aE,d1,d2,d3,d4,ad,Ll,sj⟩:=hd;rw[Ll]at BJ;injection BJ with UL YL Q4
       have uZ:0<(ρ.aP (.ap id)).cap:=by clear Fo;omega
       obtain⟨cur,bS,h1,_⟩:=Fo uZ;exact⟨id,lo,dP,rfl,⟨_,eO,aI,fun _=>uZ⟩,by rw[<-UL];exact sj (by clear Fo;omega),Q4.symm,cur,bS,h1⟩
      .cases xi
     .cases xi
    .cases xi;obtain⟨ad,Ll⟩:=hd;rw[Ll]at BJ;injection BJ with _ _ Q4
     omega
    .cases xi
   obtain⟨id,lo,dP,rfl,dD,rfl,D1,cur,bS,eY⟩:=mv;have gx:lo+iY=(ρ.aP (.ap id)).cap:=om;have hbound:(ρ.aP (.ap id)).au+lo*i.size+iY*i.size<=cur.size:=by have:(lo+iY)*i.size=lo*i.size+iY*i.size:=aas ..;rw[<-gx,this]at eY;omega
   have UM:E1.length*i.size+E2.length*i.size<=iY*i.size:=by rw[<-aas];exact aag _ l8
   obtain⟨w',fH,yI,oX,P9,UN,gv⟩:=lF (P:=P) (ρ.aP (.ap id)).b ((ρ.aP (.ap id)).au+lo*i.size+E1.length*i.size) HX 0 cur w bS (by rw[F2.len];omega) F2.one
   have vK:(Builtin.append_ #[t,t2] ty #[v,v2]).run P w= .ok (.slice (some ⟨(ρ.aP (.ap id)).b,(ρ.aP (.ap id)).au+lo*i.size,none⟩) (E1.length+E2.length) iY) w':=by rw[dq];simp only[vL,kI];rw[yI];rfl
   let l:uW:=⟨(ρ.aP (.ap id)).b,(ρ.aP (.ap id)).au+lo*i.size,E1.length+E2.length,iY⟩;have cP:=hM.a7 _ dD;obtain⟨kJ,Nd⟩:=hM.move (m1:=gM (gM m (.rv (.one (.row id i.size lo dP)))) c2) (D:=D) (esz:=i.size) (E:=E1++E2) (l:=l) (src:=src) (w':=w') (by rw[k3,k1]) Fm (Nat.le_of_eq P9.size.symm) P9.os P9.tape P9.output
    (fun b hb hn=>P9.heap b fun e=>hn id (.inl ⟨_,_,_,rfl⟩) dD e.symm) (fun _=>⟨by rw[P9.size];exact cP.1,.inr ⟨id,.inl ⟨_,_,_,rfl⟩,dD,rfl⟩⟩) (by simp[l]) l8 Lh jR
    (fun g _=>⟨fH,oX,by rw[UN];exact hbound,fun k cs j c hk hj=>by
     obtain⟨u,hu,b8⟩:=iy g (D0 l) k cs j c hk hj;refine⟨u,?_,b8⟩;rw[gv];simp only[l,abC];have aE:=(Gf.1 hu).1;rw[aaH,F1.len,F2.len]at aE;rcases Wj (k*i.size+j) (E1.length*i.size)with y8|y8
     .rw[if_neg om];rw[Tz (by rw[F1.len];exact y8)]at hu
      obtain⟨b',YM,Ou,YN⟩:=F1.Oq (by
       rcases aap E1.length with h0|h0
       .rw[h0]at y8;simp at y8
       .exact h0)
      injection Ou with Ou
      injection Ou with Oo mL
      have hh:=YN _ u hu;rw[<-Oo,<-mL,bS.cell]at hh;rw[<-hh];congr 1;omega
     .rw[if_pos (by rw[F2.len];omega)]
      rw[SF (by rw[F1.len];exact y8)]at hu
      rw[<-hu];congr 1;rw[F1.len];omega⟩) HY qj
   refine⟨_,_,w',_,_,_,by rw[Sem.run_bind,vK];rfl,.inl rfl,g3,kJ,?_,Nd⟩
   exact P8 l rfl Lh l8 _ (fun _=>rfl) w'
 ·
  rw[if_neg l8]at dq;have eu:=grownCap_ge w (E1.length+E2.length) iY e;have Xs:grownCap w (E1.length+E2.length) iY e<=maxLen:=grownCap_le_maxLen w _ iY e (by unfold maxLen;omega)
  let cells:Array Value:=P7.toArray++HX.toArray++Builtin.zeroCells zv.cells (grownCap w (E1.length+E2.length) iY e-(E1.length+E2.length));let l:uW:=⟨w.heap.size,0,E1.length+E2.length,grownCap w (E1.length+E2.length) iY e⟩;have Q5:cells.size=grownCap w (E1.length+E2.length) iY e*i.size:=by simp only[cells,Array.size_append,List.size_toArray,F1.len,F2.len,size_zeroCells,Q1,<-Nat.add_mul];congr 1;omega
  have xk:kQ (i.size=1) (w.drew.alloc (.cells cells e)) w.heap.size cells:=kQ.new w.drew cells e;obtain⟨kJ,Nd⟩:=hM.move (m1:=gM (gM m c1) c2) (D:=D) (esz:=i.size) (E:=E1++E2) (l:=l) (src:=src) (w':=w.drew.alloc (.cells cells e)) (by rw[k3,k1]) Fm aI rfl rfl rfl
   (fun b hb _=>heap_alloc_old w.drew _ b hb) (fun _=>⟨xk.lt,.inl (Pq _)⟩) (by simp[l]) eu Xs jR
   (fun g _=>⟨cells,xk,by simp only[l,aai];rw[Q5];exact Pq _,fun k cs j c hk hj=>by
    obtain⟨u,hu,b8⟩:=iy g (D0 l) k cs j c hk hj;refine⟨u,?_,b8⟩;have aE:=(Gf.1 hu).1;simp only[l,aai,cells];rw[abk (by simpa using aE)]
    simpa using hu⟩) HY qj
  refine⟨_,_,_,_,_,_,by rw[Sem.run_bind,dq];rfl,.inl rfl,g3,kJ,?_,Nd⟩
  exact P8 l rfl Xs eu _ (fun _=>rfl) _
end
end Go.AM
