/- Part 3 of 16. -/
import Derived.Test.YtodckkkbiidffaaGreatDoorK02
import Derived.ChangeKeysEq
import Derived.Laws.StructEq
set_option linter.unusedVariables false
set_option linter.unusedSimpArgs false
set_option maxRecDepth 100000
set_option maxHeartbeats 0
namespace Go.AM
section
variable {P:Program} {ρ:bI} {m:Mem} {w:World} {aX:List CV} {a:Act} {K:CV->Mem->Prop}
def jp:List Kd->List Value->List Value->Option Bool
 | [],[],[]=>some true
 |k::ks,a::r,b::s=>match PQ k a b,jp ks r s with
  |some x,some y=>some (x&&y)
  |_,_=>none
 |_,_,_=>none
theorem oQ:∀{ks:List Kd}{a b:List Value}{r:Bool},jp ks a b=some r->a.length=ks.length/\b.length=ks.length
 | [],[],[],r,h=>⟨rfl,rfl⟩
 | [],[],_::_,r,h=>by simp[jp]at h
 | [],_::_,_,r,h=>by simp[jp]at h
 |k::ks,[],_,r,h=>by simp[jp]at h
 |k::ks,_::_,[],r,h=>by simp[jp]at h
 |k::ks,a::l,b::l',r,h=>by
  simp only[jp]at h;split at h
  .rename_i x y hx hy;obtain⟨h1,h2⟩:=oQ hy;exact⟨by simp[h1],by simp[h2]⟩
  .cases h
theorem u3:∀{ks ls:List Kd}{u v:List Value}{r:Bool},jp (ks++ls) u v=some r->
  ∃u1 u2 v1 v2 x y,u=u1++u2/\v=v1++v2/\jp ks u1 v1=some x/\jp ls u2 v2=some y/\r=(x&&y)
 | [],ls,u,v,r,h=>⟨[],u,[],v,true,r,rfl,rfl,rfl,h,aE⟩
 |k::ks,ls,[],v,r,h=>by simp[jp]at h
 |k::ks,ls,_::_,[],r,h=>by simp[jp]at h
 |k::ks,ls,a::l,b::l',r,h=>by
  simp only[ad6,jp]at h;split at h
  .rename_i x y hx hy;cases h;obtain⟨u1,u2,v1,v2,x1,y1,rfl,rfl,h1,h2,rfl⟩:=u3 hy;exact⟨a::u1,u2,b::v1,v2,x&&x1,y1,rfl,rfl,by simp[jp,hx,h1],h2,by simp[Bool.and_assoc]⟩
  .cases h
def oR(P:Program)(t:TypeId)(us:List Value):Value:=if ec P t=some true then .agg us.toArray else us.headD Go.undef
theorem m5{t:TypeId}{pre us post:List Value}(hs:eL P t=some us.length)(ha:ec P t=some true\/(ec P t=some false/\us.length=1)):
  (part t (pre++(us++post)).toArray pre.length).run P w= .ok (oR P t us) w:=by
 unfold part oR;rcases ha with ha|⟨ha,h1⟩
 .rw[Sem.run_bind,pQ ha];simp only[Result.andThen_ok,if_true,ha];rw[Sem.run_bind,fq hs];simp only[Result.andThen_ok,Sem.run_pure];congr 2;apply abZ;simp
 .rw[Sem.run_bind,pQ ha]
  match us,h1 with
  | [u],_=>
   simp[ha]
theorem rU:∀(d:Nat)(t:TypeId)(ks:List Kd),flatK P d t=some ks->eL P t=some ks.length/\(ec P t=some true\/(ec P t=some false/\ks.length=1))/\
  ∀(k:Nat),d<=k->∀(us vs:List Value)(b:Bool),jp ks us vs=some b->(Op.equalIn k t (oR P t us) (oR P t vs)).run P w= .ok b w
 |0,t,ks,h=>by simp[flatK]at h
 |d+1,t,ks,h=>by
  simp only[flatK]at h;have plain:∀kd,ks=[kd]->eL P t=some 1->ec P t=some false->(∀(k:Nat)(x y:Value)b,PQ kd x y=some b->(Op.equalIn (k+1) t x y).run P w= .ok b w)->
    eL P t=some ks.length/\(ec P t=some true\/(ec P t=some false/\ks.length=1))/\
    ∀(k:Nat),d+1<=k->∀(us vs:List Value)(b:Bool),jp ks us vs=some b->(Op.equalIn k t (oR P t us) (oR P t vs)).run P w= .ok b w:=by
   rintro kd rfl hs ha cP;refine⟨hs,.inr ⟨ha,rfl⟩,λk hk us vs b he=>?_⟩
   obtain⟨h1,h2⟩:=oQ he
   match us,vs,h1,h2 with
   | [x],[y],_,_=>
    obtain⟨k,rfl⟩:∃k',k=k'+1:=⟨k-1,om⟩;simp only[oR,ha];simp only[jp]at he;split at he
    .rename_i p q hp hq;cases he;cases hq;simp only[Bool.and_true];exact cP k x y p hp
    .cases he
  split at h
  .rename_i hu;split at h
   .cases h;refine plain .b rfl (by assumption) (by simp[ec,hu]) λk x y b he=>?_
    cases x<;>cases y<;>simp only[PQ]at he<;>try(cases he;done)
    cases he;simp[Op.equalIn,run_underlying hu]
   .cases h
  .rename_i kk hu;split at h
   .cases h;refine plain .i rfl (by assumption) (by simp[ec,hu]) λk x y b he=>?_
    cases x<;>cases y<;>simp only[PQ]at he<;>try(cases he;done)
    rename_i k1 a k2 b';by_cases hk:k1=k2
    .subst hk;simp at he;subst he;simp[Op.equalIn,run_underlying hu]
    .rw[decide_eq_false hk]at he;cases he
   .cases h
  .rename_i hu;split at h
   .cases h;refine plain .s rfl (by assumption) (by simp[ec,hu]) λk x y b he=>?_
    cases x<;>cases y<;>simp only[PQ]at he<;>try(cases he;done)
    cases he;simp[Op.equalIn,run_underlying hu,beq_toListBytes]
   .cases h
  .rename_i fs hu;split at h
   .rename_i lV;split at h
    .rename_i ks0 hf;split at h
     .rename_i dk;cases h;have ha:ec P t=some true:=by simp[ec,hu]
      refine⟨dk,.inl ha,λk hk us vs b he=>?_⟩
      obtain⟨k,rfl⟩:∃k',k=k'+1:=⟨k-1,om⟩;have VT:P.fieldsOf t=fs:=by simp[Program.fieldsOf,hu]
      simp only[oR,ha,if_true];rw[run_equalIn_struct w k t us.toArray vs.toArray (by rw[VT];exact hu) lV,VT]
      have key:∀(l:List Field)(pre rV:List Value)(ls:List Kd)(us vs:List Value)(b:Bool),pre.length=rV.length->CM (flatK P d) l pre.length=some ls->jp ls us vs=some b->
        (Op.eqFields k (pre++us).toArray (rV++vs).toArray l).run P w= .ok b w:=by
       intro l
       induction l with
       |nil=>
        intro pre rV ls us vs b _ tK he;simp[CM]at tK;subst tK;obtain⟨h1,h2⟩:=oQ he;cases us<;>cases vs<;>simp[jp]at he h1 h2
        subst he;simp[Op.eqFields]
       |cons f l ih=>
        intro pre rV ls us vs b WH tK he;simp only[CM]at tK;split at tK
        .rename_i hc;split at tK
         .rename_i ks1 kM;split at tK
          .rename_i ls1 zB;cases tK;obtain⟨u1,u2,v1,v2,x,y,rfl,rfl,Qf,kL,rfl⟩:=u3 he;obtain⟨g1,g2,g3⟩:=rU d f.type ks1 kM;obtain⟨e1,e2⟩:=oQ Qf;simp only[Op.eqFields];rw[if_pos hc.1,hc.2];rw[Sem.run_bind,m5 (by rw[g1,e1]) (by rw[e1];exact g2)]
           simp only[Result.andThen_ok];rw[Sem.run_bind,WH,m5 (by rw[g1,e2]) (by rw[e2];exact g2)]
           simp only[Result.andThen_ok];rw[Sem.run_bind,g3 k om u1 v1 x Qf];simp only[Result.andThen_ok];have:=ih (pre++u1) (rV++v1) ls1 u2 v2 y (by simp[WH,e1,e2]) (by rw[aa3,e1];exact zB) kL
           simp only[ac0]at this;cases x
           .simp
           .simpa using this
          .cases tK
         .cases tK
        .cases tK
      have:=key fs.toList [] [] ks us vs b rfl hf he;simpa using this
     .cases h
    .cases h
   .cases h
  .cases h
theorem oS:∀{ks:List Kd}{cs ds:List CC}{b:Bool}{us vs:List Value},kQ ks cs ds=some b->us.length=cs.length->vs.length=ds.length->
  (∀(i:Nat)c,cs[i]? =some c->∃u,us[i]? =some u/\bj ρ w .none c u)->(∀(i:Nat)c,ds[i]? =some c->∃u,vs[i]? =some u/\bj ρ w .none c u)->jp ks us vs=some b
 | [],[],[],b,us,vs,h,h1,h2,_,_=>by simp at h1 h2;subst h1 h2;simpa[kQ,jp]using h
 | [],[],_::_,b,us,vs,h,h1,h2,_,_=>by simp[kQ]at h
 | [],_::_,_,b,us,vs,h,h1,h2,_,_=>by simp[kQ]at h
 |k::ks,[],_,b,us,vs,h,h1,h2,_,_=>by simp[kQ]at h
 |k::ks,c::cs,[],b,us,vs,h,h1,h2,_,_=>by cases c<;>simp[kQ]at h
 |k::ks,c::cs,d::ds,b,us,vs,h,h1,h2,g1,g2=>by
  unfold kQ at h;split at h
  .cases ‹_::_=[]›
  .rename_i k' ks' x r y s e1 e2 e3;cases e1;cases e2;cases e3;split at h
   .rename_i p q hp hq;cases h
    match us,vs,h1,h2 with
    |u::us,v::vs,h1,h2=>
     obtain⟨u',hu,cy⟩:=g1 0 _ rfl;obtain⟨v',hv,p7⟩:=g2 0 _ rfl;simp at hu hv;subst hu hv;obtain⟨rfl,_⟩:=bF cy (λe=>by subst e;cases k<;>simp[PQ]at hp)
     obtain⟨rfl,_⟩:=bF p7 (λe=>by subst e;cases k<;>cases u<;>simp[PQ]at hp)
     have:=oS (us:=us) (vs:=vs) hq (by simpa using h1) (by simpa using h2) (λi c hi=>by simpa using g1 (i+1) c (by simpa using hi)) (λi c hi=>by simpa using g2 (i+1) c (by simpa using hi))
     simp[jp,hp,this]
   .cases h
  .cases h
theorem zC(hM:ay ρ m w)(hE:bl ρ w aX a.tmps){neg:Bool}{t:TypeId}{fs:Array Field}{ks:List Kd}{x y:Operand}{x' y':X}(ht:P.underlying t=some (.struct fs))(hg:P.eqGuardType P.depth t=false)(hk:flatK P 5 t=some ks)(hx:bn x=some x')(hy:bn y=some y')(h:step P (.PN neg ks x' y') aX m K):dd P (do let v<-(do eqGuard (if neg then .neq else .eql) t x y (a.eval x) (a.eval y);binOp (if neg then .neq else .eql) t (a.eval x) (a.eval y));pure (Next.value v)) ρ m w K:=by
 have hd:=aR hE hx;have qx:=aR hE hy;simp only[step]at h;generalize a.eval x=v at hd|-;generalize a.eval y=u at qx|-;generalize x'.ev aX=c at hd h;generalize y'.ev aX=d at qx h;split at h
 .split at h
  .obtain⟨us,rfl,l1,d1⟩:=hd;obtain⟨vs,rfl,l2,d2⟩:=qx;obtain⟨b,he,hK⟩:=aU.1 h;have SB:=oS he l1 l2 d1 d2;have cP:=(rU (w:=w) 5 t ks hk).2.2 10000 om us vs b SB;have ha:ec P t=some true:=by simp[ec,ht]
   simp only[oR,ha,if_true]at cP;refine dd.pure hM (v:=_) ?_ hK (cA rfl);rw[Sem.run_bind,Sem.run_bind,run_eqGuard_agg w _ t x y _ _ hg];cases neg
   .simp only[Result.andThen_ok,abL,if_false,run_eql_struct,cP,Sem.run_pure]
   .simp only[Result.andThen_ok,if_true,run_neq_struct,cP,Sem.run_pure]
  .exact h.elim
 .exact h.elim
theorem nN{e:TypeId}{kk:IntKind}(hu:P.underlying e=some (.int kk))(hs:eL P e=some 1)(d:Nat):∀(us vs pre rV:List Value)(b:Bool),pre.length=rV.length->jp (gI us.length .i) us vs=some b->
  (Op.eqItems (d+1) e 1 (pre++us).toArray (rV++vs).toArray (List.range' pre.length us.length)).run P w= .ok b w
 | [],[],pre,rV,b,_,he=>by simp[gI,jp]at he;subst he;simp[Op.eqItems]
 | [],v::vs,pre,rV,b,_,he=>by simp[gI,jp]at he
 |u::us,[],pre,rV,b,_,he=>by simp[gI,jp]at he
 |u::us,v::vs,pre,rV,b,hp,he=>by
  have ha:ec P e=some false:=by simp[ec,hu]
  simp only[aau,gI,jp]at he;split at he
  .rename_i x y hx hy;cases he;have ih:=nN hu hs d us vs (pre++ [u]) (rV++ [v]) y (by simp[hp]) hy
   have p1:=m5 (w:=w) (t:=e) (pre:=pre) (us:=[u]) (post:=us) hs (.inr ⟨ha,rfl⟩);have p2:=m5 (w:=w) (t:=e) (pre:=rV) (us:=[v]) (post:=vs) hs (.inr ⟨ha,rfl⟩);simp only[oR,ha,List.singleton_append]at p1 p2;have p3:(Op.equalIn (d+1) e u v).run P w= .ok x w:=by
    cases u<;>cases v<;>simp only[PQ]at hx<;>try(cases hx;done)
    rename_i k1 a k2 b';by_cases hk:k1=k2
    .subst hk;simp at hx;subst hx;simp[Op.equalIn,run_underlying hu]
    .rw[decide_eq_false hk]at hx;cases hx
   simp only[aau,adE,Op.eqItems,Sem.run_bind,Nat.mul_one];rw[p1];simp only[Result.andThen_ok];rw[hp,p2];simp only[Result.andThen_ok,aav,abL,if_false,List.headD_cons];rw[p3];simp only[Result.andThen_ok];cases x
   .simp
   .simp only[adX,abL,if_false,adg];rw[<-hp];simpa using ih
  .cases he
theorem wQ(hM:ay ρ m w)(hE:bl ρ w aX a.tmps){neg:Bool}{t e:TypeId}{n:Nat}{kk:IntKind}{x y:Operand}{x' y':X}(ht:P.underlying t=some (.array n e))(hg:P.eqGuardType P.depth t=false)(hu:P.underlying e=some (.int kk))(hs:eL P e=some 1)(hx:bn x=some x')(hy:bn y=some y')(h:step P (.PN neg (gI n .i) x' y') aX m K):dd P (do let v<-(do eqGuard (if neg then .neq else .eql) t x y (a.eval x) (a.eval y);binOp (if neg then .neq else .eql) t (a.eval x) (a.eval y));pure (Next.value v)) ρ m w K:=by
 have hd:=aR hE hx;have qx:=aR hE hy;simp only[step]at h;generalize a.eval x=v at hd|-;generalize a.eval y=u at qx|-;generalize x'.ev aX=c at hd h;generalize y'.ev aX=d at qx h;split at h
 .split at h
  .obtain⟨us,rfl,l1,d1⟩:=hd;obtain⟨vs,rfl,l2,d2⟩:=qx;obtain⟨b,he,hK⟩:=aU.1 h;have SB:=oS he l1 l2 d1 d2;obtain⟨e1,e2⟩:=oQ SB;have hn:us.length=n:=by rw[e1,fY];simp
   have WI:=hs;simp only[eL,aaz]at WI;obtain⟨i,hi,Jj⟩:=WI;have hc:P.cellsOf e=1:=by simp[Program.cellsOf,hi,Jj]
   have cP:=nN (w:=w) hu hs 9998 us vs [] [] b rfl (by rw[hn];exact SB)
   simp only[aed,abl]at cP;have zD:(Op.equalIn 10000 t (.agg us.toArray) (.agg vs.toArray)).run P w= .ok b w:=by rw[run_equalIn_array w 9999 _ _ ht hi,hc,<-hn,adI];exact cP
   refine dd.pure hM (v:=_) ?_ hK (cA rfl);rw[Sem.run_bind,Sem.run_bind,run_eqGuard_agg w _ t x y _ _ hg];cases neg
   .simp only[Result.andThen_ok,abL,if_false,run_eql_struct,zD,Sem.run_pure]
   .simp only[Result.andThen_ok,if_true,run_neq_struct,zD,Sem.run_pure]
  .exact h.elim
 .exact h.elim
end
section
variable {P:Program} {ρ:bI} {m:Mem} {w:World} {aX:List CV} {a:Act} {K:CV->Mem->Prop}
def bI.move(ρ:bI)(l:wu)(src:Nat->Nat->gw):bI:=
 {n:=ρ.n+1
  aI:=λk=>match k with
   | .aj id=>if id=ρ.n then l else ρ.aI (.aj id)
   | .sub id i j=>if id=ρ.n then ρ.aI (src i j)else ρ.aI (.sub id i j)
  S:=ρ.S}
theorem ay.move{w':World}(hM:ay ρ m w){m1:Mem}{D:Nat->Prop}{esz:Nat}{E:List (List CC)}{l:wu}{src:Nat->Nat->gw}(hlen:m1.length=m.length)(Jp:∀(id:Nat)b,m1[id]? =some b->b= .aS\/(m[id]? =some b/\¬D id))(dk:w.heap.size<=w'.heap.size)(WJ:w'.os=w.os)(WK:w'.tape=w.tape)(gx:w'.output=w.output)(eF:∀b,b<w.heap.size->(∀id,D id->Live ρ m (.aj id)->(ρ.aI (.aj id)).b≠b)->w'.heap[b]? =w.heap[b]?)(hl:0<l.cap->l.b<w'.heap.size/\(w.heap.size<=l.b\/∃id,D id/\Live ρ m (.aj id)/\(ρ.aI (.aj id)).b=l.b))(hE:E.length=l.len)(oT:l.len<=l.cap)(be:l.cap<=maxLen)(oh:∀cs,cs∈E->cs.length=esz)(dL:iL ρ w (ρ.move l src) w'->0<l.cap->∃cur,mE (esz=1) w' l.b cur/\l.aq+l.cap*esz<=cur.size/\
   ∀(i:Nat)cs(j:Nat)c,E[i]? =some cs->cs[j]? =some c->∃u,cur[l.aq+i*esz+j]? =some u/\bj (ρ.move l src) w' (some (ρ.n,i,j)) c u)(kz:∀(i:Nat)cs(j:Nat)s e,E[i]? =some cs->cs[j]? =some (.ei s e)->∃kK i' j',src i j= .sub kK i' j'/\D kK/\dY m kK i' j' s e)(oU:∀i j i' j',src i j=src i' j'->(∃cs s e,E[i]? =some cs/\cs[j]? =some (.ei s e))->(∃cs s e,E[i']? =some cs/\cs[j']? =some (.ei s e))->i=i'/\j=j'):
  ay (ρ.move l src) (m1++ [.row esz E]) w'/\Ext ρ m w (ρ.move l src) (m1++ [.row esz E]) w':=by
 have hn:=hM.n;have old:∀k:gw,k.id<ρ.n->(ρ.move l src).aI k=ρ.aI k:=by
  intro k hk;cases k with
  |aj id=>simp only[bI.move];rw[if_neg (by simp only[gw.id]at hk;omega)]
  |sub id i j=>simp only[bI.move];rw[if_neg (by simp only[gw.id]at hk;omega)]
 have wR:(ρ.move l src).aI (.aj ρ.n)=l:=by simp[bI.move]
 have yT:∀i j,(ρ.move l src).aI (.sub ρ.n i j)=ρ.aI (src i j):=by intro i j;simp[bI.move]
 have wS:∀b,ρ.S b->w'.heap[b]? =w.heap[b]? :=λb hb=>eF b (hM.S b hb) λid _ bC e=>(hM.aL _ bC).2 (e▸hb)
 have g:iL ρ w (ρ.move l src) w':=⟨by simp[bI.move],old,λb hb=>hb,wS⟩
 have get:∀{id:Nat}{b:Bk},(m1++ [.row esz E])[id]? =some b->(id<ρ.n/\(b= .aS\/(m[id]? =some b/\¬D id)))\/(id=ρ.n/\b= .row esz E):=by
  intro id b hb;rcases aaf id m1.length with h|h
  .rw[aac h]at hb;exact .inl ⟨om,Jp id b hb⟩
  .rw[ZZ h]at hb;have:id-m1.length=0:=by
    rcases abi (id-m1.length)with h0|h0
    .exact h0
    .rw[aaE (by simp;omega)]at hb;cases hb
   rw[this]at hb;exact .inr ⟨om,by simpa using hb.symm⟩
 have ew:∀{id i j s e},dY (m1++ [.row esz E]) id i j s e->(id<ρ.n/\¬D id/\dY m id i j s e)\/
   (id=ρ.n/\(∃cs s e,E[i]? =some cs/\cs[j]? =some (.ei s e))/\∃kK i' j',src i j= .sub kK i' j'/\D kK/\dY m kK i' j' s e):=by
  rintro id i j s e ⟨b0,Jg,ho⟩;rcases get Jg with⟨aC,hb|⟨hb,hD⟩⟩|⟨rfl,hb⟩
  .subst hb;cases ho
  .exact .inl ⟨aC,hD,b0,hb,ho⟩
  .subst hb;obtain⟨cs,hi,hj⟩:=ho.yO;exact .inr ⟨rfl,⟨cs,_,_,hi,hj⟩,kz i cs j s e hi hj⟩
 have dn:∀k,Live (ρ.move l src) (m1++ [.row esz E]) k->
   (k.id<ρ.n/\¬D k.id/\Live ρ m k)\/(k= .aj ρ.n/\0<l.cap)\/
   (∃i j,k= .sub ρ.n i j/\(∃cs s e,E[i]? =some cs/\cs[j]? =some (.ei s e))/\Live ρ m (src i j)/\D (src i j).id/\∃a b c,src i j= .sub a b c):=by
  intro k hk;cases k with
  |aj id=>
   obtain⟨b,hb,dh,vJ⟩:=hk;rcases get hb with⟨aC,rfl|⟨hb,hD⟩⟩|⟨rfl,rfl⟩
   .exact absurd rfl dh
   .rw[old (.aj id) aC]at vJ;exact .inl ⟨aC,hD,b,hb,dh,vJ⟩
   .rw[wR]at vJ;exact .inr (.inl ⟨rfl,vJ ⟨_,_,rfl⟩⟩)
  |sub id i j=>
   obtain⟨⟨s,e,ho⟩,vJ⟩:=hk;rcases ew ho with⟨aC,hD,ho⟩|⟨rfl,ju,kK,i',j',hs,hD,ho⟩
   .rw[old (.sub id i j) aC]at vJ;exact .inl ⟨aC,hD,⟨s,e,ho⟩,vJ⟩
   .rw[yT]at vJ;exact .inr (.inr ⟨i,j,rfl,ju,by rw[hs]at vJ|-;exact⟨⟨s,e,ho⟩,vJ⟩,by rw[hs];exact hD,_,_,_,hs⟩)
 have eW:∀k,Live ρ m k->(k.id<ρ.n/\¬D k.id)\/(∃a b c,k= .sub a b c)->w'.heap[(ρ.aI k).b]? =w.heap[(ρ.aI k).b]? :=by
  intro k hk WL;refine eF _ (hM.aL k hk).1 λid hD bC e=>?_
  have:=hM.inj _ _ bC hk e;rcases WL with⟨_,hnD⟩|⟨_,_,_,rfl⟩
  .exact hnD (by rw[<-this];exact hD)
  .cases this
 refine⟨⟨by simp[bI.move,hn,hlen],λb hb=>aaI (hM.S b hb) dk,?_,?_,?_,?_⟩,
  ⟨by simp[bI.move],λid hid=>old (.aj id) hid,λb hb=>hb,λb hb=>.inl hb,?_,?_,dk,WJ,WK,gx⟩⟩
 .intro k hk;rcases dn k hk with⟨aC,_,hk⟩|⟨rfl,hc⟩|⟨i,j,rfl,_,hk,_⟩
  .rw[old k aC];exact⟨aaI (hM.aL k hk).1 dk,(hM.aL k hk).2⟩
  .rw[wR];obtain⟨h1,h2⟩:=hl hc;refine⟨h1,λhs=>?_⟩
   rcases h2 with h2|⟨id,hD,bC,e⟩
   .have:=hM.S _ hs;omega
   .exact(hM.aL _ bC).2 (e▸hs)
  .rw[yT];exact⟨aaI (hM.aL _ hk).1 dk,(hM.aL _ hk).2⟩
 ·
  have AW:0<l.cap->∀k,Live ρ m k->(k.id<ρ.n/\¬D k.id)\/(∃a b c,k= .sub a b c)->(ρ.aI k).b≠l.b:=by
   intro hc k hk WL e;obtain⟨h1,h2⟩:=hl hc;rcases h2 with h2|⟨id,hD,bC,e2⟩
   .have:=(hM.aL k hk).1;omega
   .have:=hM.inj _ _ bC hk (e2.trans e.symm);rcases WL with⟨_,hnD⟩|⟨_,_,_,rfl⟩
    .exact hnD (by rw[<-this];exact hD)
    .cases this
  intro k k' hk fZ he;rcases dn k hk with⟨aC,hD,hk⟩|⟨rfl,hc⟩|⟨i,j,rfl,hx,hk,hDs,iN⟩<;>rcases dn k' fZ with⟨oP,WM,fZ⟩|⟨rfl,rT⟩|⟨i',j',rfl,tL,fZ,aam,WN⟩
  .rw[old k aC,old k' oP]at he;exact hM.inj k k' hk fZ he
  .rw[old k aC,wR]at he;exact absurd he (AW rT k hk (.inl ⟨aC,hD⟩))
  .rw[old k aC,yT]at he;have:=hM.inj _ _ hk fZ he;exact absurd (by rw[this];exact aam) hD
  .rw[old k' oP,wR]at he;exact absurd he.symm (AW hc k' fZ (.inl ⟨oP,WM⟩))
  .rfl
  .rw[wR,yT]at he;exact absurd he.symm (AW hc _ fZ (.inr WN))
  .rw[old k' oP,yT]at he;have:=hM.inj _ _ hk fZ he;exact absurd (by rw[<-this];exact hDs) WM
  .rw[wR,yT]at he;exact absurd he (AW rT _ hk (.inr iN))
  .rw[yT,yT]at he;obtain⟨rfl,rfl⟩:=oU i j i' j' (hM.inj _ _ hk fZ he) hx tL;rfl
 .intro id b hb;rcases get hb with⟨aC,rfl|⟨hb,hD⟩⟩|⟨rfl,rfl⟩
  .trivial
  .exact(hM.bk id b hb).cm g aC λdh vJ=>eW (.aj id) ⟨b,hb,dh,vJ⟩ (.inl ⟨aC,hD⟩)
  .exact⟨by rw[wR];exact hE,by rw[wR];exact oT,by rw[wR];exact be,oh,λhc=>by rw[wR]at hc|-;exact dL g hc⟩
 .intro id i j s e ho vJ;rcases ew ho with⟨aC,hD,ho⟩|⟨rfl,_,kK,i',j',hs,hD,ho⟩
  .rw[old (.sub id i j) aC]at vJ|-;exact(hM.ei id i j s e ho vJ).cm g (eW (.sub id i j) ⟨⟨s,e,ho⟩,vJ⟩ (.inr ⟨_,_,_,rfl⟩))
  .rw[yT,hs]at vJ|-;exact(hM.ei kK i' j' s e ho vJ).cm g (eW (.sub kK i' j') ⟨⟨s,e,ho⟩,vJ⟩ (.inr ⟨_,_,_,rfl⟩))
 .intro k hk;rcases dn k hk with⟨aC,_,hk⟩|⟨rfl,hc⟩|⟨i,j,rfl,_,hk,_⟩
  .exact .inr ⟨k,hk,by rw[old k aC]⟩
  .rw[wR];obtain⟨h1,h2⟩:=hl hc;rcases h2 with h2|⟨id,hD,bC,e⟩
   .exact .inl h2
   .exact .inr ⟨_,bC,e⟩
  .exact .inr ⟨_,hk,by rw[yT]⟩
 .intro b hb hk;exact eF b hb λid hD bC e=>hk _ bC e
def zE(ad:Option Addr)(k:Nat)(vs:List Value):Sem Unit:=
 match ad with
 |some a=>storeCells (a.add k) vs
 |none=>pure ()
theorem oV{t t2 ty e e2:TypeId}{i:TypeInfo}{z:Value}(ht:P.underlying t=some (.slice e))(wT:P.underlying t2=some (.slice e2))(hi:P.info? e=some i)(hz:i.zero=some z){a0:Option Addr}{n1 c1 n2:Nat}{src:Value}{olds news:List Value}(hlen:(Builtin.lenOf src).run P w= .ok n2 w)(SC:∀k,(Builtin.firstCells i.size n2 src).run P (w.drewN k)= .ok news.toArray (w.drewN k))(holds:∀k,(Builtin.firstCells i.size n1 (.slice a0 n1 c1)).run P (w.drewN k)= .ok olds.toArray (w.drewN k))(hb:0<i.bytes)(kT:(n1+n2)*i.bytes<=140737488355328):
  (Builtin.append_ #[t,t2] ty #[.slice a0 n1 c1,src]).run P w=if n1+n2<=c1 then
    ((zE a0 (n1*i.size) news).run P w).andThen λ_ w'=>.ok (.slice a0 (n1+n2) c1) w'
   else .ok (.slice (some ⟨w.heap.size,0,none⟩) (n1+n2) (grownCap w (n1+n2) c1 e)) (w.drew.alloc (.cells (olds.toArray++news.toArray++Builtin.zeroCells z.cells (grownCap w (n1+n2) c1 e-(n1+n2))) e)):=by
 have HK:=SC 0;have q8:=SC 1;have T2:=holds 1;have e0:w.drewN 0=w:=rfl;have e1:w.drewN 1=w.drew:=rfl;rw[e0]at HK;rw[e1]at q8 T2;have Fk:n1+n2<=140737488355328:=abD (ady _ hb) kT;unfold Builtin.append_;by_cases hc:n1+n2<=c1
 .simp[run_underlying ht,run_underlying wT,sizeOf,typeInfo,hi,hlen,hc,HK];cases a0<;>simp[zE]
 .have aan:¬(9223372036854775807<((n1:Int)+(n2:Int))):=om;have aao:¬(281474976710656<Builtin.nextslicecap (n1+n2) c1*i.bytes):=by have:=growslice_fits (need:=n1+n2) (old:=c1) om kT;omega
  have tM:¬i.bytes=0:=om;simp[run_underlying ht,run_underlying wT,sizeOf,typeInfo,zeroValue,hi,hz,hlen,hc,aan,aao,Question.forced,q8,T2,newRow,grownCap];congr 2;apply abZ;simp[ac0]
def wU(v:CV)(i j:Nat):Option (Nat×Nat×Nat):=
 match v with
 | .rv (.one (.row id _ lo _))=>some (id,lo+i,j)
 |_=>none
theorem jT{α:Type}(l:List α)(lo:Nat)(hi:Option Nat):b9 l lo hi=(match hi with|none=>l|some h=>l.take h).drop lo:=by
 cases lo<;>cases hi<;>simp[b9]
structure AX(ρ:bI)(w:World)(esz:Nat)(pos:Nat->Nat->Option (Nat×Nat×Nat))(E:List (List CC))(ad:Option Addr)(vs:List Value):Prop where
 len:vs.length=E.length*esz
 lZ:∀cs,cs∈E->cs.length=esz
 Mn:0<E.length->∃b off,ad=some ⟨b,off,none⟩/\∀k u,vs[k]? =some u->w.cell? ⟨b,off+k,none⟩=some u
 jS:∀(i:Nat)cs(j:Nat)c,E[i]? =some cs->cs[j]? =some c->∃u,vs[i*esz+j]? =some u/\bj ρ w (pos i j) c u
 one:∀u,u∈vs->u.oneCell'=true
theorem zF{esz:Nat}{pos:Nat->Nat->Option (Nat×Nat×Nat)}{E:List (List CC)}{b off:Nat}(lZ:∀cs,cs∈E->cs.length=esz)(h:∀(i:Nat)cs(j:Nat)c,E[i]? =some cs->cs[j]? =some c->∃u,w.cell? ⟨b,off+i*esz+j,none⟩=some u/\bj ρ w (pos i j) c u):
  ∃vs,AX ρ w esz pos E (some ⟨b,off,none⟩) vs:=by
 have all:∀k,k<E.length*esz->∃u p c,w.cell? ⟨b,off+k,none⟩=some u/\bj ρ w p c u:=by
  intro k hk;have cI:0<esz:=by
   rcases abi esz with h0|h0
   .subst h0;simp at hk
   .exact h0
  have hi:k/esz<E.length:=Nat.div_lt_of_lt_mul (by rwa [adw])
  have hj:k%esz<esz:=Nat.mod_lt _ cI;have fe:=lZ _ (aaw hi);obtain⟨u,hu,hd⟩:=h (k/esz) _ (k%esz) _ (vU hi) (vU (by rw[fe];exact hj))
  have e:off+k/esz*esz+k%esz=off+k:=by have:=Nat.div_add_mod k esz;rw[adw]at this;omega
  rw[e]at hu;exact⟨u,_,_,hu,hd⟩
 let vs:=(List.range (E.length*esz)).map λk=>(w.cell? ⟨b,off+k,none⟩).getD Go.undef
 have kD:∀k u,vs[k]? =some u->k<E.length*esz/\w.cell? ⟨b,off+k,none⟩=some u:=by
  intro k u hu;have hk:k<E.length*esz:=by have:=(Km.1 hu).1;simpa[vs]using this
  obtain⟨u',p,c,vK,_⟩:=all k hk;simp only[vs,Tm,ade hk,aaD,vK,abt,aav]at hu;exact⟨hk,by rw[vK,hu]⟩
 refine⟨vs,by simp[vs],lZ,λ_=>⟨b,off,rfl,λk u hu=>(kD k u hu).2⟩,λi cs j c hi hj=>?_,λu hu=>?_⟩
 .obtain⟨u,hu,hd⟩:=h i cs j c hi hj;refine⟨u,?_,hd⟩;have yU:=(Km.1 hi).1;have mh:j<esz:=by rw[<-lZ _ (Tp hi)];exact(Km.1 hj).1
  have aC:i*esz+j<E.length*esz:=by have:(i+1)*esz<=E.length*esz:=aaZ _ yU;rw[abf,ab3]at this;omega
  simp only[vs,Tm,ade aC,aaD,<-Nat.add_assoc,hu,abt]
 .obtain⟨k,hk,rfl⟩:=adr hu;obtain⟨oW,hc⟩:=kD k _ (vU hk);obtain⟨u',p,c,vK,hd⟩:=all k oW;rw[hc]at vK;cases vK;exact hd.one
theorem nO(hM:ay ρ m w){esz:Nat}{c:CV}{v:Value}{E:List (List CC)}(h:fF m esz c=some E)(hd:ce ρ w c v):
  ∃ad cap vs,v= .slice ad E.length cap/\E.length<=cap/\cap<=maxLen/\AX ρ w esz (wU c) E ad vs:=by
 unfold fF at h;split at h
 .rename_i e elems;split at h
  .rename_i he;have he:e=esz:=aai he;subst he;cases h;cases hd with
   |nil _ a cap hc=>exact⟨_,_,[],rfl,aE,hc,aE,aE,aE,aE,aE⟩
   |sl _ _ b off cap u hS hl be dk hc cq=>
    obtain⟨vs,EO⟩:=zF (ρ:=ρ) (w:=w) (esz:=e) (pos:=λ_ _=>none) (E:=elems.map λds=>ds.map .ah) (b:=b) (off:=off) (λcs fe=>by
     obtain⟨ds,zG,rfl⟩:=aal.1 fe;simpa using dk ds zG) (λi cs j c hi hj=>by
     rw[Tm]at hi;cases fg:elems[i]? with
     |none=>rw[fg]at hi;cases hi
     |some ds=>
      rw[fg]at hi;cases hi;rw[Tm]at hj;cases lW:ds[j]? with
      |none=>rw[lW]at hj;cases hj
      |some d=>
       rw[lW]at hj;cases hj;exact⟨_,hc i ds j d fg lW,cq i ds j d fg lW⟩)
    exact⟨_,cap,vs,aE,by simpa using hl,be,EO⟩
  .cases h
 .rename_i id e lo hi;split at h
  .rename_i e2 rows hb;rw[aT]at hb;split at h
   .rename_i he kL;have he:e=esz:=aai he;have kL:e2=esz:=aai kL;subst he;subst kL;cases h;obtain⟨h2,h3,h4,h5,Cz⟩:=hM.bk id _ hb;obtain⟨aC,d1,d2,d3,d4,ad,rfl,vH⟩:=hd;have hlen:(b9 rows lo hi).length=hi.getD (ρ.aI (.aj id)).len-lo:=by
     rw[jT];cases hi with
     |none=>simp[h2]
     |some h=>simp[h2];simp at d2;omega
    have kD:∀i cs,(b9 rows lo hi)[i]? =some cs->rows[lo+i]? =some cs:=by
     intro i cs Fl;rw[jT]at Fl;rw[abj]at Fl;cases hi with
     |none=>exact Fl
     |some h=>
      rw[aaM]at Fl;split at Fl
      .exact Fl
      .cases Fl
    rw[<-hlen];rcases abi (b9 rows lo hi).length with h0|h0
    .have T3:=aag h0;refine⟨ad,_,[],rfl,om,om,?_⟩;rw[T3];exact⟨aE,aE,aE,aE,aE⟩
    .have cI:0<(ρ.aI (.aj id)).cap:=by clear Cz;omega
     obtain⟨cur,bX,h1,cq⟩:=Cz cI;rw[vH (by clear Cz;omega)]
     obtain⟨vs,EO⟩:=zF (ρ:=ρ) (w:=w) (esz:=e2) (pos:=wU (.rv (.one (.row id e2 lo hi)))) (E:=b9 rows lo hi) (b:=(ρ.aI (.aj id)).b) (off:=(ρ.aI (.aj id)).aq+lo*e2) (λcs fe=>by
      obtain⟨i,eO,WO⟩:=adr fe;have:=kD i cs (by rw[vU eO,WO])
      exact h5 cs (Tp this)) (λi cs j c eO oz=>by
      obtain⟨u,hu,cy⟩:=cq (lo+i) cs j c (kD i cs eO) oz;refine⟨u,?_,cy⟩;rw[bX.cell,<-hu];congr 1;rw[abf];omega)
     exact⟨_,_,vs,rfl,by clear Cz;omega,by clear Cz;omega,EO⟩
   .cases h
  .cases h
 .cases h;obtain⟨ad,rfl⟩:=hd;exact⟨ad,0,[],rfl,aE,by unfold maxLen;omega,aE,aE,aE,aE,aE⟩
 .cases h
theorem AX.firstCells{esz:Nat}{pos:Nat->Nat->Option (Nat×Nat×Nat)}{E:List (List CC)}{ad:Option Addr}{vs:List Value}(h:AX ρ w esz pos E ad vs)(cap k:Nat):
  (Builtin.firstCells esz E.length (.slice ad E.length cap)).run P (w.drewN k)= .ok vs.toArray (w.drewN k):=by
 rcases abi E.length with h0|h0
 .have hv:vs=[]:=aag (by rw[h.len,h0];simp)
  subst hv;rw[h0];cases ad<;>simp[Builtin.firstCells,loadCells,loadCellsFrom]
 .obtain⟨b,off,rfl,hc⟩:=h.Mn h0;exact run_firstCells_some (P:=P) (w.drewN k) esz E.length ⟨b,off,none⟩ E.length cap vs h.len λj v hj=>by rw[mF];exact hc j v hj
theorem zH(m:Mem)(c:CV):(jn m c).length=m.length/\∀(id:Nat)b,(jn m c)[id]? =some b->b= .aS\/(m[id]? =some b/\¬∃e lo hi,c= .rv (.one (.row id e lo hi))):=by
 unfold jn;split
 .rename_i id e lo hi;rw[aY];refine⟨aE,λk b hb=>?_⟩
  by_cases hk:id=k
  .subst hk;have aC:id<m.length:=by
    rcases aaf id m.length with h|h
    .exact h
    .rw[aaE (by simpa using h)]at hb;cases hb
   rw[TH aC]at hb;cases hb;exact .inl rfl
  .rw[U7 hk]at hb;refine .inr ⟨hb,?_⟩;rintro⟨_,_,_,h⟩;cases h;exact hk rfl
 .rename_i kF;refine⟨rfl,λk b hb=>.inr ⟨hb,?_⟩⟩
  rintro⟨e,lo,hi,rfl⟩;exact kF _ _ _ _ rfl
def q9(c1 c2:CV)(n1:Nat)(i j:Nat):gw:=
 if i<n1 then(match wU c1 i j with|some (a,b,c)=>.sub a b c|none=>.aj 0)
 else(match wU c2 (i-n1) j with|some (a,b,c)=>.sub a b c|none=>.aj 0)
theorem mi{esz:Nat}{c:CV}{E:List (List CC)}(h:fF m esz c=some E){i j:Nat}{cs:List CC}{s:Nat}{e:List (List Dt)}(hi:E[i]? =some cs)(hj:cs[j]? =some (.ei s e)):
  ∃id e0 lo eO,c= .rv (.one (.row id e0 lo eO))/\dY m id (lo+i) j s e:=by
 unfold fF at h;split at h
 .split at h
  .cases h;rw[Tm]at hi;cases fg:(_:List (List Dt))[i]? with
   |none=>rw[fg]at hi;cases hi
   |some ds=>
    rw[fg]at hi;cases hi;rw[Tm]at hj;cases lW:ds[j]? with
    |none=>rw[lW]at hj;cases hj
    |some d=>rw[lW]at hj;cases hj
  .cases h
 .rename_i id e0 lo eO;split at h
  .rename_i e2 rows hb;rw[aT]at hb;split at h
   .cases h;refine⟨id,e0,lo,eO,rfl,_,hb,.row (rows:=rows) (cs:=cs) ?_ hj⟩;rw[jT,abj]at hi;cases eO with
    |none=>exact hi
    |some h=>
     rw[aaM]at hi;split at hi
     .exact hi
     .cases hi
   .cases h
  .cases h
 .cases h;simp at hi
 .cases h
theorem pS{c:CV}{id e lo:Nat}{hi:Option Nat}(h:c= .rv (.one (.row id e lo hi)))(i j:Nat):wU c i j=some (id,lo+i,j):=by subst h;rfl
theorem Fm(hM:ay ρ m w)(hE:bl ρ w aX a.tmps){t t2 ty e e2:TypeId}{i:TypeInfo}{z:List CC}{x y:Operand}{x' y':X}(ht:P.underlying t=some (.slice e))(wT:P.underlying t2=some (.slice e2))(hi:P.info? e=some i)(hz:ek P e=some z)(dk:i.size=z.length)(cI:0<z.length)(hb:0<i.bytes)(hx:bn x=some x')(hy:bn y=some y')(zI:(wC (x'.ev aX)&&Hy (x'.ev aX) (y'.ev aX))=true)(g1:ok (fF m i.size (x'.ev aX)) λE1=>ok (fF m i.size (y'.ev aX)) λE2=>(E1.length+E2.length)*i.bytes<=140737488355328/\nJ m λn=>K (.rv (.one (.row n i.size 0 none))) (gJ (jn (jn m (x'.ev aX)) (y'.ev aX)) [.row i.size (E1++E2)])):
  dd P (do pure (Next.value (<-Builtin.append_ #[t,t2] ty #[a.eval x,a.eval y]))) ρ m w K:=by
 have hd:=aR hE hx;have qx:=aR hE hy;generalize a.eval x=v at hd|-;generalize a.eval y=v2 at qx|-;generalize x'.ev aX=c1 at hd zI g1;generalize y'.ev aX=c2 at qx zI g1;rw[aab]at zI;obtain⟨kz,dh⟩:=zI;obtain⟨E1,AY,g2⟩:=aU.1 g1;obtain⟨E2,EP,kT,g3⟩:=aU.1 g2;rw[gP,cg]at g3;obtain⟨Qg,kU,VU,Fo,WQ,Qh,F1⟩:=nO hM AY hd;obtain⟨ad2,Mo,Mq,vL,WR,WS,F2⟩:=nO hM EP qx;have EM:=hz;simp only[ek,U6,N7]at EM;obtain⟨i',eO,zv,Qi,Qe⟩:=EM;rw[hi]at eO;cases eO;have WT:zv.cells.size=i.size:=by have:=(ft (ρ:=ρ) (w:=w) Qe).1;rw[dk];simpa using this
 have Fk:E1.length+E2.length<=140737488355328:=abD (ady _ hb) kT;have cP:=oV (P:=P) (w:=w) (ty:=ty) ht wT hi Qi (a0:=Qg) (n1:=E1.length) (c1:=kU) (n2:=E2.length) (src:=v2) (olds:=VU) (news:=Mq)
  (by rw[vL];rfl) (λk=>by rw[vL];exact F2.firstCells Mo k) (λk=>F1.firstCells kU k) hb kT
 rw[<-Fo]at cP;let D:Nat->Prop:=λid=>(∃e lo hi,c1= .rv (.one (.row id e lo hi)))\/(∃e lo hi,c2= .rv (.one (.row id e lo hi)))
 obtain⟨k1,k2⟩:=zH m c1;obtain⟨k3,k4⟩:=zH (jn m c1) c2;have Jp:∀(id:Nat)b,(jn (jn m c1) c2)[id]? =some b->b= .aS\/(m[id]? =some b/\¬D id):=λid b hb=>by
  rcases k4 id b hb with h|⟨h,hn⟩
  .exact .inl h
  .rcases k2 id b h with h|⟨h,PT⟩
   .exact .inl h
   .exact .inr ⟨h,λhD=>hD.elim PT hn⟩
 let src:=q9 c1 c2 E1.length;have lZ:∀cs,cs∈E1++E2->cs.length=i.size:=λcs fe=>(abu.1 fe).elim (F1.lZ cs) (F2.lZ cs)
 have ju:∀{U':bI}{w':World},iL ρ w U' w'->(∀i j,U'.aI (.sub ρ.n i j)=ρ.aI (src i j))->
   ∀(k:Nat)cs(j:Nat)c,(E1++E2)[k]? =some cs->cs[j]? =some c->∃u,(VU++Mq)[k*i.size+j]? =some u/\bj U' w' (some (ρ.n,k,j)) c u:=by
  intro U' w' g bO k cs j c hk hj;have mh:j<i.size:=by rw[<-lZ cs (Tp hk)];exact(Km.1 hj).1
  have conv:∀(p:Option (Nat×Nat×Nat))u,bj ρ w p c u->(∀a b d,p=some (a,b,d)->a<ρ.n/\src k j= .sub a b d)->bj U' w' (some (ρ.n,k,j)) c u:=by
   intro p u cy hp;have h1:=cy.cm g (λa b d yV=>(hp a b d yV).1)
   cases c<;>try exact h1
   obtain⟨a,b,d,yV,rM⟩:=cy;obtain⟨_,hs⟩:=hp a b d yV;exact⟨ρ.n,k,j,rfl,by rw[bO,hs];exact rM⟩
  have WU:∀{cc:CV}{vv:Value}{i j a b d:Nat},ce ρ w cc vv->wU cc i j=some (a,b,d)->a<ρ.n:=by
   intro cc vv i j a b d Qj hp;unfold wU at hp;split at hp
   .cases hp;exact Qj.1
   .cases hp
  rcases aaf k E1.length with aC|d8
  .rw[aac aC]at hk;obtain⟨u,hu,cy⟩:=F1.jS k cs j c hk hj;refine⟨u,?_,conv _ u cy λa b d hp=>⟨WU hd hp,by simp only[src,q9,if_pos aC,hp]⟩⟩
   rw[aac]
   .exact hu
   .exact(Km.1 hu).1
  .rw[ZZ d8]at hk;obtain⟨u,hu,cy⟩:=F2.jS (k-E1.length) cs j c hk hj;refine⟨u,?_,conv _ u cy λa b d hp=>⟨WU qx hp,by simp only[src,q9,if_neg (show ¬k<E1.length by omega),hp]⟩⟩
   rw[ZZ]
   .rw[<-hu];congr 1;rw[F1.len,aef];have:E1.length*i.size<=k*i.size:=aaZ _ d8;omega
   .rw[F1.len];have:E1.length*i.size<=k*i.size:=aaZ _ d8;omega
 have Mr:∀(k:Nat)cs(j:Nat)s e,(E1++E2)[k]? =some cs->cs[j]? =some (.ei s e)->∃kK i' j',src k j= .sub kK i' j'/\D kK/\dY m kK i' j' s e:=by
  intro k cs j s e hk hj;rcases aaf k E1.length with aC|d8
  .rw[aac aC]at hk;obtain⟨id,e0,lo,eO,hc,ho⟩:=mi AY hk hj;exact⟨id,lo+k,j,by simp only[src,q9,if_pos aC,pS hc],.inl ⟨_,_,_,hc⟩,ho⟩
  .rw[ZZ d8]at hk;obtain⟨id,e0,lo,eO,hc,ho⟩:=mi EP hk hj;exact⟨id,lo+(k-E1.length),j,by simp only[src,q9,if_neg (show ¬k<E1.length by omega),pS hc],.inr ⟨_,_,_,hc⟩,ho⟩
 have oU:∀i j i' j',src i j=src i' j'->(∃cs s e,(E1++E2)[i]? =some cs/\cs[j]? =some (.ei s e))->(∃cs s e,(E1++E2)[i']? =some cs/\cs[j']? =some (.ei s e))->i=i'/\j=j':=by
  have side:∀k j,(∃cs s e,(E1++E2)[k]? =some cs/\cs[j]? =some (.ei s e))->
    (k<E1.length/\∃id e0 lo eO,c1= .rv (.one (.row id e0 lo eO))/\src k j= .sub id (lo+k) j)\/(E1.length<=k/\∃id e0 lo eO,c2= .rv (.one (.row id e0 lo eO))/\src k j= .sub id (lo+(k-E1.length)) j):=by
   rintro k j ⟨cs,s,e,hk,hj⟩;rcases aaf k E1.length with aC|d8
   .rw[aac aC]at hk;obtain⟨id,e0,lo,eO,hc,ho⟩:=mi AY hk hj;exact .inl ⟨aC,id,e0,lo,eO,hc,by simp only[src,q9,if_pos aC,pS hc]⟩
   .rw[ZZ d8]at hk;obtain⟨id,e0,lo,eO,hc,ho⟩:=mi EP hk hj;exact .inr ⟨d8,id,e0,lo,eO,hc,by simp only[src,q9,if_neg (show ¬k<E1.length by omega),pS hc]⟩
  intro k j k' j' hs hk fZ;rcases side k j hk with⟨h1,id,e0,lo,we,hc,WV⟩|⟨h1,id,e0,lo,we,hc,WV⟩<;>rcases side k' j' fZ with⟨h2,id2,e02,lo2,aap,wV,Ms⟩|⟨h2,id2,e02,lo2,aap,wV,Ms⟩
  .rw[hc]at wV;injection wV with wV;injection wV with wV;injection wV with q1 q2 q3 q4
   subst q3;rw[WV,Ms]at hs;injection hs with q5 q6 q7
   exact⟨om,q7⟩
  .rw[WV,Ms]at hs;injection hs with q5 q6 q7
   rw[hc,wV]at dh;simp only[Hy,abN]at dh;exact absurd q5 (adj dh)
  .rw[WV,Ms]at hs;injection hs with q5 q6 q7
   rw[hc,wV]at dh;simp only[Hy,abN]at dh;exact absurd q5.symm (adj dh)
  .rw[hc]at wV;injection wV with wV;injection wV with wV;injection wV with q1 q2 q3 q4
   subst q3;rw[WV,Ms]at hs;injection hs with q5 q6 q7
   exact⟨om,q7⟩
 have HM:∀(l:wu)i j,(ρ.move l src).aI (.sub ρ.n i j)=ρ.aI (src i j):=by intro l i j;simp[bI.move]
 have rW:∀(l:wu),(ρ.move l src).aI (.aj m.length)=l:=by intro l;rw[<-hM.n];simp[bI.move]
 have Qk:∀(l:wu),l.len=E1.length+E2.length->l.cap<=maxLen->l.len<=l.cap->∀ad,(0<l.cap->ad=some ⟨l.b,l.aq,none⟩)->∀w',ce (ρ.move l src) w' (.rv (.one (.row m.length i.size 0 none))) (.slice ad (E1.length+E2.length) l.cap):=by
  intro l hl hc oT ad vH w';refine⟨by simp[bI.move,hM.n],aE,aE,by rw[rW];exact oT,by rw[rW];exact hc,ad,?_,?_⟩
  .rw[rW];simp[hl]
  .rw[rW];intro h0;rw[vH h0];simp
 by_cases oi:E1.length+E2.length<=kU
 .rw[if_pos oi]at cP;rcases abi kU with Mt|Mt
  ·
   have n1:E1.length=0:=om;have n2:E2.length=0:=om;have aaq:Mq=[]:=aag (by rw[F2.len,n2];simp)
   subst aaq;have lV:((zE Qg (E1.length*i.size) []).run P w)= .ok () w:=by
    cases Qg<;>simp[zE,storeCells]
   rw[lV]at cP;simp only[Result.andThen_ok]at cP;let l:wu:=⟨0,0,0,0⟩;obtain⟨jo,SD⟩:=hM.move (m1:=jn (jn m c1) c2) (D:=D) (esz:=i.size) (E:=E1++E2) (l:=l) (src:=src) (w':=w) (by rw[k3,k1]) Jp (Ym _) rfl rfl rfl (λ_ _ _=>rfl)
    (by simp[l]) (by simp[l,n1,n2]) (Ym _) (by simp[l]) lZ (by simp[l]) Mr oU
   refine⟨_,_,w,_,_,_,by rw[Sem.run_bind,cP];rfl,.inl rfl,g3,jo,?_,SD⟩
   have:=Qk l (by simp[l,n1,n2]) (by simp[l]) (Ym _) Qg (by simp[l]) w
   rw[Mt];exact this
  ·
   have oA:∃id lo eO,c1= .rv (.one (.row id i.size lo eO))/\Live ρ m (.aj id)/\Qg=some ⟨(ρ.aI (.aj id)).b,(ρ.aI (.aj id)).aq+lo*i.size,none⟩/\kU=(ρ.aI (.aj id)).cap-lo/\
     ∃cur,mE (i.size=1) w (ρ.aI (.aj id)).b cur/\(ρ.aI (.aj id)).aq+(ρ.aI (.aj id)).cap*i.size<=cur.size:=by
    unfold fF at AY;split at AY
    .simp[wC]at kz
    .rename_i id e0 lo eO;split at AY
     .rename_i e2' rows db;rw[aT]at db;split at AY
      .rename_i q1 q2;have q1:e0=i.size:=aai q1;have q2:e2'=i.size:=aai q2;subst q1;rw[q2]at db;obtain⟨r2,r3,r4,r5,Jq⟩:=hM.bk id _ db;obtain⟨aC,d1,d2,d3,d4,ad,Ql,vH⟩:=hd;rw[Ql]at Fo;injection Fo with aar aeH WW
       have vJ:0<(ρ.aI (.aj id)).cap:=by clear Jq;omega
       obtain⟨cur,bX,h1,_⟩:=Jq vJ;exact⟨id,lo,eO,rfl,⟨_,db,aE,λ_=>vJ⟩,by rw[<-aar];exact vH (by clear Jq;omega),WW.symm,cur,bX,h1⟩
      .cases AY
     .cases AY
    .cases AY;obtain⟨ad,Ql⟩:=hd;rw[Ql]at Fo;injection Fo with _ _ WW
     omega
    .cases AY
   obtain⟨id,lo,eO,rfl,bC,rfl,HN,cur,bX,fe⟩:=oA;have iT:lo+kU=(ρ.aI (.aj id)).cap:=om;have hbound:(ρ.aI (.aj id)).aq+lo*i.size+kU*i.size<=cur.size:=by have:(lo+kU)*i.size=lo*i.size+kU*i.size:=abf ..;rw[<-iT,this]at fe;omega
   have aas:E1.length*i.size+E2.length*i.size<=kU*i.size:=by rw[<-abf];exact aaZ _ oi
   obtain⟨w',gX,lV,rT,VV,aat,fZ⟩:=nM (P:=P) (ρ.aI (.aj id)).b ((ρ.aI (.aj id)).aq+lo*i.size+E1.length*i.size) Mq 0 cur w bX (by rw[F2.len];omega) F2.one
   have zD:(Builtin.append_ #[t,t2] ty #[v,v2]).run P w= .ok (.slice (some ⟨(ρ.aI (.aj id)).b,(ρ.aI (.aj id)).aq+lo*i.size,none⟩) (E1.length+E2.length) kU) w':=by rw[cP];simp only[zE,mF];rw[lV];rfl
   let l:wu:=⟨(ρ.aI (.aj id)).b,(ρ.aI (.aj id)).aq+lo*i.size,E1.length+E2.length,kU⟩;have bY:=hM.aL _ bC;obtain⟨jo,SD⟩:=hM.move (m1:=jn (jn m (.rv (.one (.row id i.size lo eO)))) c2) (D:=D) (esz:=i.size) (E:=E1++E2) (l:=l) (src:=src) (w':=w') (by rw[k3,k1]) Jp (Nat.le_of_eq VV.size.symm) VV.os VV.tape VV.output
    (λb hb hn=>VV.heap b λe=>hn id (.inl ⟨_,_,_,rfl⟩) bC e.symm) (λ_=>⟨by rw[VV.size];exact bY.1,.inr ⟨id,.inl ⟨_,_,_,rfl⟩,bC,rfl⟩⟩) (by simp[l]) oi Qh lZ
    (λg _=>⟨gX,rT,by rw[aat];exact hbound,λk cs j c hk hj=>by
     obtain⟨u,hu,cy⟩:=ju g (HM l) k cs j c hk hj;refine⟨u,?_,cy⟩;rw[fZ];simp only[l,ac6];have aC:=(Km.1 hu).1;rw[aa3,F1.len,F2.len]at aC;rcases aaf (k*i.size+j) (E1.length*i.size)with zB|zB
     .rw[if_neg om];rw[aac (by rw[F1.len];exact zB)]at hu
      obtain⟨b',aeI,T5,hrd⟩:=F1.Mn (by
       rcases abi E1.length with h0|h0
       .rw[h0]at zB;simp at zB
       .exact h0)
      injection T5 with T5
      injection T5 with WX fI
      have hh:=hrd _ u hu;rw[<-WX,<-fI,bX.cell]at hh;rw[<-hh];congr 1;omega
     .rw[if_pos (by rw[F2.len];omega)]
      rw[ZZ (by rw[F1.len];exact zB)]at hu
      rw[<-hu];congr 1;rw[F1.len];omega⟩) Mr oU
   refine⟨_,_,w',_,_,_,by rw[Sem.run_bind,zD];rfl,.inl rfl,g3,jo,?_,SD⟩
   exact Qk l rfl Qh oi _ (λ_=>rfl) w'
 ·
  rw[if_neg oi]at cP;have d8:=grownCap_ge w (E1.length+E2.length) kU e;have hgm:grownCap w (E1.length+E2.length) kU e<=maxLen:=grownCap_le_maxLen w _ kU e (by unfold maxLen;omega)
  let cells:Array Value:=VU.toArray++Mq.toArray++Builtin.zeroCells zv.cells (grownCap w (E1.length+E2.length) kU e-(E1.length+E2.length));let l:wu:=⟨w.heap.size,0,E1.length+E2.length,grownCap w (E1.length+E2.length) kU e⟩;have WY:cells.size=grownCap w (E1.length+E2.length) kU e*i.size:=by simp only[cells,Array.size_append,List.size_toArray,F1.len,F2.len,size_zeroCells,WT,<-Nat.add_mul];congr 1;omega
  have m6:mE (i.size=1) (w.drew.alloc (.cells cells e)) w.heap.size cells:=mE.new w.drew cells e;obtain⟨jo,SD⟩:=hM.move (m1:=jn (jn m c1) c2) (D:=D) (esz:=i.size) (E:=E1++E2) (l:=l) (src:=src) (w':=w.drew.alloc (.cells cells e)) (by rw[k3,k1]) Jp aE rfl rfl rfl
   (λb hb _=>heap_alloc_old w.drew _ b hb) (λ_=>⟨m6.lt,.inl (Ym _)⟩) (by simp[l]) d8 hgm lZ
   (λg _=>⟨cells,m6,by simp only[l,aaP];rw[WY];exact Ym _,λk cs j c hk hj=>by
    obtain⟨u,hu,cy⟩:=ju g (HM l) k cs j c hk hj;refine⟨u,?_,cy⟩;have aC:=(Km.1 hu).1;simp only[l,aaP,cells];rw[acY (by simpa using aC)]
    simpa using hu⟩) Mr oU
  refine⟨_,_,_,_,_,_,by rw[Sem.run_bind,cP];rfl,.inl rfl,g3,jo,?_,SD⟩
  exact Qk l rfl hgm d8 _ (λ_=>rfl) _
end
end Go.AM
