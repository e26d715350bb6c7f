/- Part 5 of 35. -/
import Derived.Test.YtllkfpggoigbaaaGreatDoorS04
import Derived.ChangeKeysEq
import Derived.Laws.StructEq
set_option linter.unusedVariables false
set_option linter.unusedSimpArgs false
set_option linter.unnecessarySimpa false
set_option maxRecDepth 100000
set_option maxHeartbeats 0
namespace Go.AM
section
variable {P:Program} {ρ:bX} {m:Mem} {w:World} {aY:List CV} {a:Act} {K:CV->Mem->Prop}
def jP:List Kd->List Value->List Value->Option Bool
 | [],[],[]=>some true
 |k::ks,a::r,b::s=>match Ry k a b,jP ks r s with
  |some x,some y=>some (x&&y)
  |_,_=>none
 |_,_,_=>none
theorem pA:∀{ks:List Kd}{a b:List Value}{r:Bool},jP ks a b=some r->a.length=ks.length/\b.length=ks.length
 | [],[],[],r,h=>⟨rfl,rfl⟩
 | [],[],_::_,r,h=>by simp[jP]at h
 | [],_::_,_,r,h=>by simp[jP]at h
 |k::ks,[],_,r,h=>by simp[jP]at h
 |k::ks,_::_,[],r,h=>by simp[jP]at h
 |k::ks,a::l,b::l',r,h=>by
  simp only[jP]at h;split at h
  .rename_i x y hx hy;obtain⟨h1,h2⟩:=pA hy;exact⟨by simp[h1],by simp[h2]⟩
  .cases h
theorem vr:∀{ks ls:List Kd}{u v:List Value}{r:Bool},jP (ks++ls) u v=some r->
  ∃u1 u2 v1 v2 x y,u=u1++u2/\v=v1++v2/\jP ks u1 v1=some x/\jP ls u2 v2=some y/\r=(x&&y)
 | [],ls,u,v,r,h=>⟨[],u,[],v,true,r,rfl,rfl,rfl,h,aD⟩
 |k::ks,ls,[],v,r,h=>by simp[jP]at h
 |k::ks,ls,_::_,[],r,h=>by simp[jP]at h
 |k::ks,ls,a::l,b::l',r,h=>by
  simp only[ad8,jP]at h;split at h
  .rename_i x y hx hy;cases h;obtain⟨u1,u2,v1,v2,x1,y1,rfl,rfl,h1,h2,rfl⟩:=vr hy;exact⟨a::u1,u2,b::v1,v2,x&&x1,y1,rfl,rfl,by simp[jP,hx,h1],h2,by simp[Bool.and_assoc]⟩
  .cases h
def re(P:Program)(t:TypeId)(us:List Value):Value:=if eL P t=some true then .agg us.toArray else us.headD Go.undef
theorem sG{t:TypeId}{pre us post:List Value}(hs:fh P t=some us.length)(ha:eL P t=some true\/(eL P t=some false/\us.length=1)):
  (part t (pre++(us++post)).toArray pre.length).run P w= .ok (re P t us) w:=by
 unfold part re;rcases ha with ha|⟨ha,h1⟩
 .rw[Sem.run_bind,qv ha];simp only[Result.andThen_ok,if_true,ha];rw[Sem.run_bind,fN hs];simp only[Result.andThen_ok,Sem.run_pure];congr 2;apply acu;simp
 .rw[Sem.run_bind,qv ha]
  match us,h1 with
  | [u],_=>
   simp[ha]
theorem sH:∀(d:Nat)(t:TypeId)(ks:List Kd),flatK P d t=some ks->fh P t=some ks.length/\(eL P t=some true\/(eL P t=some false/\ks.length=1))/\
  ∀(k:Nat),d<=k->∀(us vs:List Value)(b:Bool),jP ks us vs=some b->(Op.equalIn k t (re P t us) (re P t vs)).run P w= .ok b w
 |0,t,ks,h=>by simp[flatK]at h
 |d+1,t,ks,h=>by
  simp only[flatK]at h;have plain:∀kd,ks=[kd]->fh P t=some 1->eL P t=some false->(∀(k:Nat)(x y:Value)b,Ry kd x y=some b->(Op.equalIn (k+1) t x y).run P w= .ok b w)->
    fh P t=some ks.length/\(eL P t=some true\/(eL P t=some false/\ks.length=1))/\
    ∀(k:Nat),d+1<=k->∀(us vs:List Value)(b:Bool),jP ks us vs=some b->(Op.equalIn k t (re P t us) (re P t vs)).run P w= .ok b w:=by
   rintro kd rfl hs ha eU;refine⟨hs,.inr ⟨ha,rfl⟩,λk hk us vs b he=>?_⟩
   obtain⟨h1,h2⟩:=pA he
   match us,vs,h1,h2 with
   | [x],[y],_,_=>
    obtain⟨k,rfl⟩:∃k',k=k'+1:=⟨k-1,om⟩;simp only[re,ha];simp only[jP]at he;split at he
    .rename_i p q hp hq;cases he;cases hq;simp only[aez];exact eU k x y p hp
    .cases he
  split at h
  .rename_i hu;split at h
   .cases h;refine plain .b rfl (by assumption) (by simp[eL,hu]) λk x y b he=>?_
    cases x<;>cases y<;>simp only[Ry]at he<;>try(cases he;done)
    cases he;simp[Op.equalIn,run_underlying hu]
   .cases h
  .rename_i kk hu;split at h
   .cases h;refine plain .i rfl (by assumption) (by simp[eL,hu]) λk x y b he=>?_
    cases x<;>cases y<;>simp only[Ry]at he<;>try(cases he;done)
    rename_i k1 a k2 b';by_cases hk:k1=k2
    .subst hk;simp at he;subst he;simp[Op.equalIn,run_underlying hu]
    .rw[decide_eq_false hk]at he;cases he
   .cases h
  .rename_i hu;split at h
   .cases h;refine plain .s rfl (by assumption) (by simp[eL,hu]) λk x y b he=>?_
    cases x<;>cases y<;>simp only[Ry]at he<;>try(cases he;done)
    cases he;simp[Op.equalIn,run_underlying hu,beq_toListBytes]
   .cases h
  .rename_i fs hu;split at h
   .rename_i wg;split at h
    .rename_i ks0 hf;split at h
     .rename_i dQ;cases h;have ha:eL P t=some true:=by simp[eL,hu]
      refine⟨dQ,.inl ha,λk hk us vs b he=>?_⟩
      obtain⟨k,rfl⟩:∃k',k=k'+1:=⟨k-1,om⟩;have NC:P.fieldsOf t=fs:=by simp[Program.fieldsOf,hu]
      simp only[re,ha,if_true];rw[run_equalIn_struct w k t us.toArray vs.toArray (by rw[NC];exact hu) wg,NC]
      have key:∀(l:List Field)(pre sI:List Value)(ls:List Kd)(us vs:List Value)(b:Bool),pre.length=sI.length->Dd (flatK P d) l pre.length=some ls->jP ls us vs=some b->
        (Op.eqFields k (pre++us).toArray (sI++vs).toArray l).run P w= .ok b w:=by
       intro l
       induction l with
       |nil=>
        intro pre sI ls us vs b _ ug he;simp[Dd]at ug;subst ug;obtain⟨h1,h2⟩:=pA he;cases us<;>cases vs<;>simp[jP]at he h1 h2
        subst he;simp[Op.eqFields]
       |cons f l ih=>
        intro pre sI ls us vs b YI ug he;simp only[Dd]at ug;split at ug
        .rename_i hc;split at ug
         .rename_i ks1 k7;split at ug
          .rename_i ls1 rH;cases ug;obtain⟨u1,u2,v1,v2,x,y,rfl,rfl,F0,pb,rfl⟩:=vr he;obtain⟨g1,g2,g3⟩:=sH d f.type ks1 k7;obtain⟨e1,e2⟩:=pA F0;simp only[Op.eqFields];rw[if_pos hc.1,hc.2];rw[Sem.run_bind,sG (by rw[g1,e1]) (by rw[e1];exact g2)]
           simp only[Result.andThen_ok];rw[Sem.run_bind,YI,sG (by rw[g1,e2]) (by rw[e2];exact g2)]
           simp only[Result.andThen_ok];rw[Sem.run_bind,g3 k om u1 v1 x F0];simp only[Result.andThen_ok];have:=ih (pre++u1) (sI++v1) ls1 u2 v2 y (by simp[YI,e1,e2]) (by rw[abT,e1];exact rH) pb
           simp only[acC]at this;cases x
           .simp
           .simpa using this
          .cases ug
         .cases ug
        .cases ug
      have:=key fs.toList [] [] ks us vs b rfl hf he;simpa using this
     .cases h
    .cases h
   .cases h
  .cases h
theorem pB:∀{ks:List Kd}{cs ds:List CC}{b:Bool}{us vs:List Value},ln ks cs ds=some b->us.length=cs.length->vs.length=ds.length->
  (∀(i:Nat)c,cs[i]? =some c->∃u,us[i]? =some u/\bH ρ w .none c u)->(∀(i:Nat)c,ds[i]? =some c->∃u,vs[i]? =some u/\bH ρ w .none c u)->jP ks us vs=some b
 | [],[],[],b,us,vs,h,h1,h2,_,_=>by simp at h1 h2;subst h1 h2;simpa[ln,jP]using h
 | [],[],_::_,b,us,vs,h,h1,h2,_,_=>by simp[ln]at h
 | [],_::_,_,b,us,vs,h,h1,h2,_,_=>by simp[ln]at h
 |k::ks,[],_,b,us,vs,h,h1,h2,_,_=>by simp[ln]at h
 |k::ks,c::cs,[],b,us,vs,h,h1,h2,_,_=>by cases c<;>simp[ln]at h
 |k::ks,c::cs,d::ds,b,us,vs,h,h1,h2,g1,g2=>by
  unfold ln at h;split at h
  .cases ‹_::_=[]›
  .rename_i k' ks' x r y s e1 e2 e3;cases e1;cases e2;cases e3;split at h
   .rename_i p q hp hq;cases h
    match us,vs,h1,h2 with
    |u::us,v::vs,h1,h2=>
     obtain⟨u',hu,cI⟩:=g1 0 _ rfl;obtain⟨v',hv,zq⟩:=g2 0 _ rfl;simp at hu hv;subst hu hv;obtain⟨rfl,_⟩:=bY cI (λe=>by subst e;cases k<;>simp[Ry]at hp)
     obtain⟨rfl,_⟩:=bY zq (λe=>by subst e;cases k<;>cases u<;>simp[Ry]at hp)
     have:=pB (us:=us) (vs:=vs) hq (by simpa using h1) (by simpa using h2) (λi c hi=>by simpa using g1 (i+1) c (by simpa using hi)) (λi c hi=>by simpa using g2 (i+1) c (by simpa using hi))
     simp[jP,hp,this]
   .cases h
  .cases h
theorem Ao(hM:aK ρ m w)(hE:bq ρ w aY a.tmps){neg:Bool}{t:TypeId}{fs:Array Field}{ks:List Kd}{x y:Operand}{x' y':X}(ht:P.underlying t=some (.struct fs))(hg:P.eqGuardType P.depth t=false)(hk:flatK P 5 t=some ks)(hx:bD x=some x')(hy:bD y=some y')(h:step P (.Nd neg ks x' y') aY m K):ec P (do let v<-(do eqGuard (if neg then .neq else .eql) t x y (a.eval x) (a.eval y);binOp (if neg then .neq else .eql) t (a.eval x) (a.eval y));pure (Next.value v)) ρ m w K:=by
 have hd:=aS hE hx;have rd:=aS hE hy;simp only[step]at h;generalize a.eval x=v at hd|-;generalize a.eval y=u at rd|-;generalize x'.ev aY=c at hd h;generalize y'.ev aY=d at rd h;split at h
 .split at h
  .obtain⟨us,rfl,l1,d1⟩:=hd;obtain⟨vs,rfl,l2,d2⟩:=rd;obtain⟨b,he,hK⟩:=bb.1 h;have Uq:=pB he l1 l2 d1 d2;have eU:=(sH (w:=w) 5 t ks hk).2.2 10000 om us vs b Uq;have ha:eL P t=some true:=by simp[eL,ht]
   simp only[re,ha,if_true]at eU;refine ec.pure hM (v:=_) ?_ hK (cM rfl);rw[Sem.run_bind,Sem.run_bind,run_eqGuard_agg w _ t x y _ _ hg];cases neg
   .simp only[Result.andThen_ok,acj,if_false,run_eql_struct,eU,Sem.run_pure]
   .simp only[Result.andThen_ok,if_true,run_neq_struct,eU,Sem.run_pure]
  .exact h.elim
 .exact h.elim
theorem sJ{e:TypeId}{kk:IntKind}(hu:P.underlying e=some (.int kk))(hs:fh P e=some 1)(d:Nat):∀(us vs pre sI:List Value)(b:Bool),pre.length=sI.length->jP (gP us.length .i) us vs=some b->
  (Op.eqItems (d+1) e 1 (pre++us).toArray (sI++vs).toArray (List.range' pre.length us.length)).run P w= .ok b w
 | [],[],pre,sI,b,_,he=>by simp[gP,jP]at he;subst he;simp[Op.eqItems]
 | [],v::vs,pre,sI,b,_,he=>by simp[gP,jP]at he
 |u::us,[],pre,sI,b,_,he=>by simp[gP,jP]at he
 |u::us,v::vs,pre,sI,b,hp,he=>by
  have ha:eL P e=some false:=by simp[eL,hu]
  simp only[aa2,gP,jP]at he;split at he
  .rename_i x y hx hy;cases he;have ih:=sJ hu hs d us vs (pre++ [u]) (sI++ [v]) y (by simp[hp]) hy
   have p1:=sG (w:=w) (t:=e) (pre:=pre) (us:=[u]) (post:=us) hs (.inr ⟨ha,rfl⟩);have p2:=sG (w:=w) (t:=e) (pre:=sI) (us:=[v]) (post:=vs) hs (.inr ⟨ha,rfl⟩);simp only[re,ha,List.singleton_append]at p1 p2;have p3:(Op.equalIn (d+1) e u v).run P w= .ok x w:=by
    cases u<;>cases v<;>simp only[Ry]at hx<;>try(cases hx;done)
    rename_i k1 a k2 b';by_cases hk:k1=k2
    .subst hk;simp at hx;subst hx;simp[Op.equalIn,run_underlying hu]
    .rw[decide_eq_false hk]at hx;cases hx
   simp only[aa2,ad7,Op.eqItems,Sem.run_bind,Nat.mul_one];rw[p1];simp only[Result.andThen_ok];rw[hp,p2];simp only[Result.andThen_ok,abe,acj,if_false,List.headD_cons];rw[p3];simp only[Result.andThen_ok];cases x
   .simp
   .simp only[aeA,acj,if_false,acG];rw[<-hp];simpa using ih
  .cases he
theorem xq(hM:aK ρ m w)(hE:bq ρ w aY a.tmps){neg:Bool}{t e:TypeId}{n:Nat}{kk:IntKind}{x y:Operand}{x' y':X}(ht:P.underlying t=some (.array n e))(hg:P.eqGuardType P.depth t=false)(hu:P.underlying e=some (.int kk))(hs:fh P e=some 1)(hx:bD x=some x')(hy:bD y=some y')(h:step P (.Nd neg (gP n .i) x' y') aY m K):ec P (do let v<-(do eqGuard (if neg then .neq else .eql) t x y (a.eval x) (a.eval y);binOp (if neg then .neq else .eql) t (a.eval x) (a.eval y));pure (Next.value v)) ρ m w K:=by
 have hd:=aS hE hx;have rd:=aS hE hy;simp only[step]at h;generalize a.eval x=v at hd|-;generalize a.eval y=u at rd|-;generalize x'.ev aY=c at hd h;generalize y'.ev aY=d at rd h;split at h
 .split at h
  .obtain⟨us,rfl,l1,d1⟩:=hd;obtain⟨vs,rfl,l2,d2⟩:=rd;obtain⟨b,he,hK⟩:=bb.1 h;have Uq:=pB he l1 l2 d1 d2;obtain⟨e1,e2⟩:=pA Uq;have hn:us.length=n:=by rw[e1,fK];simp
   have hs':=hs;simp only[fh,abA]at hs';obtain⟨i,hi,Uo⟩:=hs';have hc:P.cellsOf e=1:=by simp[Program.cellsOf,hi,Uo]
   have eU:=sJ (w:=w) hu hs 9998 us vs [] [] b rfl (by rw[hn];exact Uq)
   simp only[aed,abO]at eU;have Ap:(Op.equalIn 10000 t (.agg us.toArray) (.agg vs.toArray)).run P w= .ok b w:=by rw[run_equalIn_array w 9999 _ _ ht hi,hc,<-hn,List.range_eq_range'];exact eU
   refine ec.pure hM (v:=_) ?_ hK (cM rfl);rw[Sem.run_bind,Sem.run_bind,run_eqGuard_agg w _ t x y _ _ hg];cases neg
   .simp only[Result.andThen_ok,acj,if_false,run_eql_struct,Ap,Sem.run_pure]
   .simp only[Result.andThen_ok,if_true,run_neq_struct,Ap,Sem.run_pure]
  .exact h.elim
 .exact h.elim
end
section
variable {P:Program} {ρ:bX} {m:Mem} {w:World} {aY:List CV} {a:Act} {K:CV->Mem->Prop}
def bX.move(ρ:bX)(l:zA)(src:Nat->Nat->kN):bX:=
 {n:=ρ.n+1
  aV:=λk=>match k with
   | .ay id=>if id=ρ.n then l else ρ.aV (.ay id)
   | .sub id i j=>if id=ρ.n then ρ.aV (src i j)else ρ.aV (.sub id i j)
  S:=ρ.S}
theorem aK.move{w':World}(hM:aK ρ m w){m1:Mem}{D:Nat->Prop}{esz:Nat}{E:List (List CC)}{l:zA}{src:Nat->Nat->kN}(hlen:m1.length=m.length)(KA:∀(id:Nat)b,m1[id]? =some b->b= .aE\/(m[id]? =some b/\¬D id))(dQ:w.heap.size<=w'.heap.size)(Q2:w'.os=w.os)(YJ:w'.tape=w.tape)(gQ:w'.output=w.output)(mP:∀b,b<w.heap.size->(∀id,D id->Live ρ m (.ay id)->(ρ.aV (.ay id)).b≠b)->w'.heap[b]? =w.heap[b]?)(hl:0<l.cap->l.b<w'.heap.size/\(w.heap.size<=l.b\/∃id,D id/\Live ρ m (.ay id)/\(ρ.aV (.ay id)).b=l.b))(hE:E.length=l.len)(tX:l.len<=l.cap)(bv:l.cap<=maxLen)(oh:∀cs,cs∈E->cs.length=esz)(eI:jC ρ w (ρ.move l src) w'->0<l.cap->∃cur,m8 (esz=1) w' l.b cur/\l.aB+l.cap*esz<=cur.size/\
   ∀(i:Nat)cs(j:Nat)c,E[i]? =some cs->cs[j]? =some c->∃u,cur[l.aB+i*esz+j]? =some u/\bH (ρ.move l src) w' (some (ρ.n,i,j)) c u)(nv:∀(i:Nat)cs(j:Nat)s e,E[i]? =some cs->cs[j]? =some (.iJ s e)->∃kZ i' j',src i j= .sub kZ i' j'/\D kZ/\gN m kZ i' j' s e)(uh:∀i j i' j',src i j=src i' j'->(∃cs s e,E[i]? =some cs/\cs[j]? =some (.iJ s e))->(∃cs s e,E[i']? =some cs/\cs[j']? =some (.iJ s e))->i=i'/\j=j'):
  aK (ρ.move l src) (m1++ [.row esz E]) w'/\Ext ρ m w (ρ.move l src) (m1++ [.row esz E]) w':=by
 have hn:=hM.n;have old:∀k:kN,k.id<ρ.n->(ρ.move l src).aV k=ρ.aV k:=by
  intro k hk;cases k with
  |ay id=>simp only[bX.move];rw[if_neg (by simp only[kN.id]at hk;omega)]
  |sub id i j=>simp only[bX.move];rw[if_neg (by simp only[kN.id]at hk;omega)]
 have xr:(ρ.move l src).aV (.ay ρ.n)=l:=by simp[bX.move]
 have zF:∀i j,(ρ.move l src).aV (.sub ρ.n i j)=ρ.aV (src i j):=by intro i j;simp[bX.move]
 have BG:∀b,ρ.S b->w'.heap[b]? =w.heap[b]? :=λb hb=>mP b (hM.S b hb) λid _ bO e=>(hM.aF _ bO).2 (e▸hb)
 have g:jC ρ w (ρ.move l src) w':=⟨by simp[bX.move],old,λb hb=>hb,BG⟩
 have get:∀{id:Nat}{b:Bk},(m1++ [.row esz E])[id]? =some b->(id<ρ.n/\(b= .aE\/(m[id]? =some b/\¬D id)))\/(id=ρ.n/\b= .row esz E):=by
  intro id b hb;rcases aax id m1.length with h|h
  .rw[aaW h]at hb;exact .inl ⟨om,KA id b hb⟩
  .rw[aaS h]at hb;have:id-m1.length=0:=by
    rcases abY (id-m1.length)with h0|h0
    .exact h0
    .rw[abj (by simp;omega)]at hb;cases hb
   rw[this]at hb;exact .inr ⟨om,by simpa using hb.symm⟩
 have lQ:∀{id i j s e},gN (m1++ [.row esz E]) id i j s e->(id<ρ.n/\¬D id/\gN m id i j s e)\/
   (id=ρ.n/\(∃cs s e,E[i]? =some cs/\cs[j]? =some (.iJ s e))/\∃kZ i' j',src i j= .sub kZ i' j'/\D kZ/\gN m kZ i' j' s e):=by
  rintro id i j s e ⟨es,rows,cs,vg,hi,hj⟩;rcases get vg with⟨ax,hb|⟨hb,hD⟩⟩|⟨rfl,hb⟩
  .cases hb
  .exact .inl ⟨ax,hD,es,rows,cs,hb,hi,hj⟩
  .injection hb with vu kG
   subst vu kG;exact .inr ⟨rfl,⟨cs,_,_,hi,hj⟩,nv i cs j s e hi hj⟩
 have eH:∀k,Live (ρ.move l src) (m1++ [.row esz E]) k->
   (k.id<ρ.n/\¬D k.id/\Live ρ m k)\/(k= .ay ρ.n/\0<l.cap)\/
   (∃i j,k= .sub ρ.n i j/\(∃cs s e,E[i]? =some cs/\cs[j]? =some (.iJ s e))/\Live ρ m (src i j)/\D (src i j).id/\∃a b c,src i j= .sub a b c):=by
  intro k hk;cases k with
  |ay id=>
   obtain⟨b,hb,fG,zr⟩:=hk;rcases get hb with⟨ax,rfl|⟨hb,hD⟩⟩|⟨rfl,rfl⟩
   .exact absurd rfl fG
   .rw[old (.ay id) ax]at zr;exact .inl ⟨ax,hD,b,hb,fG,zr⟩
   .rw[xr]at zr;exact .inr (.inl ⟨rfl,zr ⟨_,_,rfl⟩⟩)
  |sub id i j=>
   obtain⟨⟨s,e,ho⟩,zr⟩:=hk;rcases lQ ho with⟨ax,hD,ho⟩|⟨rfl,kF,kZ,i',j',hs,hD,ho⟩
   .rw[old (.sub id i j) ax]at zr;exact .inl ⟨ax,hD,⟨s,e,ho⟩,zr⟩
   .rw[zF]at zr;exact .inr (.inr ⟨i,j,rfl,kF,by rw[hs]at zr|-;exact⟨⟨s,e,ho⟩,zr⟩,by rw[hs];exact hD,_,_,_,hs⟩)
 have ez:∀k,Live ρ m k->(k.id<ρ.n/\¬D k.id)\/(∃a b c,k= .sub a b c)->w'.heap[(ρ.aV k).b]? =w.heap[(ρ.aV k).b]? :=by
  intro k hk tY;refine mP _ (hM.aF k hk).1 λid hD bO e=>?_
  have:=hM.inj _ _ bO hk e;rcases tY with⟨_,hnD⟩|⟨_,_,_,rfl⟩
  .exact hnD (by rw[<-this];exact hD)
  .cases this
 refine⟨⟨by simp[bX.move,hn,hlen],λb hb=>abL (hM.S b hb) dQ,?_,?_,?_,?_⟩,
  ⟨by simp[bX.move],λid hid=>old (.ay id) hid,λb hb=>hb,λb hb=>.inl hb,?_,?_,dQ,Q2,YJ,gQ⟩⟩
 .intro k hk;rcases eH k hk with⟨ax,_,hk⟩|⟨rfl,hc⟩|⟨i,j,rfl,_,hk,_⟩
  .rw[old k ax];exact⟨abL (hM.aF k hk).1 dQ,(hM.aF k hk).2⟩
  .rw[xr];obtain⟨h1,h2⟩:=hl hc;refine⟨h1,λhs=>?_⟩
   rcases h2 with h2|⟨id,hD,bO,e⟩
   .have:=hM.S _ hs;omega
   .exact(hM.aF _ bO).2 (e▸hs)
  .rw[zF];exact⟨abL (hM.aF _ hk).1 dQ,(hM.aF _ hk).2⟩
 ·
  have BH:0<l.cap->∀k,Live ρ m k->(k.id<ρ.n/\¬D k.id)\/(∃a b c,k= .sub a b c)->(ρ.aV k).b≠l.b:=by
   intro hc k hk tY e;obtain⟨h1,h2⟩:=hl hc;rcases h2 with h2|⟨id,hD,bO,e2⟩
   .have:=(hM.aF k hk).1;omega
   .have:=hM.inj _ _ bO hk (e2.trans e.symm);rcases tY with⟨_,hnD⟩|⟨_,_,_,rfl⟩
    .exact hnD (by rw[<-this];exact hD)
    .cases this
  intro k k' hk iG he;rcases eH k hk with⟨ax,hD,hk⟩|⟨rfl,hc⟩|⟨i,j,rfl,hx,hk,hDs,ui⟩<;>rcases eH k' iG with⟨pz,YK,iG⟩|⟨rfl,sF⟩|⟨i',j',rfl,wj,iG,acO,YL⟩
  .rw[old k ax,old k' pz]at he;exact hM.inj k k' hk iG he
  .rw[old k ax,xr]at he;exact absurd he (BH sF k hk (.inl ⟨ax,hD⟩))
  .rw[old k ax,zF]at he;have:=hM.inj _ _ hk iG he;exact absurd (by rw[this];exact acO) hD
  .rw[old k' pz,xr]at he;exact absurd he.symm (BH hc k' iG (.inl ⟨pz,YK⟩))
  .rfl
  .rw[xr,zF]at he;exact absurd he.symm (BH hc _ iG (.inr YL))
  .rw[old k' pz,zF]at he;have:=hM.inj _ _ hk iG he;exact absurd (by rw[<-this];exact hDs) YK
  .rw[xr,zF]at he;exact absurd he (BH sF _ hk (.inr ui))
  .rw[zF,zF]at he;obtain⟨rfl,rfl⟩:=uh i j i' j' (hM.inj _ _ hk iG he) hx wj;rfl
 .intro id b hb;rcases get hb with⟨ax,rfl|⟨hb,hD⟩⟩|⟨rfl,rfl⟩
  .trivial
  .exact(hM.bk id b hb).cY g ax λfG zr=>ez (.ay id) ⟨b,hb,fG,zr⟩ (.inl ⟨ax,hD⟩)
  .exact⟨by rw[xr];exact hE,by rw[xr];exact tX,by rw[xr];exact bv,oh,λhc=>by rw[xr]at hc|-;exact eI g hc⟩
 .intro id i j s e ho zr;rcases lQ ho with⟨ax,hD,ho⟩|⟨rfl,_,kZ,i',j',hs,hD,ho⟩
  .rw[old (.sub id i j) ax]at zr|-;exact(hM.iJ id i j s e ho zr).cY g (ez (.sub id i j) ⟨⟨s,e,ho⟩,zr⟩ (.inr ⟨_,_,_,rfl⟩))
  .rw[zF,hs]at zr|-;exact(hM.iJ kZ i' j' s e ho zr).cY g (ez (.sub kZ i' j') ⟨⟨s,e,ho⟩,zr⟩ (.inr ⟨_,_,_,rfl⟩))
 .intro k hk;rcases eH k hk with⟨ax,_,hk⟩|⟨rfl,hc⟩|⟨i,j,rfl,_,hk,_⟩
  .exact .inr ⟨k,hk,by rw[old k ax]⟩
  .rw[xr];obtain⟨h1,h2⟩:=hl hc;rcases h2 with h2|⟨id,hD,bO,e⟩
   .exact .inl h2
   .exact .inr ⟨_,bO,e⟩
  .exact .inr ⟨_,hk,by rw[zF]⟩
 .intro b hb hk;exact mP b hb λid hD bO e=>hk _ bO e
def Aq(ad:Option Addr)(k:Nat)(vs:List Value):Sem Unit:=
 match ad with
 |some a=>storeCells (a.add k) vs
 |none=>pure ()
theorem pC{t t2 ty e e2:TypeId}{i:TypeInfo}{z:Value}(ht:P.underlying t=some (.slice e))(xt:P.underlying t2=some (.slice e2))(hi:P.info? e=some i)(hz:i.zero=some z){a0:Option Addr}{n1 c1 n2:Nat}{src:Value}{olds news:List Value}(hlen:(Builtin.lenOf src).run P w= .ok n2 w)(Ur:∀k,(Builtin.firstCells i.size n2 src).run P (w.drewN k)= .ok news.toArray (w.drewN k))(holds:∀k,(Builtin.firstCells i.size n1 (.slice a0 n1 c1)).run P (w.drewN k)= .ok olds.toArray (w.drewN k))(hb:0<i.bytes)(lq:(n1+n2)*i.bytes<=140737488355328):
  (Builtin.append_ #[t,t2] ty #[.slice a0 n1 c1,src]).run P w=if n1+n2<=c1 then
    ((Aq a0 (n1*i.size) news).run P w).andThen λ_ w'=>.ok (.slice a0 (n1+n2) c1) w'
   else .ok (.slice (some ⟨w.heap.size,0,none⟩) (n1+n2) (grownCap w (n1+n2) c1 e)) (w.drew.alloc (.cells (olds.toArray++news.toArray++Builtin.zeroCells z.cells (grownCap w (n1+n2) c1 e-(n1+n2))) e)):=by
 have RD:=Ur 0;have po:=Ur 1;have ho1:=holds 1;have e0:w.drewN 0=w:=rfl;have e1:w.drewN 1=w.drew:=rfl;rw[e0]at RD;rw[e1]at po ho1;have qy:n1+n2<=140737488355328:=abJ (adY _ hb) lq;unfold Builtin.append_;by_cases hc:n1+n2<=c1
 .simp[run_underlying ht,run_underlying xt,sizeOf,typeInfo,hi,hlen,hc,RD];cases a0<;>simp[Aq]
 .have acP:¬(9223372036854775807<((n1:Int)+(n2:Int))):=om;have acQ:¬(281474976710656<Builtin.nextslicecap (n1+n2) c1*i.bytes):=by have:=growslice_fits (need:=n1+n2) (old:=c1) om lq;omega
  have uj:¬i.bytes=0:=om;simp[run_underlying ht,run_underlying xt,sizeOf,typeInfo,zeroValue,hi,hz,hlen,hc,acP,acQ,Question.forced,po,ho1,newRow,grownCap];congr 2;apply acu;simp[acC]
def xu(v:CV)(i j:Nat):Option (Nat×Nat×Nat):=
 match v with
 | .rv (.one (.row id _ lo _))=>some (id,lo+i,j)
 |_=>none
theorem mR{α:Type}(l:List α)(lo:Nat)(hi:Option Nat):bA l lo hi=(match hi with|none=>l|some h=>l.take h).drop lo:=by
 cases lo<;>cases hi<;>simp[bA]
structure BJ(ρ:bX)(w:World)(esz:Nat)(pos:Nat->Nat->Option (Nat×Nat×Nat))(E:List (List CC))(ad:Option Addr)(vs:List Value):Prop where
 len:vs.length=E.length*esz
 mD:∀cs,cs∈E->cs.length=esz
 ND:0<E.length->∃b off,ad=some ⟨b,off,none⟩/\∀k u,vs[k]? =some u->w.cell? ⟨b,off+k,none⟩=some u
 lR:∀(i:Nat)cs(j:Nat)c,E[i]? =some cs->cs[j]? =some c->∃u,vs[i*esz+j]? =some u/\bH ρ w (pos i j) c u
 one:∀u,u∈vs->u.oneCell'=true
theorem Ar{esz:Nat}{pos:Nat->Nat->Option (Nat×Nat×Nat)}{E:List (List CC)}{b off:Nat}(mD:∀cs,cs∈E->cs.length=esz)(h:∀(i:Nat)cs(j:Nat)c,E[i]? =some cs->cs[j]? =some c->∃u,w.cell? ⟨b,off+i*esz+j,none⟩=some u/\bH ρ w (pos i j) c u):
  ∃vs,BJ ρ w esz pos E (some ⟨b,off,none⟩) vs:=by
 have all:∀k,k<E.length*esz->∃u p c,w.cell? ⟨b,off+k,none⟩=some u/\bH ρ w p c u:=by
  intro k hk;have dD:0<esz:=by
   rcases abY esz with h0|h0
   .subst h0;simp at hk
   .exact h0
  have hi:k/esz<E.length:=Nat.div_lt_of_lt_mul (by rwa [adT])
  have hj:k%esz<esz:=Nat.mod_lt _ dD;have fA:=mD _ (aaR hi);obtain⟨u,hu,hd⟩:=h (k/esz) _ (k%esz) _ (wy hi) (wy (by rw[fA];exact hj))
  have e:off+k/esz*esz+k%esz=off+k:=by have:=Nat.div_add_mod k esz;rw[adT]at this;omega
  rw[e]at hu;exact⟨u,_,_,hu,hd⟩
 let vs:=(List.range (E.length*esz)).map λk=>(w.cell? ⟨b,off+k,none⟩).getD Go.undef
 have ny:∀k u,vs[k]? =some u->k<E.length*esz/\w.cell? ⟨b,off+k,none⟩=some u:=by
  intro k u hu;have hk:k<E.length*esz:=by have:=(Lw.1 hu).1;simpa[vs]using this
  obtain⟨u',p,c,wm,_⟩:=all k hk;simp only[vs,Qu,aeq hk,aa3,wm,ab7,abe]at hu;exact⟨hk,by rw[wm,hu]⟩
 refine⟨vs,by simp[vs],mD,λ_=>⟨b,off,rfl,λk u hu=>(ny k u hu).2⟩,λi cs j c hi hj=>?_,λu hu=>?_⟩
 .obtain⟨u,hu,hd⟩:=h i cs j c hi hj;refine⟨u,?_,hd⟩;have MW:=(Lw.1 hi).1;have f4:j<esz:=by rw[<-mD _ (Vm hi)];exact(Lw.1 hj).1
  have ax:i*esz+j<E.length*esz:=by have:(i+1)*esz<=E.length*esz:=abS _ MW;rw[ab3,acs]at this;omega
  simp only[vs,Qu,aeq ax,aa3,<-Nat.add_assoc,hu,ab7]
 .obtain⟨k,hk,rfl⟩:=adK hu;obtain⟨lS,hc⟩:=ny k _ (wy hk);obtain⟨u',p,c,wm,hd⟩:=all k lS;rw[hc]at wm;cases wm;exact hd.one
theorem oA(hM:aK ρ m w){esz:Nat}{c:CV}{v:Value}{E:List (List CC)}(h:fJ m esz c=some E)(hd:cw ρ w c v):
  ∃ad cap vs,v= .slice ad E.length cap/\E.length<=cap/\cap<=maxLen/\BJ ρ w esz (xu c) E ad vs:=by
 unfold fJ at h;split at h
 .rename_i e elems;split at h
  .rename_i he;have he:e=esz:=aa1 he;subst he;cases h;cases hd with
   |nil _ a cap hc=>exact⟨_,_,[],rfl,aD,hc,aD,aD,aD,aD,aD⟩
   |sl _ _ b off cap u hS hl bv dQ hc cD=>
    obtain⟨vs,Fq⟩:=Ar (ρ:=ρ) (w:=w) (esz:=e) (pos:=λ_ _=>none) (E:=elems.map λds=>ds.map .ai) (b:=b) (off:=off) (λcs fA=>by
     obtain⟨ds,F3,rfl⟩:=abl.1 fA;simpa using dQ ds F3) (λi cs j c hi hj=>by
     rw[Qu]at hi;cases eR:elems[i]? with
     |none=>rw[eR]at hi;cases hi
     |some ds=>
      rw[eR]at hi;cases hi;rw[Qu]at hj;cases k6:ds[j]? with
      |none=>rw[k6]at hj;cases hj
      |some d=>
       rw[k6]at hj;cases hj;exact⟨_,hc i ds j d eR k6,cD i ds j d eR k6⟩)
    exact⟨_,cap,vs,aD,by simpa using hl,bv,Fq⟩
  .cases h
 .rename_i id e lo hi;split at h
  .rename_i e2 rows hb;rw[aW]at hb;split at h
   .rename_i he pb;have he:e=esz:=aa1 he;have pb:e2=esz:=aa1 pb;subst he;subst pb;cases h;obtain⟨h2,h3,h4,h5,CY⟩:=hM.bk id _ hb;obtain⟨ax,d1,d2,d3,d4,ad,rfl,wh⟩:=hd;have hlen:(bA rows lo hi).length=hi.getD (ρ.aV (.ay id)).len-lo:=by
     rw[mR];cases hi with
     |none=>simp[h2]
     |some h=>simp[h2];simp at d2;omega
    have ny:∀i cs,(bA rows lo hi)[i]? =some cs->rows[lo+i]? =some cs:=by
     intro i cs F4;rw[mR]at F4;rw[ab5]at F4;cases hi with
     |none=>exact F4
     |some h=>
      rw[abK]at F4;split at F4
      .exact F4
      .cases F4
    rw[<-hlen];rcases abY (bA rows lo hi).length with h0|h0
    .have VE:=aaX h0;refine⟨ad,_,[],rfl,om,om,?_⟩;rw[VE];exact⟨aD,aD,aD,aD,aD⟩
    .have dD:0<(ρ.aV (.ay id)).cap:=by clear CY;omega
     obtain⟨cur,cn,h1,cD⟩:=CY dD;rw[wh (by clear CY;omega)]
     obtain⟨vs,Fq⟩:=Ar (ρ:=ρ) (w:=w) (esz:=e2) (pos:=xu (.rv (.one (.row id e2 lo hi)))) (E:=bA rows lo hi) (b:=(ρ.aV (.ay id)).b) (off:=(ρ.aV (.ay id)).aB+lo*e2) (λcs fA=>by
      obtain⟨i,eM,YM⟩:=adK fA;have:=ny i cs (by rw[wy eM,YM])
      exact h5 cs (Vm this)) (λi cs j c eM rG=>by
      obtain⟨u,hu,cI⟩:=cD (lo+i) cs j c (ny i cs eM) rG;refine⟨u,?_,cI⟩;rw[cn.cell,<-hu];congr 1;rw[ab3];omega)
     exact⟨_,_,vs,rfl,by clear CY;omega,by clear CY;omega,Fq⟩
   .cases h
  .cases h
 .cases h;obtain⟨ad,rfl⟩:=hd;exact⟨ad,0,[],rfl,aD,by unfold maxLen;omega,aD,aD,aD,aD,aD⟩
 .cases h
theorem BJ.firstCells{esz:Nat}{pos:Nat->Nat->Option (Nat×Nat×Nat)}{E:List (List CC)}{ad:Option Addr}{vs:List Value}(h:BJ ρ w esz pos E ad vs)(cap k:Nat):
  (Builtin.firstCells esz E.length (.slice ad E.length cap)).run P (w.drewN k)= .ok vs.toArray (w.drewN k):=by
 rcases abY E.length with h0|h0
 .have hv:vs=[]:=aaX (by rw[h.len,h0];simp)
  subst hv;rw[h0];cases ad<;>simp[Builtin.firstCells,loadCells,loadCellsFrom]
 .obtain⟨b,off,rfl,hc⟩:=h.ND h0;exact run_firstCells_some (P:=P) (w.drewN k) esz E.length ⟨b,off,none⟩ E.length cap vs h.len λj v hj=>by rw[nc];exact hc j v hj
theorem As(m:Mem)(c:CV):(jD m c).length=m.length/\∀(id:Nat)b,(jD m c)[id]? =some b->b= .aE\/(m[id]? =some b/\¬∃e lo hi,c= .rv (.one (.row id e lo hi))):=by
 unfold jD;split
 .rename_i id e lo hi;rw[bh];refine⟨aD,λk b hb=>?_⟩
  by_cases hk:id=k
  .subst hk;have ax:id<m.length:=by
    rcases aax id m.length with h|h
    .exact h
    .rw[abj (by simpa using h)]at hb;cases hb
   rw[aaj ax]at hb;cases hb;exact .inl rfl
  .rw[aam hk]at hb;refine .inr ⟨hb,?_⟩;rintro⟨_,_,_,h⟩;cases h;exact hk rfl
 .rename_i kj;refine⟨rfl,λk b hb=>.inr ⟨hb,?_⟩⟩
  rintro⟨e,lo,hi,rfl⟩;exact kj _ _ _ _ rfl
def rI(c1 c2:CV)(n1:Nat)(i j:Nat):kN:=
 if i<n1 then(match xu c1 i j with|some (a,b,c)=>.sub a b c|none=>.ay 0)
 else(match xu c2 (i-n1) j with|some (a,b,c)=>.sub a b c|none=>.ay 0)
theorem mS{esz:Nat}{c:CV}{E:List (List CC)}(h:fJ m esz c=some E){i j:Nat}{cs:List CC}{s:Nat}{e:List (List Dt)}(hi:E[i]? =some cs)(hj:cs[j]? =some (.iJ s e)):
  ∃id e0 lo eM,c= .rv (.one (.row id e0 lo eM))/\gN m id (lo+i) j s e:=by
 unfold fJ at h;split at h
 .split at h
  .cases h;rw[Qu]at hi;cases eR:(_:List (List Dt))[i]? with
   |none=>rw[eR]at hi;cases hi
   |some ds=>
    rw[eR]at hi;cases hi;rw[Qu]at hj;cases k6:ds[j]? with
    |none=>rw[k6]at hj;cases hj
    |some d=>rw[k6]at hj;cases hj
  .cases h
 .rename_i id e0 lo eM;split at h
  .rename_i e2 rows hb;rw[aW]at hb;split at h
   .cases h;refine⟨id,e0,lo,eM,rfl,_,rows,cs,hb,?_,hj⟩;rw[mR,ab5]at hi;cases eM with
    |none=>exact hi
    |some h=>
     rw[abK]at hi;split at hi
     .exact hi
     .cases hi
   .cases h
  .cases h
 .cases h;simp at hi
 .cases h
theorem qz{c:CV}{id e lo:Nat}{hi:Option Nat}(h:c= .rv (.one (.row id e lo hi)))(i j:Nat):xu c i j=some (id,lo+i,j):=by subst h;rfl
theorem F5(hM:aK ρ m w)(hE:bq ρ w aY a.tmps){t t2 ty e e2:TypeId}{i:TypeInfo}{z:List CC}{x y:Operand}{x' y':X}(ht:P.underlying t=some (.slice e))(xt:P.underlying t2=some (.slice e2))(hi:P.info? e=some i)(hz:eu P e=some z)(dQ:i.size=z.length)(dD:0<z.length)(hb:0<i.bytes)(hx:bD x=some x')(hy:bD y=some y')(Au:(w9 (x'.ev aY)&&Ix (x'.ev aY) (y'.ev aY))=true)(g1:ok (fJ m i.size (x'.ev aY)) λE1=>ok (fJ m i.size (y'.ev aY)) λE2=>(E1.length+E2.length)*i.bytes<=140737488355328/\sy m λn=>K (.rv (.one (.row n i.size 0 none))) (fT (jD (jD m (x'.ev aY)) (y'.ev aY)) [.row i.size (E1++E2)])):
  ec P (do pure (Next.value (<-Builtin.append_ #[t,t2] ty #[a.eval x,a.eval y]))) ρ m w K:=by
 have hd:=aS hE hx;have rd:=aS hE hy;generalize a.eval x=v at hd|-;generalize a.eval y=v2 at rd|-;generalize x'.ev aY=c1 at hd Au g1;generalize y'.ev aY=c2 at rd Au g1;rw[aaL]at Au;obtain⟨nv,fG⟩:=Au;obtain⟨E1,BK,g2⟩:=bb.1 g1;obtain⟨E2,Fr,lq,g3⟩:=bb.1 g2;rw[kh,cf]at g3;obtain⟨RF,lu,X2,Dp,YN,RG,F1⟩:=oA hM BK hd;obtain⟨ad2,NF,NG,zG,YO,YP,F2⟩:=oA hM Fr rd;have CZ:=hz;simp only[eu,WE,U2]at CZ;obtain⟨i',eM,zv,RH,RE⟩:=CZ;rw[hi]at eM;cases eM;have YQ:zv.cells.size=i.size:=by have:=(fu (ρ:=ρ) (w:=w) RE).1;rw[dQ];simpa using this
 have qy:E1.length+E2.length<=140737488355328:=abJ (adY _ hb) lq;have eU:=pC (P:=P) (w:=w) (ty:=ty) ht xt hi RH (a0:=RF) (n1:=E1.length) (c1:=lu) (n2:=E2.length) (src:=v2) (olds:=X2) (news:=NG)
  (by rw[zG];rfl) (λk=>by rw[zG];exact F2.firstCells NF k) (λk=>F1.firstCells lu k) hb lq
 rw[<-Dp]at eU;let D:Nat->Prop:=λid=>(∃e lo hi,c1= .rv (.one (.row id e lo hi)))\/(∃e lo hi,c2= .rv (.one (.row id e lo hi)))
 obtain⟨k1,k2⟩:=As m c1;obtain⟨k3,k4⟩:=As (jD m c1) c2;have KA:∀(id:Nat)b,(jD (jD m c1) c2)[id]? =some b->b= .aE\/(m[id]? =some b/\¬D id):=λid b hb=>by
  rcases k4 id b hb with h|⟨h,hn⟩
  .exact .inl h
  .rcases k2 id b h with h|⟨h,Q3⟩
   .exact .inl h
   .exact .inr ⟨h,λhD=>hD.elim Q3 hn⟩
 let src:=rI c1 c2 E1.length;have mD:∀cs,cs∈E1++E2->cs.length=i.size:=λcs fA=>(abH.1 fA).elim (F1.mD cs) (F2.mD cs)
 have kF:∀{U':bX}{w':World},jC ρ w U' w'->(∀i j,U'.aV (.sub ρ.n i j)=ρ.aV (src i j))->
   ∀(k:Nat)cs(j:Nat)c,(E1++E2)[k]? =some cs->cs[j]? =some c->∃u,(X2++NG)[k*i.size+j]? =some u/\bH U' w' (some (ρ.n,k,j)) c u:=by
  intro U' w' g cV k cs j c hk hj;have f4:j<i.size:=by rw[<-mD cs (Vm hk)];exact(Lw.1 hj).1
  have conv:∀(p:Option (Nat×Nat×Nat))u,bH ρ w p c u->(∀a b d,p=some (a,b,d)->a<ρ.n/\src k j= .sub a b d)->bH U' w' (some (ρ.n,k,j)) c u:=by
   intro p u cI hp;have h1:=cI.cY g (λa b d vy=>(hp a b d vy).1)
   cases c<;>try exact h1
   obtain⟨a,b,d,vy,su⟩:=cI;obtain⟨_,hs⟩:=hp a b d vy;exact⟨ρ.n,k,j,rfl,by rw[cV,hs];exact su⟩
  have YR:∀{cc:CV}{vv:Value}{i j a b d:Nat},cw ρ w cc vv->xu cc i j=some (a,b,d)->a<ρ.n:=by
   intro cc vv i j a b d RI hp;unfold xu at hp;split at hp
   .cases hp;exact RI.1
   .cases hp
  rcases aax k E1.length with ax|ef
  .rw[aaW ax]at hk;obtain⟨u,hu,cI⟩:=F1.lR k cs j c hk hj;refine⟨u,?_,conv _ u cI λa b d hp=>⟨YR hd hp,by simp only[src,rI,if_pos ax,hp]⟩⟩
   rw[aaW]
   .exact hu
   .exact(Lw.1 hu).1
  .rw[aaS ef]at hk;obtain⟨u,hu,cI⟩:=F2.lR (k-E1.length) cs j c hk hj;refine⟨u,?_,conv _ u cI λa b d hp=>⟨YR rd hp,by simp only[src,rI,if_neg (show ¬k<E1.length by omega),hp]⟩⟩
   rw[aaS]
   .rw[<-hu];congr 1;rw[F1.len,afn];have:E1.length*i.size<=k*i.size:=abS _ ef;omega
   .rw[F1.len];have:E1.length*i.size<=k*i.size:=abS _ ef;omega
 have NH:∀(k:Nat)cs(j:Nat)s e,(E1++E2)[k]? =some cs->cs[j]? =some (.iJ s e)->∃kZ i' j',src k j= .sub kZ i' j'/\D kZ/\gN m kZ i' j' s e:=by
  intro k cs j s e hk hj;rcases aax k E1.length with ax|ef
  .rw[aaW ax]at hk;obtain⟨id,e0,lo,eM,hc,ho⟩:=mS BK hk hj;exact⟨id,lo+k,j,by simp only[src,rI,if_pos ax,qz hc],.inl ⟨_,_,_,hc⟩,ho⟩
  .rw[aaS ef]at hk;obtain⟨id,e0,lo,eM,hc,ho⟩:=mS Fr hk hj;exact⟨id,lo+(k-E1.length),j,by simp only[src,rI,if_neg (show ¬k<E1.length by omega),qz hc],.inr ⟨_,_,_,hc⟩,ho⟩
 have uh:∀i j i' j',src i j=src i' j'->(∃cs s e,(E1++E2)[i]? =some cs/\cs[j]? =some (.iJ s e))->(∃cs s e,(E1++E2)[i']? =some cs/\cs[j']? =some (.iJ s e))->i=i'/\j=j':=by
  have side:∀k j,(∃cs s e,(E1++E2)[k]? =some cs/\cs[j]? =some (.iJ s e))->
    (k<E1.length/\∃id e0 lo eM,c1= .rv (.one (.row id e0 lo eM))/\src k j= .sub id (lo+k) j)\/(E1.length<=k/\∃id e0 lo eM,c2= .rv (.one (.row id e0 lo eM))/\src k j= .sub id (lo+(k-E1.length)) j):=by
   rintro k j ⟨cs,s,e,hk,hj⟩;rcases aax k E1.length with ax|ef
   .rw[aaW ax]at hk;obtain⟨id,e0,lo,eM,hc,ho⟩:=mS BK hk hj;exact .inl ⟨ax,id,e0,lo,eM,hc,by simp only[src,rI,if_pos ax,qz hc]⟩
   .rw[aaS ef]at hk;obtain⟨id,e0,lo,eM,hc,ho⟩:=mS Fr hk hj;exact .inr ⟨ef,id,e0,lo,eM,hc,by simp only[src,rI,if_neg (show ¬k<E1.length by omega),qz hc]⟩
  intro k j k' j' hs hk iG;rcases side k j hk with⟨h1,id,e0,lo,sj,hc,YS⟩|⟨h1,id,e0,lo,sj,hc,YS⟩<;>rcases side k' j' iG with⟨h2,id2,e02,lo2,acR,xw,NI⟩|⟨h2,id2,e02,lo2,acR,xw,NI⟩
  .rw[hc]at xw;injection xw with xw;injection xw with xw;injection xw with q1 q2 q3 q4
   subst q3;rw[YS,NI]at hs;injection hs with q5 q6 q7
   exact⟨om,q7⟩
  .rw[YS,NI]at hs;injection hs with q5 q6 q7
   rw[hc,xw]at fG;simp only[Ix,aco]at fG;exact absurd q5 (adu fG)
  .rw[YS,NI]at hs;injection hs with q5 q6 q7
   rw[hc,xw]at fG;simp only[Ix,aco]at fG;exact absurd q5.symm (adu fG)
  .rw[hc]at xw;injection xw with xw;injection xw with xw;injection xw with q1 q2 q3 q4
   subst q3;rw[YS,NI]at hs;injection hs with q5 q6 q7
   exact⟨om,q7⟩
 have II:∀(l:zA)i j,(ρ.move l src).aV (.sub ρ.n i j)=ρ.aV (src i j):=by intro l i j;simp[bX.move]
 have sK:∀(l:zA),(ρ.move l src).aV (.ay m.length)=l:=by intro l;rw[<-hM.n];simp[bX.move]
 have X3:∀(l:zA),l.len=E1.length+E2.length->l.cap<=maxLen->l.len<=l.cap->∀ad,(0<l.cap->ad=some ⟨l.b,l.aB,none⟩)->∀w',cw (ρ.move l src) w' (.rv (.one (.row m.length i.size 0 none))) (.slice ad (E1.length+E2.length) l.cap):=by
  intro l hl hc tX ad wh w';refine⟨by simp[bX.move,hM.n],aD,aD,by rw[sK];exact tX,by rw[sK];exact hc,ad,?_,?_⟩
  .rw[sK];simp[hl]
  .rw[sK];intro h0;rw[wh h0];simp
 by_cases oZ:E1.length+E2.length<=lu
 .rw[if_pos oZ]at eU;rcases abY lu with IJ|IJ
  ·
   have n1:E1.length=0:=om;have n2:E2.length=0:=om;have acS:NG=[]:=aaX (by rw[F2.len,n2];simp)
   subst acS;have wg:((Aq RF (E1.length*i.size) []).run P w)= .ok () w:=by
    cases RF<;>simp[Aq,storeCells]
   rw[wg]at eU;simp only[Result.andThen_ok]at eU;let l:zA:=⟨0,0,0,0⟩;obtain⟨nA,Us⟩:=hM.move (m1:=jD (jD m c1) c2) (D:=D) (esz:=i.size) (E:=E1++E2) (l:=l) (src:=src) (w':=w) (by rw[k3,k1]) KA (aai _) rfl rfl rfl (λ_ _ _=>rfl)
    (by simp[l]) (by simp[l,n1,n2]) (aai _) (by simp[l]) mD (by simp[l]) NH uh
   refine⟨_,_,w,_,_,_,by rw[Sem.run_bind,eU];rfl,.inl rfl,g3,nA,?_,Us⟩
   have:=X3 l (by simp[l,n1,n2]) (by simp[l]) (aai _) RF (by simp[l]) w
   rw[IJ];exact this
  ·
   have pd:∃id lo eM,c1= .rv (.one (.row id i.size lo eM))/\Live ρ m (.ay id)/\RF=some ⟨(ρ.aV (.ay id)).b,(ρ.aV (.ay id)).aB+lo*i.size,none⟩/\lu=(ρ.aV (.ay id)).cap-lo/\
     ∃cur,m8 (i.size=1) w (ρ.aV (.ay id)).b cur/\(ρ.aV (.ay id)).aB+(ρ.aV (.ay id)).cap*i.size<=cur.size:=by
    unfold fJ at BK;split at BK
    .simp[w9]at nv
    .rename_i id e0 lo eM;split at BK
     .rename_i e2' rows gv;rw[aW]at gv;split at BK
      .rename_i q1 q2;have q1:e0=i.size:=aa1 q1;have q2:e2'=i.size:=aa1 q2;subst q1;rw[q2]at gv;obtain⟨r2,r3,r4,r5,KB⟩:=hM.bk id _ gv;obtain⟨ax,d1,d2,d3,d4,ad,RJ,wh⟩:=hd;rw[RJ]at Dp;injection Dp with acT ahI YT
       have zr:0<(ρ.aV (.ay id)).cap:=by clear KB;omega
       obtain⟨cur,cn,h1,_⟩:=KB zr;exact⟨id,lo,eM,rfl,⟨_,gv,aD,λ_=>zr⟩,by rw[<-acT];exact wh (by clear KB;omega),YT.symm,cur,cn,h1⟩
      .cases BK
     .cases BK
    .cases BK;obtain⟨ad,RJ⟩:=hd;rw[RJ]at Dp;injection Dp with _ _ YT
     omega
    .cases BK
   obtain⟨id,lo,eM,rfl,bO,rfl,IK,cur,cn,fA⟩:=pd;have ix:lo+lu=(ρ.aV (.ay id)).cap:=om;have hbound:(ρ.aV (.ay id)).aB+lo*i.size+lu*i.size<=cur.size:=by have:(lo+lu)*i.size=lo*i.size+lu*i.size:=ab3 ..;rw[<-ix,this]at fA;omega
   have acU:E1.length*i.size+E2.length*i.size<=lu*i.size:=by rw[<-ab3];exact abS _ oZ
   obtain⟨w',iq,wg,sF,X4,acV,iG⟩:=oz (P:=P) (ρ.aV (.ay id)).b ((ρ.aV (.ay id)).aB+lo*i.size+E1.length*i.size) NG 0 cur w cn (by rw[F2.len];omega) F2.one
   have Ap:(Builtin.append_ #[t,t2] ty #[v,v2]).run P w= .ok (.slice (some ⟨(ρ.aV (.ay id)).b,(ρ.aV (.ay id)).aB+lo*i.size,none⟩) (E1.length+E2.length) lu) w':=by rw[eU];simp only[Aq,nc];rw[wg];rfl
   let l:zA:=⟨(ρ.aV (.ay id)).b,(ρ.aV (.ay id)).aB+lo*i.size,E1.length+E2.length,lu⟩;have cZ:=hM.aF _ bO;obtain⟨nA,Us⟩:=hM.move (m1:=jD (jD m (.rv (.one (.row id i.size lo eM)))) c2) (D:=D) (esz:=i.size) (E:=E1++E2) (l:=l) (src:=src) (w':=w') (by rw[k3,k1]) KA (Nat.le_of_eq X4.size.symm) X4.os X4.tape X4.output
    (λb hb hn=>X4.heap b λe=>hn id (.inl ⟨_,_,_,rfl⟩) bO e.symm) (λ_=>⟨by rw[X4.size];exact cZ.1,.inr ⟨id,.inl ⟨_,_,_,rfl⟩,bO,rfl⟩⟩) (by simp[l]) oZ RG mD
    (λg _=>⟨iq,sF,by rw[acV];exact hbound,λk cs j c hk hj=>by
     obtain⟨u,hu,cI⟩:=kF g (II l) k cs j c hk hj;refine⟨u,?_,cI⟩;rw[iG];simp only[l,adS];have ax:=(Lw.1 hu).1;rw[abT,F1.len,F2.len]at ax;rcases aax (k*i.size+j) (E1.length*i.size)with rH|rH
     .rw[if_neg om];rw[aaW (by rw[F1.len];exact rH)]at hu
      obtain⟨b',ahJ,VF,hrd⟩:=F1.ND (by
       rcases abY E1.length with h0|h0
       .rw[h0]at rH;simp at rH
       .exact h0)
      injection VF with VF
      injection VF with vu kG
      have hh:=hrd _ u hu;rw[<-vu,<-kG,cn.cell]at hh;rw[<-hh];congr 1;omega
     .rw[if_pos (by rw[F2.len];omega)]
      rw[aaS (by rw[F1.len];exact rH)]at hu
      rw[<-hu];congr 1;rw[F1.len];omega⟩) NH uh
   refine⟨_,_,w',_,_,_,by rw[Sem.run_bind,Ap];rfl,.inl rfl,g3,nA,?_,Us⟩
   exact X3 l rfl RG oZ _ (λ_=>rfl) w'
 ·
  rw[if_neg oZ]at eU;have ef:=grownCap_ge w (E1.length+E2.length) lu e;have hgm:grownCap w (E1.length+E2.length) lu e<=maxLen:=grownCap_le_maxLen w _ lu e (by unfold maxLen;omega)
  let cells:Array Value:=X2.toArray++NG.toArray++Builtin.zeroCells zv.cells (grownCap w (E1.length+E2.length) lu e-(E1.length+E2.length));let l:zA:=⟨w.heap.size,0,E1.length+E2.length,grownCap w (E1.length+E2.length) lu e⟩;have YU:cells.size=grownCap w (E1.length+E2.length) lu e*i.size:=by simp only[cells,Array.size_append,List.size_toArray,F1.len,F2.len,size_zeroCells,YQ,<-Nat.add_mul];congr 1;omega
  have uk:m8 (i.size=1) (w.drew.alloc (.cells cells e)) w.heap.size cells:=m8.new w.drew cells e;obtain⟨nA,Us⟩:=hM.move (m1:=jD (jD m c1) c2) (D:=D) (esz:=i.size) (E:=E1++E2) (l:=l) (src:=src) (w':=w.drew.alloc (.cells cells e)) (by rw[k3,k1]) KA aD rfl rfl rfl
   (λb hb _=>heap_alloc_old w.drew _ b hb) (λ_=>⟨uk.lt,.inl (aai _)⟩) (by simp[l]) ef hgm mD
   (λg _=>⟨cells,uk,by simp only[l,abV];rw[YU];exact aai _,λk cs j c hk hj=>by
    obtain⟨u,hu,cI⟩:=kF g (II l) k cs j c hk hj;refine⟨u,?_,cI⟩;have ax:=(Lw.1 hu).1;simp only[l,abV,cells];rw[ac5 (by simpa using ax)]
    simpa using hu⟩) NH uh
  refine⟨_,_,_,_,_,_,by rw[Sem.run_bind,eU];rfl,.inl rfl,g3,nA,?_,Us⟩
  exact X3 l rfl hgm ef _ (λ_=>rfl) _
end
end Go.AM
