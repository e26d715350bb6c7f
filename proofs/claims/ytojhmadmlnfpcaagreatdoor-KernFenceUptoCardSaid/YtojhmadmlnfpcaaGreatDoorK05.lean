/- Part 5 of 43: what the law stands on. -/
import Derived.Test.YtojhmadmlnfpcaaGreatDoorK04
import Derived.ChangeKeysEq
import Derived.Laws.StructEq
set_option linter.unusedVariables false
set_option linter.unusedSimpArgs false
set_option linter.unnecessarySimpa false
set_option maxRecDepth 100000
set_option maxHeartbeats 64000000
namespace Go.AM
section
variable {P:Program} {ρ:bL} {m:Mem} {w:World} {aY:List CV} {a:Act} {K:CV->Mem->Prop}
def iW:List Kd->List Value->List Value->Option Bool
 | [],[],[]=>some true
 |k::ks,a::r,b::s=>match Oo k a b,iW ks r s with
  |some x,some y=>some (x&&y)
  |_,_=>none
 |_,_,_=>none
theorem nV:∀{ks:List Kd}{a b:List Value}{r:Bool},iW ks a b=some r->a.length=ks.length/\b.length=ks.length
 | [],[],[],r,h=>⟨rfl,rfl⟩
 | [],[],_::_,r,h=>by simp[iW]at h
 | [],_::_,_,r,h=>by simp[iW]at h
 |k::ks,[],_,r,h=>by simp[iW]at h
 |k::ks,_::_,[],r,h=>by simp[iW]at h
 |k::ks,a::l,b::l',r,h=>by
  simp only[iW]at h;split at h
  .rename_i x y hx hy;obtain⟨h1,h2⟩:=nV hy;exact⟨by simp[h1],by simp[h2]⟩
  .cases h
theorem tN:∀{ks ls:List Kd}{u v:List Value}{r:Bool},iW (ks++ls) u v=some r->
  ∃u1 u2 v1 v2 x y,u=u1++u2/\v=v1++v2/\iW ks u1 v1=some x/\iW ls u2 v2=some y/\r=(x&&y)
 | [],ls,u,v,r,h=>⟨[],u,[],v,true,r,rfl,rfl,rfl,h,aG⟩
 |k::ks,ls,[],v,r,h=>by simp[iW]at h
 |k::ks,ls,_::_,[],r,h=>by simp[iW]at h
 |k::ks,ls,a::l,b::l',r,h=>by
  simp only[abN,iW]at h;split at h
  .rename_i x y hx hy;cases h;obtain⟨u1,u2,v1,v2,x1,y1,rfl,rfl,h1,h2,rfl⟩:=tN hy;exact⟨a::u1,u2,b::v1,v2,x&&x1,y1,rfl,rfl,by simp[iW,hx,h1],h2,by simp[Bool.and_assoc]⟩
  .cases h
def pa(P:Program)(t:TypeId)(us:List Value):Value:=if eB P t=some true then .agg us.toArray else us.headD Go.undef
theorem qH{t:TypeId}{pre us post:List Value}(hs:eN P t=some us.length)(ha:eB P t=some true\/(eB P t=some false/\us.length=1)):
  (part t (pre++(us++post)).toArray pre.length).run P w= .ok (pa P t us) w:=by
 unfold part pa;rcases ha with ha|⟨ha,h1⟩
 .rw[Sem.run_bind,oJ ha];simp only[Result.andThen_ok,if_true,ha];rw[Sem.run_bind,fk hs];simp only[Result.andThen_ok,Sem.run_pure];congr 2;apply abn;simp
 .rw[Sem.run_bind,oJ ha]
  match us,h1 with
  | [u],_=>
   simp[ha]
theorem qI:∀(d:Nat)(t:TypeId)(ks:List Kd),flatK P d t=some ks->eN P t=some ks.length/\(eB P t=some true\/(eB P t=some false/\ks.length=1))/\
  ∀(k:Nat),d<=k->∀(us vs:List Value)(b:Bool),iW ks us vs=some b->(Op.equalIn k t (pa P t us) (pa P t vs)).run P w= .ok b w
 |0,t,ks,h=>by simp[flatK]at h
 |d+1,t,ks,h=>by
  simp only[flatK]at h;have plain:∀kd,ks=[kd]->eN P t=some 1->eB P t=some false->(∀(k:Nat)(x y:Value)b,Oo kd x y=some b->(Op.equalIn (k+1) t x y).run P w= .ok b w)->
    eN P t=some ks.length/\(eB P t=some true\/(eB P t=some false/\ks.length=1))/\
    ∀(k:Nat),d+1<=k->∀(us vs:List Value)(b:Bool),iW ks us vs=some b->(Op.equalIn k t (pa P t us) (pa P t vs)).run P w= .ok b w:=by
   rintro kd rfl hs ha dV;refine⟨hs,.inr ⟨ha,rfl⟩,fun k hk us vs b he=>?_⟩
   obtain⟨h1,h2⟩:=nV he
   match us,vs,h1,h2 with
   | [x],[y],_,_=>
    obtain⟨k,rfl⟩:∃k',k=k'+1:=⟨k-1,om⟩;simp only[pa,ha];simp only[iW]at he;split at he
    .rename_i p q hp hq;cases he;cases hq;simp only[Bool.and_true];exact dV k x y p hp
    .cases he
  split at h
  .rename_i hu;split at h
   .cases h;refine plain .b rfl (by assumption) (by simp[eB,hu]) fun k x y b he=>?_
    cases x<;>cases y<;>simp only[Oo]at he<;>try(cases he;done)
    cases he;simp[Op.equalIn,run_underlying hu]
   .cases h
  .rename_i kk hu;split at h
   .cases h;refine plain .i rfl (by assumption) (by simp[eB,hu]) fun k x y b he=>?_
    cases x<;>cases y<;>simp only[Oo]at he<;>try(cases he;done)
    rename_i k1 a k2 b';by_cases hk:k1=k2
    .subst hk;simp at he;subst he;simp[Op.equalIn,run_underlying hu]
    .rw[decide_eq_false hk]at he;cases he
   .cases h
  .rename_i hu;split at h
   .cases h;refine plain .s rfl (by assumption) (by simp[eB,hu]) fun k x y b he=>?_
    cases x<;>cases y<;>simp only[Oo]at he<;>try(cases he;done)
    cases he;simp[Op.equalIn,run_underlying hu,beq_toListBytes]
   .cases h
  .rename_i fs hu;split at h
   .rename_i yp;split at h
    .rename_i ks0 hf;split at h
     .rename_i dI;cases h;have ha:eB P t=some true:=by simp[eB,hu]
      refine⟨dI,.inl ha,fun k hk us vs b he=>?_⟩
      obtain⟨k,rfl⟩:∃k',k=k'+1:=⟨k-1,om⟩;have Td:P.fieldsOf t=fs:=by simp[Program.fieldsOf,hu]
      simp only[pa,ha,if_true];rw[run_equalIn_struct w k t us.toArray vs.toArray (by rw[Td];exact hu) yp,Td]
      have key:∀(l:List Field)(pre qJ:List Value)(ls:List Kd)(us vs:List Value)(b:Bool),pre.length=qJ.length->Bx (flatK P d) l pre.length=some ls->iW ls us vs=some b->
        (Op.eqFields k (pre++us).toArray (qJ++vs).toArray l).run P w= .ok b w:=by
       intro l
       induction l with
       |nil=>
        intro pre qJ ls us vs b _ r8 he;simp[Bx]at r8;subst r8;obtain⟨h1,h2⟩:=nV he;cases us<;>cases vs<;>simp[iW]at he h1 h2
        subst he;simp[Op.eqFields]
       |cons f l ih=>
        intro pre qJ ls us vs b T0 r8 he;simp only[Bx]at r8;split at r8
        .rename_i hc;split at r8
         .rename_i ks1 jM;split at r8
          .rename_i ls1 BI;cases r8;obtain⟨u1,u2,v1,v2,x,y,rfl,rfl,Ib,mO,rfl⟩:=tN he;obtain⟨g1,g2,g3⟩:=qI d f.type ks1 jM;obtain⟨e1,e2⟩:=nV Ib;simp only[Op.eqFields];rw[if_pos hc.1,hc.2];rw[Sem.run_bind,qH (by rw[g1,e1]) (by rw[e1];exact g2)]
           simp only[Result.andThen_ok];rw[Sem.run_bind,T0,qH (by rw[g1,e2]) (by rw[e2];exact g2)]
           simp only[Result.andThen_ok];rw[Sem.run_bind,g3 k om u1 v1 x Ib];simp only[Result.andThen_ok];have:=ih (pre++u1) (qJ++v1) ls1 u2 v2 y (by simp[T0,e1,e2]) (by rw[aa3,e1];exact BI) mO
           simp only[acg]at this;cases x
           .simp
           .simpa using this
          .cases r8
         .cases r8
        .cases r8
      have:=key fs.toList [] [] ks us vs b rfl hf he;simpa using this
     .cases h
    .cases h
   .cases h
  .cases h
theorem nW:∀{ks:List Kd}{cs ds:List CC}{b:Bool}{us vs:List Value},jS ks cs ds=some b->us.length=cs.length->vs.length=ds.length->
  (∀(i:Nat)c,cs[i]? =some c->∃u,us[i]? =some u/\bz ρ w .none c u)->(∀(i:Nat)c,ds[i]? =some c->∃u,vs[i]? =some u/\bz ρ w .none c u)->iW ks us vs=some b
 | [],[],[],b,us,vs,h,h1,h2,_,_=>by simp at h1 h2;subst h1 h2;simpa[jS,iW]using h
 | [],[],_::_,b,us,vs,h,h1,h2,_,_=>by simp[jS]at h
 | [],_::_,_,b,us,vs,h,h1,h2,_,_=>by simp[jS]at h
 |k::ks,[],_,b,us,vs,h,h1,h2,_,_=>by simp[jS]at h
 |k::ks,c::cs,[],b,us,vs,h,h1,h2,_,_=>by cases c<;>simp[jS]at h
 |k::ks,c::cs,d::ds,b,us,vs,h,h1,h2,g1,g2=>by
  unfold jS at h;split at h
  .cases ‹_::_=[]›
  .rename_i k' ks' x r y s e1 e2 e3;cases e1;cases e2;cases e3;split at h
   .rename_i p q hp hq;cases h
    match us,vs,h1,h2 with
    |u::us,v::vs,h1,h2=>
     obtain⟨u',hu,cn⟩:=g1 0 _ rfl;obtain⟨v',hv,uP⟩:=g2 0 _ rfl;simp at hu hv;subst hu hv;obtain⟨rfl,_⟩:=bM cn (fun e=>by subst e;cases k<;>simp[Oo]at hp)
     obtain⟨rfl,_⟩:=bM uP (fun e=>by subst e;cases k<;>cases u<;>simp[Oo]at hp)
     have:=nW (us:=us) (vs:=vs) hq (by simpa using h1) (by simpa using h2) (fun i c hi=>by simpa using g1 (i+1) c (by simpa using hi)) (fun i c hi=>by simpa using g2 (i+1) c (by simpa using hi))
     simp[iW,hp,this]
   .cases h
  .cases h
theorem yv(hM:aH ρ m w)(hE:bj ρ w aY a.tmps){neg:Bool}{t:TypeId}{fs:Array Field}{ks:List Kd}{x y:Operand}{x' y':X}(ht:P.underlying t=some (.struct fs))(hg:P.eqGuardType P.depth t=false)(hk:flatK P 5 t=some ks)(hx:bo x=some x')(hy:bo y=some y')(h:step P (.HW neg ks x' y') aY m K):dO P (do let v<-(do eqGuard (if neg then .neq else .eql) t x y (a.eval x) (a.eval y);binOp (if neg then .neq else .eql) t (a.eval x) (a.eval y));pure (Next.value v)) ρ m w K:=by
 have hd:=aP hE hx;have o9:=aP hE hy;simp only[step]at h;generalize a.eval x=v at hd⊢;generalize a.eval y=u at o9⊢;generalize x'.ev aY=c at hd h;generalize y'.ev aY=d at o9 h;split at h
 .split at h
  .obtain⟨us,rfl,l1,d1⟩:=hd;obtain⟨vs,rfl,l2,d2⟩:=o9;obtain⟨b,he,hK⟩:=be.1 h;have Qo:=nW he l1 l2 d1 d2;have dV:=(qI (w:=w) 5 t ks hk).2.2 10000 om us vs b Qo;have ha:eB P t=some true:=by simp[eB,ht]
   simp only[pa,ha,if_true]at dV;refine dO.pure hM (v:=_) ?_ hK (cq rfl);rw[Sem.run_bind,Sem.run_bind,run_eqGuard_agg w _ t x y _ _ hg];cases neg
   .simp only[Result.andThen_ok,abh,if_false,run_eql_struct,dV,Sem.run_pure]
   .simp only[Result.andThen_ok,if_true,run_neq_struct,dV,Sem.run_pure]
  .exact h.elim
 .exact h.elim
theorem qK{e:TypeId}{kk:IntKind}(hu:P.underlying e=some (.int kk))(hs:eN P e=some 1)(d:Nat):∀(us vs pre qJ:List Value)(b:Bool),pre.length=qJ.length->iW (gg us.length .i) us vs=some b->
  (Op.eqItems (d+1) e 1 (pre++us).toArray (qJ++vs).toArray (List.range' pre.length us.length)).run P w= .ok b w
 | [],[],pre,qJ,b,_,he=>by simp[gg,iW]at he;subst he;simp[Op.eqItems]
 | [],v::vs,pre,qJ,b,_,he=>by simp[gg,iW]at he
 |u::us,[],pre,qJ,b,_,he=>by simp[gg,iW]at he
 |u::us,v::vs,pre,qJ,b,hp,he=>by
  have ha:eB P e=some false:=by simp[eB,hu]
  simp only[aax,gg,iW]at he;split at he
  .rename_i x y hx hy;cases he;have ih:=qK hu hs d us vs (pre++ [u]) (qJ++ [v]) y (by simp[hp]) hy
   have p1:=qH (w:=w) (t:=e) (pre:=pre) (us:=[u]) (post:=us) hs (.inr ⟨ha,rfl⟩);have p2:=qH (w:=w) (t:=e) (pre:=qJ) (us:=[v]) (post:=vs) hs (.inr ⟨ha,rfl⟩);simp only[pa,ha,List.singleton_append]at p1 p2;have p3:(Op.equalIn (d+1) e u v).run P w= .ok x w:=by
    cases u<;>cases v<;>simp only[Oo]at hx<;>try(cases hx;done)
    rename_i k1 a k2 b';by_cases hk:k1=k2
    .subst hk;simp at hx;subst hx;simp[Op.equalIn,run_underlying hu]
    .rw[decide_eq_false hk]at hx;cases hx
   simp only[aax,acm,Op.eqItems,Sem.run_bind,Nat.mul_one];rw[p1];simp only[Result.andThen_ok];rw[hp,p2];simp only[Result.andThen_ok,aaA,abh,if_false,List.headD_cons];rw[p3];simp only[Result.andThen_ok];cases x
   .simp
   .simp only[acF,abh,if_false,ack];rw[<-hp];simpa using ih
  .cases he
theorem vj(hM:aH ρ m w)(hE:bj ρ w aY a.tmps){neg:Bool}{t e:TypeId}{n:Nat}{kk:IntKind}{x y:Operand}{x' y':X}(ht:P.underlying t=some (.array n e))(hg:P.eqGuardType P.depth t=false)(hu:P.underlying e=some (.int kk))(hs:eN P e=some 1)(hx:bo x=some x')(hy:bo y=some y')(h:step P (.HW neg (gg n .i) x' y') aY m K):dO P (do let v<-(do eqGuard (if neg then .neq else .eql) t x y (a.eval x) (a.eval y);binOp (if neg then .neq else .eql) t (a.eval x) (a.eval y));pure (Next.value v)) ρ m w K:=by
 have hd:=aP hE hx;have o9:=aP hE hy;simp only[step]at h;generalize a.eval x=v at hd⊢;generalize a.eval y=u at o9⊢;generalize x'.ev aY=c at hd h;generalize y'.ev aY=d at o9 h;split at h
 .split at h
  .obtain⟨us,rfl,l1,d1⟩:=hd;obtain⟨vs,rfl,l2,d2⟩:=o9;obtain⟨b,he,hK⟩:=be.1 h;have Qo:=nW he l1 l2 d1 d2;obtain⟨e1,e2⟩:=nV Qo;have hn:us.length=n:=by rw[e1,fA];simp
   have hs':=hs;simp only[eN,aaD]at hs';obtain⟨i,hi,Qn⟩:=hs';have hc:P.cellsOf e=1:=by simp[Program.cellsOf,hi,Qn]
   have dV:=qK (w:=w) hu hs 9998 us vs [] [] b rfl (by rw[hn];exact Qo)
   simp only[acT,aaT]at dV;have yw:(Op.equalIn 10000 t (.agg us.toArray) (.agg vs.toArray)).run P w= .ok b w:=by rw[run_equalIn_array w 9999 _ _ ht hi,hc,<-hn,List.range_eq_range'];exact dV
   refine dO.pure hM (v:=_) ?_ hK (cq rfl);rw[Sem.run_bind,Sem.run_bind,run_eqGuard_agg w _ t x y _ _ hg];cases neg
   .simp only[Result.andThen_ok,abh,if_false,run_eql_struct,yw,Sem.run_pure]
   .simp only[Result.andThen_ok,if_true,run_neq_struct,yw,Sem.run_pure]
  .exact h.elim
 .exact h.elim
end
section
variable {P:Program} {ρ:bL} {m:Mem} {w:World} {aY:List CV} {a:Act} {K:CV->Mem->Prop}
def bL.move(ρ:bL)(l:xA)(src:Nat->Nat->lT):bL:=
 {n:=ρ.n+1
  aR:=fun k=>match k with
   | .au id=>if id=ρ.n then l else ρ.aR (.au id)
   | .sub id i j=>if id=ρ.n then ρ.aR (src i j)else ρ.aR (.sub id i j)
  S:=ρ.S}
theorem aH.move{w':World}(hM:aH ρ m w){m1:Mem}{D:Nat->Prop}{esz:Nat}{E:List (List CC)}{l:xA}{src:Nat->Nat->lT}(hlen:m1.length=m.length)(Ic:∀(id:Nat)b,m1[id]? =some b->b= .bh\/(m[id]? =some b/\¬D id))(dI:w.heap.size<=w'.heap.size)(T1:w'.os=w.os)(T2:w'.tape=w.tape)(gF:w'.output=w.output)(lD:∀b,b<w.heap.size->(∀id,D id->Live ρ m (.au id)->(ρ.aR (.au id)).b≠b)->w'.heap[b]? =w.heap[b]?)(hl:0<l.cap->l.b<w'.heap.size/\(w.heap.size<=l.b\/∃id,D id/\Live ρ m (.au id)/\(ρ.aR (.au id)).b=l.b))(hE:E.length=l.len)(rP:l.len<=l.cap)(bp:l.cap<=maxLen)(qn:∀cs,cs∈E->cs.length=esz)(ez:iT ρ w (ρ.move l src) w'->0<l.cap->∃cur,mf (esz=1) w' l.b cur/\l.ax+l.cap*esz<=cur.size/\
   ∀(i:Nat)cs(j:Nat)c,E[i]? =some cs->cs[j]? =some c->∃u,cur[l.ax+i*esz+j]? =some u/\bz (ρ.move l src) w' (some (ρ.n,i,j)) c u)(mr:∀(i:Nat)cs(j:Nat)s e,E[i]? =some cs->cs[j]? =some (.gX s e)->∃jL i' j',src i j= .sub jL i' j'/\D jL/\fI m jL i' j' s e)(r9:∀i j i' j',src i j=src i' j'->(∃cs s e,E[i]? =some cs/\cs[j]? =some (.gX s e))->(∃cs s e,E[i']? =some cs/\cs[j']? =some (.gX s e))->i=i'/\j=j'):
  aH (ρ.move l src) (m1++ [.row esz E]) w'/\Ext ρ m w (ρ.move l src) (m1++ [.row esz E]) w':=by
 have hn:=hM.n;have old:∀k:lT,k.id<ρ.n->(ρ.move l src).aR k=ρ.aR k:=by
  intro k hk;cases k with
  |au id=>simp only[bL.move];rw[if_neg (by simp only[lT.id]at hk;omega)]
  |sub id i j=>simp only[bL.move];rw[if_neg (by simp only[lT.id]at hk;omega)]
 have vl:(ρ.move l src).aR (.au ρ.n)=l:=by simp[bL.move]
 have xQ:∀i j,(ρ.move l src).aR (.sub ρ.n i j)=ρ.aR (src i j):=by intro i j;simp[bL.move]
 have vm:∀b,ρ.S b->w'.heap[b]? =w.heap[b]? :=fun b hb=>lD b (hM.S b hb) fun id _ dh e=>(hM.aV _ dh).2 (e▸hb)
 have g:iT ρ w (ρ.move l src) w':=⟨by simp[bL.move],old,fun b hb=>hb,vm⟩
 have get:∀{id:Nat}{b:Bk},(m1++ [.row esz E])[id]? =some b->(id<ρ.n/\(b= .bh\/(m[id]? =some b/\¬D id)))\/(id=ρ.n/\b= .row esz E):=by
  intro id b hb;rcases aaq id m1.length with h|h
  .rw[aar h]at hb;exact .inl ⟨om,Ic id b hb⟩
  .rw[aan h]at hb;have:id-m1.length=0:=by
    rcases aaY (id-m1.length)with h0|h0
    .exact h0
    .rw[aaG (by simp;omega)]at hb;cases hb
   rw[this]at hb;exact .inr ⟨om,by simpa using hb.symm⟩
 have iq:∀{id i j s e},fI (m1++ [.row esz E]) id i j s e->(id<ρ.n/\¬D id/\fI m id i j s e)\/
   (id=ρ.n/\(∃cs s e,E[i]? =some cs/\cs[j]? =some (.gX s e))/\∃jL i' j',src i j= .sub jL i' j'/\D jL/\fI m jL i' j' s e):=by
  rintro id i j s e ⟨es,rows,cs,xO,hi,hj⟩;rcases get xO with⟨aC,hb|⟨hb,hD⟩⟩|⟨rfl,hb⟩
  .cases hb
  .exact .inl ⟨aC,hD,es,rows,cs,hb,hi,hj⟩
  .injection hb with Ry jD
   subst Ry jD;exact .inr ⟨rfl,⟨cs,_,_,hi,hj⟩,mr i cs j s e hi hj⟩
 have du:∀k,Live (ρ.move l src) (m1++ [.row esz E]) k->
   (k.id<ρ.n/\¬D k.id/\Live ρ m k)\/(k= .au ρ.n/\0<l.cap)\/
   (∃i j,k= .sub ρ.n i j/\(∃cs s e,E[i]? =some cs/\cs[j]? =some (.gX s e))/\Live ρ m (src i j)/\D (src i j).id/\∃a b c,src i j= .sub a b c):=by
  intro k hk;cases k with
  |au id=>
   obtain⟨b,hb,eW,xE⟩:=hk;rcases get hb with⟨aC,rfl|⟨hb,hD⟩⟩|⟨rfl,rfl⟩
   .exact absurd rfl eW
   .rw[old (.au id) aC]at xE;exact .inl ⟨aC,hD,b,hb,eW,xE⟩
   .rw[vl]at xE;exact .inr (.inl ⟨rfl,xE ⟨_,_,rfl⟩⟩)
  |sub id i j=>
   obtain⟨⟨s,e,ho⟩,xE⟩:=hk;rcases iq ho with⟨aC,hD,ho⟩|⟨rfl,jq,jL,i',j',hs,hD,ho⟩
   .rw[old (.sub id i j) aC]at xE;exact .inl ⟨aC,hD,⟨s,e,ho⟩,xE⟩
   .rw[xQ]at xE;exact .inr (.inr ⟨i,j,rfl,jq,by rw[hs]at xE⊢;exact⟨⟨s,e,ho⟩,xE⟩,by rw[hs];exact hD,_,_,_,hs⟩)
 have eH:∀k,Live ρ m k->(k.id<ρ.n/\¬D k.id)\/(∃a b c,k= .sub a b c)->w'.heap[(ρ.aR k).b]? =w.heap[(ρ.aR k).b]? :=by
  intro k hk T3;refine lD _ (hM.aV k hk).1 fun id hD dh e=>?_
  have:=hM.inj _ _ dh hk e;rcases T3 with⟨_,XD⟩|⟨_,_,_,rfl⟩
  .exact XD (by rw[<-this];exact hD)
  .cases this
 refine⟨⟨by simp[bL.move,hn,hlen],fun b hb=>aaH (hM.S b hb) dI,?_,?_,?_,?_⟩,
  ⟨by simp[bL.move],fun id hid=>old (.au id) hid,fun b hb=>hb,fun b hb=>.inl hb,?_,?_,dI,T1,T2,gF⟩⟩
 .intro k hk;rcases du k hk with⟨aC,_,hk⟩|⟨rfl,hc⟩|⟨i,j,rfl,_,hk,_⟩
  .rw[old k aC];exact⟨aaH (hM.aV k hk).1 dI,(hM.aV k hk).2⟩
  .rw[vl];obtain⟨h1,h2⟩:=hl hc;refine⟨h1,fun hs=>?_⟩
   rcases h2 with h2|⟨id,hD,dh,e⟩
   .have:=hM.S _ hs;omega
   .exact(hM.aV _ dh).2 (e▸hs)
  .rw[xQ];exact⟨aaH (hM.aV _ hk).1 dI,(hM.aV _ hk).2⟩
 ·
  have zC:0<l.cap->∀k,Live ρ m k->(k.id<ρ.n/\¬D k.id)\/(∃a b c,k= .sub a b c)->(ρ.aR k).b≠l.b:=by
   intro hc k hk T3 e;obtain⟨h1,h2⟩:=hl hc;rcases h2 with h2|⟨id,hD,dh,e2⟩
   .have:=(hM.aV k hk).1;omega
   .have:=hM.inj _ _ dh hk (e2.trans e.symm);rcases T3 with⟨_,XD⟩|⟨_,_,_,rfl⟩
    .exact XD (by rw[<-this];exact hD)
    .cases this
  intro k k' hk ij he;rcases du k hk with⟨aC,hD,hk⟩|⟨rfl,hc⟩|⟨i,j,rfl,hx,hk,hDs,sa⟩<;>rcases du k' ij with⟨nU,T5,ij⟩|⟨rfl,qG⟩|⟨i',j',rfl,rQ,ij,XE,T6⟩
  .rw[old k aC,old k' nU]at he;exact hM.inj k k' hk ij he
  .rw[old k aC,vl]at he;exact absurd he (zC qG k hk (.inl ⟨aC,hD⟩))
  .rw[old k aC,xQ]at he;have:=hM.inj _ _ hk ij he;exact absurd (by rw[this];exact XE) hD
  .rw[old k' nU,vl]at he;exact absurd he.symm (zC hc k' ij (.inl ⟨nU,T5⟩))
  .rfl
  .rw[vl,xQ]at he;exact absurd he.symm (zC hc _ ij (.inr T6))
  .rw[old k' nU,xQ]at he;have:=hM.inj _ _ hk ij he;exact absurd (by rw[<-this];exact hDs) T5
  .rw[vl,xQ]at he;exact absurd he (zC qG _ hk (.inr sa))
  .rw[xQ,xQ]at he;obtain⟨rfl,rfl⟩:=r9 i j i' j' (hM.inj _ _ hk ij he) hx rQ;rfl
 .intro id b hb;rcases get hb with⟨aC,rfl|⟨hb,hD⟩⟩|⟨rfl,rfl⟩
  .trivial
  .exact(hM.bk id b hb).cM g aC fun eW xE=>eH (.au id) ⟨b,hb,eW,xE⟩ (.inl ⟨aC,hD⟩)
  .exact⟨by rw[vl];exact hE,by rw[vl];exact rP,by rw[vl];exact bp,qn,fun hc=>by rw[vl]at hc⊢;exact ez g hc⟩
 .intro id i j s e ho xE;rcases iq ho with⟨aC,hD,ho⟩|⟨rfl,_,jL,i',j',hs,hD,ho⟩
  .rw[old (.sub id i j) aC]at xE⊢;exact(hM.gX id i j s e ho xE).cM g (eH (.sub id i j) ⟨⟨s,e,ho⟩,xE⟩ (.inr ⟨_,_,_,rfl⟩))
  .rw[xQ,hs]at xE⊢;exact(hM.gX jL i' j' s e ho xE).cM g (eH (.sub jL i' j') ⟨⟨s,e,ho⟩,xE⟩ (.inr ⟨_,_,_,rfl⟩))
 .intro k hk;rcases du k hk with⟨aC,_,hk⟩|⟨rfl,hc⟩|⟨i,j,rfl,_,hk,_⟩
  .exact .inr ⟨k,hk,by rw[old k aC]⟩
  .rw[vl];obtain⟨h1,h2⟩:=hl hc;rcases h2 with h2|⟨id,hD,dh,e⟩
   .exact .inl h2
   .exact .inr ⟨_,dh,e⟩
  .exact .inr ⟨_,hk,by rw[xQ]⟩
 .intro b hb hk;exact lD b hb fun id hD dh e=>hk _ dh e
def yx(ad:Option Addr)(k:Nat)(vs:List Value):Sem Unit:=
 match ad with
 |some a=>storeCells (a.add k) vs
 |none=>pure ()
theorem nX{t t2 ty e e2:TypeId}{i:TypeInfo}{z:Value}(ht:P.underlying t=some (.slice e))(vn:P.underlying t2=some (.slice e2))(hi:P.info? e=some i)(hz:i.zero=some z){a0:Option Addr}{n1 c1 n2:Nat}{src:Value}{olds news:List Value}(hlen:(Builtin.lenOf src).run P w= .ok n2 w)(Qp:∀k,(Builtin.firstCells i.size n2 src).run P (w.drewN k)= .ok news.toArray (w.drewN k))(holds:∀k,(Builtin.firstCells i.size n1 (.slice a0 n1 c1)).run P (w.drewN k)= .ok olds.toArray (w.drewN k))(hb:0<i.bytes)(jr:(n1+n2)*i.bytes<=140737488355328):
  (Builtin.append_ #[t,t2] ty #[.slice a0 n1 c1,src]).run P w=if n1+n2<=c1 then
    ((yx a0 (n1*i.size) news).run P w).andThen fun _ w'=>.ok (.slice a0 (n1+n2) c1) w'
   else .ok (.slice (some ⟨w.heap.size,0,none⟩) (n1+n2) (grownCap w (n1+n2) c1 e)) (w.drew.alloc (.cells (olds.toArray++news.toArray++Builtin.zeroCells z.cells (grownCap w (n1+n2) c1 e-(n1+n2))) e)):=by
 have Ov:=Qp 0;have pJ:=Qp 1;have Te:=holds 1;have e0:w.drewN 0=w:=rfl;have e1:w.drewN 1=w.drew:=rfl;rw[e0]at Ov;rw[e1]at pJ Te;have Ec:n1+n2<=140737488355328:=aa0 (acf _ hb) jr;unfold Builtin.append_;by_cases hc:n1+n2<=c1
 .simp[run_underlying ht,run_underlying vn,sizeOf,typeInfo,hi,hlen,hc,Ov];cases a0<;>simp[yx]
 .have XF:¬(9223372036854775807<((n1:Int)+(n2:Int))):=om;have XG:¬(281474976710656<Builtin.nextslicecap (n1+n2) c1*i.bytes):=by have:=growslice_fits (need:=n1+n2) (old:=c1) om jr;omega
  have sb:¬i.bytes=0:=om;simp[run_underlying ht,run_underlying vn,sizeOf,typeInfo,zeroValue,hi,hz,hlen,hc,XF,XG,Question.forced,pJ,Te,newRow,grownCap];congr 2;apply abn;simp[acg]
def vo(v:CV)(i j:Nat):Option (Nat×Nat×Nat):=
 match v with
 | .rv (.one (.row id _ lo _))=>some (id,lo+i,j)
 |_=>none
theorem lF{α:Type}(l:List α)(lo:Nat)(hi:Option Nat):cw l lo hi=(match hi with|none=>l|some h=>l.take h).drop lo:=by
 cases lo<;>cases hi<;>simp[cw]
structure zD(ρ:bL)(w:World)(esz:Nat)(pos:Nat->Nat->Option (Nat×Nat×Nat))(E:List (List CC))(ad:Option Addr)(vs:List Value):Prop where
 len:vs.length=E.length*esz
 lm:∀cs,cs∈E->cs.length=esz
 Rz:0<E.length->∃b off,ad=some ⟨b,off,none⟩/\∀k u,vs[k]? =some u->w.cell? ⟨b,off+k,none⟩=some u
 lg:∀(i:Nat)cs(j:Nat)c,E[i]? =some cs->cs[j]? =some c->∃u,vs[i*esz+j]? =some u/\bz ρ w (pos i j) c u
 one:∀u,u∈vs->u.oneCell'=true
theorem yy{esz:Nat}{pos:Nat->Nat->Option (Nat×Nat×Nat)}{E:List (List CC)}{b off:Nat}(lm:∀cs,cs∈E->cs.length=esz)(h:∀(i:Nat)cs(j:Nat)c,E[i]? =some cs->cs[j]? =some c->∃u,w.cell? ⟨b,off+i*esz+j,none⟩=some u/\bz ρ w (pos i j) c u):
  ∃vs,zD ρ w esz pos E (some ⟨b,off,none⟩) vs:=by
 have all:∀k,k<E.length*esz->∃u p c,w.cell? ⟨b,off+k,none⟩=some u/\bz ρ w p c u:=by
  intro k hk;have dD:0<esz:=by
   rcases aaY esz with h0|h0
   .subst h0;simp at hk
   .exact h0
  have hi:k/esz<E.length:=Nat.div_lt_of_lt_mul (by rwa [acb])
  have hj:k%esz<esz:=Nat.mod_lt _ dD;have dG:=lm _ (aau hi);obtain⟨u,hu,hd⟩:=h (k/esz) _ (k%esz) _ (aab hi) (aab (by rw[dG];exact hj))
  have e:off+k/esz*esz+k%esz=off+k:=by have:=Nat.div_add_mod k esz;rw[acb]at this;omega
  rw[e]at hu;exact⟨u,_,_,hu,hd⟩
 let vs:=(List.range (E.length*esz)).map fun k=>(w.cell? ⟨b,off+k,none⟩).getD Go.undef
 have mt:∀k u,vs[k]? =some u->k<E.length*esz/\w.cell? ⟨b,off+k,none⟩=some u:=by
  intro k u hu;have hk:k<E.length*esz:=by have:=(aac.1 hu).1;simpa[vs]using this
  obtain⟨u',p,c,ul,_⟩:=all k hk;simp only[vs,aaf,abP hk,aaC,ul,aa5,aaA]at hu;exact⟨hk,by rw[ul,hu]⟩
 refine⟨vs,by simp[vs],lm,fun _=>⟨b,off,rfl,fun k u hu=>(mt k u hu).2⟩,fun i cs j c hi hj=>?_,fun u hu=>?_⟩
 .obtain⟨u,hu,hd⟩:=h i cs j c hi hj;refine⟨u,?_,hd⟩;have Qq:=(aac.1 hi).1;have mU:j<esz:=by rw[<-lm _ (aag hi)];exact(aac.1 hj).1
  have aC:i*esz+j<E.length*esz:=by have:(i+1)*esz<=E.length*esz:=aaP _ Qq;rw[aa2,abl]at this;omega
  simp only[vs,aaf,abP aC,aaC,<-Nat.add_assoc,hu,aa5]
 .obtain⟨k,hk,rfl⟩:=ab4 hu;obtain⟨pK,hc⟩:=mt k _ (aab hk);obtain⟨u',p,c,ul,hd⟩:=all k pK;rw[hc]at ul;cases ul;exact hd.one
theorem mV(hM:aH ρ m w){esz:Nat}{c:CV}{v:Value}{E:List (List CC)}(h:fg m esz c=some E)(hd:b8 ρ w c v):
  ∃ad cap vs,v= .slice ad E.length cap/\E.length<=cap/\cap<=maxLen/\zD ρ w esz (vo c) E ad vs:=by
 unfold fg at h;split at h
 .rename_i e elems;split at h
  .rename_i he;have he:e=esz:=aav he;subst he;cases h;cases hd with
   |nil _ a cap hc=>exact⟨_,_,[],rfl,aG,hc,aG,aG,aG,aG,aG⟩
   |sl _ _ b off cap u hS hl bp dI hc cj=>
    obtain⟨vs,DC⟩:=yy (ρ:=ρ) (w:=w) (esz:=e) (pos:=fun _ _=>none) (E:=elems.map fun ds=>ds.map .aa) (b:=b) (off:=off) (fun cs dG=>by
     obtain⟨ds,BJ,rfl⟩:=aay.1 dG;simpa using dI ds BJ) (fun i cs j c hi hj=>by
     rw[aaf]at hi;cases eL:elems[i]? with
     |none=>rw[eL]at hi;cases hi
     |some ds=>
      rw[eL]at hi;cases hi;rw[aaf]at hj;cases km:ds[j]? with
      |none=>rw[km]at hj;cases hj
      |some d=>
       rw[km]at hj;cases hj;exact⟨_,hc i ds j d eL km,cj i ds j d eL km⟩)
    exact⟨_,cap,vs,aG,by simpa using hl,bp,DC⟩
  .cases h
 .rename_i id e lo hi;split at h
  .rename_i e2 rows hb;rw[aX]at hb;split at h
   .rename_i he mO;have he:e=esz:=aav he;have mO:e2=esz:=aav mO;subst he;subst mO;cases h;obtain⟨h2,h3,h4,h5,Bg⟩:=hM.bk id _ hb;obtain⟨aC,d1,d2,d3,d4,ad,rfl,uk⟩:=hd;have hlen:(cw rows lo hi).length=hi.getD (ρ.aR (.au id)).len-lo:=by
     rw[lF];cases hi with
     |none=>simp[h2]
     |some h=>simp[h2];simp at d2;omega
    have mt:∀i cs,(cw rows lo hi)[i]? =some cs->rows[lo+i]? =some cs:=by
     intro i cs Ed;rw[lF]at Ed;rw[aaZ]at Ed;cases hi with
     |none=>exact Ed
     |some h=>
      rw[aaK]at Ed;split at Ed
      .exact Ed
      .cases Ed
    rw[<-hlen];rcases aaY (cw rows lo hi).length with h0|h0
    .have RA:=aat h0;refine⟨ad,_,[],rfl,om,om,?_⟩;rw[RA];exact⟨aG,aG,aG,aG,aG⟩
    .have dD:0<(ρ.aR (.au id)).cap:=by clear Bg;omega
     obtain⟨cur,b9,h1,cj⟩:=Bg dD;rw[uk (by clear Bg;omega)]
     obtain⟨vs,DC⟩:=yy (ρ:=ρ) (w:=w) (esz:=e2) (pos:=vo (.rv (.one (.row id e2 lo hi)))) (E:=cw rows lo hi) (b:=(ρ.aR (.au id)).b) (off:=(ρ.aR (.au id)).ax+lo*e2) (fun cs dG=>by
      obtain⟨i,eC,T7⟩:=ab4 dG;have:=mt i cs (by rw[aab eC,T7])
      exact h5 cs (aag this)) (fun i cs j c eC xD=>by
      obtain⟨u,hu,cn⟩:=cj (lo+i) cs j c (mt i cs eC) xD;refine⟨u,?_,cn⟩;rw[b9.cell,<-hu];congr 1;rw[aa2];omega)
     exact⟨_,_,vs,rfl,by clear Bg;omega,by clear Bg;omega,DC⟩
   .cases h
  .cases h
 .cases h;obtain⟨ad,rfl⟩:=hd;exact⟨ad,0,[],rfl,aG,by unfold maxLen;omega,aG,aG,aG,aG,aG⟩
 .cases h
theorem zD.firstCells{esz:Nat}{pos:Nat->Nat->Option (Nat×Nat×Nat)}{E:List (List CC)}{ad:Option Addr}{vs:List Value}(h:zD ρ w esz pos E ad vs)(cap k:Nat):
  (Builtin.firstCells esz E.length (.slice ad E.length cap)).run P (w.drewN k)= .ok vs.toArray (w.drewN k):=by
 rcases aaY E.length with h0|h0
 .have hv:vs=[]:=aat (by rw[h.len,h0];simp)
  subst hv;rw[h0];cases ad<;>simp[Builtin.firstCells,loadCells,loadCellsFrom]
 .obtain⟨b,off,rfl,hc⟩:=h.Rz h0;exact run_firstCells_some (P:=P) (w.drewN k) esz E.length ⟨b,off,none⟩ E.length cap vs h.len fun j v hj=>by rw[lU];exact hc j v hj
theorem yz(m:Mem)(c:CV):(iJ m c).length=m.length/\∀(id:Nat)b,(iJ m c)[id]? =some b->b= .bh\/(m[id]? =some b/\¬∃e lo hi,c= .rv (.one (.row id e lo hi))):=by
 unfold iJ;split
 .rename_i id e lo hi;rw[bn];refine⟨aG,fun k b hb=>?_⟩
  by_cases hk:id=k
  .subst hk;have aC:id<m.length:=by
    rcases aaq id m.length with h|h
    .exact h
    .rw[aaG (by simpa using h)]at hb;cases hb
   rw[aal aC]at hb;cases hb;exact .inl rfl
  .rw[aas hk]at hb;refine .inr ⟨hb,?_⟩;rintro⟨_,_,_,h⟩;cases h;exact hk rfl
 .rename_i jC;refine⟨rfl,fun k b hb=>.inr ⟨hb,?_⟩⟩
  rintro⟨e,lo,hi,rfl⟩;exact jC _ _ _ _ rfl
def pL(c1 c2:CV)(n1:Nat)(i j:Nat):lT:=
 if i<n1 then(match vo c1 i j with|some (a,b,c)=>.sub a b c|none=>.au 0)
 else(match vo c2 (i-n1) j with|some (a,b,c)=>.sub a b c|none=>.au 0)
theorem lG{esz:Nat}{c:CV}{E:List (List CC)}(h:fg m esz c=some E){i j:Nat}{cs:List CC}{s:Nat}{e:List (List Dt)}(hi:E[i]? =some cs)(hj:cs[j]? =some (.gX s e)):
  ∃id e0 lo eC,c= .rv (.one (.row id e0 lo eC))/\fI m id (lo+i) j s e:=by
 unfold fg at h;split at h
 .split at h
  .cases h;rw[aaf]at hi;cases eL:(_:List (List Dt))[i]? with
   |none=>rw[eL]at hi;cases hi
   |some ds=>
    rw[eL]at hi;cases hi;rw[aaf]at hj;cases km:ds[j]? with
    |none=>rw[km]at hj;cases hj
    |some d=>rw[km]at hj;cases hj
  .cases h
 .rename_i id e0 lo eC;split at h
  .rename_i e2 rows hb;rw[aX]at hb;split at h
   .cases h;refine⟨id,e0,lo,eC,rfl,_,rows,cs,hb,?_,hj⟩;rw[lF,aaZ]at hi;cases eC with
    |none=>exact hi
    |some h=>
     rw[aaK]at hi;split at hi
     .exact hi
     .cases hi
   .cases h
  .cases h
 .cases h;simp at hi
 .cases h
theorem oL{c:CV}{id e lo:Nat}{hi:Option Nat}(h:c= .rv (.one (.row id e lo hi)))(i j:Nat):vo c i j=some (id,lo+i,j):=by subst h;rfl
theorem Ee(hM:aH ρ m w)(hE:bj ρ w aY a.tmps){t t2 ty e e2:TypeId}{i:TypeInfo}{z:List CC}{x y:Operand}{x' y':X}(ht:P.underlying t=some (.slice e))(vn:P.underlying t2=some (.slice e2))(hi:P.info? e=some i)(hz:d8 P e=some z)(dI:i.size=z.length)(dD:0<z.length)(hb:0<i.bytes)(hx:bo x=some x')(hy:bo y=some y')(yA:(u5 (x'.ev aY)&&GD (x'.ev aY) (y'.ev aY))=true)(g1:ok (fg m i.size (x'.ev aY)) fun E1=>ok (fg m i.size (y'.ev aY)) fun E2=>(E1.length+E2.length)*i.bytes<=140737488355328/\pC m fun n=>K (.rv (.one (.row n i.size 0 none))) (iI (iJ (iJ m (x'.ev aY)) (y'.ev aY)) [.row i.size (E1++E2)])):
  dO P (do pure (Next.value (<-Builtin.append_ #[t,t2] ty #[a.eval x,a.eval y]))) ρ m w K:=by
 have hd:=aP hE hx;have o9:=aP hE hy;generalize a.eval x=v at hd⊢;generalize a.eval y=v2 at o9⊢;generalize x'.ev aY=c1 at hd yA g1;generalize y'.ev aY=c2 at o9 yA g1;rw[aap]at yA;obtain⟨mr,eW⟩:=yA;obtain⟨E1,zE,g2⟩:=be.1 g1;obtain⟨E2,DD,jr,g3⟩:=be.1 g2;rw[ip,cr]at g3;obtain⟨Oy,jT,Tf,Ef,T8,Oz,F1⟩:=mV hM zE hd;obtain⟨ad2,KU,KV,zF,T9,Ua,F2⟩:=mV hM DD o9;have DB:=hz;simp only[d8,aah,aae]at DB;obtain⟨i',eC,zv,OA,Ox⟩:=DB;rw[hi]at eC;cases eC;have Ub:zv.cells.size=i.size:=by have:=(eX (ρ:=ρ) (w:=w) Ox).1;rw[dI];simpa using this
 have Ec:E1.length+E2.length<=140737488355328:=aa0 (acf _ hb) jr;have dV:=nX (P:=P) (w:=w) (ty:=ty) ht vn hi OA (a0:=Oy) (n1:=E1.length) (c1:=jT) (n2:=E2.length) (src:=v2) (olds:=Tf) (news:=KV)
  (by rw[zF];rfl) (fun k=>by rw[zF];exact F2.firstCells KU k) (fun k=>F1.firstCells jT k) hb jr
 rw[<-Ef]at dV;let D:Nat->Prop:=fun id=>(∃e lo hi,c1= .rv (.one (.row id e lo hi)))\/(∃e lo hi,c2= .rv (.one (.row id e lo hi)))
 obtain⟨k1,k2⟩:=yz m c1;obtain⟨k3,k4⟩:=yz (iJ m c1) c2;have Ic:∀(id:Nat)b,(iJ (iJ m c1) c2)[id]? =some b->b= .bh\/(m[id]? =some b/\¬D id):=fun id b hb=>by
  rcases k4 id b hb with h|⟨h,hn⟩
  .exact .inl h
  .rcases k2 id b h with h|⟨h,N4⟩
   .exact .inl h
   .exact .inr ⟨h,fun hD=>hD.elim N4 hn⟩
 let src:=pL c1 c2 E1.length;have lm:∀cs,cs∈E1++E2->cs.length=i.size:=fun cs dG=>(abf.1 dG).elim (F1.lm cs) (F2.lm cs)
 have jq:∀{ρ':bL}{w':World},iT ρ w ρ' w'->(∀i j,ρ'.aR (.sub ρ.n i j)=ρ.aR (src i j))->
   ∀(k:Nat)cs(j:Nat)c,(E1++E2)[k]? =some cs->cs[j]? =some c->∃u,(Tf++KV)[k*i.size+j]? =some u/\bz ρ' w' (some (ρ.n,k,j)) c u:=by
  intro ρ' w' g cE k cs j c hk hj;have mU:j<i.size:=by rw[<-lm cs (aag hk)];exact(aac.1 hj).1
  have conv:∀(p:Option (Nat×Nat×Nat))u,bz ρ w p c u->(∀a b d,p=some (a,b,d)->a<ρ.n/\src k j= .sub a b d)->bz ρ' w' (some (ρ.n,k,j)) c u:=by
   intro p u cn hp;have h1:=cn.cM g (fun a b d BK=>(hp a b d BK).1)
   cases c<;>try exact h1
   obtain⟨a,b,d,BK,qy⟩:=cn;obtain⟨_,hs⟩:=hp a b d BK;exact⟨ρ.n,k,j,rfl,by rw[cE,hs];exact qy⟩
  have Uc:∀{cc:CV}{vv:Value}{i j a b d:Nat},b8 ρ w cc vv->vo cc i j=some (a,b,d)->a<ρ.n:=by
   intro cc vv i j a b d OB hp;unfold vo at hp;split at hp
   .cases hp;exact OB.1
   .cases hp
  rcases aaq k E1.length with aC|ei
  .rw[aar aC]at hk;obtain⟨u,hu,cn⟩:=F1.lg k cs j c hk hj;refine⟨u,?_,conv _ u cn fun a b d hp=>⟨Uc hd hp,by simp only[src,pL,if_pos aC,hp]⟩⟩
   rw[aar]
   .exact hu
   .exact(aac.1 hu).1
  .rw[aan ei]at hk;obtain⟨u,hu,cn⟩:=F2.lg (k-E1.length) cs j c hk hj;refine⟨u,?_,conv _ u cn fun a b d hp=>⟨Uc o9 hp,by simp only[src,pL,if_neg (show ¬k<E1.length by omega),hp]⟩⟩
   rw[aan]
   .rw[<-hu];congr 1;rw[F1.len,acV];have:E1.length*i.size<=k*i.size:=aaP _ ei;omega
   .rw[F1.len];have:E1.length*i.size<=k*i.size:=aaP _ ei;omega
 have KX:∀(k:Nat)cs(j:Nat)s e,(E1++E2)[k]? =some cs->cs[j]? =some (.gX s e)->∃jL i' j',src k j= .sub jL i' j'/\D jL/\fI m jL i' j' s e:=by
  intro k cs j s e hk hj;rcases aaq k E1.length with aC|ei
  .rw[aar aC]at hk;obtain⟨id,e0,lo,eC,hc,ho⟩:=lG zE hk hj;exact⟨id,lo+k,j,by simp only[src,pL,if_pos aC,oL hc],.inl ⟨_,_,_,hc⟩,ho⟩
  .rw[aan ei]at hk;obtain⟨id,e0,lo,eC,hc,ho⟩:=lG DD hk hj;exact⟨id,lo+(k-E1.length),j,by simp only[src,pL,if_neg (show ¬k<E1.length by omega),oL hc],.inr ⟨_,_,_,hc⟩,ho⟩
 have r9:∀i j i' j',src i j=src i' j'->(∃cs s e,(E1++E2)[i]? =some cs/\cs[j]? =some (.gX s e))->(∃cs s e,(E1++E2)[i']? =some cs/\cs[j']? =some (.gX s e))->i=i'/\j=j':=by
  have side:∀k j,(∃cs s e,(E1++E2)[k]? =some cs/\cs[j]? =some (.gX s e))->
    (k<E1.length/\∃id e0 lo eC,c1= .rv (.one (.row id e0 lo eC))/\src k j= .sub id (lo+k) j)\/(E1.length<=k/\∃id e0 lo eC,c2= .rv (.one (.row id e0 lo eC))/\src k j= .sub id (lo+(k-E1.length)) j):=by
   rintro k j ⟨cs,s,e,hk,hj⟩;rcases aaq k E1.length with aC|ei
   .rw[aar aC]at hk;obtain⟨id,e0,lo,eC,hc,ho⟩:=lG zE hk hj;exact .inl ⟨aC,id,e0,lo,eC,hc,by simp only[src,pL,if_pos aC,oL hc]⟩
   .rw[aan ei]at hk;obtain⟨id,e0,lo,eC,hc,ho⟩:=lG DD hk hj;exact .inr ⟨ei,id,e0,lo,eC,hc,by simp only[src,pL,if_neg (show ¬k<E1.length by omega),oL hc]⟩
  intro k j k' j' hs hk ij;rcases side k j hk with⟨h1,id,e0,lo,uN,hc,Ud⟩|⟨h1,id,e0,lo,uN,hc,Ud⟩<;>rcases side k' j' ij with⟨h2,id2,e02,lo2,XH,vp,KY⟩|⟨h2,id2,e02,lo2,XH,vp,KY⟩
  .rw[hc]at vp;injection vp with vp;injection vp with vp;injection vp with q1 q2 q3 q4
   subst q3;rw[Ud,KY]at hs;injection hs with q5 q6 q7
   exact⟨om,q7⟩
  .rw[Ud,KY]at hs;injection hs with q5 q6 q7
   rw[hc,vp]at eW;simp only[GD,abg]at eW;exact absurd q5 (abT eW)
  .rw[Ud,KY]at hs;injection hs with q5 q6 q7
   rw[hc,vp]at eW;simp only[GD,abg]at eW;exact absurd q5.symm (abT eW)
  .rw[hc]at vp;injection vp with vp;injection vp with vp;injection vp with q1 q2 q3 q4
   subst q3;rw[Ud,KY]at hs;injection hs with q5 q6 q7
   exact⟨om,q7⟩
 have GP:∀(l:xA)i j,(ρ.move l src).aR (.sub ρ.n i j)=ρ.aR (src i j):=by intro l i j;simp[bL.move]
 have qM:∀(l:xA),(ρ.move l src).aR (.au m.length)=l:=by intro l;rw[<-hM.n];simp[bL.move]
 have Tg:∀(l:xA),l.len=E1.length+E2.length->l.cap<=maxLen->l.len<=l.cap->∀ad,(0<l.cap->ad=some ⟨l.b,l.ax,none⟩)->∀w',b8 (ρ.move l src) w' (.rv (.one (.row m.length i.size 0 none))) (.slice ad (E1.length+E2.length) l.cap):=by
  intro l hl hc rP ad uk w';refine⟨by simp[bL.move,hM.n],aG,aG,by rw[qM];exact rP,by rw[qM];exact hc,ad,?_,?_⟩
  .rw[qM];simp[hl]
  .rw[qM];intro h0;rw[uk h0];simp
 by_cases ns:E1.length+E2.length<=jT
 .rw[if_pos ns]at dV;rcases aaY jT with Ke|Ke
  ·
   have n1:E1.length=0:=om;have n2:E2.length=0:=om;have XI:KV=[]:=aat (by rw[F2.len,n2];simp)
   subst XI;have yp:((yx Oy (E1.length*i.size) []).run P w)= .ok () w:=by
    cases Oy<;>simp[yx,storeCells]
   rw[yp]at dV;simp only[Result.andThen_ok]at dV;let l:xA:=⟨0,0,0,0⟩;obtain⟨lV,Qr⟩:=hM.move (m1:=iJ (iJ m c1) c2) (D:=D) (esz:=i.size) (E:=E1++E2) (l:=l) (src:=src) (w':=w) (by rw[k3,k1]) Ic (aaj _) rfl rfl rfl (fun _ _ _=>rfl)
    (by simp[l]) (by simp[l,n1,n2]) (aaj _) (by simp[l]) lm (by simp[l]) KX r9
   refine⟨_,_,w,_,_,_,by rw[Sem.run_bind,dV];rfl,.inl rfl,g3,lV,?_,Qr⟩
   have:=Tg l (by simp[l,n1,n2]) (by simp[l]) (aaj _) Oy (by simp[l]) w
   rw[Ke];exact this
  ·
   have nH:∃id lo eC,c1= .rv (.one (.row id i.size lo eC))/\Live ρ m (.au id)/\Oy=some ⟨(ρ.aR (.au id)).b,(ρ.aR (.au id)).ax+lo*i.size,none⟩/\jT=(ρ.aR (.au id)).cap-lo/\
     ∃cur,mf (i.size=1) w (ρ.aR (.au id)).b cur/\(ρ.aR (.au id)).ax+(ρ.aR (.au id)).cap*i.size<=cur.size:=by
    unfold fg at zE;split at zE
    .simp[u5]at mr
    .rename_i id e0 lo eC;split at zE
     .rename_i e2' rows fj;rw[aX]at fj;split at zE
      .rename_i q1 q2;have q1:e0=i.size:=aav q1;have q2:e2'=i.size:=aav q2;subst q1;rw[q2]at fj;obtain⟨r2,r3,r4,r5,Ie⟩:=hM.bk id _ fj;obtain⟨aC,d1,d2,d3,d4,ad,OC,uk⟩:=hd;rw[OC]at Ef;injection Ef with XJ abD Ue
       have xE:0<(ρ.aR (.au id)).cap:=by clear Ie;omega
       obtain⟨cur,b9,h1,_⟩:=Ie xE;exact⟨id,lo,eC,rfl,⟨_,fj,aG,fun _=>xE⟩,by rw[<-XJ];exact uk (by clear Ie;omega),Ue.symm,cur,b9,h1⟩
      .cases zE
     .cases zE
    .cases zE;obtain⟨ad,OC⟩:=hd;rw[OC]at Ef;injection Ef with _ _ Ue
     omega
    .cases zE
   obtain⟨id,lo,eC,rfl,dh,rfl,GQ,cur,b9,dG⟩:=nH;have gR:lo+jT=(ρ.aR (.au id)).cap:=om;have hbound:(ρ.aR (.au id)).ax+lo*i.size+jT*i.size<=cur.size:=by have:(lo+jT)*i.size=lo*i.size+jT*i.size:=aa2 ..;rw[<-gR,this]at dG;omega
   have XK:E1.length*i.size+E2.length*i.size<=jT*i.size:=by rw[<-aa2];exact aaP _ ns
   obtain⟨w',gn,yp,qG,Th,XL,ij⟩:=mT (P:=P) (ρ.aR (.au id)).b ((ρ.aR (.au id)).ax+lo*i.size+E1.length*i.size) KV 0 cur w b9 (by rw[F2.len];omega) F2.one
   have yw:(Builtin.append_ #[t,t2] ty #[v,v2]).run P w= .ok (.slice (some ⟨(ρ.aR (.au id)).b,(ρ.aR (.au id)).ax+lo*i.size,none⟩) (E1.length+E2.length) jT) w':=by rw[dV];simp only[yx,lU];rw[yp];rfl
   let l:xA:=⟨(ρ.aR (.au id)).b,(ρ.aR (.au id)).ax+lo*i.size,E1.length+E2.length,jT⟩;have dg:=hM.aV _ dh;obtain⟨lV,Qr⟩:=hM.move (m1:=iJ (iJ m (.rv (.one (.row id i.size lo eC)))) c2) (D:=D) (esz:=i.size) (E:=E1++E2) (l:=l) (src:=src) (w':=w') (by rw[k3,k1]) Ic (Nat.le_of_eq Th.size.symm) Th.os Th.tape Th.output
    (fun b hb hn=>Th.heap b fun e=>hn id (.inl ⟨_,_,_,rfl⟩) dh e.symm) (fun _=>⟨by rw[Th.size];exact dg.1,.inr ⟨id,.inl ⟨_,_,_,rfl⟩,dh,rfl⟩⟩) (by simp[l]) ns Oz lm
    (fun g _=>⟨gn,qG,by rw[XL];exact hbound,fun k cs j c hk hj=>by
     obtain⟨u,hu,cn⟩:=jq g (GP l) k cs j c hk hj;refine⟨u,?_,cn⟩;rw[ij];simp only[l,aca];have aC:=(aac.1 hu).1;rw[aa3,F1.len,F2.len]at aC;rcases aaq (k*i.size+j) (E1.length*i.size)with BI|BI
     .rw[if_neg om];rw[aar (by rw[F1.len];exact BI)]at hu
      obtain⟨b',abE,RB,hrd⟩:=F1.Rz (by
       rcases aaY E1.length with h0|h0
       .rw[h0]at BI;simp at BI
       .exact h0)
      injection RB with RB
      injection RB with Ry jD
      have hh:=hrd _ u hu;rw[<-Ry,<-jD,b9.cell]at hh;rw[<-hh];congr 1;omega
     .rw[if_pos (by rw[F2.len];omega)]
      rw[aan (by rw[F1.len];exact BI)]at hu
      rw[<-hu];congr 1;rw[F1.len];omega⟩) KX r9
   refine⟨_,_,w',_,_,_,by rw[Sem.run_bind,yw];rfl,.inl rfl,g3,lV,?_,Qr⟩
   exact Tg l rfl Oz ns _ (fun _=>rfl) w'
 ·
  rw[if_neg ns]at dV;have ei:=grownCap_ge w (E1.length+E2.length) jT e;have Uf:grownCap w (E1.length+E2.length) jT e<=maxLen:=grownCap_le_maxLen w _ jT e (by unfold maxLen;omega)
  let cells:Array Value:=Tf.toArray++KV.toArray++Builtin.zeroCells zv.cells (grownCap w (E1.length+E2.length) jT e-(E1.length+E2.length));let l:xA:=⟨w.heap.size,0,E1.length+E2.length,grownCap w (E1.length+E2.length) jT e⟩;have Ug:cells.size=grownCap w (E1.length+E2.length) jT e*i.size:=by simp only[cells,Array.size_append,List.size_toArray,F1.len,F2.len,size_zeroCells,Ub,<-Nat.add_mul];congr 1;omega
  have zG:mf (i.size=1) (w.drew.alloc (.cells cells e)) w.heap.size cells:=mf.new w.drew cells e;obtain⟨lV,Qr⟩:=hM.move (m1:=iJ (iJ m c1) c2) (D:=D) (esz:=i.size) (E:=E1++E2) (l:=l) (src:=src) (w':=w.drew.alloc (.cells cells e)) (by rw[k3,k1]) Ic aG rfl rfl rfl
   (fun b hb _=>heap_alloc_old w.drew _ b hb) (fun _=>⟨zG.lt,.inl (aaj _)⟩) (by simp[l]) ei Uf lm
   (fun g _=>⟨cells,zG,by simp only[l,aaS];rw[Ug];exact aaj _,fun k cs j c hk hj=>by
    obtain⟨u,hu,cn⟩:=jq g (GP l) k cs j c hk hj;refine⟨u,?_,cn⟩;have aC:=(aac.1 hu).1;simp only[l,aaS,cells];rw[abK (by simpa using aC)]
    simpa using hu⟩) KX r9
  refine⟨_,_,_,_,_,_,by rw[Sem.run_bind,dV];rfl,.inl rfl,g3,lV,?_,Qr⟩
  exact Tg l rfl Uf ei _ (fun _=>rfl) _
end
end Go.AM
