/- Part 5 of 41: what the law stands on. -/
import Derived.Test.YthagjdhjmamakaaGreatDoorT04
import Derived.ChangeKeysEq
import Derived.Laws.StructEq
set_option linter.unusedVariables false
set_option linter.unusedSimpArgs false
set_option linter.unnecessarySimpa false
set_option maxRecDepth 100000
set_option maxHeartbeats 64000000
namespace Go.AM
section
variable {P:Program} {ρ:bH} {m:Mem} {w:World} {aU:List CV} {a:Act} {K:CV->Mem->Prop}
def ik:List Kd->List Value->List Value->Option Bool
 | [],[],[]=>some true
 |k::ks,a::r,b::s=>match Mw k a b,ik ks r s with
  |some x,some y=>some (x&&y)
  |_,_=>none
 |_,_,_=>none
theorem ng:∀{ks:List Kd}{a b:List Value}{r:Bool},ik ks a b=some r->a.length=ks.length/\b.length=ks.length
 | [],[],[],r,h=>⟨rfl,rfl⟩
 | [],[],_::_,r,h=>by simp[ik]at h
 | [],_::_,_,r,h=>by simp[ik]at h
 |k::ks,[],_,r,h=>by simp[ik]at h
 |k::ks,_::_,[],r,h=>by simp[ik]at h
 |k::ks,a::l,b::l',r,h=>by
  simp only[ik]at h;split at h
  .rename_i x y hx hy;obtain⟨h1,h2⟩:=ng hy;exact⟨by simp[h1],by simp[h2]⟩
  .cases h
theorem sx:∀{ks ls:List Kd}{u v:List Value}{r:Bool},ik (ks++ls) u v=some r->
  ∃u1 u2 v1 v2 x y,u=u1++u2/\v=v1++v2/\ik ks u1 v1=some x/\ik ls u2 v2=some y/\r=(x&&y)
 | [],ls,u,v,r,h=>⟨[],u,[],v,true,r,rfl,rfl,rfl,h,aK⟩
 |k::ks,ls,[],v,r,h=>by simp[ik]at h
 |k::ks,ls,_::_,[],r,h=>by simp[ik]at h
 |k::ks,ls,a::l,b::l',r,h=>by
  simp only[aby,ik]at h;split at h
  .rename_i x y hx hy;cases h;obtain⟨u1,u2,v1,v2,x1,y1,rfl,rfl,h1,h2,rfl⟩:=sx hy;exact⟨a::u1,u2,b::v1,v2,x&&x1,y1,rfl,rfl,by simp[ik,hx,h1],h2,by simp[Bool.and_assoc]⟩
  .cases h
def ox(P:Program)(t:TypeId)(us:List Value):Value:=if dU P t=some true then .agg us.toArray else us.headD Go.undef
theorem py{t:TypeId}{pre us post:List Value}(hs:d9 P t=some us.length)(ha:dU P t=some true\/(dU P t=some false/\us.length=1)):
  (part t (pre++(us++post)).toArray pre.length).run P w= .ok (ox P t us) w:=by
 unfold part ox;rcases ha with ha|⟨ha,h1⟩
 .rw[Sem.run_bind,nS ha];simp only[Result.andThen_ok,if_true,ha];rw[Sem.run_bind,eU hs];simp only[Result.andThen_ok,Sem.run_pure];congr 2;apply aaX;simp
 .rw[Sem.run_bind,nS ha]
  match us,h1 with
  | [u],_=>
   simp[ha]
theorem pz:∀(d:Nat)(t:TypeId)(ks:List Kd),flatK P d t=some ks->d9 P t=some ks.length/\(dU P t=some true\/(dU P t=some false/\ks.length=1))/\
  ∀(k:Nat),d<=k->∀(us vs:List Value)(b:Bool),ik ks us vs=some b->(Op.equalIn k t (ox P t us) (ox P t vs)).run P w= .ok b w
 |0,t,ks,h=>by simp[flatK]at h
 |d+1,t,ks,h=>by
  simp only[flatK]at h;have plain:∀kd,ks=[kd]->d9 P t=some 1->dU P t=some false->(∀(k:Nat)(x y:Value)b,Mw kd x y=some b->(Op.equalIn (k+1) t x y).run P w= .ok b w)->
    d9 P t=some ks.length/\(dU P t=some true\/(dU P t=some false/\ks.length=1))/\
    ∀(k:Nat),d+1<=k->∀(us vs:List Value)(b:Bool),ik ks us vs=some b->(Op.equalIn k t (ox P t us) (ox P t vs)).run P w= .ok b w:=by
   rintro kd rfl hs ha du;refine⟨hs,.inr ⟨ha,rfl⟩,fun k hk us vs b he=>?_⟩
   obtain⟨h1,h2⟩:=ng he
   match us,vs,h1,h2 with
   | [x],[y],_,_=>
    obtain⟨k,rfl⟩:∃k',k=k'+1:=⟨k-1,om⟩;simp only[ox,ha];simp only[ik]at he;split at he
    .rename_i p q hp hq;cases he;cases hq;simp only[Bool.and_true];exact du k x y p hp
    .cases he
  split at h
  .rename_i hu;split at h
   .cases h;refine plain .b rfl (by assumption) (by simp[dU,hu]) fun k x y b he=>?_
    cases x<;>cases y<;>simp only[Mw]at he<;>try(cases he;done)
    cases he;simp[Op.equalIn,run_underlying hu]
   .cases h
  .rename_i kk hu;split at h
   .cases h;refine plain .i rfl (by assumption) (by simp[dU,hu]) fun k x y b he=>?_
    cases x<;>cases y<;>simp only[Mw]at he<;>try(cases he;done)
    rename_i k1 a k2 b';by_cases hk:k1=k2
    .subst hk;simp at he;subst he;simp[Op.equalIn,run_underlying hu]
    .rw[decide_eq_false hk]at he;cases he
   .cases h
  .rename_i hu;split at h
   .cases h;refine plain .s rfl (by assumption) (by simp[dU,hu]) fun k x y b he=>?_
    cases x<;>cases y<;>simp only[Mw]at he<;>try(cases he;done)
    cases he;simp[Op.equalIn,run_underlying hu,beq_toListBytes]
   .cases h
  .rename_i fs hu;split at h
   .rename_i zF;split at h
    .rename_i ks0 hf;split at h
     .rename_i dj;cases h;have ha:dU P t=some true:=by simp[dU,hu]
      refine⟨dj,.inl ha,fun k hk us vs b he=>?_⟩
      obtain⟨k,rfl⟩:∃k',k=k'+1:=⟨k-1,om⟩;have Ry:P.fieldsOf t=fs:=by simp[Program.fieldsOf,hu]
      simp only[ox,ha,if_true];rw[run_equalIn_struct w k t us.toArray vs.toArray (by rw[Ry];exact hu) zF,Ry]
      have key:∀(l:List Field)(pre pA:List Value)(ls:List Kd)(us vs:List Value)(b:Bool),pre.length=pA.length->zU (flatK P d) l pre.length=some ls->ik ls us vs=some b->
        (Op.eqFields k (pre++us).toArray (pA++vs).toArray l).run P w= .ok b w:=by
       intro l
       induction l with
       |nil=>
        intro pre pA ls us vs b _ qV he;simp[zU]at qV;subst qV;obtain⟨h1,h2⟩:=ng he;cases us<;>cases vs<;>simp[ik]at he h1 h2
        subst he;simp[Op.eqFields]
       |cons f l ih=>
        intro pre pA ls us vs b Si qV he;simp only[zU]at qV;split at qV
        .rename_i hc;split at qV
         .rename_i ks1 i4;split at qV
          .rename_i ls1 Ac;cases qV;obtain⟨u1,u2,v1,v2,x,y,rfl,rfl,Sj,qH,rfl⟩:=sx he;obtain⟨g1,g2,g3⟩:=pz d f.type ks1 i4;obtain⟨e1,e2⟩:=ng Sj;simp only[Op.eqFields];rw[if_pos hc.1,hc.2];rw[Sem.run_bind,py (by rw[g1,e1]) (by rw[e1];exact g2)]
           simp only[Result.andThen_ok];rw[Sem.run_bind,Si,py (by rw[g1,e2]) (by rw[e2];exact g2)]
           simp only[Result.andThen_ok];rw[Sem.run_bind,g3 k om u1 v1 x Sj];simp only[Result.andThen_ok];have:=ih (pre++u1) (pA++v1) ls1 u2 v2 y (by simp[Si,e1,e2]) (by rw[aaw,e1];exact Ac) qH
           simp only[abw]at this;cases x
           .simp
           .simpa using this
          .cases qV
         .cases qV
        .cases qV
      have:=key fs.toList [] [] ks us vs b rfl hf he;simpa using this
     .cases h
    .cases h
   .cases h
  .cases h
theorem nh:∀{ks:List Kd}{cs ds:List CC}{b:Bool}{us vs:List Value},je ks cs ds=some b->us.length=cs.length->vs.length=ds.length->
  (∀(i:Nat)c,cs[i]? =some c->∃u,us[i]? =some u/\br ρ w .none c u)->(∀(i:Nat)c,ds[i]? =some c->∃u,vs[i]? =some u/\br ρ w .none c u)->ik ks us vs=some b
 | [],[],[],b,us,vs,h,h1,h2,_,_=>by simp at h1 h2;subst h1 h2;simpa[je,ik]using h
 | [],[],_::_,b,us,vs,h,h1,h2,_,_=>by simp[je]at h
 | [],_::_,_,b,us,vs,h,h1,h2,_,_=>by simp[je]at h
 |k::ks,[],_,b,us,vs,h,h1,h2,_,_=>by simp[je]at h
 |k::ks,c::cs,[],b,us,vs,h,h1,h2,_,_=>by cases c<;>simp[je]at h
 |k::ks,c::cs,d::ds,b,us,vs,h,h1,h2,g1,g2=>by
  unfold je at h;split at h
  .cases ‹_::_=[]›
  .rename_i k' ks' x r y s e1 e2 e3;cases e1;cases e2;cases e3;split at h
   .rename_i p q hp hq;cases h
    match us,vs,h1,h2 with
    |u::us,v::vs,h1,h2=>
     obtain⟨u',hu,b9⟩:=g1 0 _ rfl;obtain⟨v',hv,vW⟩:=g2 0 _ rfl;simp at hu hv;subst hu hv;obtain⟨rfl,_⟩:=bJ b9 (fun e=>by subst e;cases k<;>simp[Mw]at hp)
     obtain⟨rfl,_⟩:=bJ vW (fun e=>by subst e;cases k<;>cases u<;>simp[Mw]at hp)
     have:=nh (us:=us) (vs:=vs) hq (by simpa using h1) (by simpa using h2) (fun i c hi=>by simpa using g1 (i+1) c (by simpa using hi)) (fun i c hi=>by simpa using g2 (i+1) c (by simpa using hi))
     simp[ik,hp,this]
   .cases h
  .cases h
theorem wQ(hM:aC ρ m w)(hE:be ρ w aU a.tmps){neg:Bool}{t:TypeId}{fs:Array Field}{ks:List Kd}{x y:Operand}{x' y':X}(ht:P.underlying t=some (.struct fs))(hg:P.eqGuardType P.depth t=false)(hk:flatK P 5 t=some ks)(hx:bh x=some x')(hy:bh y=some y')(h:step P (.Mv neg ks x' y') aU m K):dl P (do let v<-(do eqGuard (if neg then .neq else .eql) t x y (a.eval x) (a.eval y);binOp (if neg then .neq else .eql) t (a.eval x) (a.eval y));pure (Next.value v)) ρ m w K:=by
 have hd:=aN hE hx;have ow:=aN hE hy;simp only[step]at h;generalize a.eval x=v at hd⊢;generalize a.eval y=u at ow⊢;generalize x'.ev aU=c at hd h;generalize y'.ev aU=d at ow h;split at h
 .split at h
  .obtain⟨us,rfl,l1,d1⟩:=hd;obtain⟨vs,rfl,l2,d2⟩:=ow;obtain⟨b,he,hK⟩:=bc.1 h;have Oq:=nh he l1 l2 d1 d2;have du:=(pz (w:=w) 5 t ks hk).2.2 10000 om us vs b Oq;have ha:dU P t=some true:=by simp[dU,ht]
   simp only[ox,ha,if_true]at du;refine dl.pure hM (v:=_) ?_ hK (ce rfl);rw[Sem.run_bind,Sem.run_bind,run_eqGuard_agg w _ t x y _ _ hg];cases neg
   .simp only[Result.andThen_ok,aaR,if_false,run_eql_struct,du,Sem.run_pure]
   .simp only[Result.andThen_ok,if_true,run_neq_struct,du,Sem.run_pure]
  .exact h.elim
 .exact h.elim
theorem pC{e:TypeId}{kk:IntKind}(hu:P.underlying e=some (.int kk))(hs:d9 P e=some 1)(d:Nat):∀(us vs pre pA:List Value)(b:Bool),pre.length=pA.length->ik (fI us.length .i) us vs=some b->
  (Op.eqItems (d+1) e 1 (pre++us).toArray (pA++vs).toArray (List.range' pre.length us.length)).run P w= .ok b w
 | [],[],pre,pA,b,_,he=>by simp[fI,ik]at he;subst he;simp[Op.eqItems]
 | [],v::vs,pre,pA,b,_,he=>by simp[fI,ik]at he
 |u::us,[],pre,pA,b,_,he=>by simp[fI,ik]at he
 |u::us,v::vs,pre,pA,b,hp,he=>by
  have ha:dU P e=some false:=by simp[dU,hu]
  simp only[XR,fI,ik]at he;split at he
  .rename_i x y hx hy;cases he;have ih:=pC hu hs d us vs (pre++ [u]) (pA++ [v]) y (by simp[hp]) hy
   have p1:=py (w:=w) (t:=e) (pre:=pre) (us:=[u]) (post:=us) hs (.inr ⟨ha,rfl⟩);have p2:=py (w:=w) (t:=e) (pre:=pA) (us:=[v]) (post:=vs) hs (.inr ⟨ha,rfl⟩);simp only[ox,ha,List.singleton_append]at p1 p2;have p3:(Op.equalIn (d+1) e u v).run P w= .ok x w:=by
    cases u<;>cases v<;>simp only[Mw]at hx<;>try(cases hx;done)
    rename_i k1 a k2 b';by_cases hk:k1=k2
    .subst hk;simp at hx;subst hx;simp[Op.equalIn,run_underlying hu]
    .rw[decide_eq_false hk]at hx;cases hx
   simp only[XR,abW,Op.eqItems,Sem.run_bind,Nat.mul_one];rw[p1];simp only[Result.andThen_ok];rw[hp,p2];simp only[Result.andThen_ok,XQ,aaR,if_false,List.headD_cons];rw[p3];simp only[Result.andThen_ok];cases x
   .simp
   .simp only[aci,aaR,if_false,Bool.true_and];rw[<-hp];simpa using ih
  .cases he
theorem ud(hM:aC ρ m w)(hE:be ρ w aU a.tmps){neg:Bool}{t e:TypeId}{n:Nat}{kk:IntKind}{x y:Operand}{x' y':X}(ht:P.underlying t=some (.array n e))(hg:P.eqGuardType P.depth t=false)(hu:P.underlying e=some (.int kk))(hs:d9 P e=some 1)(hx:bh x=some x')(hy:bh y=some y')(h:step P (.Mv neg (fI n .i) x' y') aU m K):dl P (do let v<-(do eqGuard (if neg then .neq else .eql) t x y (a.eval x) (a.eval y);binOp (if neg then .neq else .eql) t (a.eval x) (a.eval y));pure (Next.value v)) ρ m w K:=by
 have hd:=aN hE hx;have ow:=aN hE hy;simp only[step]at h;generalize a.eval x=v at hd⊢;generalize a.eval y=u at ow⊢;generalize x'.ev aU=c at hd h;generalize y'.ev aU=d at ow h;split at h
 .split at h
  .obtain⟨us,rfl,l1,d1⟩:=hd;obtain⟨vs,rfl,l2,d2⟩:=ow;obtain⟨b,he,hK⟩:=bc.1 h;have Oq:=nh he l1 l2 d1 d2;obtain⟨e1,e2⟩:=ng Oq;have hn:us.length=n:=by rw[e1,fk];simp
   have YT:=hs;simp only[d9,Z2]at YT;obtain⟨i,hi,Oo⟩:=YT;have hc:P.cellsOf e=1:=by simp[Program.cellsOf,hi,Oo]
   have du:=pC (w:=w) hu hs 9998 us vs [] [] b rfl (by rw[hn];exact Oq)
   simp only[acs,aat]at du;have wR:(Op.equalIn 10000 t (.agg us.toArray) (.agg vs.toArray)).run P w= .ok b w:=by rw[run_equalIn_array w 9999 _ _ ht hi,hc,<-hn,List.range_eq_range'];exact du
   refine dl.pure hM (v:=_) ?_ hK (ce rfl);rw[Sem.run_bind,Sem.run_bind,run_eqGuard_agg w _ t x y _ _ hg];cases neg
   .simp only[Result.andThen_ok,aaR,if_false,run_eql_struct,wR,Sem.run_pure]
   .simp only[Result.andThen_ok,if_true,run_neq_struct,wR,Sem.run_pure]
  .exact h.elim
 .exact h.elim
end
section
variable {P:Program} {ρ:bH} {m:Mem} {w:World} {aU:List CV} {a:Act} {K:CV->Mem->Prop}
def bH.move(ρ:bH)(l:vU)(src:Nat->Nat->kW):bH:=
 {n:=ρ.n+1
  aO:=fun k=>match k with
   | .ap id=>if id=ρ.n then l else ρ.aO (.ap id)
   | .sub id i j=>if id=ρ.n then ρ.aO (src i j)else ρ.aO (.sub id i j)
  S:=ρ.S}
theorem aC.move{w':World}(hM:aC ρ m w){m1:Mem}{D:Nat->Prop}{esz:Nat}{E:List (List CC)}{l:vU}{src:Nat->Nat->kW}(hlen:m1.length=m.length)(GH:∀(id:Nat)b,m1[id]? =some b->b= .aZ\/(m[id]? =some b/\¬D id))(dj:w.heap.size<=w'.heap.size)(Sl:w'.os=w.os)(Sm:w'.tape=w.tape)(gd:w'.output=w.output)(ku:∀b,b<w.heap.size->(∀id,D id->Live ρ m (.ap id)->(ρ.aO (.ap id)).b≠b)->w'.heap[b]? =w.heap[b]?)(hl:0<l.cap->l.b<w'.heap.size/\(w.heap.size<=l.b\/∃id,D id/\Live ρ m (.ap id)/\(ρ.aO (.ap id)).b=l.b))(hE:E.length=l.len)(qI:l.len<=l.cap)(bl:l.cap<=maxLen)(pg:∀cs,cs∈E->cs.length=esz)(dO:ij ρ w (ρ.move l src) w'->0<l.cap->∃cur,lq (esz=1) w' l.b cur/\l.au+l.cap*esz<=cur.size/\
   ∀(i:Nat)cs(j:Nat)c,E[i]? =some cs->cs[j]? =some c->∃u,cur[l.au+i*esz+j]? =some u/\br (ρ.move l src) w' (some (ρ.n,i,j)) c u)(lD:∀(i:Nat)cs(j:Nat)s e,E[i]? =some cs->cs[j]? =some (.gp s e)->∃i3 i' j',src i j= .sub i3 i' j'/\D i3/\fp m i3 i' j' s e)(qW:∀i j i' j',src i j=src i' j'->(∃cs s e,E[i]? =some cs/\cs[j]? =some (.gp s e))->(∃cs s e,E[i']? =some cs/\cs[j']? =some (.gp s e))->i=i'/\j=j'):
  aC (ρ.move l src) (m1++ [.row esz E]) w'/\Ext ρ m w (ρ.move l src) (m1++ [.row esz E]) w':=by
 have hn:=hM.n;have old:∀k:kW,k.id<ρ.n->(ρ.move l src).aO k=ρ.aO k:=by
  intro k hk;cases k with
  |ap id=>simp only[bH.move];rw[if_neg (by simp only[kW.id]at hk;omega)]
  |sub id i j=>simp only[bH.move];rw[if_neg (by simp only[kW.id]at hk;omega)]
 have ue:(ρ.move l src).aO (.ap ρ.n)=l:=by simp[bH.move]
 have we:∀i j,(ρ.move l src).aO (.sub ρ.n i j)=ρ.aO (src i j):=by intro i j;simp[bH.move]
 have uf:∀b,ρ.S b->w'.heap[b]? =w.heap[b]? :=fun b hb=>ku b (hM.S b hb) fun id _ dG e=>(hM.a8 _ dG).2 (e▸hb)
 have g:ij ρ w (ρ.move l src) w':=⟨by simp[bH.move],old,fun b hb=>hb,uf⟩
 have get:∀{id:Nat}{b:Bk},(m1++ [.row esz E])[id]? =some b->(id<ρ.n/\(b= .aZ\/(m[id]? =some b/\¬D id)))\/(id=ρ.n/\b= .row esz E):=by
  intro id b hb;rcases XN id m1.length with h|h
  .rw[VO h]at hb;exact .inl ⟨om,GH id b hb⟩
  .rw[UX h]at hb;have:id-m1.length=0:=by
    rcases aav (id-m1.length)with h0|h0
    .exact h0
    .rw[aaj (by simp;omega)]at hb;cases hb
   rw[this]at hb;exact .inr ⟨om,by simpa using hb.symm⟩
 have gJ:∀{id i j s e},fp (m1++ [.row esz E]) id i j s e->(id<ρ.n/\¬D id/\fp m id i j s e)\/
   (id=ρ.n/\(∃cs s e,E[i]? =some cs/\cs[j]? =some (.gp s e))/\∃i3 i' j',src i j= .sub i3 i' j'/\D i3/\fp m i3 i' j' s e):=by
  rintro id i j s e ⟨es,rows,cs,wb,hi,hj⟩;rcases get wb with⟨aF,hb|⟨hb,hD⟩⟩|⟨rfl,hb⟩
  .cases hb
  .exact .inl ⟨aF,hD,es,rows,cs,hb,hi,hj⟩
  .injection hb with PI nf
   subst PI nf;exact .inr ⟨rfl,⟨cs,_,_,hi,hj⟩,lD i cs j s e hi hj⟩
 have cX:∀k,Live (ρ.move l src) (m1++ [.row esz E]) k->
   (k.id<ρ.n/\¬D k.id/\Live ρ m k)\/(k= .ap ρ.n/\0<l.cap)\/
   (∃i j,k= .sub ρ.n i j/\(∃cs s e,E[i]? =some cs/\cs[j]? =some (.gp s e))/\Live ρ m (src i j)/\D (src i j).id/\∃a b c,src i j= .sub a b c):=by
  intro k hk;cases k with
  |ap id=>
   obtain⟨b,hb,eL,vX⟩:=hk;rcases get hb with⟨aF,rfl|⟨hb,hD⟩⟩|⟨rfl,rfl⟩
   .exact absurd rfl eL
   .rw[old (.ap id) aF]at vX;exact .inl ⟨aF,hD,b,hb,eL,vX⟩
   .rw[ue]at vX;exact .inr (.inl ⟨rfl,vX ⟨_,_,rfl⟩⟩)
  |sub id i j=>
   obtain⟨⟨s,e,ho⟩,vX⟩:=hk;rcases gJ ho with⟨aF,hD,ho⟩|⟨rfl,iJ,i3,i',j',hs,hD,ho⟩
   .rw[old (.sub id i j) aF]at vX;exact .inl ⟨aF,hD,⟨s,e,ho⟩,vX⟩
   .rw[we]at vX;exact .inr (.inr ⟨i,j,rfl,iJ,by rw[hs]at vX⊢;exact⟨⟨s,e,ho⟩,vX⟩,by rw[hs];exact hD,_,_,_,hs⟩)
 have eV:∀k,Live ρ m k->(k.id<ρ.n/\¬D k.id)\/(∃a b c,k= .sub a b c)->w'.heap[(ρ.aO k).b]? =w.heap[(ρ.aO k).b]? :=by
  intro k hk Sn;refine ku _ (hM.a8 k hk).1 fun id hD dG e=>?_
  have:=hM.inj _ _ dG hk e;rcases Sn with⟨_,V6⟩|⟨_,_,_,rfl⟩
  .exact V6 (by rw[<-this];exact hD)
  .cases this
 refine⟨⟨by simp[bH.move,hn,hlen],fun b hb=>aaf (hM.S b hb) dj,?_,?_,?_,?_⟩,
  ⟨by simp[bH.move],fun id hid=>old (.ap id) hid,fun b hb=>hb,fun b hb=>.inl hb,?_,?_,dj,Sl,Sm,gd⟩⟩
 .intro k hk;rcases cX k hk with⟨aF,_,hk⟩|⟨rfl,hc⟩|⟨i,j,rfl,_,hk,_⟩
  .rw[old k aF];exact⟨aaf (hM.a8 k hk).1 dj,(hM.a8 k hk).2⟩
  .rw[ue];obtain⟨h1,h2⟩:=hl hc;refine⟨h1,fun hs=>?_⟩
   rcases h2 with h2|⟨id,hD,dG,e⟩
   .have:=hM.S _ hs;omega
   .exact(hM.a8 _ dG).2 (e▸hs)
  .rw[we];exact⟨aaf (hM.a8 _ hk).1 dj,(hM.a8 _ hk).2⟩
 ·
  have yc:0<l.cap->∀k,Live ρ m k->(k.id<ρ.n/\¬D k.id)\/(∃a b c,k= .sub a b c)->(ρ.aO k).b≠l.b:=by
   intro hc k hk Sn e;obtain⟨h1,h2⟩:=hl hc;rcases h2 with h2|⟨id,hD,dG,e2⟩
   .have:=(hM.a8 k hk).1;omega
   .have:=hM.inj _ _ dG hk (e2.trans e.symm);rcases Sn with⟨_,V6⟩|⟨_,_,_,rfl⟩
    .exact V6 (by rw[<-this];exact hD)
    .cases this
  intro k k' hk gC he;rcases cX k hk with⟨aF,hD,hk⟩|⟨rfl,hc⟩|⟨i,j,rfl,hx,hk,hDs,qX⟩<;>rcases cX k' gC with⟨nc,So,gC⟩|⟨rfl,px⟩|⟨i',j',rfl,th,gC,V7,Sp⟩
  .rw[old k aF,old k' nc]at he;exact hM.inj k k' hk gC he
  .rw[old k aF,ue]at he;exact absurd he (yc px k hk (.inl ⟨aF,hD⟩))
  .rw[old k aF,we]at he;have:=hM.inj _ _ hk gC he;exact absurd (by rw[this];exact V7) hD
  .rw[old k' nc,ue]at he;exact absurd he.symm (yc hc k' gC (.inl ⟨nc,So⟩))
  .rfl
  .rw[ue,we]at he;exact absurd he.symm (yc hc _ gC (.inr Sp))
  .rw[old k' nc,we]at he;have:=hM.inj _ _ hk gC he;exact absurd (by rw[<-this];exact hDs) So
  .rw[ue,we]at he;exact absurd he (yc px _ hk (.inr qX))
  .rw[we,we]at he;obtain⟨rfl,rfl⟩:=qW i j i' j' (hM.inj _ _ hk gC he) hx th;rfl
 .intro id b hb;rcases get hb with⟨aF,rfl|⟨hb,hD⟩⟩|⟨rfl,rfl⟩
  .trivial
  .exact(hM.bk id b hb).cF g aF fun eL vX=>eV (.ap id) ⟨b,hb,eL,vX⟩ (.inl ⟨aF,hD⟩)
  .exact⟨by rw[ue];exact hE,by rw[ue];exact qI,by rw[ue];exact bl,pg,fun hc=>by rw[ue]at hc⊢;exact dO g hc⟩
 .intro id i j s e ho vX;rcases gJ ho with⟨aF,hD,ho⟩|⟨rfl,_,i3,i',j',hs,hD,ho⟩
  .rw[old (.sub id i j) aF]at vX⊢;exact(hM.gp id i j s e ho vX).cF g (eV (.sub id i j) ⟨⟨s,e,ho⟩,vX⟩ (.inr ⟨_,_,_,rfl⟩))
  .rw[we,hs]at vX⊢;exact(hM.gp i3 i' j' s e ho vX).cF g (eV (.sub i3 i' j') ⟨⟨s,e,ho⟩,vX⟩ (.inr ⟨_,_,_,rfl⟩))
 .intro k hk;rcases cX k hk with⟨aF,_,hk⟩|⟨rfl,hc⟩|⟨i,j,rfl,_,hk,_⟩
  .exact .inr ⟨k,hk,by rw[old k aF]⟩
  .rw[ue];obtain⟨h1,h2⟩:=hl hc;rcases h2 with h2|⟨id,hD,dG,e⟩
   .exact .inl h2
   .exact .inr ⟨_,dG,e⟩
  .exact .inr ⟨_,hk,by rw[we]⟩
 .intro b hb hk;exact ku b hb fun id hD dG e=>hk _ dG e
def wS(ad:Option Addr)(k:Nat)(vs:List Value):Sem Unit:=
 match ad with
 |some a=>storeCells (a.add k) vs
 |none=>pure ()
theorem ni{t t2 ty e e2:TypeId}{i:TypeInfo}{z:Value}(ht:P.underlying t=some (.slice e))(ug:P.underlying t2=some (.slice e2))(hi:P.info? e=some i)(hz:i.zero=some z){a0:Option Addr}{n1 c1 n2:Nat}{src:Value}{olds news:List Value}(hlen:(Builtin.lenOf src).run P w= .ok n2 w)(Ot:∀k,(Builtin.firstCells i.size n2 src).run P (w.drewN k)= .ok news.toArray (w.drewN k))(holds:∀k,(Builtin.firstCells i.size n1 (.slice a0 n1 c1)).run P (w.drewN k)= .ok olds.toArray (w.drewN k))(hb:0<i.bytes)(jg:(n1+n2)*i.bytes<=140737488355328):
  (Builtin.append_ #[t,t2] ty #[.slice a0 n1 c1,src]).run P w=if n1+n2<=c1 then
    ((wS a0 (n1*i.size) news).run P w).andThen fun _ w'=>.ok (.slice a0 (n1+n2) c1) w'
   else .ok (.slice (some ⟨w.heap.size,0,none⟩) (n1+n2) (grownCap w (n1+n2) c1 e)) (w.drew.alloc (.cells (olds.toArray++news.toArray++Builtin.zeroCells z.cells (grownCap w (n1+n2) c1 e-(n1+n2))) e)):=by
 have MA:=Ot 0;have oO:=Ot 1;have YU:=holds 1;have e0:w.drewN 0=w:=rfl;have e1:w.drewN 1=w.drew:=rfl;rw[e0]at MA;rw[e1]at oO YU;have CM:n1+n2<=140737488355328:=aaC (abP _ hb) jg;unfold Builtin.append_;by_cases hc:n1+n2<=c1
 .simp[run_underlying ht,run_underlying ug,sizeOf,typeInfo,hi,hlen,hc,MA];cases a0<;>simp[wS]
 .have V8:¬(9223372036854775807<((n1:Int)+(n2:Int))):=om;have V9:¬(281474976710656<Builtin.nextslicecap (n1+n2) c1*i.bytes):=by have:=growslice_fits (need:=n1+n2) (old:=c1) om jg;omega
  have qY:¬i.bytes=0:=om;simp[run_underlying ht,run_underlying ug,sizeOf,typeInfo,zeroValue,hi,hz,hlen,hc,V8,V9,Question.forced,oO,YU,newRow,grownCap];congr 2;apply aaX;simp[abw]
def uh(v:CV)(i j:Nat):Option (Nat×Nat×Nat):=
 match v with
 | .rv (.one (.row id _ lo _))=>some (id,lo+i,j)
 |_=>none
theorem kD{α:Type}(l:List α)(lo:Nat)(hi:Option Nat):ct l lo hi=(match hi with|none=>l|some h=>l.take h).drop lo:=by
 cases lo<;>cases hi<;>simp[ct]
structure yd(ρ:bH)(w:World)(esz:Nat)(pos:Nat->Nat->Option (Nat×Nat×Nat))(E:List (List CC))(ad:Option Addr)(vs:List Value):Prop where
 len:vs.length=E.length*esz
 ke:∀cs,cs∈E->cs.length=esz
 PJ:0<E.length->∃b off,ad=some ⟨b,off,none⟩/\∀k u,vs[k]? =some u->w.cell? ⟨b,off+k,none⟩=some u
 j7:∀(i:Nat)cs(j:Nat)c,E[i]? =some cs->cs[j]? =some c->∃u,vs[i*esz+j]? =some u/\br ρ w (pos i j) c u
 one:∀u,u∈vs->u.oneCell'=true
theorem wT{esz:Nat}{pos:Nat->Nat->Option (Nat×Nat×Nat)}{E:List (List CC)}{b off:Nat}(ke:∀cs,cs∈E->cs.length=esz)(h:∀(i:Nat)cs(j:Nat)c,E[i]? =some cs->cs[j]? =some c->∃u,w.cell? ⟨b,off+i*esz+j,none⟩=some u/\br ρ w (pos i j) c u):
  ∃vs,yd ρ w esz pos E (some ⟨b,off,none⟩) vs:=by
 have all:∀k,k<E.length*esz->∃u p c,w.cell? ⟨b,off+k,none⟩=some u/\br ρ w p c u:=by
  intro k hk;have de:0<esz:=by
   rcases aav esz with h0|h0
   .subst h0;simp at hk
   .exact h0
  have hi:k/esz<E.length:=Nat.div_lt_of_lt_mul (by rwa [abM])
  have hj:k%esz<esz:=Nat.mod_lt _ de;have fb:=ke _ (XP hi);obtain⟨u,hu,hd⟩:=h (k/esz) _ (k%esz) _ (tq hi) (tq (by rw[fb];exact hj))
  have e:off+k/esz*esz+k%esz=off+k:=by have:=Nat.div_add_mod k esz;rw[abM]at this;omega
  rw[e]at hu;exact⟨u,_,_,hu,hd⟩
 let vs:=(List.range (E.length*esz)).map fun k=>(w.cell? ⟨b,off+k,none⟩).getD Go.undef
 have lE:∀k u,vs[k]? =some u->k<E.length*esz/\w.cell? ⟨b,off+k,none⟩=some u:=by
  intro k u hu;have hk:k<E.length*esz:=by have:=(Hy.1 hu).1;simpa[vs]using this
  obtain⟨u',p,c,ti,_⟩:=all k hk;simp only[vs,O6,abq hk,XS,ti,aaD,XQ]at hu;exact⟨hk,by rw[ti,hu]⟩
 refine⟨vs,by simp[vs],ke,fun _=>⟨b,off,rfl,fun k u hu=>(lE k u hu).2⟩,fun i cs j c hi hj=>?_,fun u hu=>?_⟩
 .obtain⟨u,hu,hd⟩:=h i cs j c hi hj;refine⟨u,?_,hd⟩;have Ou:=(Hy.1 hi).1;have l4:j<esz:=by rw[<-ke _ (O9 hi)];exact(Hy.1 hj).1
  have aF:i*esz+j<E.length*esz:=by have:(i+1)*esz<=E.length*esz:=aam _ Ou;rw[aaz,aaU]at this;omega
  simp only[vs,O6,abq aF,XS,<-Nat.add_assoc,hu,aaD]
 .obtain⟨k,hk,rfl⟩:=abE hu;obtain⟨oP,hc⟩:=lE k _ (tq hk);obtain⟨u',p,c,ti,hd⟩:=all k oP;rw[hc]at ti;cases ti;exact hd.one
theorem l5(hM:aC ρ m w){esz:Nat}{c:CV}{v:Value}{E:List (List CC)}(h:eR m esz c=some E)(hd:bW ρ w c v):
  ∃ad cap vs,v= .slice ad E.length cap/\E.length<=cap/\cap<=maxLen/\yd ρ w esz (uh c) E ad vs:=by
 unfold eR at h;split at h
 .rename_i e elems;split at h
  .rename_i he;have he:e=esz:=XM he;subst he;cases h;cases hd with
   |nil _ a cap hc=>exact⟨_,_,[],rfl,aK,hc,aK,aK,aK,aK,aK⟩
   |sl _ _ b off cap u hS hl bl dj hc bY=>
    obtain⟨vs,Ce⟩:=wT (ρ:=ρ) (w:=w) (esz:=e) (pos:=fun _ _=>none) (E:=elems.map fun ds=>ds.map .aa) (b:=b) (off:=off) (fun cs fb=>by
     obtain⟨ds,CN,rfl⟩:=aae.1 fb;simpa using dj ds CN) (fun i cs j c hi hj=>by
     rw[O6]at hi;cases d8:elems[i]? with
     |none=>rw[d8]at hi;cases hi
     |some ds=>
      rw[d8]at hi;cases hi;rw[O6]at hj;cases jy:ds[j]? with
      |none=>rw[jy]at hj;cases hj
      |some d=>
       rw[jy]at hj;cases hj;exact⟨_,hc i ds j d d8 jy,bY i ds j d d8 jy⟩)
    exact⟨_,cap,vs,aK,by simpa using hl,bl,Ce⟩
  .cases h
 .rename_i id e lo hi;split at h
  .rename_i e2 rows hb;rw[aT]at hb;split at h
   .rename_i he qH;have he:e=esz:=XM he;have qH:e2=esz:=XM qH;subst he;subst qH;cases h;obtain⟨h2,h3,h4,h5,zE⟩:=hM.bk id _ hb;obtain⟨aF,d1,d2,d3,d4,ad,rfl,tf⟩:=hd;have hlen:(ct rows lo hi).length=hi.getD (ρ.aO (.ap id)).len-lo:=by
     rw[kD];cases hi with
     |none=>simp[h2]
     |some h=>simp[h2];simp at d2;omega
    have lE:∀i cs,(ct rows lo hi)[i]? =some cs->rows[lo+i]? =some cs:=by
     intro i cs CO;rw[kD]at CO;rw[aaA]at CO;cases hi with
     |none=>exact CO
     |some h=>
      rw[aao]at CO;split at CO
      .exact CO
      .cases CO
    rw[<-hlen];rcases aav (ct rows lo hi).length with h0|h0
    .have PK:=XJ h0;refine⟨ad,_,[],rfl,om,om,?_⟩;rw[PK];exact⟨aK,aK,aK,aK,aK⟩
    .have de:0<(ρ.aO (.ap id)).cap:=by clear zE;omega
     obtain⟨cur,bU,h1,bY⟩:=zE de;rw[tf (by clear zE;omega)]
     obtain⟨vs,Ce⟩:=wT (ρ:=ρ) (w:=w) (esz:=e2) (pos:=uh (.rv (.one (.row id e2 lo hi)))) (E:=ct rows lo hi) (b:=(ρ.aO (.ap id)).b) (off:=(ρ.aO (.ap id)).au+lo*e2) (fun cs fb=>by
      obtain⟨i,dV,Sq⟩:=abE fb;have:=lE i cs (by rw[tq dV,Sq])
      exact h5 cs (O9 this)) (fun i cs j c dV vV=>by
      obtain⟨u,hu,b9⟩:=bY (lo+i) cs j c (lE i cs dV) vV;refine⟨u,?_,b9⟩;rw[bU.cell,<-hu];congr 1;rw[aaz];omega)
     exact⟨_,_,vs,rfl,by clear zE;omega,by clear zE;omega,Ce⟩
   .cases h
  .cases h
 .cases h;obtain⟨ad,rfl⟩:=hd;exact⟨ad,0,[],rfl,aK,by unfold maxLen;omega,aK,aK,aK,aK,aK⟩
 .cases h
theorem yd.firstCells{esz:Nat}{pos:Nat->Nat->Option (Nat×Nat×Nat)}{E:List (List CC)}{ad:Option Addr}{vs:List Value}(h:yd ρ w esz pos E ad vs)(cap k:Nat):
  (Builtin.firstCells esz E.length (.slice ad E.length cap)).run P (w.drewN k)= .ok vs.toArray (w.drewN k):=by
 rcases aav E.length with h0|h0
 .have hv:vs=[]:=XJ (by rw[h.len,h0];simp)
  subst hv;rw[h0];cases ad<;>simp[Builtin.firstCells,loadCells,loadCellsFrom]
 .obtain⟨b,off,rfl,hc⟩:=h.PJ h0;exact run_firstCells_some (P:=P) (w.drewN k) esz E.length ⟨b,off,none⟩ E.length cap vs h.len fun j v hj=>by rw[kX];exact hc j v hj
theorem wU(m:Mem)(c:CV):(gY m c).length=m.length/\∀(id:Nat)b,(gY m c)[id]? =some b->b= .aZ\/(m[id]? =some b/\¬∃e lo hi,c= .rv (.one (.row id e lo hi))):=by
 unfold gY;split
 .rename_i id e lo hi;rw[bg];refine⟨aK,fun k b hb=>?_⟩
  by_cases hk:id=k
  .subst hk;have aF:id<m.length:=by
    rcases XN id m.length with h|h
    .exact h
    .rw[aaj (by simpa using h)]at hb;cases hb
   rw[QO aF]at hb;cases hb;exact .inl rfl
  .rw[XK hk]at hb;refine .inr ⟨hb,?_⟩;rintro⟨_,_,_,h⟩;cases h;exact hk rfl
 .rename_i iV;refine⟨rfl,fun k b hb=>.inr ⟨hb,?_⟩⟩
  rintro⟨e,lo,hi,rfl⟩;exact iV _ _ _ _ rfl
def oQ(c1 c2:CV)(n1:Nat)(i j:Nat):kW:=
 if i<n1 then(match uh c1 i j with|some (a,b,c)=>.sub a b c|none=>.ap 0)
 else(match uh c2 (i-n1) j with|some (a,b,c)=>.sub a b c|none=>.ap 0)
theorem kF{esz:Nat}{c:CV}{E:List (List CC)}(h:eR m esz c=some E){i j:Nat}{cs:List CC}{s:Nat}{e:List (List Dt)}(hi:E[i]? =some cs)(hj:cs[j]? =some (.gp s e)):
  ∃id e0 lo dV,c= .rv (.one (.row id e0 lo dV))/\fp m id (lo+i) j s e:=by
 unfold eR at h;split at h
 .split at h
  .cases h;rw[O6]at hi;cases d8:(_:List (List Dt))[i]? with
   |none=>rw[d8]at hi;cases hi
   |some ds=>
    rw[d8]at hi;cases hi;rw[O6]at hj;cases jy:ds[j]? with
    |none=>rw[jy]at hj;cases hj
    |some d=>rw[jy]at hj;cases hj
  .cases h
 .rename_i id e0 lo dV;split at h
  .rename_i e2 rows hb;rw[aT]at hb;split at h
   .cases h;refine⟨id,e0,lo,dV,rfl,_,rows,cs,hb,?_,hj⟩;rw[kD,aaA]at hi;cases dV with
    |none=>exact hi
    |some h=>
     rw[aao]at hi;split at hi
     .exact hi
     .cases hi
   .cases h
  .cases h
 .cases h;simp at hi
 .cases h
theorem nU{c:CV}{id e lo:Nat}{hi:Option Nat}(h:c= .rv (.one (.row id e lo hi)))(i j:Nat):uh c i j=some (id,lo+i,j):=by subst h;rfl
theorem CP(hM:aC ρ m w)(hE:be ρ w aU a.tmps){t t2 ty e e2:TypeId}{i:TypeInfo}{z:List CC}{x y:Operand}{x' y':X}(ht:P.underlying t=some (.slice e))(ug:P.underlying t2=some (.slice e2))(hi:P.info? e=some i)(hz:dE P e=some z)(dj:i.size=z.length)(de:0<z.length)(hb:0<i.bytes)(hx:bh x=some x')(hy:bh y=some y')(wV:(tV (x'.ev aU)&&E7 (x'.ev aU) (y'.ev aU))=true)(g1:ok (eR m i.size (x'.ev aU)) fun E1=>ok (eR m i.size (y'.ev aU)) fun E2=>(E1.length+E2.length)*i.bytes<=140737488355328/\oJ m fun n=>K (.rv (.one (.row n i.size 0 none))) (gX (gY (gY m (x'.ev aU)) (y'.ev aU)) [.row i.size (E1++E2)])):
  dl P (do pure (Next.value (<-Builtin.append_ #[t,t2] ty #[a.eval x,a.eval y]))) ρ m w K:=by
 have hd:=aN hE hx;have ow:=aN hE hy;generalize a.eval x=v at hd⊢;generalize a.eval y=v2 at ow⊢;generalize x'.ev aU=c1 at hd wV g1;generalize y'.ev aU=c2 at ow wV g1;rw[T6]at wV;obtain⟨lD,eL⟩:=wV;obtain⟨E1,wg,g2⟩:=bc.1 g1;obtain⟨E2,zG,jg,g3⟩:=bc.1 g2;rw[gI,cg]at g3;obtain⟨MD,jh,Rz,CQ,Sr,MF,F1⟩:=l5 hM wg hd;obtain⟨YV,Je,Jf,ye,Ss,Su,F2⟩:=l5 hM zG ow;have Cd:=hz;simp only[dE,Pq,KG]at Cd;obtain⟨i',dV,zv,MG,MC⟩:=Cd;rw[hi]at dV;cases dV;have Sv:zv.cells.size=i.size:=by have:=(eA (ρ:=ρ) (w:=w) MC).1;rw[dj];simpa using this
 have CM:E1.length+E2.length<=140737488355328:=aaC (abP _ hb) jg;have du:=ni (P:=P) (w:=w) (ty:=ty) ht ug hi MG (a0:=MD) (n1:=E1.length) (c1:=jh) (n2:=E2.length) (src:=v2) (olds:=Rz) (news:=Jf)
  (by rw[ye];rfl) (fun k=>by rw[ye];exact F2.firstCells Je k) (fun k=>F1.firstCells jh k) hb jg
 rw[<-CQ]at du;let D:Nat->Prop:=fun id=>(∃e lo hi,c1= .rv (.one (.row id e lo hi)))\/(∃e lo hi,c2= .rv (.one (.row id e lo hi)))
 obtain⟨k1,k2⟩:=wU m c1;obtain⟨k3,k4⟩:=wU (gY m c1) c2;have GH:∀(id:Nat)b,(gY (gY m c1) c2)[id]? =some b->b= .aZ\/(m[id]? =some b/\¬D id):=fun id b hb=>by
  rcases k4 id b hb with h|⟨h,hn⟩
  .exact .inl h
  .rcases k2 id b h with h|⟨h,Ov⟩
   .exact .inl h
   .exact .inr ⟨h,fun hD=>hD.elim Ov hn⟩
 let src:=oQ c1 c2 E1.length;have ke:∀cs,cs∈E1++E2->cs.length=i.size:=fun cs fb=>(aaF.1 fb).elim (F1.ke cs) (F2.ke cs)
 have iJ:∀{ρ':bH}{w':World},ij ρ w ρ' w'->(∀i j,ρ'.aO (.sub ρ.n i j)=ρ.aO (src i j))->
   ∀(k:Nat)cs(j:Nat)c,(E1++E2)[k]? =some cs->cs[j]? =some c->∃u,(Rz++Jf)[k*i.size+j]? =some u/\br ρ' w' (some (ρ.n,k,j)) c u:=by
  intro ρ' w' g cy k cs j c hk hj;have l4:j<i.size:=by rw[<-ke cs (O9 hk)];exact(Hy.1 hj).1
  have conv:∀(p:Option (Nat×Nat×Nat))u,br ρ w p c u->(∀a b d,p=some (a,b,d)->a<ρ.n/\src k j= .sub a b d)->br ρ' w' (some (ρ.n,k,j)) c u:=by
   intro p u b9 hp;have h1:=b9.cF g (fun a b d Ad=>(hp a b d Ad).1)
   cases c<;>try exact h1
   obtain⟨a,b,d,Ad,pl⟩:=b9;obtain⟨_,hs⟩:=hp a b d Ad;exact⟨ρ.n,k,j,rfl,by rw[cy,hs];exact pl⟩
  have Sw:∀{cc:CV}{vv:Value}{i j a b d:Nat},bW ρ w cc vv->uh cc i j=some (a,b,d)->a<ρ.n:=by
   intro cc vv i j a b d MH hp;unfold uh at hp;split at hp
   .cases hp;exact MH.1
   .cases hp
  rcases XN k E1.length with aF|ef
  .rw[VO aF]at hk;obtain⟨u,hu,b9⟩:=F1.j7 k cs j c hk hj;refine⟨u,?_,conv _ u b9 fun a b d hp=>⟨Sw hd hp,by simp only[src,oQ,if_pos aF,hp]⟩⟩
   rw[VO]
   .exact hu
   .exact(Hy.1 hu).1
  .rw[UX ef]at hk;obtain⟨u,hu,b9⟩:=F2.j7 (k-E1.length) cs j c hk hj;refine⟨u,?_,conv _ u b9 fun a b d hp=>⟨Sw ow hp,by simp only[src,oQ,if_neg (show ¬k<E1.length by omega),hp]⟩⟩
   rw[UX]
   .rw[<-hu];congr 1;rw[F1.len,acx];have:E1.length*i.size<=k*i.size:=aam _ ef;omega
   .rw[F1.len];have:E1.length*i.size<=k*i.size:=aam _ ef;omega
 have Jg:∀(k:Nat)cs(j:Nat)s e,(E1++E2)[k]? =some cs->cs[j]? =some (.gp s e)->∃i3 i' j',src k j= .sub i3 i' j'/\D i3/\fp m i3 i' j' s e:=by
  intro k cs j s e hk hj;rcases XN k E1.length with aF|ef
  .rw[VO aF]at hk;obtain⟨id,e0,lo,dV,hc,ho⟩:=kF wg hk hj;exact⟨id,lo+k,j,by simp only[src,oQ,if_pos aF,nU hc],.inl ⟨_,_,_,hc⟩,ho⟩
  .rw[UX ef]at hk;obtain⟨id,e0,lo,dV,hc,ho⟩:=kF zG hk hj;exact⟨id,lo+(k-E1.length),j,by simp only[src,oQ,if_neg (show ¬k<E1.length by omega),nU hc],.inr ⟨_,_,_,hc⟩,ho⟩
 have qW:∀i j i' j',src i j=src i' j'->(∃cs s e,(E1++E2)[i]? =some cs/\cs[j]? =some (.gp s e))->(∃cs s e,(E1++E2)[i']? =some cs/\cs[j']? =some (.gp s e))->i=i'/\j=j':=by
  have side:∀k j,(∃cs s e,(E1++E2)[k]? =some cs/\cs[j]? =some (.gp s e))->
    (k<E1.length/\∃id e0 lo dV,c1= .rv (.one (.row id e0 lo dV))/\src k j= .sub id (lo+k) j)\/(E1.length<=k/\∃id e0 lo dV,c2= .rv (.one (.row id e0 lo dV))/\src k j= .sub id (lo+(k-E1.length)) j):=by
   rintro k j ⟨cs,s,e,hk,hj⟩;rcases XN k E1.length with aF|ef
   .rw[VO aF]at hk;obtain⟨id,e0,lo,dV,hc,ho⟩:=kF wg hk hj;exact .inl ⟨aF,id,e0,lo,dV,hc,by simp only[src,oQ,if_pos aF,nU hc]⟩
   .rw[UX ef]at hk;obtain⟨id,e0,lo,dV,hc,ho⟩:=kF zG hk hj;exact .inr ⟨ef,id,e0,lo,dV,hc,by simp only[src,oQ,if_neg (show ¬k<E1.length by omega),nU hc]⟩
  intro k j k' j' hs hk gC;rcases side k j hk with⟨h1,id,e0,lo,tC,hc,Sx⟩|⟨h1,id,e0,lo,tC,hc,Sx⟩<;>rcases side k' j' gC with⟨h2,id2,e02,lo2,Wa,ui,Jh⟩|⟨h2,id2,e02,lo2,Wa,ui,Jh⟩
  .rw[hc]at ui;injection ui with ui;injection ui with ui;injection ui with q1 q2 q3 q4
   subst q3;rw[Sx,Jh]at hs;injection hs with q5 q6 q7
   exact⟨om,q7⟩
  .rw[Sx,Jh]at hs;injection hs with q5 q6 q7
   rw[hc,ui]at eL;simp only[E7,aaP]at eL;exact absurd q5 (abv eL)
  .rw[Sx,Jh]at hs;injection hs with q5 q6 q7
   rw[hc,ui]at eL;simp only[E7,aaP]at eL;exact absurd q5.symm (abv eL)
  .rw[hc]at ui;injection ui with ui;injection ui with ui;injection ui with q1 q2 q3 q4
   subst q3;rw[Sx,Jh]at hs;injection hs with q5 q6 q7
   exact⟨om,q7⟩
 have Fi:∀(l:vU)i j,(ρ.move l src).aO (.sub ρ.n i j)=ρ.aO (src i j):=by intro l i j;simp[bH.move]
 have pD:∀(l:vU),(ρ.move l src).aO (.ap m.length)=l:=by intro l;rw[<-hM.n];simp[bH.move]
 have RA:∀(l:vU),l.len=E1.length+E2.length->l.cap<=maxLen->l.len<=l.cap->∀ad,(0<l.cap->ad=some ⟨l.b,l.au,none⟩)->∀w',bW (ρ.move l src) w' (.rv (.one (.row m.length i.size 0 none))) (.slice ad (E1.length+E2.length) l.cap):=by
  intro l hl hc qI ad tf w';refine⟨by simp[bH.move,hM.n],aK,aK,by rw[pD];exact qI,by rw[pD];exact hc,ad,?_,?_⟩
  .rw[pD];simp[hl]
  .rw[pD];intro h0;rw[tf h0];simp
 by_cases mG:E1.length+E2.length<=jh
 .rw[if_pos mG]at du;rcases aav jh with ID|ID
  ·
   have n1:E1.length=0:=om;have n2:E2.length=0:=om;have Wb:Jf=[]:=XJ (by rw[F2.len,n2];simp)
   subst Wb;have zF:((wS MD (E1.length*i.size) []).run P w)= .ok () w:=by
    cases MD<;>simp[wS,storeCells]
   rw[zF]at du;simp only[Result.andThen_ok]at du;let l:vU:=⟨0,0,0,0⟩;obtain⟨kY,Ow⟩:=hM.move (m1:=gY (gY m c1) c2) (D:=D) (esz:=i.size) (E:=E1++E2) (l:=l) (src:=src) (w':=w) (by rw[k3,k1]) GH (QN _) rfl rfl rfl (fun _ _ _=>rfl)
    (by simp[l]) (by simp[l,n1,n2]) (QN _) (by simp[l]) ke (by simp[l]) Jg qW
   refine⟨_,_,w,_,_,_,by rw[Sem.run_bind,du];rfl,.inl rfl,g3,kY,?_,Ow⟩
   have:=RA l (by simp[l,n1,n2]) (by simp[l]) (QN _) MD (by simp[l]) w
   rw[ID];exact this
  ·
   have mR:∃id lo dV,c1= .rv (.one (.row id i.size lo dV))/\Live ρ m (.ap id)/\MD=some ⟨(ρ.aO (.ap id)).b,(ρ.aO (.ap id)).au+lo*i.size,none⟩/\jh=(ρ.aO (.ap id)).cap-lo/\
     ∃cur,lq (i.size=1) w (ρ.aO (.ap id)).b cur/\(ρ.aO (.ap id)).au+(ρ.aO (.ap id)).cap*i.size<=cur.size:=by
    unfold eR at wg;split at wg
    .simp[tV]at lD
    .rename_i id e0 lo dV;split at wg
     .rename_i YW rows eT;rw[aT]at eT;split at wg
      .rename_i q1 q2;have q1:e0=i.size:=XM q1;have q2:YW=i.size:=XM q2;subst q1;rw[q2]at eT;obtain⟨r2,r3,r4,r5,GI⟩:=hM.bk id _ eT;obtain⟨aF,d1,d2,d3,d4,ad,MI,tf⟩:=hd;rw[MI]at CQ;injection CQ with Wc aah Sy
       have vX:0<(ρ.aO (.ap id)).cap:=by clear GI;omega
       obtain⟨cur,bU,h1,_⟩:=GI vX;exact⟨id,lo,dV,rfl,⟨_,eT,aK,fun _=>vX⟩,by rw[<-Wc];exact tf (by clear GI;omega),Sy.symm,cur,bU,h1⟩
      .cases wg
     .cases wg
    .cases wg;obtain⟨ad,MI⟩:=hd;rw[MI]at CQ;injection CQ with _ _ Sy
     omega
    .cases wg
   obtain⟨id,lo,dV,rfl,dG,rfl,Fj,cur,bU,fb⟩:=mR;have gG:lo+jh=(ρ.aO (.ap id)).cap:=om;have hbound:(ρ.aO (.ap id)).au+lo*i.size+jh*i.size<=cur.size:=by have:(lo+jh)*i.size=lo*i.size+jh*i.size:=aaz ..;rw[<-gG,this]at fb;omega
   have Wd:E1.length*i.size+E2.length*i.size<=jh*i.size:=by rw[<-aaz];exact aam _ mG
   obtain⟨w',fP,zF,px,RB,We,gC⟩:=l3 (P:=P) (ρ.aO (.ap id)).b ((ρ.aO (.ap id)).au+lo*i.size+E1.length*i.size) Jf 0 cur w bU (by rw[F2.len];omega) F2.one
   have wR:(Builtin.append_ #[t,t2] ty #[v,v2]).run P w= .ok (.slice (some ⟨(ρ.aO (.ap id)).b,(ρ.aO (.ap id)).au+lo*i.size,none⟩) (E1.length+E2.length) jh) w':=by rw[du];simp only[wS,kX];rw[zF];rfl
   let l:vU:=⟨(ρ.aO (.ap id)).b,(ρ.aO (.ap id)).au+lo*i.size,E1.length+E2.length,jh⟩;have cQ:=hM.a8 _ dG;obtain⟨kY,Ow⟩:=hM.move (m1:=gY (gY m (.rv (.one (.row id i.size lo dV)))) c2) (D:=D) (esz:=i.size) (E:=E1++E2) (l:=l) (src:=src) (w':=w') (by rw[k3,k1]) GH (Nat.le_of_eq RB.size.symm) RB.os RB.tape RB.output
    (fun b hb hn=>RB.heap b fun e=>hn id (.inl ⟨_,_,_,rfl⟩) dG e.symm) (fun _=>⟨by rw[RB.size];exact cQ.1,.inr ⟨id,.inl ⟨_,_,_,rfl⟩,dG,rfl⟩⟩) (by simp[l]) mG MF ke
    (fun g _=>⟨fP,px,by rw[We];exact hbound,fun k cs j c hk hj=>by
     obtain⟨u,hu,b9⟩:=iJ g (Fi l) k cs j c hk hj;refine⟨u,?_,b9⟩;rw[gC];simp only[l,abL];have aF:=(Hy.1 hu).1;rw[aaw,F1.len,F2.len]at aF;rcases XN (k*i.size+j) (E1.length*i.size)with Ac|Ac
     .rw[if_neg om];rw[VO (by rw[F1.len];exact Ac)]at hu
      obtain⟨b',aai,PL,hrd⟩:=F1.PJ (by
       rcases aav E1.length with h0|h0
       .rw[h0]at Ac;simp at Ac
       .exact h0)
      injection PL with PL
      injection PL with PI nf
      have hh:=hrd _ u hu;rw[<-PI,<-nf,bU.cell]at hh;rw[<-hh];congr 1;omega
     .rw[if_pos (by rw[F2.len];omega)]
      rw[UX (by rw[F1.len];exact Ac)]at hu
      rw[<-hu];congr 1;rw[F1.len];omega⟩) Jg qW
   refine⟨_,_,w',_,_,_,by rw[Sem.run_bind,wR];rfl,.inl rfl,g3,kY,?_,Ow⟩
   exact RA l rfl MF mG _ (fun _=>rfl) w'
 ·
  rw[if_neg mG]at du;have ef:=grownCap_ge w (E1.length+E2.length) jh e;have YX:grownCap w (E1.length+E2.length) jh e<=maxLen:=grownCap_le_maxLen w _ jh e (by unfold maxLen;omega)
  let cells:Array Value:=Rz.toArray++Jf.toArray++Builtin.zeroCells zv.cells (grownCap w (E1.length+E2.length) jh e-(E1.length+E2.length));let l:vU:=⟨w.heap.size,0,E1.length+E2.length,grownCap w (E1.length+E2.length) jh e⟩;have Sz:cells.size=grownCap w (E1.length+E2.length) jh e*i.size:=by simp only[cells,Array.size_append,List.size_toArray,F1.len,F2.len,size_zeroCells,Sv,<-Nat.add_mul];congr 1;omega
  have yf:lq (i.size=1) (w.drew.alloc (.cells cells e)) w.heap.size cells:=lq.new w.drew cells e;obtain⟨kY,Ow⟩:=hM.move (m1:=gY (gY m c1) c2) (D:=D) (esz:=i.size) (E:=E1++E2) (l:=l) (src:=src) (w':=w.drew.alloc (.cells cells e)) (by rw[k3,k1]) GH aK rfl rfl rfl
   (fun b hb _=>heap_alloc_old w.drew _ b hb) (fun _=>⟨yf.lt,.inl (QN _)⟩) (by simp[l]) ef YX ke
   (fun g _=>⟨cells,yf,by simp only[l,aak];rw[Sz];exact QN _,fun k cs j c hk hj=>by
    obtain⟨u,hu,b9⟩:=iJ g (Fi l) k cs j c hk hj;refine⟨u,?_,b9⟩;have aF:=(Hy.1 hu).1;simp only[l,aak,cells];rw[abm (by simpa using aF)]
    simpa using hu⟩) Jg qW
  refine⟨_,_,_,_,_,_,by rw[Sem.run_bind,du];rfl,.inl rfl,g3,kY,?_,Ow⟩
  exact RA l rfl YX ef _ (fun _=>rfl) _
end
end Go.AM
