/- Part 3 of 16. -/
import Derived.Test.YtodckkkbiidffaaGreatDoorG02
import Derived.ChangeKeysEq
import Derived.Laws.StructEq
set_option linter.unusedVariables false
set_option linter.unusedSimpArgs false
set_option maxRecDepth 100000
set_option maxHeartbeats 0
namespace Go.AM
section
variable {P:Program} {U:bF} {m:Mem} {w:World} {aX:List CV} {a:Act} {K:CV->Mem->Prop}
def jd:List Kd->List Value->List Value->Option Bool
 | [],[],[]=>some true
 |k::ks,a::r,b::s=>match OM k a b,jd ks r s with
  |some x,some y=>some (x&&y)
  |_,_=>none
 |_,_,_=>none
theorem oe:∀{ks:List Kd}{a b:List Value}{r:Bool},jd ks a b=some r->a.length=ks.length/\b.length=ks.length
 | [],[],[],r,h=>⟨rfl,rfl⟩
 | [],[],_::_,r,h=>by simp[jd]at h
 | [],_::_,_,r,h=>by simp[jd]at h
 |k::ks,[],_,r,h=>by simp[jd]at h
 |k::ks,_::_,[],r,h=>by simp[jd]at h
 |k::ks,a::l,b::l',r,h=>by
  simp only[jd]at h;split at h
  .rename_i x y hx hy;obtain⟨h1,h2⟩:=oe hy;exact⟨by simp[h1],by simp[h2]⟩
  .cases h
theorem ul:∀{ks ls:List Kd}{u v:List Value}{r:Bool},jd (ks++ls) u v=some r->
  ∃u1 u2 v1 v2 x y,u=u1++u2/\v=v1++v2/\jd ks u1 v1=some x/\jd ls u2 v2=some y/\r=(x&&y)
 | [],ls,u,v,r,h=>⟨[],u,[],v,true,r,rfl,rfl,rfl,h,aC⟩
 |k::ks,ls,[],v,r,h=>by simp[jd]at h
 |k::ks,ls,_::_,[],r,h=>by simp[jd]at h
 |k::ks,ls,a::l,b::l',r,h=>by
  simp only[adg,jd]at h;split at h
  .rename_i x y hx hy;cases h;obtain⟨u1,u2,v1,v2,x1,y1,rfl,rfl,h1,h2,rfl⟩:=ul hy;exact⟨a::u1,u2,b::v1,v2,x&&x1,y1,rfl,rfl,by simp[jd,hx,h1],h2,by simp[Bool.and_assoc]⟩
  .cases h
def pH(P:Program)(t:TypeId)(us:List Value):Value:=if ek P t=some true then .agg us.toArray else us.headD Go.undef
theorem q9{t:TypeId}{pre us post:List Value}(hs:eM P t=some us.length)(ha:ek P t=some true\/(ek P t=some false/\us.length=1)):
  (part t (pre++(us++post)).toArray pre.length).run P w= .ok (pH P t us) w:=by
 unfold part pH;rcases ha with ha|⟨ha,h1⟩
 .rw[Sem.run_bind,o5 ha];simp only[Result.andThen_ok,if_true,ha];rw[Sem.run_bind,fp hs];simp only[Result.andThen_ok,Sem.run_pure];congr 2;apply abV;simp
 .rw[Sem.run_bind,o5 ha]
  match us,h1 with
  | [u],_=>
   simp[ha]
theorem ra:∀(d:Nat)(t:TypeId)(ks:List Kd),flatK P d t=some ks->eM P t=some ks.length/\(ek P t=some true\/(ek P t=some false/\ks.length=1))/\
  ∀(k:Nat),d<=k->∀(us vs:List Value)(b:Bool),jd ks us vs=some b->(Op.equalIn k t (pH P t us) (pH P t vs)).run P w= .ok b w
 |0,t,ks,h=>by simp[flatK]at h
 |d+1,t,ks,h=>by
  simp only[flatK]at h;have plain:∀kd,ks=[kd]->eM P t=some 1->ek P t=some false->(∀(k:Nat)(x y:Value)b,OM kd x y=some b->(Op.equalIn (k+1) t x y).run P w= .ok b w)->
    eM P t=some ks.length/\(ek P t=some true\/(ek P t=some false/\ks.length=1))/\
    ∀(k:Nat),d+1<=k->∀(us vs:List Value)(b:Bool),jd ks us vs=some b->(Op.equalIn k t (pH P t us) (pH P t vs)).run P w= .ok b w:=by
   rintro kd rfl hs ha cU;refine⟨hs,.inr ⟨ha,rfl⟩,λk hk us vs b he=>?_⟩
   obtain⟨h1,h2⟩:=oe he
   match us,vs,h1,h2 with
   | [x],[y],_,_=>
    obtain⟨k,rfl⟩:∃k',k=k'+1:=⟨k-1,om⟩;simp only[pH,ha];simp only[jd]at he;split at he
    .rename_i p q hp hq;cases he;cases hq;simp only[Bool.and_true];exact cU k x y p hp
    .cases he
  split at h
  .rename_i hu;split at h
   .cases h;refine plain .b rfl (by assumption) (by simp[ek,hu]) λk x y b he=>?_
    cases x<;>cases y<;>simp only[OM]at he<;>try(cases he;done)
    cases he;simp[Op.equalIn,run_underlying hu]
   .cases h
  .rename_i kk hu;split at h
   .cases h;refine plain .i rfl (by assumption) (by simp[ek,hu]) λk x y b he=>?_
    cases x<;>cases y<;>simp only[OM]at he<;>try(cases he;done)
    rename_i k1 a k2 b';by_cases hk:k1=k2
    .subst hk;simp at he;subst he;simp[Op.equalIn,run_underlying hu]
    .rw[decide_eq_false hk]at he;cases he
   .cases h
  .rename_i hu;split at h
   .cases h;refine plain .s rfl (by assumption) (by simp[ek,hu]) λk x y b he=>?_
    cases x<;>cases y<;>simp only[OM]at he<;>try(cases he;done)
    cases he;simp[Op.equalIn,run_underlying hu,beq_toListBytes]
   .cases h
  .rename_i fs hu;split at h
   .rename_i lw;split at h
    .rename_i ks0 hf;split at h
     .rename_i dn;cases h;have ha:ek P t=some true:=by simp[ek,hu]
      refine⟨dn,.inl ha,λk hk us vs b he=>?_⟩
      obtain⟨k,rfl⟩:∃k',k=k'+1:=⟨k-1,om⟩;have Ud:P.fieldsOf t=fs:=by simp[Program.fieldsOf,hu]
      simp only[pH,ha,if_true];rw[run_equalIn_struct w k t us.toArray vs.toArray (by rw[Ud];exact hu) lw,Ud]
      have key:∀(l:List Field)(pre rb:List Value)(ls:List Kd)(us vs:List Value)(b:Bool),pre.length=rb.length->BQ (flatK P d) l pre.length=some ls->jd ls us vs=some b->
        (Op.eqFields k (pre++us).toArray (rb++vs).toArray l).run P w= .ok b w:=by
       intro l
       induction l with
       |nil=>
        intro pre rb ls us vs b _ sV he;simp[BQ]at sV;subst sV;obtain⟨h1,h2⟩:=oe he;cases us<;>cases vs<;>simp[jd]at he h1 h2
        subst he;simp[Op.eqFields]
       |cons f l ih=>
        intro pre rb ls us vs b U1 sV he;simp only[BQ]at sV;split at sV
        .rename_i hc;split at sV
         .rename_i ks1 jZ;split at sV
          .rename_i ls1 yB;cases sV;obtain⟨u1,u2,v1,v2,x,y,rfl,rfl,OS,jY,rfl⟩:=ul he;obtain⟨g1,g2,g3⟩:=ra d f.type ks1 jZ;obtain⟨e1,e2⟩:=oe OS;simp only[Op.eqFields];rw[if_pos hc.1,hc.2];rw[Sem.run_bind,q9 (by rw[g1,e1]) (by rw[e1];exact g2)]
           simp only[Result.andThen_ok];rw[Sem.run_bind,U1,q9 (by rw[g1,e2]) (by rw[e2];exact g2)]
           simp only[Result.andThen_ok];rw[Sem.run_bind,g3 k om u1 v1 x OS];simp only[Result.andThen_ok];have:=ih (pre++u1) (rb++v1) ls1 u2 v2 y (by simp[U1,e1,e2]) (by rw[aba,e1];exact yB) jY
           simp only[aca]at this;cases x
           .simp
           .simpa using this
          .cases sV
         .cases sV
        .cases sV
      have:=key fs.toList [] [] ks us vs b rfl hf he;simpa using this
     .cases h
    .cases h
   .cases h
  .cases h
theorem og:∀{ks:List Kd}{cs ds:List CC}{b:Bool}{us vs:List Value},kj ks cs ds=some b->us.length=cs.length->vs.length=ds.length->
  (∀(i:Nat)c,cs[i]? =some c->∃u,us[i]? =some u/\bh U w .none c u)->(∀(i:Nat)c,ds[i]? =some c->∃u,vs[i]? =some u/\bh U w .none c u)->jd ks us vs=some b
 | [],[],[],b,us,vs,h,h1,h2,_,_=>by simp at h1 h2;subst h1 h2;simpa[kj,jd]using h
 | [],[],_::_,b,us,vs,h,h1,h2,_,_=>by simp[kj]at h
 | [],_::_,_,b,us,vs,h,h1,h2,_,_=>by simp[kj]at h
 |k::ks,[],_,b,us,vs,h,h1,h2,_,_=>by simp[kj]at h
 |k::ks,c::cs,[],b,us,vs,h,h1,h2,_,_=>by cases c<;>simp[kj]at h
 |k::ks,c::cs,d::ds,b,us,vs,h,h1,h2,g1,g2=>by
  unfold kj at h;split at h
  .cases ‹_::_=[]›
  .rename_i k' ks' x r y s e1 e2 e3;cases e1;cases e2;cases e3;split at h
   .rename_i p q hp hq;cases h
    match us,vs,h1,h2 with
    |u::us,v::vs,h1,h2=>
     obtain⟨u',hu,ct⟩:=g1 0 _ rfl;obtain⟨v',hv,pI⟩:=g2 0 _ rfl;simp at hu hv;subst hu hv;obtain⟨rfl,_⟩:=bJ ct (λe=>by subst e;cases k<;>simp[OM]at hp)
     obtain⟨rfl,_⟩:=bJ pI (λe=>by subst e;cases k<;>cases u<;>simp[OM]at hp)
     have:=og (us:=us) (vs:=vs) hq (by simpa using h1) (by simpa using h2) (λi c hi=>by simpa using g1 (i+1) c (by simpa using hi)) (λi c hi=>by simpa using g2 (i+1) c (by simpa using hi))
     simp[jd,hp,this]
   .cases h
  .cases h
theorem yC(hM:au U m w)(hE:bi U w aX a.tmps){neg:Bool}{t:TypeId}{fs:Array Field}{ks:List Kd}{x y:Operand}{x' y':X}(ht:P.underlying t=some (.struct fs))(hg:P.eqGuardType P.depth t=false)(hk:flatK P 5 t=some ks)(hx:bm x=some x')(hy:bm y=some y')(h:step P (.Kx neg ks x' y') aX m K):dh P (do let v<-(do eqGuard (if neg then .neq else .eql) t x y (a.eval x) (a.eval y);binOp (if neg then .neq else .eql) t (a.eval x) (a.eval y));pure (Next.value v)) U m w K:=by
 have hd:=aR hE hx;have pG:=aR hE hy;simp only[step]at h;generalize a.eval x=v at hd|-;generalize a.eval y=u at pG|-;generalize x'.ev aX=c at hd h;generalize y'.ev aX=d at pG h;split at h
 .split at h
  .obtain⟨us,rfl,l1,d1⟩:=hd;obtain⟨vs,rfl,l2,d2⟩:=pG;obtain⟨b,he,hK⟩:=aZ.1 h;have QT:=og he l1 l2 d1 d2;have cU:=(ra (w:=w) 5 t ks hk).2.2 10000 om us vs b QT;have ha:ek P t=some true:=by simp[ek,ht]
   simp only[pH,ha,if_true]at cU;refine dh.pure hM (v:=_) ?_ hK (cy rfl);rw[Sem.run_bind,Sem.run_bind,run_eqGuard_agg w _ t x y _ _ hg];cases neg
   .simp only[Result.andThen_ok,abQ,if_false,run_eql_struct,cU,Sem.run_pure]
   .simp only[Result.andThen_ok,if_true,run_neq_struct,cU,Sem.run_pure]
  .exact h.elim
 .exact h.elim
theorem rc{e:TypeId}{kk:IntKind}(hu:P.underlying e=some (.int kk))(hs:eM P e=some 1)(d:Nat):∀(us vs pre rb:List Value)(b:Bool),pre.length=rb.length->jd (gw us.length .i) us vs=some b->
  (Op.eqItems (d+1) e 1 (pre++us).toArray (rb++vs).toArray (List.range' pre.length us.length)).run P w= .ok b w
 | [],[],pre,rb,b,_,he=>by simp[gw,jd]at he;subst he;simp[Op.eqItems]
 | [],v::vs,pre,rb,b,_,he=>by simp[gw,jd]at he
 |u::us,[],pre,rb,b,_,he=>by simp[gw,jd]at he
 |u::us,v::vs,pre,rb,b,hp,he=>by
  have ha:ek P e=some false:=by simp[ek,hu]
  simp only[aah,gw,jd]at he;split at he
  .rename_i x y hx hy;cases he;have ih:=rc hu hs d us vs (pre++ [u]) (rb++ [v]) y (by simp[hp]) hy
   have p1:=q9 (w:=w) (t:=e) (pre:=pre) (us:=[u]) (post:=us) hs (.inr ⟨ha,rfl⟩);have p2:=q9 (w:=w) (t:=e) (pre:=rb) (us:=[v]) (post:=vs) hs (.inr ⟨ha,rfl⟩);simp only[pH,ha,List.singleton_append]at p1 p2;have p3:(Op.equalIn (d+1) e u v).run P w= .ok x w:=by
    cases u<;>cases v<;>simp only[OM]at hx<;>try(cases hx;done)
    rename_i k1 a k2 b';by_cases hk:k1=k2
    .subst hk;simp at hx;subst hx;simp[Op.equalIn,run_underlying hu]
    .rw[decide_eq_false hk]at hx;cases hx
   simp only[aah,acS,Op.eqItems,Sem.run_bind,Nat.mul_one];rw[p1];simp only[Result.andThen_ok];rw[hp,p2];simp only[Result.andThen_ok,aam,abQ,if_false,List.headD_cons];rw[p3];simp only[Result.andThen_ok];cases x
   .simp
   .simp only[ac6,abQ,if_false,ac7];rw[<-hp];simpa using ih
  .cases he
theorem vJ(hM:au U m w)(hE:bi U w aX a.tmps){neg:Bool}{t e:TypeId}{n:Nat}{kk:IntKind}{x y:Operand}{x' y':X}(ht:P.underlying t=some (.array n e))(hg:P.eqGuardType P.depth t=false)(hu:P.underlying e=some (.int kk))(hs:eM P e=some 1)(hx:bm x=some x')(hy:bm y=some y')(h:step P (.Kx neg (gw n .i) x' y') aX m K):dh P (do let v<-(do eqGuard (if neg then .neq else .eql) t x y (a.eval x) (a.eval y);binOp (if neg then .neq else .eql) t (a.eval x) (a.eval y));pure (Next.value v)) U m w K:=by
 have hd:=aR hE hx;have pG:=aR hE hy;simp only[step]at h;generalize a.eval x=v at hd|-;generalize a.eval y=u at pG|-;generalize x'.ev aX=c at hd h;generalize y'.ev aX=d at pG h;split at h
 .split at h
  .obtain⟨us,rfl,l1,d1⟩:=hd;obtain⟨vs,rfl,l2,d2⟩:=pG;obtain⟨b,he,hK⟩:=aZ.1 h;have QT:=og he l1 l2 d1 d2;obtain⟨e1,e2⟩:=oe QT;have hn:us.length=n:=by rw[e1,fH];simp
   have hs':=hs;simp only[eM,aao]at hs';obtain⟨i,hi,KR⟩:=hs';have hc:P.cellsOf e=1:=by simp[Program.cellsOf,hi,KR]
   have cU:=rc (w:=w) hu hs 9998 us vs [] [] b rfl (by rw[hn];exact QT)
   simp only[adm,abv]at cU;have yD:(Op.equalIn 10000 t (.agg us.toArray) (.agg vs.toArray)).run P w= .ok b w:=by rw[run_equalIn_array w 9999 _ _ ht hi,hc,<-hn,List.range_eq_range'];exact cU
   refine dh.pure hM (v:=_) ?_ hK (cy rfl);rw[Sem.run_bind,Sem.run_bind,run_eqGuard_agg w _ t x y _ _ hg];cases neg
   .simp only[Result.andThen_ok,abQ,if_false,run_eql_struct,yD,Sem.run_pure]
   .simp only[Result.andThen_ok,if_true,run_neq_struct,yD,Sem.run_pure]
  .exact h.elim
 .exact h.elim
end
section
variable {P:Program} {U:bF} {m:Mem} {w:World} {aX:List CV} {a:Act} {K:CV->Mem->Prop}
def bF.move(U:bF)(l:vl)(src:Nat->Nat->fY):bF:=
 {n:=U.n+1
  aH:=λk=>match k with
   | .al id=>if id=U.n then l else U.aH (.al id)
   | .sub id i j=>if id=U.n then U.aH (src i j)else U.aH (.sub id i j)
  S:=U.S}
theorem au.move{w':World}(hM:au U m w){m1:Mem}{D:Nat->Prop}{esz:Nat}{E:List (List CC)}{l:vl}{src:Nat->Nat->fY}(hlen:m1.length=m.length)(H8:∀(id:Nat)b,m1[id]? =some b->b= .aS\/(m[id]? =some b/\¬D id))(dn:w.heap.size<=w'.heap.size)(U2:w'.os=w.os)(U3:w'.tape=w.tape)(fZ:w'.output=w.output)(d6:∀b,b<w.heap.size->(∀id,D id->Live U m (.al id)->(U.aH (.al id)).b≠b)->w'.heap[b]? =w.heap[b]?)(hl:0<l.cap->l.b<w'.heap.size/\(w.heap.size<=l.b\/∃id,D id/\Live U m (.al id)/\(U.aH (.al id)).b=l.b))(hE:E.length=l.len)(oh:l.len<=l.cap)(bc:l.cap<=maxLen)(nX:∀cs,cs∈E->cs.length=esz)(dD:iz U w (U.move l src) w'->0<l.cap->∃cur,l6 (esz=1) w' l.b cur/\l.ar+l.cap*esz<=cur.size/\
   ∀(i:Nat)cs(j:Nat)c,E[i]? =some cs->cs[j]? =some c->∃u,cur[l.ar+i*esz+j]? =some u/\bh (U.move l src) w' (some (U.n,i,j)) c u)(jQ:∀(i:Nat)cs(j:Nat)s e,E[i]? =some cs->cs[j]? =some (.dV s e)->∃jX i' j',src i j= .sub jX i' j'/\D jX/\dM m jX i' j' s e)(oi:∀i j i' j',src i j=src i' j'->(∃cs s e,E[i]? =some cs/\cs[j]? =some (.dV s e))->(∃cs s e,E[i']? =some cs/\cs[j']? =some (.dV s e))->i=i'/\j=j'):
  au (U.move l src) (m1++ [.row esz E]) w'/\Ext U m w (U.move l src) (m1++ [.row esz E]) w':=by
 have hn:=hM.n;have old:∀k:fY,k.id<U.n->(U.move l src).aH k=U.aH k:=by
  intro k hk;cases k with
  |al id=>simp only[bF.move];rw[if_neg (by simp only[fY.id]at hk;omega)]
  |sub id i j=>simp only[bF.move];rw[if_neg (by simp only[fY.id]at hk;omega)]
 have vK:(U.move l src).aH (.al U.n)=l:=by simp[bF.move]
 have xZ:∀i j,(U.move l src).aH (.sub U.n i j)=U.aH (src i j):=by intro i j;simp[bF.move]
 have vL:∀b,U.S b->w'.heap[b]? =w.heap[b]? :=λb hb=>d6 b (hM.S b hb) λid _ b7 e=>(hM.aQ _ b7).2 (e▸hb)
 have g:iz U w (U.move l src) w':=⟨by simp[bF.move],old,λb hb=>hb,vL⟩
 have get:∀{id:Nat}{b:Bk},(m1++ [.row esz E])[id]? =some b->(id<U.n/\(b= .aS\/(m[id]? =some b/\¬D id)))\/(id=U.n/\b= .row esz E):=by
  intro id b hb;rcases aad id m1.length with h|h
  .rw[Yf h]at hb;exact .inl ⟨om,H8 id b hb⟩
  .rw[WH h]at hb;have:id-m1.length=0:=by
    rcases abu (id-m1.length)with h0|h0
    .exact h0
    .rw[aaZ (by simp;omega)]at hb;cases hb
   rw[this]at hb;exact .inr ⟨om,by simpa using hb.symm⟩
 have dY:∀{id i j s e},dM (m1++ [.row esz E]) id i j s e->(id<U.n/\¬D id/\dM m id i j s e)\/
   (id=U.n/\(∃cs s e,E[i]? =some cs/\cs[j]? =some (.dV s e))/\∃jX i' j',src i j= .sub jX i' j'/\D jX/\dM m jX i' j' s e):=by
  rintro id i j s e ⟨b0,HZ,ho⟩;rcases get HZ with⟨aD,hb|⟨hb,hD⟩⟩|⟨rfl,hb⟩
  .subst hb;cases ho
  .exact .inl ⟨aD,hD,b0,hb,ho⟩
  .subst hb;obtain⟨cs,hi,hj⟩:=ho.xV;exact .inr ⟨rfl,⟨cs,_,_,hi,hj⟩,jQ i cs j s e hi hj⟩
 have df:∀k,Live (U.move l src) (m1++ [.row esz E]) k->
   (k.id<U.n/\¬D k.id/\Live U m k)\/(k= .al U.n/\0<l.cap)\/
   (∃i j,k= .sub U.n i j/\(∃cs s e,E[i]? =some cs/\cs[j]? =some (.dV s e))/\Live U m (src i j)/\D (src i j).id/\∃a b c,src i j= .sub a b c):=by
  intro k hk;cases k with
  |al id=>
   obtain⟨b,hb,dt,uP⟩:=hk;rcases get hb with⟨aD,rfl|⟨hb,hD⟩⟩|⟨rfl,rfl⟩
   .exact absurd rfl dt
   .rw[old (.al id) aD]at uP;exact .inl ⟨aD,hD,b,hb,dt,uP⟩
   .rw[vK]at uP;exact .inr (.inl ⟨rfl,uP ⟨_,_,rfl⟩⟩)
  |sub id i j=>
   obtain⟨⟨s,e,ho⟩,uP⟩:=hk;rcases dY ho with⟨aD,hD,ho⟩|⟨rfl,iZ,jX,i',j',hs,hD,ho⟩
   .rw[old (.sub id i j) aD]at uP;exact .inl ⟨aD,hD,⟨s,e,ho⟩,uP⟩
   .rw[xZ]at uP;exact .inr (.inr ⟨i,j,rfl,iZ,by rw[hs]at uP|-;exact⟨⟨s,e,ho⟩,uP⟩,by rw[hs];exact hD,_,_,_,hs⟩)
 have eE:∀k,Live U m k->(k.id<U.n/\¬D k.id)\/(∃a b c,k= .sub a b c)->w'.heap[(U.aH k).b]? =w.heap[(U.aH k).b]? :=by
  intro k hk U4;refine d6 _ (hM.aQ k hk).1 λid hD b7 e=>?_
  have:=hM.inj _ _ b7 hk e;rcases U4 with⟨_,YA⟩|⟨_,_,_,rfl⟩
  .exact YA (by rw[<-this];exact hD)
  .cases this
 refine⟨⟨by simp[bF.move,hn,hlen],λb hb=>aa0 (hM.S b hb) dn,?_,?_,?_,?_⟩,
  ⟨by simp[bF.move],λid hid=>old (.al id) hid,λb hb=>hb,λb hb=>.inl hb,?_,?_,dn,U2,U3,fZ⟩⟩
 .intro k hk;rcases df k hk with⟨aD,_,hk⟩|⟨rfl,hc⟩|⟨i,j,rfl,_,hk,_⟩
  .rw[old k aD];exact⟨aa0 (hM.aQ k hk).1 dn,(hM.aQ k hk).2⟩
  .rw[vK];obtain⟨h1,h2⟩:=hl hc;refine⟨h1,λhs=>?_⟩
   rcases h2 with h2|⟨id,hD,b7,e⟩
   .have:=hM.S _ hs;omega
   .exact(hM.aQ _ b7).2 (e▸hs)
  .rw[xZ];exact⟨aa0 (hM.aQ _ hk).1 dn,(hM.aQ _ hk).2⟩
 ·
  have z6:0<l.cap->∀k,Live U m k->(k.id<U.n/\¬D k.id)\/(∃a b c,k= .sub a b c)->(U.aH k).b≠l.b:=by
   intro hc k hk U4 e;obtain⟨h1,h2⟩:=hl hc;rcases h2 with h2|⟨id,hD,b7,e2⟩
   .have:=(hM.aQ k hk).1;omega
   .have:=hM.inj _ _ b7 hk (e2.trans e.symm);rcases U4 with⟨_,YA⟩|⟨_,_,_,rfl⟩
    .exact YA (by rw[<-this];exact hD)
    .cases this
  intro k k' hk fU he;rcases df k hk with⟨aD,hD,hk⟩|⟨rfl,hc⟩|⟨i,j,rfl,hx,hk,hDs,iq⟩<;>rcases df k' fU with⟨od,U5,fU⟩|⟨rfl,q8⟩|⟨i',j',rfl,sW,fU,YB,U6⟩
  .rw[old k aD,old k' od]at he;exact hM.inj k k' hk fU he
  .rw[old k aD,vK]at he;exact absurd he (z6 q8 k hk (.inl ⟨aD,hD⟩))
  .rw[old k aD,xZ]at he;have:=hM.inj _ _ hk fU he;exact absurd (by rw[this];exact YB) hD
  .rw[old k' od,vK]at he;exact absurd he.symm (z6 hc k' fU (.inl ⟨od,U5⟩))
  .rfl
  .rw[vK,xZ]at he;exact absurd he.symm (z6 hc _ fU (.inr U6))
  .rw[old k' od,xZ]at he;have:=hM.inj _ _ hk fU he;exact absurd (by rw[<-this];exact hDs) U5
  .rw[vK,xZ]at he;exact absurd he (z6 q8 _ hk (.inr iq))
  .rw[xZ,xZ]at he;obtain⟨rfl,rfl⟩:=oi i j i' j' (hM.inj _ _ hk fU he) hx sW;rfl
 .intro id b hb;rcases get hb with⟨aD,rfl|⟨hb,hD⟩⟩|⟨rfl,rfl⟩
  .trivial
  .exact(hM.bk id b hb).cm g aD λdt uP=>eE (.al id) ⟨b,hb,dt,uP⟩ (.inl ⟨aD,hD⟩)
  .exact⟨by rw[vK];exact hE,by rw[vK];exact oh,by rw[vK];exact bc,nX,λhc=>by rw[vK]at hc|-;exact dD g hc⟩
 .intro id i j s e ho uP;rcases dY ho with⟨aD,hD,ho⟩|⟨rfl,_,jX,i',j',hs,hD,ho⟩
  .rw[old (.sub id i j) aD]at uP|-;exact(hM.dV id i j s e ho uP).cm g (eE (.sub id i j) ⟨⟨s,e,ho⟩,uP⟩ (.inr ⟨_,_,_,rfl⟩))
  .rw[xZ,hs]at uP|-;exact(hM.dV jX i' j' s e ho uP).cm g (eE (.sub jX i' j') ⟨⟨s,e,ho⟩,uP⟩ (.inr ⟨_,_,_,rfl⟩))
 .intro k hk;rcases df k hk with⟨aD,_,hk⟩|⟨rfl,hc⟩|⟨i,j,rfl,_,hk,_⟩
  .exact .inr ⟨k,hk,by rw[old k aD]⟩
  .rw[vK];obtain⟨h1,h2⟩:=hl hc;rcases h2 with h2|⟨id,hD,b7,e⟩
   .exact .inl h2
   .exact .inr ⟨_,b7,e⟩
  .exact .inr ⟨_,hk,by rw[xZ]⟩
 .intro b hb hk;exact d6 b hb λid hD b7 e=>hk _ b7 e
def yE(ad:Option Addr)(k:Nat)(vs:List Value):Sem Unit:=
 match ad with
 |some a=>storeCells (a.add k) vs
 |none=>pure ()
theorem ol{t t2 ty e e2:TypeId}{i:TypeInfo}{z:Value}(ht:P.underlying t=some (.slice e))(vM:P.underlying t2=some (.slice e2))(hi:P.info? e=some i)(hz:i.zero=some z){a0:Option Addr}{n1 c1 n2:Nat}{src:Value}{olds news:List Value}(hlen:(Builtin.lenOf src).run P w= .ok n2 w)(QU:∀k,(Builtin.firstCells i.size n2 src).run P (w.drewN k)= .ok news.toArray (w.drewN k))(holds:∀k,(Builtin.firstCells i.size n1 (.slice a0 n1 c1)).run P (w.drewN k)= .ok olds.toArray (w.drewN k))(hb:0<i.bytes)(kn:(n1+n2)*i.bytes<=140737488355328):
  (Builtin.append_ #[t,t2] ty #[.slice a0 n1 c1,src]).run P w=if n1+n2<=c1 then
    ((yE a0 (n1*i.size) news).run P w).andThen λ_ w'=>.ok (.slice a0 (n1+n2) c1) w'
   else .ok (.slice (some ⟨w.heap.size,0,none⟩) (n1+n2) (grownCap w (n1+n2) c1 e)) (w.drew.alloc (.cells (olds.toArray++news.toArray++Builtin.zeroCells z.cells (grownCap w (n1+n2) c1 e-(n1+n2))) e)):=by
 have GD:=QU 0;have p8:=QU 1;have Sd:=holds 1;have e0:w.drewN 0=w:=rfl;have e1:w.drewN 1=w.drew:=rfl;rw[e0]at GD;rw[e1]at p8 Sd;have Ej:n1+n2<=140737488355328:=abH (acM _ hb) kn;unfold Builtin.append_;by_cases hc:n1+n2<=c1
 .simp[run_underlying ht,run_underlying vM,sizeOf,typeInfo,hi,hlen,hc,GD];cases a0<;>simp[yE]
 .have YC:¬(9223372036854775807<((n1:Int)+(n2:Int))):=om;have YD:¬(281474976710656<Builtin.nextslicecap (n1+n2) c1*i.bytes):=by have:=growslice_fits (need:=n1+n2) (old:=c1) om kn;omega
  have sX:¬i.bytes=0:=om;simp[run_underlying ht,run_underlying vM,sizeOf,typeInfo,zeroValue,hi,hz,hlen,hc,YC,YD,Question.forced,p8,Sd,newRow,grownCap];congr 2;apply abV;simp[aca]
def vN(v:CV)(i j:Nat):Option (Nat×Nat×Nat):=
 match v with
 | .rv (.one (.row id _ lo _))=>some (id,lo+i,j)
 |_=>none
theorem jv{α:Type}(l:List α)(lo:Nat)(hi:Option Nat):bV l lo hi=(match hi with|none=>l|some h=>l.take h).drop lo:=by
 cases lo<;>cases hi<;>simp[bV]
structure z7(U:bF)(w:World)(esz:Nat)(pos:Nat->Nat->Option (Nat×Nat×Nat))(E:List (List CC))(ad:Option Addr)(vs:List Value):Prop where
 len:vs.length=E.length*esz
 lE:∀cs,cs∈E->cs.length=esz
 Se:0<E.length->∃b off,ad=some ⟨b,off,none⟩/\∀k u,vs[k]? =some u->w.cell? ⟨b,off+k,none⟩=some u
 jR:∀(i:Nat)cs(j:Nat)c,E[i]? =some cs->cs[j]? =some c->∃u,vs[i*esz+j]? =some u/\bh U w (pos i j) c u
 one:∀u,u∈vs->u.oneCell'=true
theorem yF{esz:Nat}{pos:Nat->Nat->Option (Nat×Nat×Nat)}{E:List (List CC)}{b off:Nat}(lE:∀cs,cs∈E->cs.length=esz)(h:∀(i:Nat)cs(j:Nat)c,E[i]? =some cs->cs[j]? =some c->∃u,w.cell? ⟨b,off+i*esz+j,none⟩=some u/\bh U w (pos i j) c u):
  ∃vs,z7 U w esz pos E (some ⟨b,off,none⟩) vs:=by
 have all:∀k,k<E.length*esz->∃u p c,w.cell? ⟨b,off+k,none⟩=some u/\bh U w p c u:=by
  intro k hk;have cH:0<esz:=by
   rcases abu esz with h0|h0
   .subst h0;simp at hk
   .exact h0
  have hi:k/esz<E.length:=Nat.div_lt_of_lt_mul (by rwa [acH])
  have hj:k%esz<esz:=Nat.mod_lt _ cH;have eB:=lE _ (aal hi);obtain⟨u,hu,hd⟩:=h (k/esz) _ (k%esz) _ (uX hi) (uX (by rw[eB];exact hj))
  have e:off+k/esz*esz+k%esz=off+k:=by have:=Nat.div_add_mod k esz;rw[acH]at this;omega
  rw[e]at hu;exact⟨u,_,_,hu,hd⟩
 let vs:=(List.range (E.length*esz)).map λk=>(w.cell? ⟨b,off+k,none⟩).getD Go.undef
 have lD:∀k u,vs[k]? =some u->k<E.length*esz/\w.cell? ⟨b,off+k,none⟩=some u:=by
  intro k u hu;have hk:k<E.length*esz:=by have:=(I4.1 hu).1;simpa[vs]using this
  obtain⟨u',p,c,uQ,_⟩:=all k hk;simp only[vs,RA,List.getElem?_range hk,aaz,uQ,abC,aam]at hu;exact⟨hk,by rw[uQ,hu]⟩
 refine⟨vs,by simp[vs],lE,λ_=>⟨b,off,rfl,λk u hu=>(lD k u hu).2⟩,λi cs j c hi hj=>?_,λu hu=>?_⟩
 .obtain⟨u,hu,hd⟩:=h i cs j c hi hj;refine⟨u,?_,hd⟩;have x4:=(I4.1 hi).1;have na:j<esz:=by rw[<-lE _ (RD hi)];exact(I4.1 hj).1
  have aD:i*esz+j<E.length*esz:=by have:(i+1)*esz<=E.length*esz:=abh _ x4;rw[abr,abZ]at this;omega
  simp only[vs,RA,List.getElem?_range aD,aaz,<-Nat.add_assoc,hu,abC]
 .obtain⟨k,hk,rfl⟩:=acA hu;obtain⟨oo,hc⟩:=lD k _ (uX hk);obtain⟨u',p,c,uQ,hd⟩:=all k oo;rw[hc]at uQ;cases uQ;exact hd.one
theorem ni(hM:au U m w){esz:Nat}{c:CV}{v:Value}{E:List (List CC)}(h:fl m esz c=some E)(hd:bZ U w c v):
  ∃ad cap vs,v= .slice ad E.length cap/\E.length<=cap/\cap<=maxLen/\z7 U w esz (vN c) E ad vs:=by
 unfold fl at h;split at h
 .rename_i e elems;split at h
  .rename_i he;have he:e=esz:=aai he;subst he;cases h;cases hd with
   |nil _ a cap hc=>exact⟨_,_,[],rfl,aC,hc,aC,aC,aC,aC,aC⟩
   |sl _ _ b off cap u hS hl bc dn hc cq=>
    obtain⟨vs,DP⟩:=yF (U:=U) (w:=w) (esz:=e) (pos:=λ_ _=>none) (E:=elems.map λds=>ds.map .aa) (b:=b) (off:=off) (λcs eB=>by
     obtain⟨ds,yG,rfl⟩:=aak.1 eB;simpa using dn ds yG) (λi cs j c hi hj=>by
     rw[RA]at hi;cases eO:elems[i]? with
     |none=>rw[eO]at hi;cases hi
     |some ds=>
      rw[eO]at hi;cases hi;rw[RA]at hj;cases lA:ds[j]? with
      |none=>rw[lA]at hj;cases hj
      |some d=>
       rw[lA]at hj;cases hj;exact⟨_,hc i ds j d eO lA,cq i ds j d eO lA⟩)
    exact⟨_,cap,vs,aC,by simpa using hl,bc,DP⟩
  .cases h
 .rename_i id e lo hi;split at h
  .rename_i e2 rows hb;rw[aT]at hb;split at h
   .rename_i he jY;have he:e=esz:=aai he;have jY:e2=esz:=aai jY;subst he;subst jY;cases h;obtain⟨h2,h3,h4,h5,BC⟩:=hM.bk id _ hb;obtain⟨aD,d1,d2,d3,d4,ad,rfl,uN⟩:=hd;have hlen:(bV rows lo hi).length=hi.getD (U.aH (.al id)).len-lo:=by
     rw[jv];cases hi with
     |none=>simp[h2]
     |some h=>simp[h2];simp at d2;omega
    have lD:∀i cs,(bV rows lo hi)[i]? =some cs->rows[lo+i]? =some cs:=by
     intro i cs Ek;rw[jv]at Ek;rw[abp]at Ek;cases hi with
     |none=>exact Ek
     |some h=>
      rw[aa8]at Ek;split at Ek
      .exact Ek
      .cases Ek
    rw[<-hlen];rcases abu (bV rows lo hi).length with h0|h0
    .have Sf:=aag h0;refine⟨ad,_,[],rfl,om,om,?_⟩;rw[Sf];exact⟨aC,aC,aC,aC,aC⟩
    .have cH:0<(U.aH (.al id)).cap:=by clear BC;omega
     obtain⟨cur,bT,h1,cq⟩:=BC cH;rw[uN (by clear BC;omega)]
     obtain⟨vs,DP⟩:=yF (U:=U) (w:=w) (esz:=e2) (pos:=vN (.rv (.one (.row id e2 lo hi)))) (E:=bV rows lo hi) (b:=(U.aH (.al id)).b) (off:=(U.aH (.al id)).ar+lo*e2) (λcs eB=>by
      obtain⟨i,ew,U7⟩:=acA eB;have:=lD i cs (by rw[uX ew,U7])
      exact h5 cs (RD this)) (λi cs j c ew pu=>by
      obtain⟨u,hu,ct⟩:=cq (lo+i) cs j c (lD i cs ew) pu;refine⟨u,?_,ct⟩;rw[bT.cell,<-hu];congr 1;rw[abr];omega)
     exact⟨_,_,vs,rfl,by clear BC;omega,by clear BC;omega,DP⟩
   .cases h
  .cases h
 .cases h;obtain⟨ad,rfl⟩:=hd;exact⟨ad,0,[],rfl,aC,by unfold maxLen;omega,aC,aC,aC,aC,aC⟩
 .cases h
theorem z7.firstCells{esz:Nat}{pos:Nat->Nat->Option (Nat×Nat×Nat)}{E:List (List CC)}{ad:Option Addr}{vs:List Value}(h:z7 U w esz pos E ad vs)(cap k:Nat):
  (Builtin.firstCells esz E.length (.slice ad E.length cap)).run P (w.drewN k)= .ok vs.toArray (w.drewN k):=by
 rcases abu E.length with h0|h0
 .have hv:vs=[]:=aag (by rw[h.len,h0];simp)
  subst hv;rw[h0];cases ad<;>simp[Builtin.firstCells,loadCells,loadCellsFrom]
 .obtain⟨b,off,rfl,hc⟩:=h.Se h0;exact run_firstCells_some (P:=P) (w.drewN k) esz E.length ⟨b,off,none⟩ E.length cap vs h.len λj v hj=>by rw[l7];exact hc j v hj
theorem yH(m:Mem)(c:CV):(iT m c).length=m.length/\∀(id:Nat)b,(iT m c)[id]? =some b->b= .aS\/(m[id]? =some b/\¬∃e lo hi,c= .rv (.one (.row id e lo hi))):=by
 unfold iT;split
 .rename_i id e lo hi;rw[a8];refine⟨aC,λk b hb=>?_⟩
  by_cases hk:id=k
  .subst hk;have aD:id<m.length:=by
    rcases aad id m.length with h|h
    .exact h
    .rw[aaZ (by simpa using h)]at hb;cases hb
   rw[Tr aD]at hb;cases hb;exact .inl rfl
  .rw[WE hk]at hb;refine .inr ⟨hb,?_⟩;rintro⟨_,_,_,h⟩;cases h;exact hk rfl
 .rename_i jS;refine⟨rfl,λk b hb=>.inr ⟨hb,?_⟩⟩
  rintro⟨e,lo,hi,rfl⟩;exact jS _ _ _ _ rfl
def p9(c1 c2:CV)(n1:Nat)(i j:Nat):fY:=
 if i<n1 then(match vN c1 i j with|some (a,b,c)=>.sub a b c|none=>.al 0)
 else(match vN c2 (i-n1) j with|some (a,b,c)=>.sub a b c|none=>.al 0)
theorem lQ{esz:Nat}{c:CV}{E:List (List CC)}(h:fl m esz c=some E){i j:Nat}{cs:List CC}{s:Nat}{e:List (List Dt)}(hi:E[i]? =some cs)(hj:cs[j]? =some (.dV s e)):
  ∃id e0 lo ew,c= .rv (.one (.row id e0 lo ew))/\dM m id (lo+i) j s e:=by
 unfold fl at h;split at h
 .split at h
  .cases h;rw[RA]at hi;cases eO:(_:List (List Dt))[i]? with
   |none=>rw[eO]at hi;cases hi
   |some ds=>
    rw[eO]at hi;cases hi;rw[RA]at hj;cases lA:ds[j]? with
    |none=>rw[lA]at hj;cases hj
    |some d=>rw[lA]at hj;cases hj
  .cases h
 .rename_i id e0 lo ew;split at h
  .rename_i e2 rows hb;rw[aT]at hb;split at h
   .cases h;refine⟨id,e0,lo,ew,rfl,_,hb,.row (rows:=rows) (cs:=cs) ?_ hj⟩;rw[jv,abp]at hi;cases ew with
    |none=>exact hi
    |some h=>
     rw[aa8]at hi;split at hi
     .exact hi
     .cases hi
   .cases h
  .cases h
 .cases h;simp at hi
 .cases h
theorem o7{c:CV}{id e lo:Nat}{hi:Option Nat}(h:c= .rv (.one (.row id e lo hi)))(i j:Nat):vN c i j=some (id,lo+i,j):=by subst h;rfl
theorem El(hM:au U m w)(hE:bi U w aX a.tmps){t t2 ty e e2:TypeId}{i:TypeInfo}{z:List CC}{x y:Operand}{x' y':X}(ht:P.underlying t=some (.slice e))(vM:P.underlying t2=some (.slice e2))(hi:P.info? e=some i)(hz:dW P e=some z)(dn:i.size=z.length)(cH:0<z.length)(hb:0<i.bytes)(hx:bm x=some x')(hy:bm y=some y')(yI:(vu (x'.ev aX)&&Gu (x'.ev aX) (y'.ev aX))=true)(g1:ok (fl m i.size (x'.ev aX)) λE1=>ok (fl m i.size (y'.ev aX)) λE2=>(E1.length+E2.length)*i.bytes<=140737488355328/\nc m λn=>K (.rv (.one (.row n i.size 0 none))) (gh (iT (iT m (x'.ev aX)) (y'.ev aX)) [.row i.size (E1++E2)])):
  dh P (do pure (Next.value (<-Builtin.append_ #[t,t2] ty #[a.eval x,a.eval y]))) U m w K:=by
 have hd:=aR hE hx;have pG:=aR hE hy;generalize a.eval x=v at hd|-;generalize a.eval y=v2 at pG|-;generalize x'.ev aX=c1 at hd yI g1;generalize y'.ev aX=c2 at pG yI g1;rw[aab]at yI;obtain⟨jQ,dt⟩:=yI;obtain⟨E1,z8,g2⟩:=aZ.1 g1;obtain⟨E2,DQ,kn,g3⟩:=aZ.1 g2;rw[gx,bX]at g3;obtain⟨OT,ko,Ue,Em,U8,OU,F1⟩:=ni hM z8 hd;obtain⟨ad2,KY,KZ,uR,U9,Va,F2⟩:=ni hM DQ pG;have DN:=hz;simp only[dW,RX,N0]at DN;obtain⟨i',ew,zv,OV,OR⟩:=DN;rw[hi]at ew;cases ew;have Vb:zv.cells.size=i.size:=by have:=(eZ (U:=U) (w:=w) OR).1;rw[dn];simpa using this
 have Ej:E1.length+E2.length<=140737488355328:=abH (acM _ hb) kn;have cU:=ol (P:=P) (w:=w) (ty:=ty) ht vM hi OV (a0:=OT) (n1:=E1.length) (c1:=ko) (n2:=E2.length) (src:=v2) (olds:=Ue) (news:=KZ)
  (by rw[uR];rfl) (λk=>by rw[uR];exact F2.firstCells KY k) (λk=>F1.firstCells ko k) hb kn
 rw[<-Em]at cU;let D:Nat->Prop:=λid=>(∃e lo hi,c1= .rv (.one (.row id e lo hi)))\/(∃e lo hi,c2= .rv (.one (.row id e lo hi)))
 obtain⟨k1,k2⟩:=yH m c1;obtain⟨k3,k4⟩:=yH (iT m c1) c2;have H8:∀(id:Nat)b,(iT (iT m c1) c2)[id]? =some b->b= .aS\/(m[id]? =some b/\¬D id):=λid b hb=>by
  rcases k4 id b hb with h|⟨h,hn⟩
  .exact .inl h
  .rcases k2 id b h with h|⟨h,Ol⟩
   .exact .inl h
   .exact .inr ⟨h,λhD=>hD.elim Ol hn⟩
 let src:=p9 c1 c2 E1.length;have lE:∀cs,cs∈E1++E2->cs.length=i.size:=λcs eB=>(abD.1 eB).elim (F1.lE cs) (F2.lE cs)
 have iZ:∀{U':bF}{w':World},iz U w U' w'->(∀i j,U'.aH (.sub U.n i j)=U.aH (src i j))->
   ∀(k:Nat)cs(j:Nat)c,(E1++E2)[k]? =some cs->cs[j]? =some c->∃u,(Ue++KZ)[k*i.size+j]? =some u/\bh U' w' (some (U.n,k,j)) c u:=by
  intro U' w' g bM k cs j c hk hj;have na:j<i.size:=by rw[<-lE cs (RD hk)];exact(I4.1 hj).1
  have conv:∀(p:Option (Nat×Nat×Nat))u,bh U w p c u->(∀a b d,p=some (a,b,d)->a<U.n/\src k j= .sub a b d)->bh U' w' (some (U.n,k,j)) c u:=by
   intro p u ct hp;have h1:=ct.cm g (λa b d x5=>(hp a b d x5).1)
   cases c<;>try exact h1
   obtain⟨a,b,d,x5,qT⟩:=ct;obtain⟨_,hs⟩:=hp a b d x5;exact⟨U.n,k,j,rfl,by rw[bM,hs];exact qT⟩
  have Vc:∀{cc:CV}{vv:Value}{i j a b d:Nat},bZ U w cc vv->vN cc i j=some (a,b,d)->a<U.n:=by
   intro cc vv i j a b d OW hp;unfold vN at hp;split at hp
   .cases hp;exact OW.1
   .cases hp
  rcases aad k E1.length with aD|d7
  .rw[Yf aD]at hk;obtain⟨u,hu,ct⟩:=F1.jR k cs j c hk hj;refine⟨u,?_,conv _ u ct λa b d hp=>⟨Vc hd hp,by simp only[src,p9,if_pos aD,hp]⟩⟩
   rw[Yf]
   .exact hu
   .exact(I4.1 hu).1
  .rw[WH d7]at hk;obtain⟨u,hu,ct⟩:=F2.jR (k-E1.length) cs j c hk hj;refine⟨u,?_,conv _ u ct λa b d hp=>⟨Vc pG hp,by simp only[src,p9,if_neg (show ¬k<E1.length by omega),hp]⟩⟩
   rw[WH]
   .rw[<-hu];congr 1;rw[F1.len,adn];have:E1.length*i.size<=k*i.size:=abh _ d7;omega
   .rw[F1.len];have:E1.length*i.size<=k*i.size:=abh _ d7;omega
 have K2:∀(k:Nat)cs(j:Nat)s e,(E1++E2)[k]? =some cs->cs[j]? =some (.dV s e)->∃jX i' j',src k j= .sub jX i' j'/\D jX/\dM m jX i' j' s e:=by
  intro k cs j s e hk hj;rcases aad k E1.length with aD|d7
  .rw[Yf aD]at hk;obtain⟨id,e0,lo,ew,hc,ho⟩:=lQ z8 hk hj;exact⟨id,lo+k,j,by simp only[src,p9,if_pos aD,o7 hc],.inl ⟨_,_,_,hc⟩,ho⟩
  .rw[WH d7]at hk;obtain⟨id,e0,lo,ew,hc,ho⟩:=lQ DQ hk hj;exact⟨id,lo+(k-E1.length),j,by simp only[src,p9,if_neg (show ¬k<E1.length by omega),o7 hc],.inr ⟨_,_,_,hc⟩,ho⟩
 have oi:∀i j i' j',src i j=src i' j'->(∃cs s e,(E1++E2)[i]? =some cs/\cs[j]? =some (.dV s e))->(∃cs s e,(E1++E2)[i']? =some cs/\cs[j']? =some (.dV s e))->i=i'/\j=j':=by
  have side:∀k j,(∃cs s e,(E1++E2)[k]? =some cs/\cs[j]? =some (.dV s e))->
    (k<E1.length/\∃id e0 lo ew,c1= .rv (.one (.row id e0 lo ew))/\src k j= .sub id (lo+k) j)\/(E1.length<=k/\∃id e0 lo ew,c2= .rv (.one (.row id e0 lo ew))/\src k j= .sub id (lo+(k-E1.length)) j):=by
   rintro k j ⟨cs,s,e,hk,hj⟩;rcases aad k E1.length with aD|d7
   .rw[Yf aD]at hk;obtain⟨id,e0,lo,ew,hc,ho⟩:=lQ z8 hk hj;exact .inl ⟨aD,id,e0,lo,ew,hc,by simp only[src,p9,if_pos aD,o7 hc]⟩
   .rw[WH d7]at hk;obtain⟨id,e0,lo,ew,hc,ho⟩:=lQ DQ hk hj;exact .inr ⟨d7,id,e0,lo,ew,hc,by simp only[src,p9,if_neg (show ¬k<E1.length by omega),o7 hc]⟩
  intro k j k' j' hs hk fU;rcases side k j hk with⟨h1,id,e0,lo,u7,hc,Vd⟩|⟨h1,id,e0,lo,u7,hc,Vd⟩<;>rcases side k' j' fU with⟨h2,id2,e02,lo2,YE,vQ,K3⟩|⟨h2,id2,e02,lo2,YE,vQ,K3⟩
  .rw[hc]at vQ;injection vQ with vQ;injection vQ with vQ;injection vQ with q1 q2 q3 q4
   subst q3;rw[Vd,K3]at hs;injection hs with q5 q6 q7
   exact⟨om,q7⟩
  .rw[Vd,K3]at hs;injection hs with q5 q6 q7
   rw[hc,vQ]at dt;simp only[Gu,abP]at dt;exact absurd q5 (acs dt)
  .rw[Vd,K3]at hs;injection hs with q5 q6 q7
   rw[hc,vQ]at dt;simp only[Gu,abP]at dt;exact absurd q5.symm (acs dt)
  .rw[hc]at vQ;injection vQ with vQ;injection vQ with vQ;injection vQ with q1 q2 q3 q4
   subst q3;rw[Vd,K3]at hs;injection hs with q5 q6 q7
   exact⟨om,q7⟩
 have GG:∀(l:vl)i j,(U.move l src).aH (.sub U.n i j)=U.aH (src i j):=by intro l i j;simp[bF.move]
 have rd:∀(l:vl),(U.move l src).aH (.al m.length)=l:=by intro l;rw[<-hM.n];simp[bF.move]
 have OY:∀(l:vl),l.len=E1.length+E2.length->l.cap<=maxLen->l.len<=l.cap->∀ad,(0<l.cap->ad=some ⟨l.b,l.ar,none⟩)->∀w',bZ (U.move l src) w' (.rv (.one (.row m.length i.size 0 none))) (.slice ad (E1.length+E2.length) l.cap):=by
  intro l hl hc oh ad uN w';refine⟨by simp[bF.move,hM.n],aC,aC,by rw[rd];exact oh,by rw[rd];exact hc,ad,?_,?_⟩
  .rw[rd];simp[hl]
  .rw[rd];intro h0;rw[uN h0];simp
 by_cases nG:E1.length+E2.length<=ko
 .rw[if_pos nG]at cU;rcases abu ko with K4|K4
  ·
   have n1:E1.length=0:=om;have n2:E2.length=0:=om;have YF:KZ=[]:=aag (by rw[F2.len,n2];simp)
   subst YF;have lw:((yE OT (E1.length*i.size) []).run P w)= .ok () w:=by
    cases OT<;>simp[yE,storeCells]
   rw[lw]at cU;simp only[Result.andThen_ok]at cU;let l:vl:=⟨0,0,0,0⟩;obtain⟨jc,QW⟩:=hM.move (m1:=iT (iT m c1) c2) (D:=D) (esz:=i.size) (E:=E1++E2) (l:=l) (src:=src) (w':=w) (by rw[k3,k1]) H8 (Ts _) rfl rfl rfl (λ_ _ _=>rfl)
    (by simp[l]) (by simp[l,n1,n2]) (Ts _) (by simp[l]) lE (by simp[l]) K2 oi
   refine⟨_,_,w,_,_,_,by rw[Sem.run_bind,cU];rfl,.inl rfl,g3,jc,?_,QW⟩
   have:=OY l (by simp[l,n1,n2]) (by simp[l]) (Ts _) OT (by simp[l]) w
   rw[K4];exact this
  ·
   have nS:∃id lo ew,c1= .rv (.one (.row id i.size lo ew))/\Live U m (.al id)/\OT=some ⟨(U.aH (.al id)).b,(U.aH (.al id)).ar+lo*i.size,none⟩/\ko=(U.aH (.al id)).cap-lo/\
     ∃cur,l6 (i.size=1) w (U.aH (.al id)).b cur/\(U.aH (.al id)).ar+(U.aH (.al id)).cap*i.size<=cur.size:=by
    unfold fl at z8;split at z8
    .simp[vu]at jQ
    .rename_i id e0 lo ew;split at z8
     .rename_i e2' rows de;rw[aT]at de;split at z8
      .rename_i q1 q2;have q1:e0=i.size:=aai q1;have q2:e2'=i.size:=aai q2;subst q1;rw[q2]at de;obtain⟨r2,r3,r4,r5,H9⟩:=hM.bk id _ de;obtain⟨aD,d1,d2,d3,d4,ad,OZ,uN⟩:=hd;rw[OZ]at Em;injection Em with YG acK Ve
       have uP:0<(U.aH (.al id)).cap:=by clear H9;omega
       obtain⟨cur,bT,h1,_⟩:=H9 uP;exact⟨id,lo,ew,rfl,⟨_,de,aC,λ_=>uP⟩,by rw[<-YG];exact uN (by clear H9;omega),Ve.symm,cur,bT,h1⟩
      .cases z8
     .cases z8
    .cases z8;obtain⟨ad,OZ⟩:=hd;rw[OZ]at Em;injection Em with _ _ Ve
     omega
    .cases z8
   obtain⟨id,lo,ew,rfl,b7,rfl,GH,cur,bT,eB⟩:=nS;have gY:lo+ko=(U.aH (.al id)).cap:=om;have hbound:(U.aH (.al id)).ar+lo*i.size+ko*i.size<=cur.size:=by have:(lo+ko)*i.size=lo*i.size+ko*i.size:=abr ..;rw[<-gY,this]at eB;omega
   have YH:E1.length*i.size+E2.length*i.size<=ko*i.size:=by rw[<-abr];exact abh _ nG
   obtain⟨w',gH,lw,q8,Uf,YI,fU⟩:=nh (P:=P) (U.aH (.al id)).b ((U.aH (.al id)).ar+lo*i.size+E1.length*i.size) KZ 0 cur w bT (by rw[F2.len];omega) F2.one
   have yD:(Builtin.append_ #[t,t2] ty #[v,v2]).run P w= .ok (.slice (some ⟨(U.aH (.al id)).b,(U.aH (.al id)).ar+lo*i.size,none⟩) (E1.length+E2.length) ko) w':=by rw[cU];simp only[yE,l7];rw[lw];rfl
   let l:vl:=⟨(U.aH (.al id)).b,(U.aH (.al id)).ar+lo*i.size,E1.length+E2.length,ko⟩;have bY:=hM.aQ _ b7;obtain⟨jc,QW⟩:=hM.move (m1:=iT (iT m (.rv (.one (.row id i.size lo ew)))) c2) (D:=D) (esz:=i.size) (E:=E1++E2) (l:=l) (src:=src) (w':=w') (by rw[k3,k1]) H8 (Nat.le_of_eq Uf.size.symm) Uf.os Uf.tape Uf.output
    (λb hb hn=>Uf.heap b λe=>hn id (.inl ⟨_,_,_,rfl⟩) b7 e.symm) (λ_=>⟨by rw[Uf.size];exact bY.1,.inr ⟨id,.inl ⟨_,_,_,rfl⟩,b7,rfl⟩⟩) (by simp[l]) nG OU lE
    (λg _=>⟨gH,q8,by rw[YI];exact hbound,λk cs j c hk hj=>by
     obtain⟨u,hu,ct⟩:=iZ g (GG l) k cs j c hk hj;refine⟨u,?_,ct⟩;rw[fU];simp only[l,acm];have aD:=(I4.1 hu).1;rw[aba,F1.len,F2.len]at aD;rcases aad (k*i.size+j) (E1.length*i.size)with yB|yB
     .rw[if_neg om];rw[Yf (by rw[F1.len];exact yB)]at hu
      obtain⟨b',acL,Sg,hrd⟩:=F1.Se (by
       rcases abu E1.length with h0|h0
       .rw[h0]at yB;simp at yB
       .exact h0)
      injection Sg with Sg
      injection Sg with Vf fx
      have hh:=hrd _ u hu;rw[<-Vf,<-fx,bT.cell]at hh;rw[<-hh];congr 1;omega
     .rw[if_pos (by rw[F2.len];omega)]
      rw[WH (by rw[F1.len];exact yB)]at hu
      rw[<-hu];congr 1;rw[F1.len];omega⟩) K2 oi
   refine⟨_,_,w',_,_,_,by rw[Sem.run_bind,yD];rfl,.inl rfl,g3,jc,?_,QW⟩
   exact OY l rfl OU nG _ (λ_=>rfl) w'
 ·
  rw[if_neg nG]at cU;have d7:=grownCap_ge w (E1.length+E2.length) ko e;have Vg:grownCap w (E1.length+E2.length) ko e<=maxLen:=grownCap_le_maxLen w _ ko e (by unfold maxLen;omega)
  let cells:Array Value:=Ue.toArray++KZ.toArray++Builtin.zeroCells zv.cells (grownCap w (E1.length+E2.length) ko e-(E1.length+E2.length));let l:vl:=⟨w.heap.size,0,E1.length+E2.length,grownCap w (E1.length+E2.length) ko e⟩;have Vh:cells.size=grownCap w (E1.length+E2.length) ko e*i.size:=by simp only[cells,Array.size_append,List.size_toArray,F1.len,F2.len,size_zeroCells,Vb,<-Nat.add_mul];congr 1;omega
  have mE:l6 (i.size=1) (w.drew.alloc (.cells cells e)) w.heap.size cells:=l6.new w.drew cells e;obtain⟨jc,QW⟩:=hM.move (m1:=iT (iT m c1) c2) (D:=D) (esz:=i.size) (E:=E1++E2) (l:=l) (src:=src) (w':=w.drew.alloc (.cells cells e)) (by rw[k3,k1]) H8 aC rfl rfl rfl
   (λb hb _=>heap_alloc_old w.drew _ b hb) (λ_=>⟨mE.lt,.inl (Ts _)⟩) (by simp[l]) d7 Vg lE
   (λg _=>⟨cells,mE,by simp only[l,abb];rw[Vh];exact Ts _,λk cs j c hk hj=>by
    obtain⟨u,hu,ct⟩:=iZ g (GG l) k cs j c hk hj;refine⟨u,?_,ct⟩;have aD:=(I4.1 hu).1;simp only[l,abb,cells];rw[acg (by simpa using aD)]
    simpa using hu⟩) K2 oi
  refine⟨_,_,_,_,_,_,by rw[Sem.run_bind,cU];rfl,.inl rfl,g3,jc,?_,QW⟩
  exact OY l rfl Vg d7 _ (λ_=>rfl) _
end
end Go.AM
