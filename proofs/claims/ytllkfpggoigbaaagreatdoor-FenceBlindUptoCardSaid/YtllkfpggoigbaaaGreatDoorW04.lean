/- Part 4 of 23. -/
import Derived.Test.YtllkfpggoigbaaaGreatDoorW03
import Derived.ChangeKeysEq
import Derived.Laws.StructEq
set_option linter.unusedVariables false
set_option linter.unusedSimpArgs false
set_option linter.unnecessarySimpa false
set_option maxRecDepth 100000
set_option maxHeartbeats 0
namespace Go.AM
section
variable {P:Program} {ρ:b9} {m:Mem} {w:World} {ba:List CV} {a:Act} {K:CV->Mem->Prop}
def kF:List Kd->List Value->List Value->Option Bool
 | [],[],[]=>some true
 |k::ks,a::r,b::s=>match SC k a b,kF ks r s with
  |some x,some y=>some (x&&y)
  |_,_=>none
 |_,_,_=>none
theorem qy:∀{ks:List Kd}{a b:List Value}{r:Bool},kF ks a b=some r->a.length=ks.length/\b.length=ks.length
 | [],[],[],r,h=>⟨rfl,rfl⟩
 | [],[],_::_,r,h=>by simp[kF]at h
 | [],_::_,_,r,h=>by simp[kF]at h
 |k::ks,[],_,r,h=>by simp[kF]at h
 |k::ks,_::_,[],r,h=>by simp[kF]at h
 |k::ks,a::l,b::l',r,h=>by
  simp only[kF]at h;split at h
  .rename_i x y hx hy;obtain⟨h1,h2⟩:=qy hy;exact⟨by simp[h1],by simp[h2]⟩
  .cases h
theorem wq:∀{ks ls:List Kd}{u v:List Value}{r:Bool},kF (ks++ls) u v=some r->
  ∃u1 u2 v1 v2 x y,u=u1++u2/\v=v1++v2/\kF ks u1 v1=some x/\kF ls u2 v2=some y/\r=(x&&y)
 | [],ls,u,v,r,h=>⟨[],u,[],v,true,r,rfl,rfl,rfl,h,aG⟩
 |k::ks,ls,[],v,r,h=>by simp[kF]at h
 |k::ks,ls,_::_,[],r,h=>by simp[kF]at h
 |k::ks,ls,a::l,b::l',r,h=>by
  simp only[afH,kF]at h;split at h
  .rename_i x y hx hy;cases h;obtain⟨u1,u2,v1,v2,x1,y1,rfl,rfl,h1,h2,rfl⟩:=wq hy;exact⟨a::u1,u2,b::v1,v2,x&&x1,y1,rfl,rfl,by simp[kF,hx,h1],h2,by simp[Bool.and_assoc]⟩
  .cases h
def rS(P:Program)(t:TypeId)(us:List Value):Value:=if fl P t=some true then .agg us.toArray else us.headD Go.undef
theorem tn{t:TypeId}{pre us post:List Value}(hs:fE P t=some us.length)(ha:fl P t=some true\/(fl P t=some false/\us.length=1)):
  (part t (pre++(us++post)).toArray pre.length).run P w= .ok (rS P t us) w:=by
 unfold part rS;rcases ha with ha|⟨ha,h1⟩
 .rw[Sem.run_bind,rh ha];simp only[Result.andThen_ok,if_true,ha];rw[Sem.run_bind,gv hs];simp only[Result.andThen_ok,Sem.run_pure];congr 2;apply adH;simp
 .rw[Sem.run_bind,rh ha]
  match us,h1 with
  | [u],_=>
   simp[ha]
theorem tp:∀(d:Nat)(t:TypeId)(ks:List Kd),flatK P d t=some ks->fE P t=some ks.length/\(fl P t=some true\/(fl P t=some false/\ks.length=1))/\
  ∀(k:Nat),d<=k->∀(us vs:List Value)(b:Bool),kF ks us vs=some b->(Op.equalIn k t (rS P t us) (rS P t vs)).run P w= .ok b w
 |0,t,ks,h=>by simp[flatK]at h
 |d+1,t,ks,h=>by
  simp only[flatK]at h;have plain:∀kd,ks=[kd]->fE P t=some 1->fl P t=some false->(∀(k:Nat)(x y:Value)b,SC kd x y=some b->(Op.equalIn (k+1) t x y).run P w= .ok b w)->
    fE P t=some ks.length/\(fl P t=some true\/(fl P t=some false/\ks.length=1))/\
    ∀(k:Nat),d+1<=k->∀(us vs:List Value)(b:Bool),kF ks us vs=some b->(Op.equalIn k t (rS P t us) (rS P t vs)).run P w= .ok b w:=by
   rintro kd rfl hs ha fv;refine⟨hs,.inr ⟨ha,rfl⟩,λk hk us vs b he=>?_⟩
   obtain⟨h1,h2⟩:=qy he
   match us,vs,h1,h2 with
   | [x],[y],_,_=>
    obtain⟨k,rfl⟩:∃k',k=k'+1:=⟨k-1,om⟩;simp only[rS,ha];simp only[kF]at he;split at he
    .rename_i p q hp hq;cases he;cases hq;simp only[afm];exact fv k x y p hp
    .cases he
  split at h
  .rename_i hu;split at h
   .cases h;refine plain .b rfl (by assumption) (by simp[fl,hu]) λk x y b he=>?_
    cases x<;>cases y<;>simp only[SC]at he<;>try(cases he;done)
    cases he;simp[Op.equalIn,run_underlying hu]
   .cases h
  .rename_i kk hu;split at h
   .cases h;refine plain .i rfl (by assumption) (by simp[fl,hu]) λk x y b he=>?_
    cases x<;>cases y<;>simp only[SC]at he<;>try(cases he;done)
    rename_i k1 a k2 b';by_cases hk:k1=k2
    .subst hk;simp at he;subst he;simp[Op.equalIn,run_underlying hu]
    .rw[decide_eq_false hk]at he;cases he
   .cases h
  .rename_i hu;split at h
   .cases h;refine plain .s rfl (by assumption) (by simp[fl,hu]) λk x y b he=>?_
    cases x<;>cases y<;>simp only[SC]at he<;>try(cases he;done)
    cases he;simp[Op.equalIn,run_underlying hu,beq_toListBytes]
   .cases h
  .rename_i fs hu;split at h
   .rename_i wZ;split at h
    .rename_i ks0 hf;split at h
     .rename_i eu;cases h;have ha:fl P t=some true:=by simp[fl,hu]
      refine⟨eu,.inl ha,λk hk us vs b he=>?_⟩
      obtain⟨k,rfl⟩:∃k',k=k'+1:=⟨k-1,om⟩;have Ox:P.fieldsOf t=fs:=by simp[Program.fieldsOf,hu]
      simp only[rS,ha,if_true];rw[run_equalIn_struct w k t us.toArray vs.toArray (by rw[Ox];exact hu) wZ,Ox]
      have key:∀(l:List Field)(pre tq:List Value)(ls:List Kd)(us vs:List Value)(b:Bool),pre.length=tq.length->DT (flatK P d) l pre.length=some ls->kF ls us vs=some b->
        (Op.eqFields k (pre++us).toArray (tq++vs).toArray l).run P w= .ok b w:=by
       intro l
       induction l with
       |nil=>
        intro pre tq ls us vs b _ uW he;simp[DT]at uW;subst uW;obtain⟨h1,h2⟩:=qy he;cases us<;>cases vs<;>simp[kF]at he h1 h2
        subst he;simp[Op.eqFields]
       |cons f l ih=>
        intro pre tq ls us vs b Z3 uW he;simp only[DT]at uW;split at uW
        .rename_i hc;split at uW
         .rename_i ks1 lP;split at uW
          .rename_i ls1 sx;cases uW;obtain⟨u1,u2,v1,v2,x,y,rfl,rfl,GM,pW,rfl⟩:=wq he;obtain⟨g1,g2,g3⟩:=tp d f.type ks1 lP;obtain⟨e1,e2⟩:=qy GM;simp only[Op.eqFields];rw[if_pos hc.1,hc.2];rw[Sem.run_bind,tn (by rw[g1,e1]) (by rw[e1];exact g2)]
           simp only[Result.andThen_ok];rw[Sem.run_bind,Z3,tn (by rw[g1,e2]) (by rw[e2];exact g2)]
           simp only[Result.andThen_ok];rw[Sem.run_bind,g3 k om u1 v1 x GM];simp only[Result.andThen_ok];have:=ih (pre++u1) (tq++v1) ls1 u2 v2 y (by simp[Z3,e1,e2]) (by rw[acs,e1];exact sx) pW
           simp only[adN]at this;cases x
           .simp
           .simpa using this
          .cases uW
         .cases uW
        .cases uW
      have:=key fs.toList [] [] ks us vs b rfl hf he;simpa using this
     .cases h
    .cases h
   .cases h
  .cases h
theorem qz:∀{ks:List Kd}{cs ds:List CC}{b:Bool}{us vs:List Value},lW ks cs ds=some b->us.length=cs.length->vs.length=ds.length->
  (∀(i:Nat)c,cs[i]? =some c->∃u,us[i]? =some u/\bJ ρ w .none c u)->(∀(i:Nat)c,ds[i]? =some c->∃u,vs[i]? =some u/\bJ ρ w .none c u)->kF ks us vs=some b
 | [],[],[],b,us,vs,h,h1,h2,_,_=>by simp at h1 h2;subst h1 h2;simpa[lW,kF]using h
 | [],[],_::_,b,us,vs,h,h1,h2,_,_=>by simp[lW]at h
 | [],_::_,_,b,us,vs,h,h1,h2,_,_=>by simp[lW]at h
 |k::ks,[],_,b,us,vs,h,h1,h2,_,_=>by simp[lW]at h
 |k::ks,c::cs,[],b,us,vs,h,h1,h2,_,_=>by cases c<;>simp[lW]at h
 |k::ks,c::cs,d::ds,b,us,vs,h,h1,h2,g1,g2=>by
  unfold lW at h;split at h
  .cases ‹_::_=[]›
  .rename_i k' ks' x r y s e1 e2 e3;cases e1;cases e2;cases e3;split at h
   .rename_i p q hp hq;cases h
    match us,vs,h1,h2 with
    |u::us,v::vs,h1,h2=>
     obtain⟨u',hu,cP⟩:=g1 0 _ rfl;obtain⟨v',hv,z8⟩:=g2 0 _ rfl;simp at hu hv;subst hu hv;obtain⟨rfl,_⟩:=cf cP (λe=>by subst e;cases k<;>simp[SC]at hp)
     obtain⟨rfl,_⟩:=cf z8 (λe=>by subst e;cases k<;>cases u<;>simp[SC]at hp)
     have:=qz (us:=us) (vs:=vs) hq (by simpa using h1) (by simpa using h2) (λi c hi=>by simpa using g1 (i+1) c (by simpa using hi)) (λi c hi=>by simpa using g2 (i+1) c (by simpa using hi))
     simp[kF,hp,this]
   .cases h
  .cases h
theorem AY(hM:aN ρ m w)(hE:bu ρ w ba a.tmps){neg:Bool}{t:TypeId}{fs:Array Field}{ks:List Kd}{x y:Operand}{x' y':X}(ht:P.underlying t=some (.struct fs))(hg:P.eqGuardType P.depth t=false)(hk:flatK P 5 t=some ks)(hx:bG x=some x')(hy:bG y=some y')(h:step P (.Sz neg ks x' y') ba m K):eM P (do let v<-(do eqGuard (if neg then .neq else .eql) t x y (a.eval x) (a.eval y);binOp (if neg then .neq else .eql) t (a.eval x) (a.eval y));pure (Next.value v)) ρ m w K:=by
 have hd:=aU hE hx;have rR:=aU hE hy;simp only[step]at h;generalize a.eval x=v at hd|-;generalize a.eval y=u at rR|-;generalize x'.ev ba=c at hd h;generalize y'.ev ba=d at rR h;split at h
 .split at h
  .obtain⟨us,rfl,l1,d1⟩:=hd;obtain⟨vs,rfl,l2,d2⟩:=rR;obtain⟨b,he,hK⟩:=be.1 h;have Vt:=qz he l1 l2 d1 d2;have fv:=(tp (w:=w) 5 t ks hk).2.2 10000 om us vs b Vt;have ha:fl P t=some true:=by simp[fl,ht]
   simp only[rS,ha,if_true]at fv;refine eM.pure hM (v:=_) ?_ hK (cS rfl);rw[Sem.run_bind,Sem.run_bind,run_eqGuard_agg w _ t x y _ _ hg];cases neg
   .simp only[Result.andThen_ok,adz,if_false,run_eql_struct,fv,Sem.run_pure]
   .simp only[Result.andThen_ok,if_true,run_neq_struct,fv,Sem.run_pure]
  .exact h.elim
 .exact h.elim
theorem tt{e:TypeId}{kk:IntKind}(hu:P.underlying e=some (.int kk))(hs:fE P e=some 1)(d:Nat):∀(us vs pre tq:List Value)(b:Bool),pre.length=tq.length->kF (iu us.length .i) us vs=some b->
  (Op.eqItems (d+1) e 1 (pre++us).toArray (tq++vs).toArray (List.range' pre.length us.length)).run P w= .ok b w
 | [],[],pre,tq,b,_,he=>by simp[iu,kF]at he;subst he;simp[Op.eqItems]
 | [],v::vs,pre,tq,b,_,he=>by simp[iu,kF]at he
 |u::us,[],pre,tq,b,_,he=>by simp[iu,kF]at he
 |u::us,v::vs,pre,tq,b,hp,he=>by
  have ha:fl P e=some false:=by simp[fl,hu]
  simp only[aaY,iu,kF]at he;split at he
  .rename_i x y hx hy;cases he;have ih:=tt hu hs d us vs (pre++ [u]) (tq++ [v]) y (by simp[hp]) hy
   have p1:=tn (w:=w) (t:=e) (pre:=pre) (us:=[u]) (post:=us) hs (.inr ⟨ha,rfl⟩);have p2:=tn (w:=w) (t:=e) (pre:=tq) (us:=[v]) (post:=vs) hs (.inr ⟨ha,rfl⟩);simp only[rS,ha,List.singleton_append]at p1 p2;have p3:(Op.equalIn (d+1) e u v).run P w= .ok x w:=by
    cases u<;>cases v<;>simp only[SC]at hx<;>try(cases hx;done)
    rename_i k1 a k2 b';by_cases hk:k1=k2
    .subst hk;simp at hx;subst hx;simp[Op.equalIn,run_underlying hu]
    .rw[decide_eq_false hk]at hx;cases hx
   simp only[aaY,aeJ,Op.eqItems,Sem.run_bind,Nat.mul_one];rw[p1];simp only[Result.andThen_ok];rw[hp,p2];simp only[Result.andThen_ok,abi,adz,if_false,List.headD_cons];rw[p3];simp only[Result.andThen_ok];cases x
   .simp
   .simp only[afn,adz,if_false,adJ];rw[<-hp];simpa using ih
  .cases he
theorem yb(hM:aN ρ m w)(hE:bu ρ w ba a.tmps){neg:Bool}{t e:TypeId}{n:Nat}{kk:IntKind}{x y:Operand}{x' y':X}(ht:P.underlying t=some (.array n e))(hg:P.eqGuardType P.depth t=false)(hu:P.underlying e=some (.int kk))(hs:fE P e=some 1)(hx:bG x=some x')(hy:bG y=some y')(h:step P (.Sz neg (iu n .i) x' y') ba m K):eM P (do let v<-(do eqGuard (if neg then .neq else .eql) t x y (a.eval x) (a.eval y);binOp (if neg then .neq else .eql) t (a.eval x) (a.eval y));pure (Next.value v)) ρ m w K:=by
 have hd:=aU hE hx;have rR:=aU hE hy;simp only[step]at h;generalize a.eval x=v at hd|-;generalize a.eval y=u at rR|-;generalize x'.ev ba=c at hd h;generalize y'.ev ba=d at rR h;split at h
 .split at h
  .obtain⟨us,rfl,l1,d1⟩:=hd;obtain⟨vs,rfl,l2,d2⟩:=rR;obtain⟨b,he,hK⟩:=be.1 h;have Vt:=qz he l1 l2 d1 d2;obtain⟨e1,e2⟩:=qy Vt;have hn:us.length=n:=by rw[e1,gn];simp
   have hs':=hs;simp only[fE,aba]at hs';obtain⟨i,hi,Vr⟩:=hs';have hc:P.cellsOf e=1:=by simp[Program.cellsOf,hi,Vr]
   have fv:=tt (w:=w) hu hs 9998 us vs [] [] b rfl (by rw[hn];exact Vt)
   simp only[aeP,acg]at fv;have AZ:(Op.equalIn 10000 t (.agg us.toArray) (.agg vs.toArray)).run P w= .ok b w:=by rw[run_equalIn_array w 9999 _ _ ht hi,hc,<-hn,List.range_eq_range'];exact fv
   refine eM.pure hM (v:=_) ?_ hK (cS rfl);rw[Sem.run_bind,Sem.run_bind,run_eqGuard_agg w _ t x y _ _ hg];cases neg
   .simp only[Result.andThen_ok,adz,if_false,run_eql_struct,AZ,Sem.run_pure]
   .simp only[Result.andThen_ok,if_true,run_neq_struct,AZ,Sem.run_pure]
  .exact h.elim
 .exact h.elim
end
section
variable {P:Program} {ρ:b9} {m:Mem} {w:World} {ba:List CV} {a:Act} {K:CV->Mem->Prop}
def b9.move(ρ:b9)(l:Ag)(src:Nat->Nat->lA):b9:=
 {n:=ρ.n+1
  aW:=λk=>match k with
   | .aA id=>if id=ρ.n then l else ρ.aW (.aA id)
   | .sub id i j=>if id=ρ.n then ρ.aW (src i j)else ρ.aW (.sub id i j)
  S:=ρ.S}
theorem aN.move{w':World}(hM:aN ρ m w){m1:Mem}{D:Nat->Prop}{esz:Nat}{E:List (List CC)}{l:Ag}{src:Nat->Nat->lA}(hlen:m1.length=m.length)(Lp:∀(id:Nat)b,m1[id]? =some b->b= .aE\/(m[id]? =some b/\¬D id))(eu:w.heap.size<=w'.heap.size)(R6:w'.os=w.os)(Z4:w'.tape=w.tape)(ib:w'.output=w.output)(nl:∀b,b<w.heap.size->(∀id,D id->Live ρ m (.aA id)->(ρ.aW (.aA id)).b≠b)->w'.heap[b]? =w.heap[b]?)(hl:0<l.cap->l.b<w'.heap.size/\(w.heap.size<=l.b\/∃id,D id/\Live ρ m (.aA id)/\(ρ.aW (.aA id)).b=l.b))(hE:E.length=l.len)(uK:l.len<=l.cap)(bF:l.cap<=maxLen)(oR:∀cs,cs∈E->cs.length=esz)(fg:j7 ρ w (ρ.move l src) w'->0<l.cap->∃cur,nN (esz=1) w' l.b cur/\l.aB+l.cap*esz<=cur.size/\
   ∀(i:Nat)cs(j:Nat)c,E[i]? =some cs->cs[j]? =some c->∃u,cur[l.aB+i*esz+j]? =some u/\bJ (ρ.move l src) w' (some (ρ.n,i,j)) c u)(ol:∀(i:Nat)cs(j:Nat)s e,E[i]? =some cs->cs[j]? =some (.jj s e)->∃lO i' j',src i j= .sub lO i' j'/\D lO/\ir m lO i' j' s e)(uX:∀i j i' j',src i j=src i' j'->(∃cs s e,E[i]? =some cs/\cs[j]? =some (.jj s e))->(∃cs s e,E[i']? =some cs/\cs[j']? =some (.jj s e))->i=i'/\j=j'):
  aN (ρ.move l src) (m1++ [.row esz E]) w'/\Ext ρ m w (ρ.move l src) (m1++ [.row esz E]) w':=by
 have hn:=hM.n;have old:∀k:lA,k.id<ρ.n->(ρ.move l src).aW k=ρ.aW k:=by
  intro k hk;cases k with
  |aA id=>simp only[b9.move];rw[if_neg (by simp only[lA.id]at hk;omega)]
  |sub id i j=>simp only[b9.move];rw[if_neg (by simp only[lA.id]at hk;omega)]
 have yc:(ρ.move l src).aW (.aA ρ.n)=l:=by simp[b9.move]
 have Ak:∀i j,(ρ.move l src).aW (.sub ρ.n i j)=ρ.aW (src i j):=by intro i j;simp[b9.move]
 have Cg:∀b,ρ.S b->w'.heap[b]? =w.heap[b]? :=λb hb=>nl b (hM.S b hb) λid _ bR e=>(hM.aF _ bR).2 (e▸hb)
 have g:j7 ρ w (ρ.move l src) w':=⟨by simp[b9.move],old,λb hb=>hb,Cg⟩
 have get:∀{id:Nat}{b:Bk},(m1++ [.row esz E])[id]? =some b->(id<ρ.n/\(b= .aE\/(m[id]? =some b/\¬D id)))\/(id=ρ.n/\b= .row esz E):=by
  intro id b hb;rcases aaD id m1.length with h|h
  .rw[aaM h]at hb;exact .inl ⟨om,Lp id b hb⟩
  .rw[aaO h]at hb;have:id-m1.length=0:=by
    rcases acO (id-m1.length)with h0|h0
    .exact h0
    .rw[abk (by simp;omega)]at hb;cases hb
   rw[this]at hb;exact .inr ⟨om,by simpa using hb.symm⟩
 have mA:∀{id i j s e},ir (m1++ [.row esz E]) id i j s e->(id<ρ.n/\¬D id/\ir m id i j s e)\/
   (id=ρ.n/\(∃cs s e,E[i]? =some cs/\cs[j]? =some (.jj s e))/\∃lO i' j',src i j= .sub lO i' j'/\D lO/\ir m lO i' j' s e):=by
  rintro id i j s e ⟨es,rows,cs,wb,hi,hj⟩;rcases get wb with⟨ay,hb|⟨hb,hD⟩⟩|⟨rfl,hb⟩
  .cases hb
  .exact .inl ⟨ay,hD,es,rows,cs,hb,hi,hj⟩
  .injection hb with wt lY
   subst wt lY;exact .inr ⟨rfl,⟨cs,_,_,hi,hj⟩,ol i cs j s e hi hj⟩
 have ff:∀k,Live (ρ.move l src) (m1++ [.row esz E]) k->
   (k.id<ρ.n/\¬D k.id/\Live ρ m k)\/(k= .aA ρ.n/\0<l.cap)\/
   (∃i j,k= .sub ρ.n i j/\(∃cs s e,E[i]? =some cs/\cs[j]? =some (.jj s e))/\Live ρ m (src i j)/\D (src i j).id/\∃a b c,src i j= .sub a b c):=by
  intro k hk;cases k with
  |aA id=>
   obtain⟨b,hb,gj,Aa⟩:=hk;rcases get hb with⟨ay,rfl|⟨hb,hD⟩⟩|⟨rfl,rfl⟩
   .exact absurd rfl gj
   .rw[old (.aA id) ay]at Aa;exact .inl ⟨ay,hD,b,hb,gj,Aa⟩
   .rw[yc]at Aa;exact .inr (.inl ⟨rfl,Aa ⟨_,_,rfl⟩⟩)
  |sub id i j=>
   obtain⟨⟨s,e,ho⟩,Aa⟩:=hk;rcases mA ho with⟨ay,hD,ho⟩|⟨rfl,li,lO,i',j',hs,hD,ho⟩
   .rw[old (.sub id i j) ay]at Aa;exact .inl ⟨ay,hD,⟨s,e,ho⟩,Aa⟩
   .rw[Ak]at Aa;exact .inr (.inr ⟨i,j,rfl,li,by rw[hs]at Aa|-;exact⟨⟨s,e,ho⟩,Aa⟩,by rw[hs];exact hD,_,_,_,hs⟩)
 have eX:∀k,Live ρ m k->(k.id<ρ.n/\¬D k.id)\/(∃a b c,k= .sub a b c)->w'.heap[(ρ.aW k).b]? =w.heap[(ρ.aW k).b]? :=by
  intro k hk uL;refine nl _ (hM.aF k hk).1 λid hD bR e=>?_
  have:=hM.inj _ _ bR hk e;rcases uL with⟨_,hnD⟩|⟨_,_,_,rfl⟩
  .exact hnD (by rw[<-this];exact hD)
  .cases this
 refine⟨⟨by simp[b9.move,hn,hlen],λb hb=>abV (hM.S b hb) eu,?_,?_,?_,?_⟩,
  ⟨by simp[b9.move],λid hid=>old (.aA id) hid,λb hb=>hb,λb hb=>.inl hb,?_,?_,eu,R6,Z4,ib⟩⟩
 .intro k hk;rcases ff k hk with⟨ay,_,hk⟩|⟨rfl,hc⟩|⟨i,j,rfl,_,hk,_⟩
  .rw[old k ay];exact⟨abV (hM.aF k hk).1 eu,(hM.aF k hk).2⟩
  .rw[yc];obtain⟨h1,h2⟩:=hl hc;refine⟨h1,λhs=>?_⟩
   rcases h2 with h2|⟨id,hD,bR,e⟩
   .have:=hM.S _ hs;omega
   .exact(hM.aF _ bR).2 (e▸hs)
  .rw[Ak];exact⟨abV (hM.aF _ hk).1 eu,(hM.aF _ hk).2⟩
 ·
  have Ch:0<l.cap->∀k,Live ρ m k->(k.id<ρ.n/\¬D k.id)\/(∃a b c,k= .sub a b c)->(ρ.aW k).b≠l.b:=by
   intro hc k hk uL e;obtain⟨h1,h2⟩:=hl hc;rcases h2 with h2|⟨id,hD,bR,e2⟩
   .have:=(hM.aF k hk).1;omega
   .have:=hM.inj _ _ bR hk (e2.trans e.symm);rcases uL with⟨_,hnD⟩|⟨_,_,_,rfl⟩
    .exact hnD (by rw[<-this];exact hD)
    .cases this
  intro k k' hk jd he;rcases ff k hk with⟨ay,hD,hk⟩|⟨rfl,hc⟩|⟨i,j,rfl,hx,hk,hDs,sy⟩<;>rcases ff k' jd with⟨qx,Z5,jd⟩|⟨rfl,tm⟩|⟨i',j',rfl,w9,jd,aeA,Z6⟩
  .rw[old k ay,old k' qx]at he;exact hM.inj k k' hk jd he
  .rw[old k ay,yc]at he;exact absurd he (Ch tm k hk (.inl ⟨ay,hD⟩))
  .rw[old k ay,Ak]at he;have:=hM.inj _ _ hk jd he;exact absurd (by rw[this];exact aeA) hD
  .rw[old k' qx,yc]at he;exact absurd he.symm (Ch hc k' jd (.inl ⟨qx,Z5⟩))
  .rfl
  .rw[yc,Ak]at he;exact absurd he.symm (Ch hc _ jd (.inr Z6))
  .rw[old k' qx,Ak]at he;have:=hM.inj _ _ hk jd he;exact absurd (by rw[<-this];exact hDs) Z5
  .rw[yc,Ak]at he;exact absurd he (Ch tm _ hk (.inr sy))
  .rw[Ak,Ak]at he;obtain⟨rfl,rfl⟩:=uX i j i' j' (hM.inj _ _ hk jd he) hx w9;rfl
 .intro id b hb;rcases get hb with⟨ay,rfl|⟨hb,hD⟩⟩|⟨rfl,rfl⟩
  .trivial
  .exact(hM.bk id b hb).dg g ay λgj Aa=>eX (.aA id) ⟨b,hb,gj,Aa⟩ (.inl ⟨ay,hD⟩)
  .exact⟨by rw[yc];exact hE,by rw[yc];exact uK,by rw[yc];exact bF,oR,λhc=>by rw[yc]at hc|-;exact fg g hc⟩
 .intro id i j s e ho Aa;rcases mA ho with⟨ay,hD,ho⟩|⟨rfl,_,lO,i',j',hs,hD,ho⟩
  .rw[old (.sub id i j) ay]at Aa|-;exact(hM.jj id i j s e ho Aa).dg g (eX (.sub id i j) ⟨⟨s,e,ho⟩,Aa⟩ (.inr ⟨_,_,_,rfl⟩))
  .rw[Ak,hs]at Aa|-;exact(hM.jj lO i' j' s e ho Aa).dg g (eX (.sub lO i' j') ⟨⟨s,e,ho⟩,Aa⟩ (.inr ⟨_,_,_,rfl⟩))
 .intro k hk;rcases ff k hk with⟨ay,_,hk⟩|⟨rfl,hc⟩|⟨i,j,rfl,_,hk,_⟩
  .exact .inr ⟨k,hk,by rw[old k ay]⟩
  .rw[yc];obtain⟨h1,h2⟩:=hl hc;rcases h2 with h2|⟨id,hD,bR,e⟩
   .exact .inl h2
   .exact .inr ⟨_,bR,e⟩
  .exact .inr ⟨_,hk,by rw[Ak]⟩
 .intro b hb hk;exact nl b hb λid hD bR e=>hk _ bR e
def A0(ad:Option Addr)(k:Nat)(vs:List Value):Sem Unit:=
 match ad with
 |some a=>storeCells (a.add k) vs
 |none=>pure ()
theorem qA{t t2 ty e e2:TypeId}{i:TypeInfo}{z:Value}(ht:P.underlying t=some (.slice e))(yd:P.underlying t2=some (.slice e2))(hi:P.info? e=some i)(hz:i.zero=some z){a0:Option Addr}{n1 c1 n2:Nat}{src:Value}{olds news:List Value}(hlen:(Builtin.lenOf src).run P w= .ok n2 w)(Vu:∀k,(Builtin.firstCells i.size n2 src).run P (w.drewN k)= .ok news.toArray (w.drewN k))(holds:∀k,(Builtin.firstCells i.size n1 (.slice a0 n1 c1)).run P (w.drewN k)= .ok olds.toArray (w.drewN k))(hb:0<i.bytes)(lX:(n1+n2)*i.bytes<=140737488355328):
  (Builtin.append_ #[t,t2] ty #[.slice a0 n1 c1,src]).run P w=if n1+n2<=c1 then
    ((A0 a0 (n1*i.size) news).run P w).andThen λ_ w'=>.ok (.slice a0 (n1+n2) c1) w'
   else .ok (.slice (some ⟨w.heap.size,0,none⟩) (n1+n2) (grownCap w (n1+n2) c1 e)) (w.drew.alloc (.cells (olds.toArray++news.toArray++Builtin.zeroCells z.cells (grownCap w (n1+n2) c1 e-(n1+n2))) e)):=by
 have SG:=Vu 0;have qj:=Vu 1;have ho1:=holds 1;have e0:w.drewN 0=w:=rfl;have e1:w.drewN 1=w.drew:=rfl;rw[e0]at SG;rw[e1]at qj ho1;have s8:n1+n2<=140737488355328:=abK (aeu _ hb) lX;unfold Builtin.append_;by_cases hc:n1+n2<=c1
 .simp[run_underlying ht,run_underlying yd,sizeOf,typeInfo,hi,hlen,hc,SG];cases a0<;>simp[A0]
 .have aeB:¬(9223372036854775807<((n1:Int)+(n2:Int))):=om;have aeC:¬(281474976710656<Builtin.nextslicecap (n1+n2) c1*i.bytes):=by have:=growslice_fits (need:=n1+n2) (old:=c1) om lX;omega
  have uY:¬i.bytes=0:=om;simp[run_underlying ht,run_underlying yd,sizeOf,typeInfo,zeroValue,hi,hz,hlen,hc,aeB,aeC,Question.forced,qj,ho1,newRow,grownCap];congr 2;apply adH;simp[adN]
def ye(v:CV)(i j:Nat):Option (Nat×Nat×Nat):=
 match v with
 | .rv (.one (.row id _ lo _))=>some (id,lo+i,j)
 |_=>none
theorem np{α:Type}(l:List α)(lo:Nat)(hi:Option Nat):bt l lo hi=(match hi with|none=>l|some h=>l.take h).drop lo:=by
 cases lo<;>cases hi<;>simp[bt]
structure Ci(ρ:b9)(w:World)(esz:Nat)(pos:Nat->Nat->Option (Nat×Nat×Nat))(E:List (List CC))(ad:Option Addr)(vs:List Value):Prop where
 len:vs.length=E.length*esz
 m6:∀cs,cs∈E->cs.length=esz
 Oy:0<E.length->∃b off,ad=some ⟨b,off,none⟩/\∀k u,vs[k]? =some u->w.cell? ⟨b,off+k,none⟩=some u
 mB:∀(i:Nat)cs(j:Nat)c,E[i]? =some cs->cs[j]? =some c->∃u,vs[i*esz+j]? =some u/\bJ ρ w (pos i j) c u
 one:∀u,u∈vs->u.oneCell'=true
theorem A2{esz:Nat}{pos:Nat->Nat->Option (Nat×Nat×Nat)}{E:List (List CC)}{b off:Nat}(m6:∀cs,cs∈E->cs.length=esz)(h:∀(i:Nat)cs(j:Nat)c,E[i]? =some cs->cs[j]? =some c->∃u,w.cell? ⟨b,off+i*esz+j,none⟩=some u/\bJ ρ w (pos i j) c u):
  ∃vs,Ci ρ w esz pos E (some ⟨b,off,none⟩) vs:=by
 have all:∀k,k<E.length*esz->∃u p c,w.cell? ⟨b,off+k,none⟩=some u/\bJ ρ w p c u:=by
  intro k hk;have dQ:0<esz:=by
   rcases acO esz with h0|h0
   .subst h0;simp at hk
   .exact h0
  have hi:k/esz<E.length:=Nat.div_lt_of_lt_mul (by rwa [aep])
  have hj:k%esz<esz:=Nat.mod_lt _ dQ;have fF:=m6 _ (aaP hi);obtain⟨u,hu,hd⟩:=h (k/esz) _ (k%esz) _ (xm hi) (xm (by rw[fF];exact hj))
  have e:off+k/esz*esz+k%esz=off+k:=by have:=Nat.div_add_mod k esz;rw[aep]at this;omega
  rw[e]at hu;exact⟨u,_,_,hu,hd⟩
 let vs:=(List.range (E.length*esz)).map λk=>(w.cell? ⟨b,off+k,none⟩).getD Go.undef
 have oo:∀k u,vs[k]? =some u->k<E.length*esz/\w.cell? ⟨b,off+k,none⟩=some u:=by
  intro k u hu;have hk:k<E.length*esz:=by have:=(Mp.1 hu).1;simpa[vs]using this
  obtain⟨u',p,c,xb,_⟩:=all k hk;simp only[vs,Rn,afb hk,aaS,xb,adl,abi]at hu;exact⟨hk,by rw[xb,hu]⟩
 refine⟨vs,by simp[vs],m6,λ_=>⟨b,off,rfl,λk u hu=>(oo k u hu).2⟩,λi cs j c hi hj=>?_,λu hu=>?_⟩
 .obtain⟨u,hu,hd⟩:=h i cs j c hi hj;refine⟨u,?_,hd⟩;have NL:=(Mp.1 hi).1;have gH:j<esz:=by rw[<-m6 _ (Wm hi)];exact(Mp.1 hj).1
  have ay:i*esz+j<E.length*esz:=by have:(i+1)*esz<=E.length*esz:=acr _ NL;rw[ade,adG]at this;omega
  simp only[vs,Rn,afb ay,aaS,<-Nat.add_assoc,hu,adl]
 .obtain⟨k,hk,rfl⟩:=aei hu;obtain⟨mC,hc⟩:=oo k _ (xm hk);obtain⟨u',p,c,xb,hd⟩:=all k mC;rw[hc]at xb;cases xb;exact hd.one
theorem o4(hM:aN ρ m w){esz:Nat}{c:CV}{v:Value}{E:List (List CC)}(h:gm m esz c=some E)(hd:cG ρ w c v):
  ∃ad cap vs,v= .slice ad E.length cap/\E.length<=cap/\cap<=maxLen/\Ci ρ w esz (ye c) E ad vs:=by
 unfold gm at h;split at h
 .rename_i e elems;split at h
  .rename_i he;have he:e=esz:=aaX he;subst he;cases h;cases hd with
   |nil _ a cap hc=>exact⟨_,_,[],rfl,aG,hc,aG,aG,aG,aG,aG⟩
   |sl _ _ b off cap u hS hl bF eu hc cL=>
    obtain⟨vs,Gc⟩:=A2 (ρ:=ρ) (w:=w) (esz:=e) (pos:=λ_ _=>none) (E:=elems.map λds=>ds.map .ai) (b:=b) (off:=off) (λcs fF=>by
     obtain⟨ds,GN,rfl⟩:=abm.1 fF;simpa using eu ds GN) (λi cs j c hi hj=>by
     rw[Rn]at hi;cases fh:elems[i]? with
     |none=>rw[fh]at hi;cases hi
     |some ds=>
      rw[fh]at hi;cases hi;rw[Rn]at hj;cases mg:ds[j]? with
      |none=>rw[mg]at hj;cases hj
      |some d=>
       rw[mg]at hj;cases hj;exact⟨_,hc i ds j d fh mg,cL i ds j d fh mg⟩)
    exact⟨_,cap,vs,aG,by simpa using hl,bF,Gc⟩
  .cases h
 .rename_i id e lo hi;split at h
  .rename_i e2 rows hb;rw[aX]at hb;split at h
   .rename_i he pW;have he:e=esz:=aaX he;have pW:e2=esz:=aaX pW;subst he;subst pW;cases h;obtain⟨h2,h3,h4,h5,DE⟩:=hM.bk id _ hb;obtain⟨ay,d1,d2,d3,d4,ad,rfl,w8⟩:=hd;have hlen:(bt rows lo hi).length=hi.getD (ρ.aW (.aA id)).len-lo:=by
     rw[np];cases hi with
     |none=>simp[h2]
     |some h=>simp[h2];simp at d2;omega
    have oo:∀i cs,(bt rows lo hi)[i]? =some cs->rows[lo+i]? =some cs:=by
     intro i cs GO;rw[np]at GO;rw[adi]at GO;cases hi with
     |none=>exact GO
     |some h=>
      rw[abI]at GO;split at GO
      .exact GO
      .cases GO
    rw[<-hlen];rcases acO (bt rows lo hi).length with h0|h0
    .have WO:=aaW h0;refine⟨ad,_,[],rfl,om,om,?_⟩;rw[WO];exact⟨aG,aG,aG,aG,aG⟩
    .have dQ:0<(ρ.aW (.aA id)).cap:=by clear DE;omega
     obtain⟨cur,cC,h1,cL⟩:=DE dQ;rw[w8 (by clear DE;omega)]
     obtain⟨vs,Gc⟩:=A2 (ρ:=ρ) (w:=w) (esz:=e2) (pos:=ye (.rv (.one (.row id e2 lo hi)))) (E:=bt rows lo hi) (b:=(ρ.aW (.aA id)).b) (off:=(ρ.aW (.aA id)).aB+lo*e2) (λcs fF=>by
      obtain⟨i,fm,Z7⟩:=aei fF;have:=oo i cs (by rw[xm fm,Z7])
      exact h5 cs (Wm this)) (λi cs j c fm su=>by
      obtain⟨u,hu,cP⟩:=cL (lo+i) cs j c (oo i cs fm) su;refine⟨u,?_,cP⟩;rw[cC.cell,<-hu];congr 1;rw[ade];omega)
     exact⟨_,_,vs,rfl,by clear DE;omega,by clear DE;omega,Gc⟩
   .cases h
  .cases h
 .cases h;obtain⟨ad,rfl⟩:=hd;exact⟨ad,0,[],rfl,aG,by unfold maxLen;omega,aG,aG,aG,aG,aG⟩
 .cases h
theorem Ci.firstCells{esz:Nat}{pos:Nat->Nat->Option (Nat×Nat×Nat)}{E:List (List CC)}{ad:Option Addr}{vs:List Value}(h:Ci ρ w esz pos E ad vs)(cap k:Nat):
  (Builtin.firstCells esz E.length (.slice ad E.length cap)).run P (w.drewN k)= .ok vs.toArray (w.drewN k):=by
 rcases acO E.length with h0|h0
 .have hv:vs=[]:=aaW (by rw[h.len,h0];simp)
  subst hv;rw[h0];cases ad<;>simp[Builtin.firstCells,loadCells,loadCellsFrom]
 .obtain⟨b,off,rfl,hc⟩:=h.Oy h0;exact run_firstCells_some (P:=P) (w.drewN k) esz E.length ⟨b,off,none⟩ E.length cap vs h.len λj v hj=>by rw[nS];exact hc j v hj
theorem A3(m:Mem)(c:CV):(j8 m c).length=m.length/\∀(id:Nat)b,(j8 m c)[id]? =some b->b= .aE\/(m[id]? =some b/\¬∃e lo hi,c= .rv (.one (.row id e lo hi))):=by
 unfold j8;split
 .rename_i id e lo hi;rw[br];refine⟨aG,λk b hb=>?_⟩
  by_cases hk:id=k
  .subst hk;have ay:id<m.length:=by
    rcases aaD id m.length with h|h
    .exact h
    .rw[abk (by simpa using h)]at hb;cases hb
   rw[aal ay]at hb;cases hb;exact .inl rfl
  .rw[aap hk]at hb;refine .inr ⟨hb,?_⟩;rintro⟨_,_,_,h⟩;cases h;exact hk rfl
 .rename_i k6;refine⟨rfl,λk b hb=>.inr ⟨hb,?_⟩⟩
  rintro⟨e,lo,hi,rfl⟩;exact k6 _ _ _ _ rfl
def sA(c1 c2:CV)(n1:Nat)(i j:Nat):lA:=
 if i<n1 then(match ye c1 i j with|some (a,b,c)=>.sub a b c|none=>.aA 0)
 else(match ye c2 (i-n1) j with|some (a,b,c)=>.sub a b c|none=>.aA 0)
theorem nq{esz:Nat}{c:CV}{E:List (List CC)}(h:gm m esz c=some E){i j:Nat}{cs:List CC}{s:Nat}{e:List (List Dt)}(hi:E[i]? =some cs)(hj:cs[j]? =some (.jj s e)):
  ∃id e0 lo fm,c= .rv (.one (.row id e0 lo fm))/\ir m id (lo+i) j s e:=by
 unfold gm at h;split at h
 .split at h
  .cases h;rw[Rn]at hi;cases fh:(_:List (List Dt))[i]? with
   |none=>rw[fh]at hi;cases hi
   |some ds=>
    rw[fh]at hi;cases hi;rw[Rn]at hj;cases mg:ds[j]? with
    |none=>rw[mg]at hj;cases hj
    |some d=>rw[mg]at hj;cases hj
  .cases h
 .rename_i id e0 lo fm;split at h
  .rename_i e2 rows hb;rw[aX]at hb;split at h
   .cases h;refine⟨id,e0,lo,fm,rfl,_,rows,cs,hb,?_,hj⟩;rw[np,adi]at hi;cases fm with
    |none=>exact hi
    |some h=>
     rw[abI]at hi;split at hi
     .exact hi
     .cases hi
   .cases h
  .cases h
 .cases h;simp at hi
 .cases h
theorem rk{c:CV}{id e lo:Nat}{hi:Option Nat}(h:c= .rv (.one (.row id e lo hi)))(i j:Nat):ye c i j=some (id,lo+i,j):=by subst h;rfl
theorem GP(hM:aN ρ m w)(hE:bu ρ w ba a.tmps){t t2 ty e e2:TypeId}{i:TypeInfo}{z:List CC}{x y:Operand}{x' y':X}(ht:P.underlying t=some (.slice e))(yd:P.underlying t2=some (.slice e2))(hi:P.info? e=some i)(hz:eV P e=some z)(eu:i.size=z.length)(dQ:0<z.length)(hb:0<i.bytes)(hx:bG x=some x')(hy:bG y=some y')(A4:(xW (x'.ev ba)&&Je (x'.ev ba) (y'.ev ba))=true)(g1:ok (gm m i.size (x'.ev ba)) λE1=>ok (gm m i.size (y'.ev ba)) λE2=>(E1.length+E2.length)*i.bytes<=140737488355328/\tf m λn=>K (.rv (.one (.row n i.size 0 none))) (gC (j8 (j8 m (x'.ev ba)) (y'.ev ba)) [.row i.size (E1++E2)])):
  eM P (do pure (Next.value (<-Builtin.append_ #[t,t2] ty #[a.eval x,a.eval y]))) ρ m w K:=by
 have hd:=aU hE hx;have rR:=aU hE hy;generalize a.eval x=v at hd|-;generalize a.eval y=v2 at rR|-;generalize x'.ev ba=c1 at hd A4 g1;generalize y'.ev ba=c2 at rR A4 g1;rw[aaJ]at A4;obtain⟨ol,gj⟩:=A4;obtain⟨E1,Cj,g2⟩:=be.1 g1;obtain⟨E2,Gd,lX,g3⟩:=be.1 g2;rw[kZ,cw]at g3;obtain⟨SI,l4,Zm,D4,Z8,SJ,F1⟩:=o4 hM Cj hd;obtain⟨ad2,Oz,OA,Al,Z9,aaa,F2⟩:=o4 hM Gd rR;have DF:=hz;simp only[eV,XX,V3]at DF;obtain⟨i',fm,zv,SK,SH⟩:=DF;rw[hi]at fm;cases fm;have aab:zv.cells.size=i.size:=by have:=(fQ (ρ:=ρ) (w:=w) SH).1;rw[eu];simpa using this
 have s8:E1.length+E2.length<=140737488355328:=abK (aeu _ hb) lX;have fv:=qA (P:=P) (w:=w) (ty:=ty) ht yd hi SK (a0:=SI) (n1:=E1.length) (c1:=l4) (n2:=E2.length) (src:=v2) (olds:=Zm) (news:=OA)
  (by rw[Al];rfl) (λk=>by rw[Al];exact F2.firstCells Oz k) (λk=>F1.firstCells l4 k) hb lX
 rw[<-D4]at fv;let D:Nat->Prop:=λid=>(∃e lo hi,c1= .rv (.one (.row id e lo hi)))\/(∃e lo hi,c2= .rv (.one (.row id e lo hi)))
 obtain⟨k1,k2⟩:=A3 m c1;obtain⟨k3,k4⟩:=A3 (j8 m c1) c2;have Lp:∀(id:Nat)b,(j8 (j8 m c1) c2)[id]? =some b->b= .aE\/(m[id]? =some b/\¬D id):=λid b hb=>by
  rcases k4 id b hb with h|⟨h,hn⟩
  .exact .inl h
  .rcases k2 id b h with h|⟨h,R7⟩
   .exact .inl h
   .exact .inr ⟨h,λhD=>hD.elim R7 hn⟩
 let src:=sA c1 c2 E1.length;have m6:∀cs,cs∈E1++E2->cs.length=i.size:=λcs fF=>(abJ.1 fF).elim (F1.m6 cs) (F2.m6 cs)
 have li:∀{U':b9}{w':World},j7 ρ w U' w'->(∀i j,U'.aW (.sub ρ.n i j)=ρ.aW (src i j))->
   ∀(k:Nat)cs(j:Nat)c,(E1++E2)[k]? =some cs->cs[j]? =some c->∃u,(Zm++OA)[k*i.size+j]? =some u/\bJ U' w' (some (ρ.n,k,j)) c u:=by
  intro U' w' g da k cs j c hk hj;have gH:j<i.size:=by rw[<-m6 cs (Wm hk)];exact(Mp.1 hj).1
  have conv:∀(p:Option (Nat×Nat×Nat))u,bJ ρ w p c u->(∀a b d,p=some (a,b,d)->a<ρ.n/\src k j= .sub a b d)->bJ U' w' (some (ρ.n,k,j)) c u:=by
   intro p u cP hp;have h1:=cP.dg g (λa b d wu=>(hp a b d wu).1)
   cases c<;>try exact h1
   obtain⟨a,b,d,wu,td⟩:=cP;obtain⟨_,hs⟩:=hp a b d wu;exact⟨ρ.n,k,j,rfl,by rw[da,hs];exact td⟩
  have aac:∀{cc:CV}{vv:Value}{i j a b d:Nat},cG ρ w cc vv->ye cc i j=some (a,b,d)->a<ρ.n:=by
   intro cc vv i j a b d OB hp;unfold ye at hp;split at hp
   .cases hp;exact OB.1
   .cases hp
  rcases aaD k E1.length with ay|eO
  .rw[aaM ay]at hk;obtain⟨u,hu,cP⟩:=F1.mB k cs j c hk hj;refine⟨u,?_,conv _ u cP λa b d hp=>⟨aac hd hp,by simp only[src,sA,if_pos ay,hp]⟩⟩
   rw[aaM]
   .exact hu
   .exact(Mp.1 hu).1
  .rw[aaO eO]at hk;obtain⟨u,hu,cP⟩:=F2.mB (k-E1.length) cs j c hk hj;refine⟨u,?_,conv _ u cP λa b d hp=>⟨aac rR hp,by simp only[src,sA,if_neg (show ¬k<E1.length by omega),hp]⟩⟩
   rw[aaO]
   .rw[<-hu];congr 1;rw[F1.len,afO];have:E1.length*i.size<=k*i.size:=acr _ eO;omega
   .rw[F1.len];have:E1.length*i.size<=k*i.size:=acr _ eO;omega
 have OC:∀(k:Nat)cs(j:Nat)s e,(E1++E2)[k]? =some cs->cs[j]? =some (.jj s e)->∃lO i' j',src k j= .sub lO i' j'/\D lO/\ir m lO i' j' s e:=by
  intro k cs j s e hk hj;rcases aaD k E1.length with ay|eO
  .rw[aaM ay]at hk;obtain⟨id,e0,lo,fm,hc,ho⟩:=nq Cj hk hj;exact⟨id,lo+k,j,by simp only[src,sA,if_pos ay,rk hc],.inl ⟨_,_,_,hc⟩,ho⟩
  .rw[aaO eO]at hk;obtain⟨id,e0,lo,fm,hc,ho⟩:=nq Gd hk hj;exact⟨id,lo+(k-E1.length),j,by simp only[src,sA,if_neg (show ¬k<E1.length by omega),rk hc],.inr ⟨_,_,_,hc⟩,ho⟩
 have uX:∀i j i' j',src i j=src i' j'->(∃cs s e,(E1++E2)[i]? =some cs/\cs[j]? =some (.jj s e))->(∃cs s e,(E1++E2)[i']? =some cs/\cs[j']? =some (.jj s e))->i=i'/\j=j':=by
  have side:∀k j,(∃cs s e,(E1++E2)[k]? =some cs/\cs[j]? =some (.jj s e))->
    (k<E1.length/\∃id e0 lo fm,c1= .rv (.one (.row id e0 lo fm))/\src k j= .sub id (lo+k) j)\/(E1.length<=k/\∃id e0 lo fm,c2= .rv (.one (.row id e0 lo fm))/\src k j= .sub id (lo+(k-E1.length)) j):=by
   rintro k j ⟨cs,s,e,hk,hj⟩;rcases aaD k E1.length with ay|eO
   .rw[aaM ay]at hk;obtain⟨id,e0,lo,fm,hc,ho⟩:=nq Cj hk hj;exact .inl ⟨ay,id,e0,lo,fm,hc,by simp only[src,sA,if_pos ay,rk hc]⟩
   .rw[aaO eO]at hk;obtain⟨id,e0,lo,fm,hc,ho⟩:=nq Gd hk hj;exact .inr ⟨eO,id,e0,lo,fm,hc,by simp only[src,sA,if_neg (show ¬k<E1.length by omega),rk hc]⟩
  intro k j k' j' hs hk jd;rcases side k j hk with⟨h1,id,e0,lo,s7,hc,hsk⟩|⟨h1,id,e0,lo,s7,hc,hsk⟩<;>rcases side k' j' jd with⟨h2,id2,e02,lo2,aeD,yf,OD⟩|⟨h2,id2,e02,lo2,aeD,yf,OD⟩
  .rw[hc]at yf;injection yf with yf;injection yf with yf;injection yf with q1 q2 q3 q4
   subst q3;rw[hsk,OD]at hs;injection hs with q5 q6 q7
   exact⟨om,q7⟩
  .rw[hsk,OD]at hs;injection hs with q5 q6 q7
   rw[hc,yf]at gj;simp only[Je,adx]at gj;exact absurd q5 (ad9 gj)
  .rw[hsk,OD]at hs;injection hs with q5 q6 q7
   rw[hc,yf]at gj;simp only[Je,adx]at gj;exact absurd q5.symm (ad9 gj)
  .rw[hc]at yf;injection yf with yf;injection yf with yf;injection yf with q1 q2 q3 q4
   subst q3;rw[hsk,OD]at hs;injection hs with q5 q6 q7
   exact⟨om,q7⟩
 have Jp:∀(l:Ag)i j,(ρ.move l src).aW (.sub ρ.n i j)=ρ.aW (src i j):=by intro l i j;simp[b9.move]
 have tu:∀(l:Ag),(ρ.move l src).aW (.aA m.length)=l:=by intro l;rw[<-hM.n];simp[b9.move]
 have Zn:∀(l:Ag),l.len=E1.length+E2.length->l.cap<=maxLen->l.len<=l.cap->∀ad,(0<l.cap->ad=some ⟨l.b,l.aB,none⟩)->∀w',cG (ρ.move l src) w' (.rv (.one (.row m.length i.size 0 none))) (.slice ad (E1.length+E2.length) l.cap):=by
  intro l hl hc uK ad w8 w';refine⟨by simp[b9.move,hM.n],aG,aG,by rw[tu];exact uK,by rw[tu];exact hc,ad,?_,?_⟩
  .rw[tu];simp[hl]
  .rw[tu];intro h0;rw[w8 h0];simp
 by_cases pG:E1.length+E2.length<=l4
 .rw[if_pos pG]at fv;rcases acO l4 with Jq|Jq
  ·
   have n1:E1.length=0:=om;have n2:E2.length=0:=om;have aeE:OA=[]:=aaW (by rw[F2.len,n2];simp)
   subst aeE;have wZ:((A0 SI (E1.length*i.size) []).run P w)= .ok () w:=by
    cases SI<;>simp[A0,storeCells]
   rw[wZ]at fv;simp only[Result.andThen_ok]at fv;let l:Ag:=⟨0,0,0,0⟩;obtain⟨oq,Vv⟩:=hM.move (m1:=j8 (j8 m c1) c2) (D:=D) (esz:=i.size) (E:=E1++E2) (l:=l) (src:=src) (w':=w) (by rw[k3,k1]) Lp (aah _) rfl rfl rfl (λ_ _ _=>rfl)
    (by simp[l]) (by simp[l,n1,n2]) (aah _) (by simp[l]) m6 (by simp[l]) OC uX
   refine⟨_,_,w,_,_,_,by rw[Sem.run_bind,fv];rfl,.inl rfl,g3,oq,?_,Vv⟩
   have:=Zn l (by simp[l,n1,n2]) (by simp[l]) (aah _) SI (by simp[l]) w
   rw[Jq];exact this
  ·
   have pX:∃id lo fm,c1= .rv (.one (.row id i.size lo fm))/\Live ρ m (.aA id)/\SI=some ⟨(ρ.aW (.aA id)).b,(ρ.aW (.aA id)).aB+lo*i.size,none⟩/\l4=(ρ.aW (.aA id)).cap-lo/\
     ∃cur,nN (i.size=1) w (ρ.aW (.aA id)).b cur/\(ρ.aW (.aA id)).aB+(ρ.aW (.aA id)).cap*i.size<=cur.size:=by
    unfold gm at Cj;split at Cj
    .simp[xW]at ol
    .rename_i id e0 lo fm;split at Cj
     .rename_i e2' rows gV;rw[aX]at gV;split at Cj
      .rename_i q1 q2;have q1:e0=i.size:=aaX q1;have q2:e2'=i.size:=aaX q2;subst q1;rw[q2]at gV;obtain⟨r2,r3,r4,r5,Lq⟩:=hM.bk id _ gV;obtain⟨ay,d1,d2,d3,d4,ad,SL,w8⟩:=hd;rw[SL]at D4;injection D4 with aeF ajD aae
       have Aa:0<(ρ.aW (.aA id)).cap:=by clear Lq;omega
       obtain⟨cur,cC,h1,_⟩:=Lq Aa;exact⟨id,lo,fm,rfl,⟨_,gV,aG,λ_=>Aa⟩,by rw[<-aeF];exact w8 (by clear Lq;omega),aae.symm,cur,cC,h1⟩
      .cases Cj
     .cases Cj
    .cases Cj;obtain⟨ad,SL⟩:=hd;rw[SL]at D4;injection D4 with _ _ aae
     omega
    .cases Cj
   obtain⟨id,lo,fm,rfl,bR,rfl,Jr,cur,cC,fF⟩:=pX;have iY:lo+l4=(ρ.aW (.aA id)).cap:=om;have hbound:(ρ.aW (.aA id)).aB+lo*i.size+l4*i.size<=cur.size:=by have:(lo+l4)*i.size=lo*i.size+l4*i.size:=ade ..;rw[<-iY,this]at fF;omega
   have aeG:E1.length*i.size+E2.length*i.size<=l4*i.size:=by rw[<-ade];exact acr _ pG
   obtain⟨w',iT,wZ,tm,Zo,aeH,jd⟩:=o0 (P:=P) (ρ.aW (.aA id)).b ((ρ.aW (.aA id)).aB+lo*i.size+E1.length*i.size) OA 0 cur w cC (by rw[F2.len];omega) F2.one
   have AZ:(Builtin.append_ #[t,t2] ty #[v,v2]).run P w= .ok (.slice (some ⟨(ρ.aW (.aA id)).b,(ρ.aW (.aA id)).aB+lo*i.size,none⟩) (E1.length+E2.length) l4) w':=by rw[fv];simp only[A0,nS];rw[wZ];rfl
   let l:Ag:=⟨(ρ.aW (.aA id)).b,(ρ.aW (.aA id)).aB+lo*i.size,E1.length+E2.length,l4⟩;have dj:=hM.aF _ bR;obtain⟨oq,Vv⟩:=hM.move (m1:=j8 (j8 m (.rv (.one (.row id i.size lo fm)))) c2) (D:=D) (esz:=i.size) (E:=E1++E2) (l:=l) (src:=src) (w':=w') (by rw[k3,k1]) Lp (Nat.le_of_eq Zo.size.symm) Zo.os Zo.tape Zo.output
    (λb hb hn=>Zo.heap b λe=>hn id (.inl ⟨_,_,_,rfl⟩) bR e.symm) (λ_=>⟨by rw[Zo.size];exact dj.1,.inr ⟨id,.inl ⟨_,_,_,rfl⟩,bR,rfl⟩⟩) (by simp[l]) pG SJ m6
    (λg _=>⟨iT,tm,by rw[aeH];exact hbound,λk cs j c hk hj=>by
     obtain⟨u,hu,cP⟩:=li g (Jp l) k cs j c hk hj;refine⟨u,?_,cP⟩;rw[jd];simp only[l,aeo];have ay:=(Mp.1 hu).1;rw[acs,F1.len,F2.len]at ay;rcases aaD (k*i.size+j) (E1.length*i.size)with sx|sx
     .rw[if_neg om];rw[aaM (by rw[F1.len];exact sx)]at hu
      obtain⟨b',ajE,WQ,hrd⟩:=F1.Oy (by
       rcases acO E1.length with h0|h0
       .rw[h0]at sx;simp at sx
       .exact h0)
      injection WQ with WQ
      injection WQ with wt lY
      have hh:=hrd _ u hu;rw[<-wt,<-lY,cC.cell]at hh;rw[<-hh];congr 1;omega
     .rw[if_pos (by rw[F2.len];omega)]
      rw[aaO (by rw[F1.len];exact sx)]at hu
      rw[<-hu];congr 1;rw[F1.len];omega⟩) OC uX
   refine⟨_,_,w',_,_,_,by rw[Sem.run_bind,AZ];rfl,.inl rfl,g3,oq,?_,Vv⟩
   exact Zn l rfl SJ pG _ (λ_=>rfl) w'
 ·
  rw[if_neg pG]at fv;have eO:=grownCap_ge w (E1.length+E2.length) l4 e;have hgm:grownCap w (E1.length+E2.length) l4 e<=maxLen:=grownCap_le_maxLen w _ l4 e (by unfold maxLen;omega)
  let cells:Array Value:=Zm.toArray++OA.toArray++Builtin.zeroCells zv.cells (grownCap w (E1.length+E2.length) l4 e-(E1.length+E2.length));let l:Ag:=⟨w.heap.size,0,E1.length+E2.length,grownCap w (E1.length+E2.length) l4 e⟩;have aaf:cells.size=grownCap w (E1.length+E2.length) l4 e*i.size:=by simp only[cells,Array.size_append,List.size_toArray,F1.len,F2.len,size_zeroCells,aab,<-Nat.add_mul];congr 1;omega
  have uZ:nN (i.size=1) (w.drew.alloc (.cells cells e)) w.heap.size cells:=nN.new w.drew cells e;obtain⟨oq,Vv⟩:=hM.move (m1:=j8 (j8 m c1) c2) (D:=D) (esz:=i.size) (E:=E1++E2) (l:=l) (src:=src) (w':=w.drew.alloc (.cells cells e)) (by rw[k3,k1]) Lp aG rfl rfl rfl
   (λb hb _=>heap_alloc_old w.drew _ b hb) (λ_=>⟨uZ.lt,.inl (aah _)⟩) (by simp[l]) eO hgm m6
   (λg _=>⟨cells,uZ,by simp only[l,acA];rw[aaf];exact aah _,λk cs j c hk hj=>by
    obtain⟨u,hu,cP⟩:=li g (Jp l) k cs j c hk hj;refine⟨u,?_,cP⟩;have ay:=(Mp.1 hu).1;simp only[l,acA,cells];rw[ad1 (by simpa using ay)]
    simpa using hu⟩) OC uX
  refine⟨_,_,_,_,_,_,by rw[Sem.run_bind,fv];rfl,.inl rfl,g3,oq,?_,Vv⟩
  exact Zn l rfl hgm eO _ (λ_=>rfl) _
end
end Go.AM
