/- Part 3 of 16. -/
import Derived.Test.YtodckkkbiidffaaGreatDoorH02
import Derived.ChangeKeysEq
import Derived.Laws.StructEq
set_option linter.unusedVariables false
set_option linter.unusedSimpArgs false
set_option maxRecDepth 100000
set_option maxHeartbeats 0
namespace Go.AM
section
variable {P:Program} {ρ:bG} {m:Mem} {w:World} {aX:List CV} {a:Act} {K:CV->Mem->Prop}
def i5:List Kd->List Value->List Value->Option Bool
 | [],[],[]=>some true
 |k::ks,a::r,b::s=>match O4 k a b,i5 ks r s with
  |some x,some y=>some (x&&y)
  |_,_=>none
 |_,_,_=>none
theorem oF:∀{ks:List Kd}{a b:List Value}{r:Bool},i5 ks a b=some r->a.length=ks.length/\b.length=ks.length
 | [],[],[],r,h=>⟨rfl,rfl⟩
 | [],[],_::_,r,h=>by simp[i5]at h
 | [],_::_,_,r,h=>by simp[i5]at h
 |k::ks,[],_,r,h=>by simp[i5]at h
 |k::ks,_::_,[],r,h=>by simp[i5]at h
 |k::ks,a::l,b::l',r,h=>by
  simp only[i5]at h;split at h
  .rename_i x y hx hy;obtain⟨h1,h2⟩:=oF hy;exact⟨by simp[h1],by simp[h2]⟩
  .cases h
theorem uG:∀{ks ls:List Kd}{u v:List Value}{r:Bool},i5 (ks++ls) u v=some r->
  ∃u1 u2 v1 v2 x y,u=u1++u2/\v=v1++v2/\i5 ks u1 v1=some x/\i5 ls u2 v2=some y/\r=(x&&y)
 | [],ls,u,v,r,h=>⟨[],u,[],v,true,r,rfl,rfl,rfl,h,aC⟩
 |k::ks,ls,[],v,r,h=>by simp[i5]at h
 |k::ks,ls,_::_,[],r,h=>by simp[i5]at h
 |k::ks,ls,a::l,b::l',r,h=>by
  simp only[adv,i5]at h;split at h
  .rename_i x y hx hy;cases h;obtain⟨u1,u2,v1,v2,x1,y1,rfl,rfl,h1,h2,rfl⟩:=uG hy;exact⟨a::u1,u2,b::v1,v2,x&&x1,y1,rfl,rfl,by simp[i5,hx,h1],h2,by simp[Bool.and_assoc]⟩
  .cases h
def oG(P:Program)(t:TypeId)(us:List Value):Value:=if dW P t=some true then .agg us.toArray else us.headD Go.undef
theorem mL{t:TypeId}{pre us post:List Value}(hs:eE P t=some us.length)(ha:dW P t=some true\/(dW P t=some false/\us.length=1)):
  (part t (pre++(us++post)).toArray pre.length).run P w= .ok (oG P t us) w:=by
 unfold part oG;rcases ha with ha|⟨ha,h1⟩
 .rw[Sem.run_bind,pw ha];simp only[Result.andThen_ok,if_true,ha];rw[Sem.run_bind,ff hs];simp only[Result.andThen_ok,Sem.run_pure];congr 2;apply ab9;simp
 .rw[Sem.run_bind,pw ha]
  match us,h1 with
  | [u],_=>
   simp[ha]
theorem rB:∀(d:Nat)(t:TypeId)(ks:List Kd),flatK P d t=some ks->eE P t=some ks.length/\(dW P t=some true\/(dW P t=some false/\ks.length=1))/\
  ∀(k:Nat),d<=k->∀(us vs:List Value)(b:Bool),i5 ks us vs=some b->(Op.equalIn k t (oG P t us) (oG P t vs)).run P w= .ok b w
 |0,t,ks,h=>by simp[flatK]at h
 |d+1,t,ks,h=>by
  simp only[flatK]at h;have plain:∀kd,ks=[kd]->eE P t=some 1->dW P t=some false->(∀(k:Nat)(x y:Value)b,O4 kd x y=some b->(Op.equalIn (k+1) t x y).run P w= .ok b w)->
    eE P t=some ks.length/\(dW P t=some true\/(dW P t=some false/\ks.length=1))/\
    ∀(k:Nat),d+1<=k->∀(us vs:List Value)(b:Bool),i5 ks us vs=some b->(Op.equalIn k t (oG P t us) (oG P t vs)).run P w= .ok b w:=by
   rintro kd rfl hs ha cN;refine⟨hs,.inr ⟨ha,rfl⟩,λk hk us vs b he=>?_⟩
   obtain⟨h1,h2⟩:=oF he
   match us,vs,h1,h2 with
   | [x],[y],_,_=>
    obtain⟨k,rfl⟩:∃k',k=k'+1:=⟨k-1,om⟩;simp only[oG,ha];simp only[i5]at he;split at he
    .rename_i p q hp hq;cases he;cases hq;simp only[Bool.and_true];exact cN k x y p hp
    .cases he
  split at h
  .rename_i hu;split at h
   .cases h;refine plain .b rfl (by assumption) (by simp[dW,hu]) λk x y b he=>?_
    cases x<;>cases y<;>simp only[O4]at he<;>try(cases he;done)
    cases he;simp[Op.equalIn,run_underlying hu]
   .cases h
  .rename_i kk hu;split at h
   .cases h;refine plain .i rfl (by assumption) (by simp[dW,hu]) λk x y b he=>?_
    cases x<;>cases y<;>simp only[O4]at he<;>try(cases he;done)
    rename_i k1 a k2 b';by_cases hk:k1=k2
    .subst hk;simp at he;subst he;simp[Op.equalIn,run_underlying hu]
    .rw[decide_eq_false hk]at he;cases he
   .cases h
  .rename_i hu;split at h
   .cases h;refine plain .s rfl (by assumption) (by simp[dW,hu]) λk x y b he=>?_
    cases x<;>cases y<;>simp only[O4]at he<;>try(cases he;done)
    cases he;simp[Op.equalIn,run_underlying hu,beq_toListBytes]
   .cases h
  .rename_i fs hu;split at h
   .rename_i lF;split at h
    .rename_i ks0 hf;split at h
     .rename_i dj;cases h;have ha:dW P t=some true:=by simp[dW,hu]
      refine⟨dj,.inl ha,λk hk us vs b he=>?_⟩
      obtain⟨k,rfl⟩:∃k',k=k'+1:=⟨k-1,om⟩;have UL:P.fieldsOf t=fs:=by simp[Program.fieldsOf,hu]
      simp only[oG,ha,if_true];rw[run_equalIn_struct w k t us.toArray vs.toArray (by rw[UL];exact hu) lF,UL]
      have key:∀(l:List Field)(pre rC:List Value)(ls:List Kd)(us vs:List Value)(b:Bool),pre.length=rC.length->Ca (flatK P d) l pre.length=some ls->i5 ls us vs=some b->
        (Op.eqFields k (pre++us).toArray (rC++vs).toArray l).run P w= .ok b w:=by
       intro l
       induction l with
       |nil=>
        intro pre rC ls us vs b _ tk he;simp[Ca]at tk;subst tk;obtain⟨h1,h2⟩:=oF he;cases us<;>cases vs<;>simp[i5]at he h1 h2
        subst he;simp[Op.eqFields]
       |cons f l ih=>
        intro pre rC ls us vs b Vy tk he;simp only[Ca]at tk;split at tk
        .rename_i hc;split at tk
         .rename_i ks1 kg;split at tk
          .rename_i ls1 yW;cases tk;obtain⟨u1,u2,v1,v2,x,y,rfl,rfl,Py,ke,rfl⟩:=uG he;obtain⟨g1,g2,g3⟩:=rB d f.type ks1 kg;obtain⟨e1,e2⟩:=oF Py;simp only[Op.eqFields];rw[if_pos hc.1,hc.2];rw[Sem.run_bind,mL (by rw[g1,e1]) (by rw[e1];exact g2)]
           simp only[Result.andThen_ok];rw[Sem.run_bind,Vy,mL (by rw[g1,e2]) (by rw[e2];exact g2)]
           simp only[Result.andThen_ok];rw[Sem.run_bind,g3 k om u1 v1 x Py];simp only[Result.andThen_ok];have:=ih (pre++u1) (rC++v1) ls1 u2 v2 y (by simp[Vy,e1,e2]) (by rw[aaL,e1];exact yW) ke
           simp only[acy]at this;cases x
           .simp
           .simpa using this
          .cases tk
         .cases tk
        .cases tk
      have:=key fs.toList [] [] ks us vs b rfl hf he;simpa using this
     .cases h
    .cases h
   .cases h
  .cases h
theorem oH:∀{ks:List Kd}{cs ds:List CC}{b:Bool}{us vs:List Value},kq ks cs ds=some b->us.length=cs.length->vs.length=ds.length->
  (∀(i:Nat)c,cs[i]? =some c->∃u,us[i]? =some u/\bi ρ w .none c u)->(∀(i:Nat)c,ds[i]? =some c->∃u,vs[i]? =some u/\bi ρ w .none c u)->i5 ks us vs=some b
 | [],[],[],b,us,vs,h,h1,h2,_,_=>by simp at h1 h2;subst h1 h2;simpa[kq,i5]using h
 | [],[],_::_,b,us,vs,h,h1,h2,_,_=>by simp[kq]at h
 | [],_::_,_,b,us,vs,h,h1,h2,_,_=>by simp[kq]at h
 |k::ks,[],_,b,us,vs,h,h1,h2,_,_=>by simp[kq]at h
 |k::ks,c::cs,[],b,us,vs,h,h1,h2,_,_=>by cases c<;>simp[kq]at h
 |k::ks,c::cs,d::ds,b,us,vs,h,h1,h2,g1,g2=>by
  unfold kq at h;split at h
  .cases ‹_::_=[]›
  .rename_i k' ks' x r y s e1 e2 e3;cases e1;cases e2;cases e3;split at h
   .rename_i p q hp hq;cases h
    match us,vs,h1,h2 with
    |u::us,v::vs,h1,h2=>
     obtain⟨u',hu,cu⟩:=g1 0 _ rfl;obtain⟨v',hv,pL⟩:=g2 0 _ rfl;simp at hu hv;subst hu hv;obtain⟨rfl,_⟩:=bC cu (λe=>by subst e;cases k<;>simp[O4]at hp)
     obtain⟨rfl,_⟩:=bC pL (λe=>by subst e;cases k<;>cases u<;>simp[O4]at hp)
     have:=oH (us:=us) (vs:=vs) hq (by simpa using h1) (by simpa using h2) (λi c hi=>by simpa using g1 (i+1) c (by simpa using hi)) (λi c hi=>by simpa using g2 (i+1) c (by simpa using hi))
     simp[i5,hp,this]
   .cases h
  .cases h
theorem yX(hM:ax ρ m w)(hE:bj ρ w aX a.tmps){neg:Bool}{t:TypeId}{fs:Array Field}{ks:List Kd}{x y:Operand}{x' y':X}(ht:P.underlying t=some (.struct fs))(hg:P.eqGuardType P.depth t=false)(hk:flatK P 5 t=some ks)(hx:bn x=some x')(hy:bn y=some y')(h:step P (.Li neg ks x' y') aX m K):db P (do let v<-(do eqGuard (if neg then .neq else .eql) t x y (a.eval x) (a.eval y);binOp (if neg then .neq else .eql) t (a.eval x) (a.eval y));pure (Next.value v)) ρ m w K:=by
 have hd:=aQ hE hx;have pX:=aQ hE hy;simp only[step]at h;generalize a.eval x=v at hd|-;generalize a.eval y=u at pX|-;generalize x'.ev aX=c at hd h;generalize y'.ev aX=d at pX h;split at h
 .split at h
  .obtain⟨us,rfl,l1,d1⟩:=hd;obtain⟨vs,rfl,l2,d2⟩:=pX;obtain⟨b,he,hK⟩:=aV.1 h;have Rt:=oH he l1 l2 d1 d2;have cN:=(rB (w:=w) 5 t ks hk).2.2 10000 om us vs b Rt;have ha:dW P t=some true:=by simp[dW,ht]
   simp only[oG,ha,if_true]at cN;refine db.pure hM (v:=_) ?_ hK (cz rfl);rw[Sem.run_bind,Sem.run_bind,run_eqGuard_agg w _ t x y _ _ hg];cases neg
   .simp only[Result.andThen_ok,ab0,if_false,run_eql_struct,cN,Sem.run_pure]
   .simp only[Result.andThen_ok,if_true,run_neq_struct,cN,Sem.run_pure]
  .exact h.elim
 .exact h.elim
theorem nC{e:TypeId}{kk:IntKind}(hu:P.underlying e=some (.int kk))(hs:eE P e=some 1)(d:Nat):∀(us vs pre rC:List Value)(b:Bool),pre.length=rC.length->i5 (gm us.length .i) us vs=some b->
  (Op.eqItems (d+1) e 1 (pre++us).toArray (rC++vs).toArray (List.range' pre.length us.length)).run P w= .ok b w
 | [],[],pre,rC,b,_,he=>by simp[gm,i5]at he;subst he;simp[Op.eqItems]
 | [],v::vs,pre,rC,b,_,he=>by simp[gm,i5]at he
 |u::us,[],pre,rC,b,_,he=>by simp[gm,i5]at he
 |u::us,v::vs,pre,rC,b,hp,he=>by
  have ha:dW P e=some false:=by simp[dW,hu]
  simp only[aaj,gm,i5]at he;split at he
  .rename_i x y hx hy;cases he;have ih:=nC hu hs d us vs (pre++ [u]) (rC++ [v]) y (by simp[hp]) hy
   have p1:=mL (w:=w) (t:=e) (pre:=pre) (us:=[u]) (post:=us) hs (.inr ⟨ha,rfl⟩);have p2:=mL (w:=w) (t:=e) (pre:=rC) (us:=[v]) (post:=vs) hs (.inr ⟨ha,rfl⟩);simp only[oG,ha,List.singleton_append]at p1 p2;have p3:(Op.equalIn (d+1) e u v).run P w= .ok x w:=by
    cases u<;>cases v<;>simp only[O4]at hx<;>try(cases hx;done)
    rename_i k1 a k2 b';by_cases hk:k1=k2
    .subst hk;simp at hx;subst hx;simp[Op.equalIn,run_underlying hu]
    .rw[decide_eq_false hk]at hx;cases hx
   simp only[aaj,ac1,Op.eqItems,Sem.run_bind,Nat.mul_one];rw[p1];simp only[Result.andThen_ok];rw[hp,p2];simp only[Result.andThen_ok,aat,ab0,if_false,List.headD_cons];rw[p3];simp only[Result.andThen_ok];cases x
   .simp
   .simp only[adk,ab0,if_false,adl];rw[<-hp];simpa using ih
  .cases he
theorem wd(hM:ax ρ m w)(hE:bj ρ w aX a.tmps){neg:Bool}{t e:TypeId}{n:Nat}{kk:IntKind}{x y:Operand}{x' y':X}(ht:P.underlying t=some (.array n e))(hg:P.eqGuardType P.depth t=false)(hu:P.underlying e=some (.int kk))(hs:eE P e=some 1)(hx:bn x=some x')(hy:bn y=some y')(h:step P (.Li neg (gm n .i) x' y') aX m K):db P (do let v<-(do eqGuard (if neg then .neq else .eql) t x y (a.eval x) (a.eval y);binOp (if neg then .neq else .eql) t (a.eval x) (a.eval y));pure (Next.value v)) ρ m w K:=by
 have hd:=aQ hE hx;have pX:=aQ hE hy;simp only[step]at h;generalize a.eval x=v at hd|-;generalize a.eval y=u at pX|-;generalize x'.ev aX=c at hd h;generalize y'.ev aX=d at pX h;split at h
 .split at h
  .obtain⟨us,rfl,l1,d1⟩:=hd;obtain⟨vs,rfl,l2,d2⟩:=pX;obtain⟨b,he,hK⟩:=aV.1 h;have Rt:=oH he l1 l2 d1 d2;obtain⟨e1,e2⟩:=oF Rt;have hn:us.length=n:=by rw[e1,fM];simp
   have Vz:=hs;simp only[eE,aau]at Vz;obtain⟨i,hi,IF⟩:=Vz;have hc:P.cellsOf e=1:=by simp[Program.cellsOf,hi,IF]
   have cN:=nC (w:=w) hu hs 9998 us vs [] [] b rfl (by rw[hn];exact Rt)
   simp only[adC,aa9]at cN;have yY:(Op.equalIn 10000 t (.agg us.toArray) (.agg vs.toArray)).run P w= .ok b w:=by rw[run_equalIn_array w 9999 _ _ ht hi,hc,<-hn,ac4];exact cN
   refine db.pure hM (v:=_) ?_ hK (cz rfl);rw[Sem.run_bind,Sem.run_bind,run_eqGuard_agg w _ t x y _ _ hg];cases neg
   .simp only[Result.andThen_ok,ab0,if_false,run_eql_struct,yY,Sem.run_pure]
   .simp only[Result.andThen_ok,if_true,run_neq_struct,yY,Sem.run_pure]
  .exact h.elim
 .exact h.elim
end
section
variable {P:Program} {ρ:bG} {m:Mem} {w:World} {aX:List CV} {a:Act} {K:CV->Mem->Prop}
def bG.move(ρ:bG)(l:vH)(src:Nat->Nat->gd):bG:=
 {n:=ρ.n+1
  aH:=λk=>match k with
   | .aj id=>if id=ρ.n then l else ρ.aH (.aj id)
   | .sub id i j=>if id=ρ.n then ρ.aH (src i j)else ρ.aH (.sub id i j)
  S:=ρ.S}
theorem ax.move{w':World}(hM:ax ρ m w){m1:Mem}{D:Nat->Prop}{esz:Nat}{E:List (List CC)}{l:vH}{src:Nat->Nat->gd}(hlen:m1.length=m.length)(IL:∀(id:Nat)b,m1[id]? =some b->b= .aR\/(m[id]? =some b/\¬D id))(dj:w.heap.size<=w'.heap.size)(VA:w'.os=w.os)(VB:w'.tape=w.tape)(gg:w'.output=w.output)(ei:∀b,b<w.heap.size->(∀id,D id->Live ρ m (.aj id)->(ρ.aH (.aj id)).b≠b)->w'.heap[b]? =w.heap[b]?)(hl:0<l.cap->l.b<w'.heap.size/\(w.heap.size<=l.b\/∃id,D id/\Live ρ m (.aj id)/\(ρ.aH (.aj id)).b=l.b))(hE:E.length=l.len)(oI:l.len<=l.cap)(bc:l.cap<=maxLen)(nV:∀cs,cs∈E->cs.length=esz)(dG:iA ρ w (ρ.move l src) w'->0<l.cap->∃cur,mf (esz=1) w' l.b cur/\l.ar+l.cap*esz<=cur.size/\
   ∀(i:Nat)cs(j:Nat)c,E[i]? =some cs->cs[j]? =some c->∃u,cur[l.ar+i*esz+j]? =some u/\bi (ρ.move l src) w' (some (ρ.n,i,j)) c u)(jW:∀(i:Nat)cs(j:Nat)s e,E[i]? =some cs->cs[j]? =some (.d5 s e)->∃j9 i' j',src i j= .sub j9 i' j'/\D j9/\dP m j9 i' j' s e)(oJ:∀i j i' j',src i j=src i' j'->(∃cs s e,E[i]? =some cs/\cs[j]? =some (.d5 s e))->(∃cs s e,E[i']? =some cs/\cs[j']? =some (.d5 s e))->i=i'/\j=j'):
  ax (ρ.move l src) (m1++ [.row esz E]) w'/\Ext ρ m w (ρ.move l src) (m1++ [.row esz E]) w':=by
 have hn:=hM.n;have old:∀k:gd,k.id<ρ.n->(ρ.move l src).aH k=ρ.aH k:=by
  intro k hk;cases k with
  |aj id=>simp only[bG.move];rw[if_neg (by simp only[gd.id]at hk;omega)]
  |sub id i j=>simp only[bG.move];rw[if_neg (by simp only[gd.id]at hk;omega)]
 have we:(ρ.move l src).aH (.aj ρ.n)=l:=by simp[bG.move]
 have yl:∀i j,(ρ.move l src).aH (.sub ρ.n i j)=ρ.aH (src i j):=by intro i j;simp[bG.move]
 have wg:∀b,ρ.S b->w'.heap[b]? =w.heap[b]? :=λb hb=>ei b (hM.S b hb) λid _ b9 e=>(hM.aP _ b9).2 (e▸hb)
 have g:iA ρ w (ρ.move l src) w':=⟨by simp[bG.move],old,λb hb=>hb,wg⟩
 have get:∀{id:Nat}{b:Bk},(m1++ [.row esz E])[id]? =some b->(id<ρ.n/\(b= .aR\/(m[id]? =some b/\¬D id)))\/(id=ρ.n/\b= .row esz E):=by
  intro id b hb;rcases aaf id m1.length with h|h
  .rw[YN h]at hb;exact .inl ⟨om,IL id b hb⟩
  .rw[Xi h]at hb;have:id-m1.length=0:=by
    rcases abz (id-m1.length)with h0|h0
    .exact h0
    .rw[aaz (by simp;omega)]at hb;cases hb
   rw[this]at hb;exact .inr ⟨om,by simpa using hb.symm⟩
 have d8:∀{id i j s e},dP (m1++ [.row esz E]) id i j s e->(id<ρ.n/\¬D id/\dP m id i j s e)\/
   (id=ρ.n/\(∃cs s e,E[i]? =some cs/\cs[j]? =some (.d5 s e))/\∃j9 i' j',src i j= .sub j9 i' j'/\D j9/\dP m j9 i' j' s e):=by
  rintro id i j s e ⟨b0,IC,ho⟩;rcases get IC with⟨aD,hb|⟨hb,hD⟩⟩|⟨rfl,hb⟩
  .subst hb;cases ho
  .exact .inl ⟨aD,hD,b0,hb,ho⟩
  .subst hb;obtain⟨cs,hi,hj⟩:=ho.yi;exact .inr ⟨rfl,⟨cs,_,_,hi,hj⟩,jW i cs j s e hi hj⟩
 have dn:∀k,Live (ρ.move l src) (m1++ [.row esz E]) k->
   (k.id<ρ.n/\¬D k.id/\Live ρ m k)\/(k= .aj ρ.n/\0<l.cap)\/
   (∃i j,k= .sub ρ.n i j/\(∃cs s e,E[i]? =some cs/\cs[j]? =some (.d5 s e))/\Live ρ m (src i j)/\D (src i j).id/\∃a b c,src i j= .sub a b c):=by
  intro k hk;cases k with
  |aj id=>
   obtain⟨b,hb,du,sZ⟩:=hk;rcases get hb with⟨aD,rfl|⟨hb,hD⟩⟩|⟨rfl,rfl⟩
   .exact absurd rfl du
   .rw[old (.aj id) aD]at sZ;exact .inl ⟨aD,hD,b,hb,du,sZ⟩
   .rw[we]at sZ;exact .inr (.inl ⟨rfl,sZ ⟨_,_,rfl⟩⟩)
  |sub id i j=>
   obtain⟨⟨s,e,ho⟩,sZ⟩:=hk;rcases d8 ho with⟨aD,hD,ho⟩|⟨rfl,jd,j9,i',j',hs,hD,ho⟩
   .rw[old (.sub id i j) aD]at sZ;exact .inl ⟨aD,hD,⟨s,e,ho⟩,sZ⟩
   .rw[yl]at sZ;exact .inr (.inr ⟨i,j,rfl,jd,by rw[hs]at sZ|-;exact⟨⟨s,e,ho⟩,sZ⟩,by rw[hs];exact hD,_,_,_,hs⟩)
 have eN:∀k,Live ρ m k->(k.id<ρ.n/\¬D k.id)\/(∃a b c,k= .sub a b c)->w'.heap[(ρ.aH k).b]? =w.heap[(ρ.aH k).b]? :=by
  intro k hk VC;refine ei _ (hM.aP k hk).1 λid hD b9 e=>?_
  have:=hM.inj _ _ b9 hk e;rcases VC with⟨_,Y8⟩|⟨_,_,_,rfl⟩
  .exact Y8 (by rw[<-this];exact hD)
  .cases this
 refine⟨⟨by simp[bG.move,hn,hlen],λb hb=>aaA (hM.S b hb) dj,?_,?_,?_,?_⟩,
  ⟨by simp[bG.move],λid hid=>old (.aj id) hid,λb hb=>hb,λb hb=>.inl hb,?_,?_,dj,VA,VB,gg⟩⟩
 .intro k hk;rcases dn k hk with⟨aD,_,hk⟩|⟨rfl,hc⟩|⟨i,j,rfl,_,hk,_⟩
  .rw[old k aD];exact⟨aaA (hM.aP k hk).1 dj,(hM.aP k hk).2⟩
  .rw[we];obtain⟨h1,h2⟩:=hl hc;refine⟨h1,λhs=>?_⟩
   rcases h2 with h2|⟨id,hD,b9,e⟩
   .have:=hM.S _ hs;omega
   .exact(hM.aP _ b9).2 (e▸hs)
  .rw[yl];exact⟨aaA (hM.aP _ hk).1 dj,(hM.aP _ hk).2⟩
 ·
  have As:0<l.cap->∀k,Live ρ m k->(k.id<ρ.n/\¬D k.id)\/(∃a b c,k= .sub a b c)->(ρ.aH k).b≠l.b:=by
   intro hc k hk VC e;obtain⟨h1,h2⟩:=hl hc;rcases h2 with h2|⟨id,hD,b9,e2⟩
   .have:=(hM.aP k hk).1;omega
   .have:=hM.inj _ _ b9 hk (e2.trans e.symm);rcases VC with⟨_,Y8⟩|⟨_,_,_,rfl⟩
    .exact Y8 (by rw[<-this];exact hD)
    .cases this
  intro k k' hk fS he;rcases dn k hk with⟨aD,hD,hk⟩|⟨rfl,hc⟩|⟨i,j,rfl,hx,hk,hDs,iC⟩<;>rcases dn k' fS with⟨oD,VD,fS⟩|⟨rfl,rA⟩|⟨i',j',rfl,tm,fS,Y9,VE⟩
  .rw[old k aD,old k' oD]at he;exact hM.inj k k' hk fS he
  .rw[old k aD,we]at he;exact absurd he (As rA k hk (.inl ⟨aD,hD⟩))
  .rw[old k aD,yl]at he;have:=hM.inj _ _ hk fS he;exact absurd (by rw[this];exact Y9) hD
  .rw[old k' oD,we]at he;exact absurd he.symm (As hc k' fS (.inl ⟨oD,VD⟩))
  .rfl
  .rw[we,yl]at he;exact absurd he.symm (As hc _ fS (.inr VE))
  .rw[old k' oD,yl]at he;have:=hM.inj _ _ hk fS he;exact absurd (by rw[<-this];exact hDs) VD
  .rw[we,yl]at he;exact absurd he (As rA _ hk (.inr iC))
  .rw[yl,yl]at he;obtain⟨rfl,rfl⟩:=oJ i j i' j' (hM.inj _ _ hk fS he) hx tm;rfl
 .intro id b hb;rcases get hb with⟨aD,rfl|⟨hb,hD⟩⟩|⟨rfl,rfl⟩
  .trivial
  .exact(hM.bk id b hb).ce g aD λdu sZ=>eN (.aj id) ⟨b,hb,du,sZ⟩ (.inl ⟨aD,hD⟩)
  .exact⟨by rw[we];exact hE,by rw[we];exact oI,by rw[we];exact bc,nV,λhc=>by rw[we]at hc|-;exact dG g hc⟩
 .intro id i j s e ho sZ;rcases d8 ho with⟨aD,hD,ho⟩|⟨rfl,_,j9,i',j',hs,hD,ho⟩
  .rw[old (.sub id i j) aD]at sZ|-;exact(hM.d5 id i j s e ho sZ).ce g (eN (.sub id i j) ⟨⟨s,e,ho⟩,sZ⟩ (.inr ⟨_,_,_,rfl⟩))
  .rw[yl,hs]at sZ|-;exact(hM.d5 j9 i' j' s e ho sZ).ce g (eN (.sub j9 i' j') ⟨⟨s,e,ho⟩,sZ⟩ (.inr ⟨_,_,_,rfl⟩))
 .intro k hk;rcases dn k hk with⟨aD,_,hk⟩|⟨rfl,hc⟩|⟨i,j,rfl,_,hk,_⟩
  .exact .inr ⟨k,hk,by rw[old k aD]⟩
  .rw[we];obtain⟨h1,h2⟩:=hl hc;rcases h2 with h2|⟨id,hD,b9,e⟩
   .exact .inl h2
   .exact .inr ⟨_,b9,e⟩
  .exact .inr ⟨_,hk,by rw[yl]⟩
 .intro b hb hk;exact ei b hb λid hD b9 e=>hk _ b9 e
def yZ(ad:Option Addr)(k:Nat)(vs:List Value):Sem Unit:=
 match ad with
 |some a=>storeCells (a.add k) vs
 |none=>pure ()
theorem oK{t t2 ty e e2:TypeId}{i:TypeInfo}{z:Value}(ht:P.underlying t=some (.slice e))(wh:P.underlying t2=some (.slice e2))(hi:P.info? e=some i)(hz:i.zero=some z){a0:Option Addr}{n1 c1 n2:Nat}{src:Value}{olds news:List Value}(hlen:(Builtin.lenOf src).run P w= .ok n2 w)(Ru:∀k,(Builtin.firstCells i.size n2 src).run P (w.drewN k)= .ok news.toArray (w.drewN k))(holds:∀k,(Builtin.firstCells i.size n1 (.slice a0 n1 c1)).run P (w.drewN k)= .ok olds.toArray (w.drewN k))(hb:0<i.bytes)(kD:(n1+n2)*i.bytes<=140737488355328):
  (Builtin.append_ #[t,t2] ty #[.slice a0 n1 c1,src]).run P w=if n1+n2<=c1 then
    ((yZ a0 (n1*i.size) news).run P w).andThen λ_ w'=>.ok (.slice a0 (n1+n2) c1) w'
   else .ok (.slice (some ⟨w.heap.size,0,none⟩) (n1+n2) (grownCap w (n1+n2) c1 e)) (w.drew.alloc (.cells (olds.toArray++news.toArray++Builtin.zeroCells z.cells (grownCap w (n1+n2) c1 e-(n1+n2))) e)):=by
 have Ha:=Ru 0;have qE:=Ru 1;have SR:=holds 1;have e0:w.drewN 0=w:=rfl;have e1:w.drewN 1=w.drew:=rfl;rw[e0]at Ha;rw[e1]at qE SR;have EI:n1+n2<=140737488355328:=abP (acW _ hb) kD;unfold Builtin.append_;by_cases hc:n1+n2<=c1
 .simp[run_underlying ht,run_underlying wh,sizeOf,typeInfo,hi,hlen,hc,Ha];cases a0<;>simp[yZ]
 .have Za:¬(9223372036854775807<((n1:Int)+(n2:Int))):=om;have Zb:¬(281474976710656<Builtin.nextslicecap (n1+n2) c1*i.bytes):=by have:=growslice_fits (need:=n1+n2) (old:=c1) om kD;omega
  have tn:¬i.bytes=0:=om;simp[run_underlying ht,run_underlying wh,sizeOf,typeInfo,zeroValue,hi,hz,hlen,hc,Za,Zb,Question.forced,qE,SR,newRow,grownCap];congr 2;apply ab9;simp[acy]
def wi(v:CV)(i j:Nat):Option (Nat×Nat×Nat):=
 match v with
 | .rv (.one (.row id _ lo _))=>some (id,lo+i,j)
 |_=>none
theorem jE{α:Type}(l:List α)(lo:Nat)(hi:Option Nat):bV l lo hi=(match hi with|none=>l|some h=>l.take h).drop lo:=by
 cases lo<;>cases hi<;>simp[bV]
structure Au(ρ:bG)(w:World)(esz:Nat)(pos:Nat->Nat->Option (Nat×Nat×Nat))(E:List (List CC))(ad:Option Addr)(vs:List Value):Prop where
 len:vs.length=E.length*esz
 lK:∀cs,cs∈E->cs.length=esz
 SS:0<E.length->∃b off,ad=some ⟨b,off,none⟩/\∀k u,vs[k]? =some u->w.cell? ⟨b,off+k,none⟩=some u
 jD:∀(i:Nat)cs(j:Nat)c,E[i]? =some cs->cs[j]? =some c->∃u,vs[i*esz+j]? =some u/\bi ρ w (pos i j) c u
 one:∀u,u∈vs->u.oneCell'=true
theorem y3{esz:Nat}{pos:Nat->Nat->Option (Nat×Nat×Nat)}{E:List (List CC)}{b off:Nat}(lK:∀cs,cs∈E->cs.length=esz)(h:∀(i:Nat)cs(j:Nat)c,E[i]? =some cs->cs[j]? =some c->∃u,w.cell? ⟨b,off+i*esz+j,none⟩=some u/\bi ρ w (pos i j) c u):
  ∃vs,Au ρ w esz pos E (some ⟨b,off,none⟩) vs:=by
 have all:∀k,k<E.length*esz->∃u p c,w.cell? ⟨b,off+k,none⟩=some u/\bi ρ w p c u:=by
  intro k hk;have cH:0<esz:=by
   rcases abz esz with h0|h0
   .subst h0;simp at hk
   .exact h0
  have hi:k/esz<E.length:=Nat.div_lt_of_lt_mul (by rwa [acT])
  have hj:k%esz<esz:=Nat.mod_lt _ cH;have eC:=lK _ (aar hi);obtain⟨u,hu,hd⟩:=h (k/esz) _ (k%esz) _ (vl hi) (vl (by rw[eC];exact hj))
  have e:off+k/esz*esz+k%esz=off+k:=by have:=Nat.div_add_mod k esz;rw[acT]at this;omega
  rw[e]at hu;exact⟨u,_,_,hu,hd⟩
 let vs:=(List.range (E.length*esz)).map λk=>(w.cell? ⟨b,off+k,none⟩).getD Go.undef
 have lJ:∀k u,vs[k]? =some u->k<E.length*esz/\w.cell? ⟨b,off+k,none⟩=some u:=by
  intro k u hu;have hk:k<E.length*esz:=by have:=(JJ.1 hu).1;simpa[vs]using this
  obtain⟨u',p,c,va,_⟩:=all k hk;simp only[vs,Sf,List.getElem?_range hk,aax,va,abH,aat]at hu;exact⟨hk,by rw[va,hu]⟩
 refine⟨vs,by simp[vs],lK,λ_=>⟨b,off,rfl,λk u hu=>(lJ k u hu).2⟩,λi cs j c hi hj=>?_,λu hu=>?_⟩
 .obtain⟨u,hu,hd⟩:=h i cs j c hi hj;refine⟨u,?_,hd⟩;have ym:=(JJ.1 hi).1;have nu:j<esz:=by rw[<-lK _ (Sj hi)];exact(JJ.1 hj).1
  have aD:i*esz+j<E.length*esz:=by have:(i+1)*esz<=E.length*esz:=aaQ _ ym;rw[aaZ,ace]at this;omega
  simp only[vs,Sf,List.getElem?_range aD,aax,<-Nat.add_assoc,hu,abH]
 .obtain⟨k,hk,rfl⟩:=acO hu;obtain⟨oL,hc⟩:=lJ k _ (vl hk);obtain⟨u',p,c,va,hd⟩:=all k oL;rw[hc]at va;cases va;exact hd.one
theorem nD(hM:ax ρ m w){esz:Nat}{c:CV}{v:Value}{E:List (List CC)}(h:fu m esz c=some E)(hd:bZ ρ w c v):
  ∃ad cap vs,v= .slice ad E.length cap/\E.length<=cap/\cap<=maxLen/\Au ρ w esz (wi c) E ad vs:=by
 unfold fu at h;split at h
 .rename_i e elems;split at h
  .rename_i he;have he:e=esz:=aam he;subst he;cases h;cases hd with
   |nil _ a cap hc=>exact⟨_,_,[],rfl,aC,hc,aC,aC,aC,aC,aC⟩
   |sl _ _ b off cap u hS hl bc dj hc cg=>
    obtain⟨vs,Ed⟩:=y3 (ρ:=ρ) (w:=w) (esz:=e) (pos:=λ_ _=>none) (E:=elems.map λds=>ds.map .ah) (b:=b) (off:=off) (λcs eC=>by
     obtain⟨ds,y4,rfl⟩:=aas.1 eC;simpa using dj ds y4) (λi cs j c hi hj=>by
     rw[Sf]at hi;cases eY:elems[i]? with
     |none=>rw[eY]at hi;cases hi
     |some ds=>
      rw[eY]at hi;cases hi;rw[Sf]at hj;cases lG:ds[j]? with
      |none=>rw[lG]at hj;cases hj
      |some d=>
       rw[lG]at hj;cases hj;exact⟨_,hc i ds j d eY lG,cg i ds j d eY lG⟩)
    exact⟨_,cap,vs,aC,by simpa using hl,bc,Ed⟩
  .cases h
 .rename_i id e lo hi;split at h
  .rename_i e2 rows hb;rw[aT]at hb;split at h
   .rename_i he ke;have he:e=esz:=aam he;have ke:e2=esz:=aam ke;subst he;subst ke;cases h;obtain⟨h2,h3,h4,h5,BV⟩:=hM.bk id _ hb;obtain⟨aD,d1,d2,d3,d4,ad,rfl,u7⟩:=hd;have hlen:(bV rows lo hi).length=hi.getD (ρ.aH (.aj id)).len-lo:=by
     rw[jE];cases hi with
     |none=>simp[h2]
     |some h=>simp[h2];simp at d2;omega
    have lJ:∀i cs,(bV rows lo hi)[i]? =some cs->rows[lo+i]? =some cs:=by
     intro i cs EJ;rw[jE]at EJ;rw[aaX]at EJ;cases hi with
     |none=>exact EJ
     |some h=>
      rw[aaF]at EJ;split at EJ
      .exact EJ
      .cases EJ
    rw[<-hlen];rcases abz (bV rows lo hi).length with h0|h0
    .have SU:=aai h0;refine⟨ad,_,[],rfl,om,om,?_⟩;rw[SU];exact⟨aC,aC,aC,aC,aC⟩
    .have cH:0<(ρ.aH (.aj id)).cap:=by clear BV;omega
     obtain⟨cur,bW,h1,cg⟩:=BV cH;rw[u7 (by clear BV;omega)]
     obtain⟨vs,Ed⟩:=y3 (ρ:=ρ) (w:=w) (esz:=e2) (pos:=wi (.rv (.one (.row id e2 lo hi)))) (E:=bV rows lo hi) (b:=(ρ.aH (.aj id)).b) (off:=(ρ.aH (.aj id)).ar+lo*e2) (λcs eC=>by
      obtain⟨i,eH,VF⟩:=acO eC;have:=lJ i cs (by rw[vl eH,VF])
      exact h5 cs (Sj this)) (λi cs j c eH og=>by
      obtain⟨u,hu,cu⟩:=cg (lo+i) cs j c (lJ i cs eH) og;refine⟨u,?_,cu⟩;rw[bW.cell,<-hu];congr 1;rw[aaZ];omega)
     exact⟨_,_,vs,rfl,by clear BV;omega,by clear BV;omega,Ed⟩
   .cases h
  .cases h
 .cases h;obtain⟨ad,rfl⟩:=hd;exact⟨ad,0,[],rfl,aC,by unfold maxLen;omega,aC,aC,aC,aC,aC⟩
 .cases h
theorem Au.firstCells{esz:Nat}{pos:Nat->Nat->Option (Nat×Nat×Nat)}{E:List (List CC)}{ad:Option Addr}{vs:List Value}(h:Au ρ w esz pos E ad vs)(cap k:Nat):
  (Builtin.firstCells esz E.length (.slice ad E.length cap)).run P (w.drewN k)= .ok vs.toArray (w.drewN k):=by
 rcases abz E.length with h0|h0
 .have hv:vs=[]:=aai (by rw[h.len,h0];simp)
  subst hv;rw[h0];cases ad<;>simp[Builtin.firstCells,loadCells,loadCellsFrom]
 .obtain⟨b,off,rfl,hc⟩:=h.SS h0;exact run_firstCells_some (P:=P) (w.drewN k) esz E.length ⟨b,off,none⟩ E.length cap vs h.len λj v hj=>by rw[mg];exact hc j v hj
theorem y5(m:Mem)(c:CV):(iZ m c).length=m.length/\∀(id:Nat)b,(iZ m c)[id]? =some b->b= .aR\/(m[id]? =some b/\¬∃e lo hi,c= .rv (.one (.row id e lo hi))):=by
 unfold iZ;split
 .rename_i id e lo hi;rw[aY];refine⟨aC,λk b hb=>?_⟩
  by_cases hk:id=k
  .subst hk;have aD:id<m.length:=by
    rcases aaf id m.length with h|h
    .exact h
    .rw[aaz (by simpa using h)]at hb;cases hb
   rw[SC aD]at hb;cases hb;exact .inl rfl
  .rw[Xg hk]at hb;refine .inr ⟨hb,?_⟩;rintro⟨_,_,_,h⟩;cases h;exact hk rfl
 .rename_i jX;refine⟨rfl,λk b hb=>.inr ⟨hb,?_⟩⟩
  rintro⟨e,lo,hi,rfl⟩;exact jX _ _ _ _ rfl
def qF(c1 c2:CV)(n1:Nat)(i j:Nat):gd:=
 if i<n1 then(match wi c1 i j with|some (a,b,c)=>.sub a b c|none=>.aj 0)
 else(match wi c2 (i-n1) j with|some (a,b,c)=>.sub a b c|none=>.aj 0)
theorem lW{esz:Nat}{c:CV}{E:List (List CC)}(h:fu m esz c=some E){i j:Nat}{cs:List CC}{s:Nat}{e:List (List Dt)}(hi:E[i]? =some cs)(hj:cs[j]? =some (.d5 s e)):
  ∃id e0 lo eH,c= .rv (.one (.row id e0 lo eH))/\dP m id (lo+i) j s e:=by
 unfold fu at h;split at h
 .split at h
  .cases h;rw[Sf]at hi;cases eY:(_:List (List Dt))[i]? with
   |none=>rw[eY]at hi;cases hi
   |some ds=>
    rw[eY]at hi;cases hi;rw[Sf]at hj;cases lG:ds[j]? with
    |none=>rw[lG]at hj;cases hj
    |some d=>rw[lG]at hj;cases hj
  .cases h
 .rename_i id e0 lo eH;split at h
  .rename_i e2 rows hb;rw[aT]at hb;split at h
   .cases h;refine⟨id,e0,lo,eH,rfl,_,hb,.row (rows:=rows) (cs:=cs) ?_ hj⟩;rw[jE,aaX]at hi;cases eH with
    |none=>exact hi
    |some h=>
     rw[aaF]at hi;split at hi
     .exact hi
     .cases hi
   .cases h
  .cases h
 .cases h;simp at hi
 .cases h
theorem py{c:CV}{id e lo:Nat}{hi:Option Nat}(h:c= .rv (.one (.row id e lo hi)))(i j:Nat):wi c i j=some (id,lo+i,j):=by subst h;rfl
theorem EK(hM:ax ρ m w)(hE:bj ρ w aX a.tmps){t t2 ty e e2:TypeId}{i:TypeInfo}{z:List CC}{x y:Operand}{x' y':X}(ht:P.underlying t=some (.slice e))(wh:P.underlying t2=some (.slice e2))(hi:P.info? e=some i)(hz:d6 P e=some z)(dj:i.size=z.length)(cH:0<z.length)(hb:0<i.bytes)(hx:bn x=some x')(hy:bn y=some y')(y6:(vQ (x'.ev aX)&&GZ (x'.ev aX) (y'.ev aX))=true)(g1:ok (fu m i.size (x'.ev aX)) λE1=>ok (fu m i.size (y'.ev aX)) λE2=>(E1.length+E2.length)*i.bytes<=140737488355328/\ny m λn=>K (.rv (.one (.row n i.size 0 none))) (gn (iZ (iZ m (x'.ev aX)) (y'.ev aX)) [.row i.size (E1++E2)])):
  db P (do pure (Next.value (<-Builtin.append_ #[t,t2] ty #[a.eval x,a.eval y]))) ρ m w K:=by
 have hd:=aQ hE hx;have pX:=aQ hE hy;generalize a.eval x=v at hd|-;generalize a.eval y=v2 at pX|-;generalize x'.ev aX=c1 at hd y6 g1;generalize y'.ev aX=c2 at pX y6 g1;rw[aac]at y6;obtain⟨jW,du⟩:=y6;obtain⟨E1,Av,g2⟩:=aV.1 g1;obtain⟨E2,Ee,kD,g3⟩:=aV.1 g2;rw[gC,b7]at g3;obtain⟨Pz,kF,UM,EL,VG,PA,F1⟩:=nD hM Av hd;obtain⟨ad2,LD,LG,vd,VH,VI,F2⟩:=nD hM Ee pX;have Eb:=hz;simp only[d6,T3,OJ]at Eb;obtain⟨i',eH,zv,PB,Px⟩:=Eb;rw[hi]at eH;cases eH;have VJ:zv.cells.size=i.size:=by have:=(fg (ρ:=ρ) (w:=w) Px).1;rw[dj];simpa using this
 have EI:E1.length+E2.length<=140737488355328:=abP (acW _ hb) kD;have cN:=oK (P:=P) (w:=w) (ty:=ty) ht wh hi PB (a0:=Pz) (n1:=E1.length) (c1:=kF) (n2:=E2.length) (src:=v2) (olds:=UM) (news:=LG)
  (by rw[vd];rfl) (λk=>by rw[vd];exact F2.firstCells LD k) (λk=>F1.firstCells kF k) hb kD
 rw[<-EL]at cN;let D:Nat->Prop:=λid=>(∃e lo hi,c1= .rv (.one (.row id e lo hi)))\/(∃e lo hi,c2= .rv (.one (.row id e lo hi)))
 obtain⟨k1,k2⟩:=y5 m c1;obtain⟨k3,k4⟩:=y5 (iZ m c1) c2;have IL:∀(id:Nat)b,(iZ (iZ m c1) c2)[id]? =some b->b= .aR\/(m[id]? =some b/\¬D id):=λid b hb=>by
  rcases k4 id b hb with h|⟨h,hn⟩
  .exact .inl h
  .rcases k2 id b h with h|⟨h,O7⟩
   .exact .inl h
   .exact .inr ⟨h,λhD=>hD.elim O7 hn⟩
 let src:=qF c1 c2 E1.length;have lK:∀cs,cs∈E1++E2->cs.length=i.size:=λcs eC=>(abL.1 eC).elim (F1.lK cs) (F2.lK cs)
 have jd:∀{U':bG}{w':World},iA ρ w U' w'->(∀i j,U'.aH (.sub ρ.n i j)=ρ.aH (src i j))->
   ∀(k:Nat)cs(j:Nat)c,(E1++E2)[k]? =some cs->cs[j]? =some c->∃u,(UM++LG)[k*i.size+j]? =some u/\bi U' w' (some (ρ.n,k,j)) c u:=by
  intro U' w' g bM k cs j c hk hj;have nu:j<i.size:=by rw[<-lK cs (Sj hk)];exact(JJ.1 hj).1
  have conv:∀(p:Option (Nat×Nat×Nat))u,bi ρ w p c u->(∀a b d,p=some (a,b,d)->a<ρ.n/\src k j= .sub a b d)->bi U' w' (some (ρ.n,k,j)) c u:=by
   intro p u cu hp;have h1:=cu.ce g (λa b d yn=>(hp a b d yn).1)
   cases c<;>try exact h1
   obtain⟨a,b,d,yn,rm⟩:=cu;obtain⟨_,hs⟩:=hp a b d yn;exact⟨ρ.n,k,j,rfl,by rw[bM,hs];exact rm⟩
  have VK:∀{cc:CV}{vv:Value}{i j a b d:Nat},bZ ρ w cc vv->wi cc i j=some (a,b,d)->a<ρ.n:=by
   intro cc vv i j a b d PC hp;unfold wi at hp;split at hp
   .cases hp;exact PC.1
   .cases hp
  rcases aaf k E1.length with aD|ek
  .rw[YN aD]at hk;obtain⟨u,hu,cu⟩:=F1.jD k cs j c hk hj;refine⟨u,?_,conv _ u cu λa b d hp=>⟨VK hd hp,by simp only[src,qF,if_pos aD,hp]⟩⟩
   rw[YN]
   .exact hu
   .exact(JJ.1 hu).1
  .rw[Xi ek]at hk;obtain⟨u,hu,cu⟩:=F2.jD (k-E1.length) cs j c hk hj;refine⟨u,?_,conv _ u cu λa b d hp=>⟨VK pX hp,by simp only[src,qF,if_neg (show ¬k<E1.length by omega),hp]⟩⟩
   rw[Xi]
   .rw[<-hu];congr 1;rw[F1.len,adD];have:E1.length*i.size<=k*i.size:=aaQ _ ek;omega
   .rw[F1.len];have:E1.length*i.size<=k*i.size:=aaQ _ ek;omega
 have LH:∀(k:Nat)cs(j:Nat)s e,(E1++E2)[k]? =some cs->cs[j]? =some (.d5 s e)->∃j9 i' j',src k j= .sub j9 i' j'/\D j9/\dP m j9 i' j' s e:=by
  intro k cs j s e hk hj;rcases aaf k E1.length with aD|ek
  .rw[YN aD]at hk;obtain⟨id,e0,lo,eH,hc,ho⟩:=lW Av hk hj;exact⟨id,lo+k,j,by simp only[src,qF,if_pos aD,py hc],.inl ⟨_,_,_,hc⟩,ho⟩
  .rw[Xi ek]at hk;obtain⟨id,e0,lo,eH,hc,ho⟩:=lW Ee hk hj;exact⟨id,lo+(k-E1.length),j,by simp only[src,qF,if_neg (show ¬k<E1.length by omega),py hc],.inr ⟨_,_,_,hc⟩,ho⟩
 have oJ:∀i j i' j',src i j=src i' j'->(∃cs s e,(E1++E2)[i]? =some cs/\cs[j]? =some (.d5 s e))->(∃cs s e,(E1++E2)[i']? =some cs/\cs[j']? =some (.d5 s e))->i=i'/\j=j':=by
  have side:∀k j,(∃cs s e,(E1++E2)[k]? =some cs/\cs[j]? =some (.d5 s e))->
    (k<E1.length/\∃id e0 lo eH,c1= .rv (.one (.row id e0 lo eH))/\src k j= .sub id (lo+k) j)\/(E1.length<=k/\∃id e0 lo eH,c2= .rv (.one (.row id e0 lo eH))/\src k j= .sub id (lo+(k-E1.length)) j):=by
   rintro k j ⟨cs,s,e,hk,hj⟩;rcases aaf k E1.length with aD|ek
   .rw[YN aD]at hk;obtain⟨id,e0,lo,eH,hc,ho⟩:=lW Av hk hj;exact .inl ⟨aD,id,e0,lo,eH,hc,by simp only[src,qF,if_pos aD,py hc]⟩
   .rw[Xi ek]at hk;obtain⟨id,e0,lo,eH,hc,ho⟩:=lW Ee hk hj;exact .inr ⟨ek,id,e0,lo,eH,hc,by simp only[src,qF,if_neg (show ¬k<E1.length by omega),py hc]⟩
  intro k j k' j' hs hk fS;rcases side k j hk with⟨h1,id,e0,lo,vy,hc,VL⟩|⟨h1,id,e0,lo,vy,hc,VL⟩<;>rcases side k' j' fS with⟨h2,id2,e02,lo2,Zc,wj,LI⟩|⟨h2,id2,e02,lo2,Zc,wj,LI⟩
  .rw[hc]at wj;injection wj with wj;injection wj with wj;injection wj with q1 q2 q3 q4
   subst q3;rw[VL,LI]at hs;injection hs with q5 q6 q7
   exact⟨om,q7⟩
  .rw[VL,LI]at hs;injection hs with q5 q6 q7
   rw[hc,wj]at du;simp only[GZ,ab2]at du;exact absurd q5 (acG du)
  .rw[VL,LI]at hs;injection hs with q5 q6 q7
   rw[hc,wj]at du;simp only[GZ,ab2]at du;exact absurd q5.symm (acG du)
  .rw[hc]at wj;injection wj with wj;injection wj with wj;injection wj with q1 q2 q3 q4
   subst q3;rw[VL,LI]at hs;injection hs with q5 q6 q7
   exact⟨om,q7⟩
 have Hc:∀(l:vH)i j,(ρ.move l src).aH (.sub ρ.n i j)=ρ.aH (src i j):=by intro l i j;simp[bG.move]
 have rD:∀(l:vH),(ρ.move l src).aH (.aj m.length)=l:=by intro l;rw[<-hM.n];simp[bG.move]
 have PD:∀(l:vH),l.len=E1.length+E2.length->l.cap<=maxLen->l.len<=l.cap->∀ad,(0<l.cap->ad=some ⟨l.b,l.ar,none⟩)->∀w',bZ (ρ.move l src) w' (.rv (.one (.row m.length i.size 0 none))) (.slice ad (E1.length+E2.length) l.cap):=by
  intro l hl hc oI ad u7 w';refine⟨by simp[bG.move,hM.n],aC,aC,by rw[rD];exact oI,by rw[rD];exact hc,ad,?_,?_⟩
  .rw[rD];simp[hl]
  .rw[rD];intro h0;rw[u7 h0];simp
 by_cases nW:E1.length+E2.length<=kF
 .rw[if_pos nW]at cN;rcases abz kF with LJ|LJ
  ·
   have n1:E1.length=0:=om;have n2:E2.length=0:=om;have Zd:LG=[]:=aai (by rw[F2.len,n2];simp)
   subst Zd;have lF:((yZ Pz (E1.length*i.size) []).run P w)= .ok () w:=by
    cases Pz<;>simp[yZ,storeCells]
   rw[lF]at cN;simp only[Result.andThen_ok]at cN;let l:vH:=⟨0,0,0,0⟩;obtain⟨i4,Rw⟩:=hM.move (m1:=iZ (iZ m c1) c2) (D:=D) (esz:=i.size) (E:=E1++E2) (l:=l) (src:=src) (w':=w) (by rw[k3,k1]) IL (T5 _) rfl rfl rfl (λ_ _ _=>rfl)
    (by simp[l]) (by simp[l,n1,n2]) (T5 _) (by simp[l]) lK (by simp[l]) LH oJ
   refine⟨_,_,w,_,_,_,by rw[Sem.run_bind,cN];rfl,.inl rfl,g3,i4,?_,Rw⟩
   have:=PD l (by simp[l,n1,n2]) (by simp[l]) (T5 _) Pz (by simp[l]) w
   rw[LJ];exact this
  ·
   have oh:∃id lo eH,c1= .rv (.one (.row id i.size lo eH))/\Live ρ m (.aj id)/\Pz=some ⟨(ρ.aH (.aj id)).b,(ρ.aH (.aj id)).ar+lo*i.size,none⟩/\kF=(ρ.aH (.aj id)).cap-lo/\
     ∃cur,mf (i.size=1) w (ρ.aH (.aj id)).b cur/\(ρ.aH (.aj id)).ar+(ρ.aH (.aj id)).cap*i.size<=cur.size:=by
    unfold fu at Av;split at Av
    .simp[vQ]at jW
    .rename_i id e0 lo eH;split at Av
     .rename_i e2' rows c9;rw[aT]at c9;split at Av
      .rename_i q1 q2;have q1:e0=i.size:=aam q1;have q2:e2'=i.size:=aam q2;subst q1;rw[q2]at c9;obtain⟨r2,r3,r4,r5,IM⟩:=hM.bk id _ c9;obtain⟨aD,d1,d2,d3,d4,ad,PE,u7⟩:=hd;rw[PE]at EL;injection EL with Ze adm VM
       have sZ:0<(ρ.aH (.aj id)).cap:=by clear IM;omega
       obtain⟨cur,bW,h1,_⟩:=IM sZ;exact⟨id,lo,eH,rfl,⟨_,c9,aC,λ_=>sZ⟩,by rw[<-Ze];exact u7 (by clear IM;omega),VM.symm,cur,bW,h1⟩
      .cases Av
     .cases Av
    .cases Av;obtain⟨ad,PE⟩:=hd;rw[PE]at EL;injection EL with _ _ VM
     omega
    .cases Av
   obtain⟨id,lo,eH,rfl,b9,rfl,Hd,cur,bW,eC⟩:=oh;have ia:lo+kF=(ρ.aH (.aj id)).cap:=om;have hbound:(ρ.aH (.aj id)).ar+lo*i.size+kF*i.size<=cur.size:=by have:(lo+kF)*i.size=lo*i.size+kF*i.size:=aaZ ..;rw[<-ia,this]at eC;omega
   have Zf:E1.length*i.size+E2.length*i.size<=kF*i.size:=by rw[<-aaZ];exact aaQ _ nW
   obtain⟨w',gK,lF,rA,UN,Zg,fS⟩:=nB (P:=P) (ρ.aH (.aj id)).b ((ρ.aH (.aj id)).ar+lo*i.size+E1.length*i.size) LG 0 cur w bW (by rw[F2.len];omega) F2.one
   have yY:(Builtin.append_ #[t,t2] ty #[v,v2]).run P w= .ok (.slice (some ⟨(ρ.aH (.aj id)).b,(ρ.aH (.aj id)).ar+lo*i.size,none⟩) (E1.length+E2.length) kF) w':=by rw[cN];simp only[yZ,mg];rw[lF];rfl
   let l:vH:=⟨(ρ.aH (.aj id)).b,(ρ.aH (.aj id)).ar+lo*i.size,E1.length+E2.length,kF⟩;have bX:=hM.aP _ b9;obtain⟨i4,Rw⟩:=hM.move (m1:=iZ (iZ m (.rv (.one (.row id i.size lo eH)))) c2) (D:=D) (esz:=i.size) (E:=E1++E2) (l:=l) (src:=src) (w':=w') (by rw[k3,k1]) IL (Nat.le_of_eq UN.size.symm) UN.os UN.tape UN.output
    (λb hb hn=>UN.heap b λe=>hn id (.inl ⟨_,_,_,rfl⟩) b9 e.symm) (λ_=>⟨by rw[UN.size];exact bX.1,.inr ⟨id,.inl ⟨_,_,_,rfl⟩,b9,rfl⟩⟩) (by simp[l]) nW PA lK
    (λg _=>⟨gK,rA,by rw[Zg];exact hbound,λk cs j c hk hj=>by
     obtain⟨u,hu,cu⟩:=jd g (Hc l) k cs j c hk hj;refine⟨u,?_,cu⟩;rw[fS];simp only[l,acB];have aD:=(JJ.1 hu).1;rw[aaL,F1.len,F2.len]at aD;rcases aaf (k*i.size+j) (E1.length*i.size)with yW|yW
     .rw[if_neg om];rw[YN (by rw[F1.len];exact yW)]at hu
      obtain⟨b',adn,SV,hrd⟩:=F1.SS (by
       rcases abz E1.length with h0|h0
       .rw[h0]at yW;simp at yW
       .exact h0)
      injection SV with SV
      injection SV with VN fx
      have hh:=hrd _ u hu;rw[<-VN,<-fx,bW.cell]at hh;rw[<-hh];congr 1;omega
     .rw[if_pos (by rw[F2.len];omega)]
      rw[Xi (by rw[F1.len];exact yW)]at hu
      rw[<-hu];congr 1;rw[F1.len];omega⟩) LH oJ
   refine⟨_,_,w',_,_,_,by rw[Sem.run_bind,yY];rfl,.inl rfl,g3,i4,?_,Rw⟩
   exact PD l rfl PA nW _ (λ_=>rfl) w'
 ·
  rw[if_neg nW]at cN;have ek:=grownCap_ge w (E1.length+E2.length) kF e;have VO:grownCap w (E1.length+E2.length) kF e<=maxLen:=grownCap_le_maxLen w _ kF e (by unfold maxLen;omega)
  let cells:Array Value:=UM.toArray++LG.toArray++Builtin.zeroCells zv.cells (grownCap w (E1.length+E2.length) kF e-(E1.length+E2.length));let l:vH:=⟨w.heap.size,0,E1.length+E2.length,grownCap w (E1.length+E2.length) kF e⟩;have VP:cells.size=grownCap w (E1.length+E2.length) kF e*i.size:=by simp only[cells,Array.size_append,List.size_toArray,F1.len,F2.len,size_zeroCells,VJ,<-Nat.add_mul];congr 1;omega
  have mM:mf (i.size=1) (w.drew.alloc (.cells cells e)) w.heap.size cells:=mf.new w.drew cells e;obtain⟨i4,Rw⟩:=hM.move (m1:=iZ (iZ m c1) c2) (D:=D) (esz:=i.size) (E:=E1++E2) (l:=l) (src:=src) (w':=w.drew.alloc (.cells cells e)) (by rw[k3,k1]) IL aC rfl rfl rfl
   (λb hb _=>heap_alloc_old w.drew _ b hb) (λ_=>⟨mM.lt,.inl (T5 _)⟩) (by simp[l]) ek VO lK
   (λg _=>⟨cells,mM,by simp only[l,aaM];rw[VP];exact T5 _,λk cs j c hk hj=>by
    obtain⟨u,hu,cu⟩:=jd g (Hc l) k cs j c hk hj;refine⟨u,?_,cu⟩;have aD:=(JJ.1 hu).1;simp only[l,aaM,cells];rw[acv (by simpa using aD)]
    simpa using hu⟩) LH oJ
  refine⟨_,_,_,_,_,_,by rw[Sem.run_bind,cN];rfl,.inl rfl,g3,i4,?_,Rw⟩
  exact PD l rfl VO ek _ (λ_=>rfl) _
end
end Go.AM
