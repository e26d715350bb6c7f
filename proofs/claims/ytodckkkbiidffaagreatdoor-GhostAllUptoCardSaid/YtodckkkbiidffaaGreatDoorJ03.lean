/- Part 3 of 16. -/
import Derived.Test.YtodckkkbiidffaaGreatDoorJ02
import Derived.ChangeKeysEq
import Derived.Laws.StructEq
set_option linter.unusedVariables false
set_option linter.unusedSimpArgs false
set_option maxRecDepth 100000
set_option maxHeartbeats 0
namespace Go.AM
section
variable {P:Program} {ρ:bJ} {m:Mem} {w:World} {aZ:List CV} {a:Act} {K:CV->Mem->Prop}
def jm:List Kd->List Value->List Value->Option Bool
 | [],[],[]=>some true
 |k::ks,a::r,b::s=>match PZ k a b,jm ks r s with
  |some x,some y=>some (x&&y)
  |_,_=>none
 |_,_,_=>none
theorem oT:∀{ks:List Kd}{a b:List Value}{r:Bool},jm ks a b=some r->a.length=ks.length/\b.length=ks.length
 | [],[],[],r,h=>⟨rfl,rfl⟩
 | [],[],_::_,r,h=>by simp[jm]at h
 | [],_::_,_,r,h=>by simp[jm]at h
 |k::ks,[],_,r,h=>by simp[jm]at h
 |k::ks,_::_,[],r,h=>by simp[jm]at h
 |k::ks,a::l,b::l',r,h=>by
  simp only[jm]at h;split at h
  .rename_i x y hx hy;obtain⟨h1,h2⟩:=oT hy;exact⟨by simp[h1],by simp[h2]⟩
  .cases h
theorem u3:∀{ks ls:List Kd}{u v:List Value}{r:Bool},jm (ks++ls) u v=some r->
  ∃u1 u2 v1 v2 x y,u=u1++u2/\v=v1++v2/\jm ks u1 v1=some x/\jm ls u2 v2=some y/\r=(x&&y)
 | [],ls,u,v,r,h=>⟨[],u,[],v,true,r,rfl,rfl,rfl,h,aC⟩
 |k::ks,ls,[],v,r,h=>by simp[jm]at h
 |k::ks,ls,_::_,[],r,h=>by simp[jm]at h
 |k::ks,ls,a::l,b::l',r,h=>by
  simp only[ad5,jm]at h;split at h
  .rename_i x y hx hy;cases h;obtain⟨u1,u2,v1,v2,x1,y1,rfl,rfl,h1,h2,rfl⟩:=u3 hy;exact⟨a::u1,u2,b::v1,v2,x&&x1,y1,rfl,rfl,by simp[jm,hx,h1],h2,by simp[Bool.and_assoc]⟩
  .cases h
def oU(P:Program)(t:TypeId)(us:List Value):Value:=if ec P t=some true then .agg us.toArray else us.headD Go.undef
theorem m5{t:TypeId}{pre us post:List Value}(hs:eN P t=some us.length)(ha:ec P t=some true\/(ec P t=some false/\us.length=1)):
  (part t (pre++(us++post)).toArray pre.length).run P w= .ok (oU P t us) w:=by
 unfold part oU;rcases ha with ha|⟨ha,h1⟩
 .rw[Sem.run_bind,pM ha];simp only[Result.andThen_ok,if_true,ha];rw[Sem.run_bind,ft hs];simp only[Result.andThen_ok,Sem.run_pure];congr 2;apply ab1;simp
 .rw[Sem.run_bind,pM ha]
  match us,h1 with
  | [u],_=>
   simp[ha]
theorem rT:∀(d:Nat)(t:TypeId)(ks:List Kd),flatK P d t=some ks->eN P t=some ks.length/\(ec P t=some true\/(ec P t=some false/\ks.length=1))/\
  ∀(k:Nat),d<=k->∀(us vs:List Value)(b:Bool),jm ks us vs=some b->(Op.equalIn k t (oU P t us) (oU P t vs)).run P w= .ok b w
 |0,t,ks,h=>by simp[flatK]at h
 |d+1,t,ks,h=>by
  simp only[flatK]at h;have plain:∀kd,ks=[kd]->eN P t=some 1->ec P t=some false->(∀(k:Nat)(x y:Value)b,PZ kd x y=some b->(Op.equalIn (k+1) t x y).run P w= .ok b w)->
    eN P t=some ks.length/\(ec P t=some true\/(ec P t=some false/\ks.length=1))/\
    ∀(k:Nat),d+1<=k->∀(us vs:List Value)(b:Bool),jm ks us vs=some b->(Op.equalIn k t (oU P t us) (oU P t vs)).run P w= .ok b w:=by
   rintro kd rfl hs ha cP;refine⟨hs,.inr ⟨ha,rfl⟩,λk hk us vs b he=>?_⟩
   obtain⟨h1,h2⟩:=oT he
   match us,vs,h1,h2 with
   | [x],[y],_,_=>
    obtain⟨k,rfl⟩:∃k',k=k'+1:=⟨k-1,om⟩;simp only[oU,ha];simp only[jm]at he;split at he
    .rename_i p q hp hq;cases he;cases hq;simp only[Bool.and_true];exact cP k x y p hp
    .cases he
  split at h
  .rename_i hu;split at h
   .cases h;refine plain .b rfl (by assumption) (by simp[ec,hu]) λk x y b he=>?_
    cases x<;>cases y<;>simp only[PZ]at he<;>try(cases he;done)
    cases he;simp[Op.equalIn,run_underlying hu]
   .cases h
  .rename_i kk hu;split at h
   .cases h;refine plain .i rfl (by assumption) (by simp[ec,hu]) λk x y b he=>?_
    cases x<;>cases y<;>simp only[PZ]at he<;>try(cases he;done)
    rename_i k1 a k2 b';by_cases hk:k1=k2
    .subst hk;simp at he;subst he;simp[Op.equalIn,run_underlying hu]
    .rw[decide_eq_false hk]at he;cases he
   .cases h
  .rename_i hu;split at h
   .cases h;refine plain .s rfl (by assumption) (by simp[ec,hu]) λk x y b he=>?_
    cases x<;>cases y<;>simp only[PZ]at he<;>try(cases he;done)
    cases he;simp[Op.equalIn,run_underlying hu,beq_toListBytes]
   .cases h
  .rename_i fs hu;split at h
   .rename_i lZ;split at h
    .rename_i ks0 hf;split at h
     .rename_i dq;cases h;have ha:ec P t=some true:=by simp[ec,hu]
      refine⟨dq,.inl ha,λk hk us vs b he=>?_⟩
      obtain⟨k,rfl⟩:∃k',k=k'+1:=⟨k-1,om⟩;have VQ:P.fieldsOf t=fs:=by simp[Program.fieldsOf,hu]
      simp only[oU,ha,if_true];rw[run_equalIn_struct w k t us.toArray vs.toArray (by rw[VQ];exact hu) lZ,VQ]
      have key:∀(l:List Field)(pre rU:List Value)(ls:List Kd)(us vs:List Value)(b:Bool),pre.length=rU.length->CD (flatK P d) l pre.length=some ls->jm ls us vs=some b->
        (Op.eqFields k (pre++us).toArray (rU++vs).toArray l).run P w= .ok b w:=by
       intro l
       induction l with
       |nil=>
        intro pre rU ls us vs b _ tJ he;simp[CD]at tJ;subst tJ;obtain⟨h1,h2⟩:=oT he;cases us<;>cases vs<;>simp[jm]at he h1 h2
        subst he;simp[Op.eqFields]
       |cons f l ih=>
        intro pre rU ls us vs b WD tJ he;simp only[CD]at tJ;split at tJ
        .rename_i hc;split at tJ
         .rename_i ks1 kL;split at tJ
          .rename_i ls1 zs;cases tJ;obtain⟨u1,u2,v1,v2,x,y,rfl,rfl,Qp,kK,rfl⟩:=u3 he;obtain⟨g1,g2,g3⟩:=rT d f.type ks1 kL;obtain⟨e1,e2⟩:=oT Qp;simp only[Op.eqFields];rw[if_pos hc.1,hc.2];rw[Sem.run_bind,m5 (by rw[g1,e1]) (by rw[e1];exact g2)]
           simp only[Result.andThen_ok];rw[Sem.run_bind,WD,m5 (by rw[g1,e2]) (by rw[e2];exact g2)]
           simp only[Result.andThen_ok];rw[Sem.run_bind,g3 k om u1 v1 x Qp];simp only[Result.andThen_ok];have:=ih (pre++u1) (rU++v1) ls1 u2 v2 y (by simp[WD,e1,e2]) (by rw[aa5,e1];exact zs) kK
           simp only[ac2]at this;cases x
           .simp
           .simpa using this
          .cases tJ
         .cases tJ
        .cases tJ
      have:=key fs.toList [] [] ks us vs b rfl hf he;simpa using this
     .cases h
    .cases h
   .cases h
  .cases h
theorem oV:∀{ks:List Kd}{cs ds:List CC}{b:Bool}{us vs:List Value},kQ ks cs ds=some b->us.length=cs.length->vs.length=ds.length->
  (∀(i:Nat)c,cs[i]? =some c->∃u,us[i]? =some u/\bm ρ w .none c u)->(∀(i:Nat)c,ds[i]? =some c->∃u,vs[i]? =some u/\bm ρ w .none c u)->jm ks us vs=some b
 | [],[],[],b,us,vs,h,h1,h2,_,_=>by simp at h1 h2;subst h1 h2;simpa[kQ,jm]using h
 | [],[],_::_,b,us,vs,h,h1,h2,_,_=>by simp[kQ]at h
 | [],_::_,_,b,us,vs,h,h1,h2,_,_=>by simp[kQ]at h
 |k::ks,[],_,b,us,vs,h,h1,h2,_,_=>by simp[kQ]at h
 |k::ks,c::cs,[],b,us,vs,h,h1,h2,_,_=>by cases c<;>simp[kQ]at h
 |k::ks,c::cs,d::ds,b,us,vs,h,h1,h2,g1,g2=>by
  unfold kQ at h;split at h
  .cases ‹_::_=[]›
  .rename_i k' ks' x r y s e1 e2 e3;cases e1;cases e2;cases e3;split at h
   .rename_i p q hp hq;cases h
    match us,vs,h1,h2 with
    |u::us,v::vs,h1,h2=>
     obtain⟨u',hu,cz⟩:=g1 0 _ rfl;obtain⟨v',hv,p0⟩:=g2 0 _ rfl;simp at hu hv;subst hu hv;obtain⟨rfl,_⟩:=bH cz (λe=>by subst e;cases k<;>simp[PZ]at hp)
     obtain⟨rfl,_⟩:=bH p0 (λe=>by subst e;cases k<;>cases u<;>simp[PZ]at hp)
     have:=oV (us:=us) (vs:=vs) hq (by simpa using h1) (by simpa using h2) (λi c hi=>by simpa using g1 (i+1) c (by simpa using hi)) (λi c hi=>by simpa using g2 (i+1) c (by simpa using hi))
     simp[jm,hp,this]
   .cases h
  .cases h
theorem zt(hM:aA ρ m w)(hE:bn ρ w aZ a.tmps){neg:Bool}{t:TypeId}{fs:Array Field}{ks:List Kd}{x y:Operand}{x' y':X}(ht:P.underlying t=some (.struct fs))(hg:P.eqGuardType P.depth t=false)(hk:flatK P 5 t=some ks)(hx:bq x=some x')(hy:bq y=some y')(h:step P (.PY neg ks x' y') aZ m K):dh P (do let v<-(do eqGuard (if neg then .neq else .eql) t x y (a.eval x) (a.eval y);binOp (if neg then .neq else .eql) t (a.eval x) (a.eval y));pure (Next.value v)) ρ m w K:=by
 have hd:=aT hE hx;have qp:=aT hE hy;simp only[step]at h;generalize a.eval x=v at hd|-;generalize a.eval y=u at qp|-;generalize x'.ev aZ=c at hd h;generalize y'.ev aZ=d at qp h;split at h
 .split at h
  .obtain⟨us,rfl,l1,d1⟩:=hd;obtain⟨vs,rfl,l2,d2⟩:=qp;obtain⟨b,he,hK⟩:=aW.1 h;have SG:=oV he l1 l2 d1 d2;have cP:=(rT (w:=w) 5 t ks hk).2.2 10000 om us vs b SG;have ha:ec P t=some true:=by simp[ec,ht]
   simp only[oU,ha,if_true]at cP;refine dh.pure hM (v:=_) ?_ hK (cA rfl);rw[Sem.run_bind,Sem.run_bind,run_eqGuard_agg w _ t x y _ _ hg];cases neg
   .simp only[Result.andThen_ok,abR,if_false,run_eql_struct,cP,Sem.run_pure]
   .simp only[Result.andThen_ok,if_true,run_neq_struct,cP,Sem.run_pure]
  .exact h.elim
 .exact h.elim
theorem nN{e:TypeId}{kk:IntKind}(hu:P.underlying e=some (.int kk))(hs:eN P e=some 1)(d:Nat):∀(us vs pre rU:List Value)(b:Bool),pre.length=rU.length->jm (gH us.length .i) us vs=some b->
  (Op.eqItems (d+1) e 1 (pre++us).toArray (rU++vs).toArray (List.range' pre.length us.length)).run P w= .ok b w
 | [],[],pre,rU,b,_,he=>by simp[gH,jm]at he;subst he;simp[Op.eqItems]
 | [],v::vs,pre,rU,b,_,he=>by simp[gH,jm]at he
 |u::us,[],pre,rU,b,_,he=>by simp[gH,jm]at he
 |u::us,v::vs,pre,rU,b,hp,he=>by
  have ha:ec P e=some false:=by simp[ec,hu]
  simp only[aar,gH,jm]at he;split at he
  .rename_i x y hx hy;cases he;have ih:=nN hu hs d us vs (pre++ [u]) (rU++ [v]) y (by simp[hp]) hy
   have p1:=m5 (w:=w) (t:=e) (pre:=pre) (us:=[u]) (post:=us) hs (.inr ⟨ha,rfl⟩);have p2:=m5 (w:=w) (t:=e) (pre:=rU) (us:=[v]) (post:=vs) hs (.inr ⟨ha,rfl⟩);simp only[oU,ha,List.singleton_append]at p1 p2;have p3:(Op.equalIn (d+1) e u v).run P w= .ok x w:=by
    cases u<;>cases v<;>simp only[PZ]at hx<;>try(cases hx;done)
    rename_i k1 a k2 b';by_cases hk:k1=k2
    .subst hk;simp at hx;subst hx;simp[Op.equalIn,run_underlying hu]
    .rw[decide_eq_false hk]at hx;cases hx
   simp only[aar,adD,Op.eqItems,Sem.run_bind,Nat.mul_one];rw[p1];simp only[Result.andThen_ok];rw[hp,p2];simp only[Result.andThen_ok,aaA,abR,if_false,List.headD_cons];rw[p3];simp only[Result.andThen_ok];cases x
   .simp
   .simp only[adX,abR,if_false,adC];rw[<-hp];simpa using ih
  .cases he
theorem wH(hM:aA ρ m w)(hE:bn ρ w aZ a.tmps){neg:Bool}{t e:TypeId}{n:Nat}{kk:IntKind}{x y:Operand}{x' y':X}(ht:P.underlying t=some (.array n e))(hg:P.eqGuardType P.depth t=false)(hu:P.underlying e=some (.int kk))(hs:eN P e=some 1)(hx:bq x=some x')(hy:bq y=some y')(h:step P (.PY neg (gH n .i) x' y') aZ m K):dh P (do let v<-(do eqGuard (if neg then .neq else .eql) t x y (a.eval x) (a.eval y);binOp (if neg then .neq else .eql) t (a.eval x) (a.eval y));pure (Next.value v)) ρ m w K:=by
 have hd:=aT hE hx;have qp:=aT hE hy;simp only[step]at h;generalize a.eval x=v at hd|-;generalize a.eval y=u at qp|-;generalize x'.ev aZ=c at hd h;generalize y'.ev aZ=d at qp h;split at h
 .split at h
  .obtain⟨us,rfl,l1,d1⟩:=hd;obtain⟨vs,rfl,l2,d2⟩:=qp;obtain⟨b,he,hK⟩:=aW.1 h;have SG:=oV he l1 l2 d1 d2;obtain⟨e1,e2⟩:=oT SG;have hn:us.length=n:=by rw[e1,fZ];simp
   have WE:=hs;simp only[eN,aaB]at WE;obtain⟨i,hi,Je⟩:=WE;have hc:P.cellsOf e=1:=by simp[Program.cellsOf,hi,Je]
   have cP:=nN (w:=w) hu hs 9998 us vs [] [] b rfl (by rw[hn];exact SG)
   simp only[aec,abm]at cP;have zu:(Op.equalIn 10000 t (.agg us.toArray) (.agg vs.toArray)).run P w= .ok b w:=by rw[run_equalIn_array w 9999 _ _ ht hi,hc,<-hn,adH];exact cP
   refine dh.pure hM (v:=_) ?_ hK (cA rfl);rw[Sem.run_bind,Sem.run_bind,run_eqGuard_agg w _ t x y _ _ hg];cases neg
   .simp only[Result.andThen_ok,abR,if_false,run_eql_struct,zu,Sem.run_pure]
   .simp only[Result.andThen_ok,if_true,run_neq_struct,zu,Sem.run_pure]
  .exact h.elim
 .exact h.elim
end
section
variable {P:Program} {ρ:bJ} {m:Mem} {w:World} {aZ:List CV} {a:Act} {K:CV->Mem->Prop}
def bJ.move(ρ:bJ)(l:wj)(src:Nat->Nat->gv):bJ:=
 {n:=ρ.n+1
  aI:=λk=>match k with
   | .aj id=>if id=ρ.n then l else ρ.aI (.aj id)
   | .sub id i j=>if id=ρ.n then ρ.aI (src i j)else ρ.aI (.sub id i j)
  S:=ρ.S}
theorem aA.move{w':World}(hM:aA ρ m w){m1:Mem}{D:Nat->Prop}{esz:Nat}{E:List (List CC)}{l:wj}{src:Nat->Nat->gv}(hlen:m1.length=m.length)(Jk:∀(id:Nat)b,m1[id]? =some b->b= .aU\/(m[id]? =some b/\¬D id))(dq:w.heap.size<=w'.heap.size)(WG:w'.os=w.os)(WH:w'.tape=w.tape)(gw:w'.output=w.output)(eF:∀b,b<w.heap.size->(∀id,D id->Live ρ m (.aj id)->(ρ.aI (.aj id)).b≠b)->w'.heap[b]? =w.heap[b]?)(hl:0<l.cap->l.b<w'.heap.size/\(w.heap.size<=l.b\/∃id,D id/\Live ρ m (.aj id)/\(ρ.aI (.aj id)).b=l.b))(hE:E.length=l.len)(oW:l.len<=l.cap)(bg:l.cap<=maxLen)(ol:∀cs,cs∈E->cs.length=esz)(dN:iM ρ w (ρ.move l src) w'->0<l.cap->∃cur,mE (esz=1) w' l.b cur/\l.ar+l.cap*esz<=cur.size/\
   ∀(i:Nat)cs(j:Nat)c,E[i]? =some cs->cs[j]? =some c->∃u,cur[l.ar+i*esz+j]? =some u/\bm (ρ.move l src) w' (some (ρ.n,i,j)) c u)(kq:∀(i:Nat)cs(j:Nat)s e,E[i]? =some cs->cs[j]? =some (.ei s e)->∃kJ i' j',src i j= .sub kJ i' j'/\D kJ/\dZ m kJ i' j' s e)(oX:∀i j i' j',src i j=src i' j'->(∃cs s e,E[i]? =some cs/\cs[j]? =some (.ei s e))->(∃cs s e,E[i']? =some cs/\cs[j']? =some (.ei s e))->i=i'/\j=j'):
  aA (ρ.move l src) (m1++ [.row esz E]) w'/\Ext ρ m w (ρ.move l src) (m1++ [.row esz E]) w':=by
 have hn:=hM.n;have old:∀k:gv,k.id<ρ.n->(ρ.move l src).aI k=ρ.aI k:=by
  intro k hk;cases k with
  |aj id=>simp only[bJ.move];rw[if_neg (by simp only[gv.id]at hk;omega)]
  |sub id i j=>simp only[bJ.move];rw[if_neg (by simp only[gv.id]at hk;omega)]
 have wI:(ρ.move l src).aI (.aj ρ.n)=l:=by simp[bJ.move]
 have yQ:∀i j,(ρ.move l src).aI (.sub ρ.n i j)=ρ.aI (src i j):=by intro i j;simp[bJ.move]
 have wJ:∀b,ρ.S b->w'.heap[b]? =w.heap[b]? :=λb hb=>eF b (hM.S b hb) λid _ bK e=>(hM.aO _ bK).2 (e▸hb)
 have g:iM ρ w (ρ.move l src) w':=⟨by simp[bJ.move],old,λb hb=>hb,wJ⟩
 have get:∀{id:Nat}{b:Bk},(m1++ [.row esz E])[id]? =some b->(id<ρ.n/\(b= .aU\/(m[id]? =some b/\¬D id)))\/(id=ρ.n/\b= .row esz E):=by
  intro id b hb;rcases aag id m1.length with h|h
  .rw[aad h]at hb;exact .inl ⟨om,Jk id b hb⟩
  .rw[Y5 h]at hb;have:id-m1.length=0:=by
    rcases abp (id-m1.length)with h0|h0
    .exact h0
    .rw[aaH (by simp;omega)]at hb;cases hb
   rw[this]at hb;exact .inr ⟨om,by simpa using hb.symm⟩
 have ew:∀{id i j s e},dZ (m1++ [.row esz E]) id i j s e->(id<ρ.n/\¬D id/\dZ m id i j s e)\/
   (id=ρ.n/\(∃cs s e,E[i]? =some cs/\cs[j]? =some (.ei s e))/\∃kJ i' j',src i j= .sub kJ i' j'/\D kJ/\dZ m kJ i' j' s e):=by
  rintro id i j s e ⟨b0,Jb,ho⟩;rcases get Jb with⟨aD,hb|⟨hb,hD⟩⟩|⟨rfl,hb⟩
  .subst hb;cases ho
  .exact .inl ⟨aD,hD,b0,hb,ho⟩
  .subst hb;obtain⟨cs,hi,hj⟩:=ho.yL;exact .inr ⟨rfl,⟨cs,_,_,hi,hj⟩,kq i cs j s e hi hj⟩
 have dx:∀k,Live (ρ.move l src) (m1++ [.row esz E]) k->
   (k.id<ρ.n/\¬D k.id/\Live ρ m k)\/(k= .aj ρ.n/\0<l.cap)\/
   (∃i j,k= .sub ρ.n i j/\(∃cs s e,E[i]? =some cs/\cs[j]? =some (.ei s e))/\Live ρ m (src i j)/\D (src i j).id/\∃a b c,src i j= .sub a b c):=by
  intro k hk;cases k with
  |aj id=>
   obtain⟨b,hb,dy,vG⟩:=hk;rcases get hb with⟨aD,rfl|⟨hb,hD⟩⟩|⟨rfl,rfl⟩
   .exact absurd rfl dy
   .rw[old (.aj id) aD]at vG;exact .inl ⟨aD,hD,b,hb,dy,vG⟩
   .rw[wI]at vG;exact .inr (.inl ⟨rfl,vG ⟨_,_,rfl⟩⟩)
  |sub id i j=>
   obtain⟨⟨s,e,ho⟩,vG⟩:=hk;rcases ew ho with⟨aD,hD,ho⟩|⟨rfl,jr,kJ,i',j',hs,hD,ho⟩
   .rw[old (.sub id i j) aD]at vG;exact .inl ⟨aD,hD,⟨s,e,ho⟩,vG⟩
   .rw[yQ]at vG;exact .inr (.inr ⟨i,j,rfl,jr,by rw[hs]at vG|-;exact⟨⟨s,e,ho⟩,vG⟩,by rw[hs];exact hD,_,_,_,hs⟩)
 have eX:∀k,Live ρ m k->(k.id<ρ.n/\¬D k.id)\/(∃a b c,k= .sub a b c)->w'.heap[(ρ.aI k).b]? =w.heap[(ρ.aI k).b]? :=by
  intro k hk WI;refine eF _ (hM.aO k hk).1 λid hD bK e=>?_
  have:=hM.inj _ _ bK hk e;rcases WI with⟨_,hnD⟩|⟨_,_,_,rfl⟩
  .exact hnD (by rw[<-this];exact hD)
  .cases this
 refine⟨⟨by simp[bJ.move,hn,hlen],λb hb=>aaJ (hM.S b hb) dq,?_,?_,?_,?_⟩,
  ⟨by simp[bJ.move],λid hid=>old (.aj id) hid,λb hb=>hb,λb hb=>.inl hb,?_,?_,dq,WG,WH,gw⟩⟩
 .intro k hk;rcases dx k hk with⟨aD,_,hk⟩|⟨rfl,hc⟩|⟨i,j,rfl,_,hk,_⟩
  .rw[old k aD];exact⟨aaJ (hM.aO k hk).1 dq,(hM.aO k hk).2⟩
  .rw[wI];obtain⟨h1,h2⟩:=hl hc;refine⟨h1,λhs=>?_⟩
   rcases h2 with h2|⟨id,hD,bK,e⟩
   .have:=hM.S _ hs;omega
   .exact(hM.aO _ bK).2 (e▸hs)
  .rw[yQ];exact⟨aaJ (hM.aO _ hk).1 dq,(hM.aO _ hk).2⟩
 ·
  have AK:0<l.cap->∀k,Live ρ m k->(k.id<ρ.n/\¬D k.id)\/(∃a b c,k= .sub a b c)->(ρ.aI k).b≠l.b:=by
   intro hc k hk WI e;obtain⟨h1,h2⟩:=hl hc;rcases h2 with h2|⟨id,hD,bK,e2⟩
   .have:=(hM.aO k hk).1;omega
   .have:=hM.inj _ _ bK hk (e2.trans e.symm);rcases WI with⟨_,hnD⟩|⟨_,_,_,rfl⟩
    .exact hnD (by rw[<-this];exact hD)
    .cases this
  intro k k' hk gh he;rcases dx k hk with⟨aD,hD,hk⟩|⟨rfl,hc⟩|⟨i,j,rfl,hx,hk,hDs,iO⟩<;>rcases dx k' gh with⟨oS,WJ,gh⟩|⟨rfl,rS⟩|⟨i',j',rfl,tK,gh,aah,WK⟩
  .rw[old k aD,old k' oS]at he;exact hM.inj k k' hk gh he
  .rw[old k aD,wI]at he;exact absurd he (AK rS k hk (.inl ⟨aD,hD⟩))
  .rw[old k aD,yQ]at he;have:=hM.inj _ _ hk gh he;exact absurd (by rw[this];exact aah) hD
  .rw[old k' oS,wI]at he;exact absurd he.symm (AK hc k' gh (.inl ⟨oS,WJ⟩))
  .rfl
  .rw[wI,yQ]at he;exact absurd he.symm (AK hc _ gh (.inr WK))
  .rw[old k' oS,yQ]at he;have:=hM.inj _ _ hk gh he;exact absurd (by rw[<-this];exact hDs) WJ
  .rw[wI,yQ]at he;exact absurd he (AK rS _ hk (.inr iO))
  .rw[yQ,yQ]at he;obtain⟨rfl,rfl⟩:=oX i j i' j' (hM.inj _ _ hk gh he) hx tK;rfl
 .intro id b hb;rcases get hb with⟨aD,rfl|⟨hb,hD⟩⟩|⟨rfl,rfl⟩
  .trivial
  .exact(hM.bk id b hb).cn g aD λdy vG=>eX (.aj id) ⟨b,hb,dy,vG⟩ (.inl ⟨aD,hD⟩)
  .exact⟨by rw[wI];exact hE,by rw[wI];exact oW,by rw[wI];exact bg,ol,λhc=>by rw[wI]at hc|-;exact dN g hc⟩
 .intro id i j s e ho vG;rcases ew ho with⟨aD,hD,ho⟩|⟨rfl,_,kJ,i',j',hs,hD,ho⟩
  .rw[old (.sub id i j) aD]at vG|-;exact(hM.ei id i j s e ho vG).cn g (eX (.sub id i j) ⟨⟨s,e,ho⟩,vG⟩ (.inr ⟨_,_,_,rfl⟩))
  .rw[yQ,hs]at vG|-;exact(hM.ei kJ i' j' s e ho vG).cn g (eX (.sub kJ i' j') ⟨⟨s,e,ho⟩,vG⟩ (.inr ⟨_,_,_,rfl⟩))
 .intro k hk;rcases dx k hk with⟨aD,_,hk⟩|⟨rfl,hc⟩|⟨i,j,rfl,_,hk,_⟩
  .exact .inr ⟨k,hk,by rw[old k aD]⟩
  .rw[wI];obtain⟨h1,h2⟩:=hl hc;rcases h2 with h2|⟨id,hD,bK,e⟩
   .exact .inl h2
   .exact .inr ⟨_,bK,e⟩
  .exact .inr ⟨_,hk,by rw[yQ]⟩
 .intro b hb hk;exact eF b hb λid hD bK e=>hk _ bK e
def zw(ad:Option Addr)(k:Nat)(vs:List Value):Sem Unit:=
 match ad with
 |some a=>storeCells (a.add k) vs
 |none=>pure ()
theorem oY{t t2 ty e e2:TypeId}{i:TypeInfo}{z:Value}(ht:P.underlying t=some (.slice e))(wK:P.underlying t2=some (.slice e2))(hi:P.info? e=some i)(hz:i.zero=some z){a0:Option Addr}{n1 c1 n2:Nat}{src:Value}{olds news:List Value}(hlen:(Builtin.lenOf src).run P w= .ok n2 w)(SH:∀k,(Builtin.firstCells i.size n2 src).run P (w.drewN k)= .ok news.toArray (w.drewN k))(holds:∀k,(Builtin.firstCells i.size n1 (.slice a0 n1 c1)).run P (w.drewN k)= .ok olds.toArray (w.drewN k))(hb:0<i.bytes)(kU:(n1+n2)*i.bytes<=140737488355328):
  (Builtin.append_ #[t,t2] ty #[.slice a0 n1 c1,src]).run P w=if n1+n2<=c1 then
    ((zw a0 (n1*i.size) news).run P w).andThen λ_ w'=>.ok (.slice a0 (n1+n2) c1) w'
   else .ok (.slice (some ⟨w.heap.size,0,none⟩) (n1+n2) (grownCap w (n1+n2) c1 e)) (w.drew.alloc (.cells (olds.toArray++news.toArray++Builtin.zeroCells z.cells (grownCap w (n1+n2) c1 e-(n1+n2))) e)):=by
 have HK:=SH 0;have qW:=SH 1;have T3:=holds 1;have e0:w.drewN 0=w:=rfl;have e1:w.drewN 1=w.drew:=rfl;rw[e0]at HK;rw[e1]at qW T3;have Fm:n1+n2<=140737488355328:=abF (ady _ hb) kU;unfold Builtin.append_;by_cases hc:n1+n2<=c1
 .simp[run_underlying ht,run_underlying wK,sizeOf,typeInfo,hi,hlen,hc,HK];cases a0<;>simp[zw]
 .have aai:¬(9223372036854775807<((n1:Int)+(n2:Int))):=om;have aaj:¬(281474976710656<Builtin.nextslicecap (n1+n2) c1*i.bytes):=by have:=growslice_fits (need:=n1+n2) (old:=c1) om kU;omega
  have tL:¬i.bytes=0:=om;simp[run_underlying ht,run_underlying wK,sizeOf,typeInfo,zeroValue,hi,hz,hlen,hc,aai,aaj,Question.forced,qW,T3,newRow,grownCap];congr 2;apply ab1;simp[ac2]
def wN(v:CV)(i j:Nat):Option (Nat×Nat×Nat):=
 match v with
 | .rv (.one (.row id _ lo _))=>some (id,lo+i,j)
 |_=>none
theorem jS{α:Type}(l:List α)(lo:Nat)(hi:Option Nat):b7 l lo hi=(match hi with|none=>l|some h=>l.take h).drop lo:=by
 cases lo<;>cases hi<;>simp[b7]
structure AL(ρ:bJ)(w:World)(esz:Nat)(pos:Nat->Nat->Option (Nat×Nat×Nat))(E:List (List CC))(ad:Option Addr)(vs:List Value):Prop where
 len:vs.length=E.length*esz
 l7:∀cs,cs∈E->cs.length=esz
 Mo:0<E.length->∃b off,ad=some ⟨b,off,none⟩/\∀k u,vs[k]? =some u->w.cell? ⟨b,off+k,none⟩=some u
 jR:∀(i:Nat)cs(j:Nat)c,E[i]? =some cs->cs[j]? =some c->∃u,vs[i*esz+j]? =some u/\bm ρ w (pos i j) c u
 one:∀u,u∈vs->u.oneCell'=true
theorem zx{esz:Nat}{pos:Nat->Nat->Option (Nat×Nat×Nat)}{E:List (List CC)}{b off:Nat}(l7:∀cs,cs∈E->cs.length=esz)(h:∀(i:Nat)cs(j:Nat)c,E[i]? =some cs->cs[j]? =some c->∃u,w.cell? ⟨b,off+i*esz+j,none⟩=some u/\bm ρ w (pos i j) c u):
  ∃vs,AL ρ w esz pos E (some ⟨b,off,none⟩) vs:=by
 have all:∀k,k<E.length*esz->∃u p c,w.cell? ⟨b,off+k,none⟩=some u/\bm ρ w p c u:=by
  intro k hk;have cJ:0<esz:=by
   rcases abp esz with h0|h0
   .subst h0;simp at hk
   .exact h0
  have hi:k/esz<E.length:=Nat.div_lt_of_lt_mul (by rwa [adw])
  have hj:k%esz<esz:=Nat.mod_lt _ cJ;have eL:=l7 _ (aay hi);obtain⟨u,hu,hd⟩:=h (k/esz) _ (k%esz) _ (vR hi) (vR (by rw[eL];exact hj))
  have e:off+k/esz*esz+k%esz=off+k:=by have:=Nat.div_add_mod k esz;rw[adw]at this;omega
  rw[e]at hu;exact⟨u,_,_,hu,hd⟩
 let vs:=(List.range (E.length*esz)).map λk=>(w.cell? ⟨b,off+k,none⟩).getD Go.undef
 have ku:∀k u,vs[k]? =some u->k<E.length*esz/\w.cell? ⟨b,off+k,none⟩=some u:=by
  intro k u hu;have hk:k<E.length*esz:=by have:=(Ki.1 hu).1;simpa[vs]using this
  obtain⟨u',p,c,vH,_⟩:=all k hk;simp only[vs,Tr,List.getElem?_range hk,aaG,vH,abA,aaA]at hu;exact⟨hk,by rw[vH,hu]⟩
 refine⟨vs,by simp[vs],l7,λ_=>⟨b,off,rfl,λk u hu=>(ku k u hu).2⟩,λi cs j c hi hj=>?_,λu hu=>?_⟩
 .obtain⟨u,hu,hd⟩:=h i cs j c hi hj;refine⟨u,?_,hd⟩;have vI:=(Ki.1 hi).1;have kM:j<esz:=by rw[<-l7 _ (Tu hi)];exact(Ki.1 hj).1
  have aD:i*esz+j<E.length*esz:=by have:(i+1)*esz<=E.length*esz:=aa8 _ vI;rw[abk,ab4]at this;omega
  simp only[vs,Tr,List.getElem?_range aD,aaG,<-Nat.add_assoc,hu,abA]
 .obtain⟨k,hk,rfl⟩:=adr hu;obtain⟨oZ,hc⟩:=ku k _ (vR hk);obtain⟨u',p,c,vH,hd⟩:=all k oZ;rw[hc]at vH;cases vH;exact hd.one
theorem nO(hM:aA ρ m w){esz:Nat}{c:CV}{v:Value}{E:List (List CC)}(h:fH m esz c=some E)(hd:cf ρ w c v):
  ∃ad cap vs,v= .slice ad E.length cap/\E.length<=cap/\cap<=maxLen/\AL ρ w esz (wN c) E ad vs:=by
 unfold fH at h;split at h
 .rename_i e elems;split at h
  .rename_i he;have he:e=esz:=aau he;subst he;cases h;cases hd with
   |nil _ a cap hc=>exact⟨_,_,[],rfl,aC,hc,aC,aC,aC,aC,aC⟩
   |sl _ _ b off cap u hS hl bg dq hc cr=>
    obtain⟨vs,EN⟩:=zx (ρ:=ρ) (w:=w) (esz:=e) (pos:=λ_ _=>none) (E:=elems.map λds=>ds.map .ah) (b:=b) (off:=off) (λcs eL=>by
     obtain⟨ds,zy,rfl⟩:=aaz.1 eL;simpa using dq ds zy) (λi cs j c hi hj=>by
     rw[Tr]at hi;cases eW:elems[i]? with
     |none=>rw[eW]at hi;cases hi
     |some ds=>
      rw[eW]at hi;cases hi;rw[Tr]at hj;cases l4:ds[j]? with
      |none=>rw[l4]at hj;cases hj
      |some d=>
       rw[l4]at hj;cases hj;exact⟨_,hc i ds j d eW l4,cr i ds j d eW l4⟩)
    exact⟨_,cap,vs,aC,by simpa using hl,bg,EN⟩
  .cases h
 .rename_i id e lo hi;split at h
  .rename_i e2 rows hb;rw[aV]at hb;split at h
   .rename_i he kK;have he:e=esz:=aau he;have kK:e2=esz:=aau kK;subst he;subst kK;cases h;obtain⟨h2,h3,h4,h5,Cp⟩:=hM.bk id _ hb;obtain⟨aD,d1,d2,d3,d4,ad,rfl,vE⟩:=hd;have hlen:(b7 rows lo hi).length=hi.getD (ρ.aI (.aj id)).len-lo:=by
     rw[jS];cases hi with
     |none=>simp[h2]
     |some h=>simp[h2];simp at d2;omega
    have ku:∀i cs,(b7 rows lo hi)[i]? =some cs->rows[lo+i]? =some cs:=by
     intro i cs Fo;rw[jS]at Fo;rw[abi]at Fo;cases hi with
     |none=>exact Fo
     |some h=>
      rw[aaS]at Fo;split at Fo
      .exact Fo
      .cases Fo
    rw[<-hlen];rcases abp (b7 rows lo hi).length with h0|h0
    .have T5:=aaq h0;refine⟨ad,_,[],rfl,om,om,?_⟩;rw[T5];exact⟨aC,aC,aC,aC,aC⟩
    .have cJ:0<(ρ.aI (.aj id)).cap:=by clear Cp;omega
     obtain⟨cur,b8,h1,cr⟩:=Cp cJ;rw[vE (by clear Cp;omega)]
     obtain⟨vs,EN⟩:=zx (ρ:=ρ) (w:=w) (esz:=e2) (pos:=wN (.rv (.one (.row id e2 lo hi)))) (E:=b7 rows lo hi) (b:=(ρ.aI (.aj id)).b) (off:=(ρ.aI (.aj id)).ar+lo*e2) (λcs eL=>by
      obtain⟨i,eQ,WL⟩:=adr eL;have:=ku i cs (by rw[vR eQ,WL])
      exact h5 cs (Tu this)) (λi cs j c eQ oB=>by
      obtain⟨u,hu,cz⟩:=cr (lo+i) cs j c (ku i cs eQ) oB;refine⟨u,?_,cz⟩;rw[b8.cell,<-hu];congr 1;rw[abk];omega)
     exact⟨_,_,vs,rfl,by clear Cp;omega,by clear Cp;omega,EN⟩
   .cases h
  .cases h
 .cases h;obtain⟨ad,rfl⟩:=hd;exact⟨ad,0,[],rfl,aC,by unfold maxLen;omega,aC,aC,aC,aC,aC⟩
 .cases h
theorem AL.firstCells{esz:Nat}{pos:Nat->Nat->Option (Nat×Nat×Nat)}{E:List (List CC)}{ad:Option Addr}{vs:List Value}(h:AL ρ w esz pos E ad vs)(cap k:Nat):
  (Builtin.firstCells esz E.length (.slice ad E.length cap)).run P (w.drewN k)= .ok vs.toArray (w.drewN k):=by
 rcases abp E.length with h0|h0
 .have hv:vs=[]:=aaq (by rw[h.len,h0];simp)
  subst hv;rw[h0];cases ad<;>simp[Builtin.firstCells,loadCells,loadCellsFrom]
 .obtain⟨b,off,rfl,hc⟩:=h.Mo h0;exact run_firstCells_some (P:=P) (w.drewN k) esz E.length ⟨b,off,none⟩ E.length cap vs h.len λj v hj=>by rw[mF];exact hc j v hj
theorem zA(m:Mem)(c:CV):(jk m c).length=m.length/\∀(id:Nat)b,(jk m c)[id]? =some b->b= .aU\/(m[id]? =some b/\¬∃e lo hi,c= .rv (.one (.row id e lo hi))):=by
 unfold jk;split
 .rename_i id e lo hi;rw[bb];refine⟨aC,λk b hb=>?_⟩
  by_cases hk:id=k
  .subst hk;have aD:id<m.length:=by
    rcases aag id m.length with h|h
    .exact h
    .rw[aaH (by simpa using h)]at hb;cases hb
   rw[TK aD]at hb;cases hb;exact .inl rfl
  .rw[U9 hk]at hb;refine .inr ⟨hb,?_⟩;rintro⟨_,_,_,h⟩;cases h;exact hk rfl
 .rename_i kz;refine⟨rfl,λk b hb=>.inr ⟨hb,?_⟩⟩
  rintro⟨e,lo,hi,rfl⟩;exact kz _ _ _ _ rfl
def qX(c1 c2:CV)(n1:Nat)(i j:Nat):gv:=
 if i<n1 then(match wN c1 i j with|some (a,b,c)=>.sub a b c|none=>.aj 0)
 else(match wN c2 (i-n1) j with|some (a,b,c)=>.sub a b c|none=>.aj 0)
theorem ml{esz:Nat}{c:CV}{E:List (List CC)}(h:fH m esz c=some E){i j:Nat}{cs:List CC}{s:Nat}{e:List (List Dt)}(hi:E[i]? =some cs)(hj:cs[j]? =some (.ei s e)):
  ∃id e0 lo eQ,c= .rv (.one (.row id e0 lo eQ))/\dZ m id (lo+i) j s e:=by
 unfold fH at h;split at h
 .split at h
  .cases h;rw[Tr]at hi;cases eW:(_:List (List Dt))[i]? with
   |none=>rw[eW]at hi;cases hi
   |some ds=>
    rw[eW]at hi;cases hi;rw[Tr]at hj;cases l4:ds[j]? with
    |none=>rw[l4]at hj;cases hj
    |some d=>rw[l4]at hj;cases hj
  .cases h
 .rename_i id e0 lo eQ;split at h
  .rename_i e2 rows hb;rw[aV]at hb;split at h
   .cases h;refine⟨id,e0,lo,eQ,rfl,_,hb,.row (rows:=rows) (cs:=cs) ?_ hj⟩;rw[jS,abi]at hi;cases eQ with
    |none=>exact hi
    |some h=>
     rw[aaS]at hi;split at hi
     .exact hi
     .cases hi
   .cases h
  .cases h
 .cases h;simp at hi
 .cases h
theorem pO{c:CV}{id e lo:Nat}{hi:Option Nat}(h:c= .rv (.one (.row id e lo hi)))(i j:Nat):wN c i j=some (id,lo+i,j):=by subst h;rfl
theorem Fp(hM:aA ρ m w)(hE:bn ρ w aZ a.tmps){t t2 ty e e2:TypeId}{i:TypeInfo}{z:List CC}{x y:Operand}{x' y':X}(ht:P.underlying t=some (.slice e))(wK:P.underlying t2=some (.slice e2))(hi:P.info? e=some i)(hz:ek P e=some z)(dq:i.size=z.length)(cJ:0<z.length)(hb:0<i.bytes)(hx:bq x=some x')(hy:bq y=some y')(zB:(wv (x'.ev aZ)&&Hy (x'.ev aZ) (y'.ev aZ))=true)(g1:ok (fH m i.size (x'.ev aZ)) λE1=>ok (fH m i.size (y'.ev aZ)) λE2=>(E1.length+E2.length)*i.bytes<=140737488355328/\nJ m λn=>K (.rv (.one (.row n i.size 0 none))) (gI (jk (jk m (x'.ev aZ)) (y'.ev aZ)) [.row i.size (E1++E2)])):
  dh P (do pure (Next.value (<-Builtin.append_ #[t,t2] ty #[a.eval x,a.eval y]))) ρ m w K:=by
 have hd:=aT hE hx;have qp:=aT hE hy;generalize a.eval x=v at hd|-;generalize a.eval y=v2 at qp|-;generalize x'.ev aZ=c1 at hd zB g1;generalize y'.ev aZ=c2 at qp zB g1;rw[aae]at zB;obtain⟨kq,dy⟩:=zB;obtain⟨E1,AN,g2⟩:=aW.1 g1;obtain⟨E2,EO,kU,g3⟩:=aW.1 g2;rw[gP,cg]at g3;obtain⟨Qq,kV,VR,Fq,WM,Qr,F1⟩:=nO hM AN hd;obtain⟨ad2,Mq,Mr,vJ,WN,WO,F2⟩:=nO hM EO qp;have EL:=hz;simp only[ek,U8,Pu]at EL;obtain⟨i',eQ,zv,Qs,Qo⟩:=EL;rw[hi]at eQ;cases eQ;have WQ:zv.cells.size=i.size:=by have:=(fu (ρ:=ρ) (w:=w) Qo).1;rw[dq];simpa using this
 have Fm:E1.length+E2.length<=140737488355328:=abF (ady _ hb) kU;have cP:=oY (P:=P) (w:=w) (ty:=ty) ht wK hi Qs (a0:=Qq) (n1:=E1.length) (c1:=kV) (n2:=E2.length) (src:=v2) (olds:=VR) (news:=Mr)
  (by rw[vJ];rfl) (λk=>by rw[vJ];exact F2.firstCells Mq k) (λk=>F1.firstCells kV k) hb kU
 rw[<-Fq]at cP;let D:Nat->Prop:=λid=>(∃e lo hi,c1= .rv (.one (.row id e lo hi)))\/(∃e lo hi,c2= .rv (.one (.row id e lo hi)))
 obtain⟨k1,k2⟩:=zA m c1;obtain⟨k3,k4⟩:=zA (jk m c1) c2;have Jk:∀(id:Nat)b,(jk (jk m c1) c2)[id]? =some b->b= .aU\/(m[id]? =some b/\¬D id):=λid b hb=>by
  rcases k4 id b hb with h|⟨h,hn⟩
  .exact .inl h
  .rcases k2 id b h with h|⟨h,P2⟩
   .exact .inl h
   .exact .inr ⟨h,λhD=>hD.elim P2 hn⟩
 let src:=qX c1 c2 E1.length;have l7:∀cs,cs∈E1++E2->cs.length=i.size:=λcs eL=>(abD.1 eL).elim (F1.l7 cs) (F2.l7 cs)
 have jr:∀{U':bJ}{w':World},iM ρ w U' w'->(∀i j,U'.aI (.sub ρ.n i j)=ρ.aI (src i j))->
   ∀(k:Nat)cs(j:Nat)c,(E1++E2)[k]? =some cs->cs[j]? =some c->∃u,(VR++Mr)[k*i.size+j]? =some u/\bm U' w' (some (ρ.n,k,j)) c u:=by
  intro U' w' g bQ k cs j c hk hj;have kM:j<i.size:=by rw[<-l7 cs (Tu hk)];exact(Ki.1 hj).1
  have conv:∀(p:Option (Nat×Nat×Nat))u,bm ρ w p c u->(∀a b d,p=some (a,b,d)->a<ρ.n/\src k j= .sub a b d)->bm U' w' (some (ρ.n,k,j)) c u:=by
   intro p u cz hp;have h1:=cz.cn g (λa b d yR=>(hp a b d yR).1)
   cases c<;>try exact h1
   obtain⟨a,b,d,yR,rL⟩:=cz;obtain⟨_,hs⟩:=hp a b d yR;exact⟨ρ.n,k,j,rfl,by rw[bQ,hs];exact rL⟩
  have WR:∀{cc:CV}{vv:Value}{i j a b d:Nat},cf ρ w cc vv->wN cc i j=some (a,b,d)->a<ρ.n:=by
   intro cc vv i j a b d Qt hp;unfold wN at hp;split at hp
   .cases hp;exact Qt.1
   .cases hp
  rcases aag k E1.length with aD|eG
  .rw[aad aD]at hk;obtain⟨u,hu,cz⟩:=F1.jR k cs j c hk hj;refine⟨u,?_,conv _ u cz λa b d hp=>⟨WR hd hp,by simp only[src,qX,if_pos aD,hp]⟩⟩
   rw[aad]
   .exact hu
   .exact(Ki.1 hu).1
  .rw[Y5 eG]at hk;obtain⟨u,hu,cz⟩:=F2.jR (k-E1.length) cs j c hk hj;refine⟨u,?_,conv _ u cz λa b d hp=>⟨WR qp hp,by simp only[src,qX,if_neg (show ¬k<E1.length by omega),hp]⟩⟩
   rw[Y5]
   .rw[<-hu];congr 1;rw[F1.len,aed];have:E1.length*i.size<=k*i.size:=aa8 _ eG;omega
   .rw[F1.len];have:E1.length*i.size<=k*i.size:=aa8 _ eG;omega
 have Ms:∀(k:Nat)cs(j:Nat)s e,(E1++E2)[k]? =some cs->cs[j]? =some (.ei s e)->∃kJ i' j',src k j= .sub kJ i' j'/\D kJ/\dZ m kJ i' j' s e:=by
  intro k cs j s e hk hj;rcases aag k E1.length with aD|eG
  .rw[aad aD]at hk;obtain⟨id,e0,lo,eQ,hc,ho⟩:=ml AN hk hj;exact⟨id,lo+k,j,by simp only[src,qX,if_pos aD,pO hc],.inl ⟨_,_,_,hc⟩,ho⟩
  .rw[Y5 eG]at hk;obtain⟨id,e0,lo,eQ,hc,ho⟩:=ml EO hk hj;exact⟨id,lo+(k-E1.length),j,by simp only[src,qX,if_neg (show ¬k<E1.length by omega),pO hc],.inr ⟨_,_,_,hc⟩,ho⟩
 have oX:∀i j i' j',src i j=src i' j'->(∃cs s e,(E1++E2)[i]? =some cs/\cs[j]? =some (.ei s e))->(∃cs s e,(E1++E2)[i']? =some cs/\cs[j']? =some (.ei s e))->i=i'/\j=j':=by
  have side:∀k j,(∃cs s e,(E1++E2)[k]? =some cs/\cs[j]? =some (.ei s e))->
    (k<E1.length/\∃id e0 lo eQ,c1= .rv (.one (.row id e0 lo eQ))/\src k j= .sub id (lo+k) j)\/(E1.length<=k/\∃id e0 lo eQ,c2= .rv (.one (.row id e0 lo eQ))/\src k j= .sub id (lo+(k-E1.length)) j):=by
   rintro k j ⟨cs,s,e,hk,hj⟩;rcases aag k E1.length with aD|eG
   .rw[aad aD]at hk;obtain⟨id,e0,lo,eQ,hc,ho⟩:=ml AN hk hj;exact .inl ⟨aD,id,e0,lo,eQ,hc,by simp only[src,qX,if_pos aD,pO hc]⟩
   .rw[Y5 eG]at hk;obtain⟨id,e0,lo,eQ,hc,ho⟩:=ml EO hk hj;exact .inr ⟨eG,id,e0,lo,eQ,hc,by simp only[src,qX,if_neg (show ¬k<E1.length by omega),pO hc]⟩
  intro k j k' j' hs hk gh;rcases side k j hk with⟨h1,id,e0,lo,vZ,hc,WS⟩|⟨h1,id,e0,lo,vZ,hc,WS⟩<;>rcases side k' j' gh with⟨h2,id2,e02,lo2,aak,wO,Mt⟩|⟨h2,id2,e02,lo2,aak,wO,Mt⟩
  .rw[hc]at wO;injection wO with wO;injection wO with wO;injection wO with q1 q2 q3 q4
   subst q3;rw[WS,Mt]at hs;injection hs with q5 q6 q7
   exact⟨om,q7⟩
  .rw[WS,Mt]at hs;injection hs with q5 q6 q7
   rw[hc,wO]at dy;simp only[Hy,abU]at dy;exact absurd q5 (adh dy)
  .rw[WS,Mt]at hs;injection hs with q5 q6 q7
   rw[hc,wO]at dy;simp only[Hy,abU]at dy;exact absurd q5.symm (adh dy)
  .rw[hc]at wO;injection wO with wO;injection wO with wO;injection wO with q1 q2 q3 q4
   subst q3;rw[WS,Mt]at hs;injection hs with q5 q6 q7
   exact⟨om,q7⟩
 have HM:∀(l:wj)i j,(ρ.move l src).aI (.sub ρ.n i j)=ρ.aI (src i j):=by intro l i j;simp[bJ.move]
 have rV:∀(l:wj),(ρ.move l src).aI (.aj m.length)=l:=by intro l;rw[<-hM.n];simp[bJ.move]
 have Qu:∀(l:wj),l.len=E1.length+E2.length->l.cap<=maxLen->l.len<=l.cap->∀ad,(0<l.cap->ad=some ⟨l.b,l.ar,none⟩)->∀w',cf (ρ.move l src) w' (.rv (.one (.row m.length i.size 0 none))) (.slice ad (E1.length+E2.length) l.cap):=by
  intro l hl hc oW ad vE w';refine⟨by simp[bJ.move,hM.n],aC,aC,by rw[rV];exact oW,by rw[rV];exact hc,ad,?_,?_⟩
  .rw[rV];simp[hl]
  .rw[rV];intro h0;rw[vE h0];simp
 by_cases oo:E1.length+E2.length<=kV
 .rw[if_pos oo]at cP;rcases abp kV with Mu|Mu
  ·
   have n1:E1.length=0:=om;have n2:E2.length=0:=om;have aal:Mr=[]:=aaq (by rw[F2.len,n2];simp)
   subst aal;have lZ:((zw Qq (E1.length*i.size) []).run P w)= .ok () w:=by
    cases Qq<;>simp[zw,storeCells]
   rw[lZ]at cP;simp only[Result.andThen_ok]at cP;let l:wj:=⟨0,0,0,0⟩;obtain⟨jl,SI⟩:=hM.move (m1:=jk (jk m c1) c2) (D:=D) (esz:=i.size) (E:=E1++E2) (l:=l) (src:=src) (w':=w) (by rw[k3,k1]) Jk (Yj _) rfl rfl rfl (λ_ _ _=>rfl)
    (by simp[l]) (by simp[l,n1,n2]) (Yj _) (by simp[l]) l7 (by simp[l]) Ms oX
   refine⟨_,_,w,_,_,_,by rw[Sem.run_bind,cP];rfl,.inl rfl,g3,jl,?_,SI⟩
   have:=Qu l (by simp[l,n1,n2]) (by simp[l]) (Yj _) Qq (by simp[l]) w
   rw[Mu];exact this
  ·
   have oC:∃id lo eQ,c1= .rv (.one (.row id i.size lo eQ))/\Live ρ m (.aj id)/\Qq=some ⟨(ρ.aI (.aj id)).b,(ρ.aI (.aj id)).ar+lo*i.size,none⟩/\kV=(ρ.aI (.aj id)).cap-lo/\
     ∃cur,mE (i.size=1) w (ρ.aI (.aj id)).b cur/\(ρ.aI (.aj id)).ar+(ρ.aI (.aj id)).cap*i.size<=cur.size:=by
    unfold fH at AN;split at AN
    .simp[wv]at kq
    .rename_i id e0 lo eQ;split at AN
     .rename_i e2' rows df;rw[aV]at df;split at AN
      .rename_i q1 q2;have q1:e0=i.size:=aau q1;have q2:e2'=i.size:=aau q2;subst q1;rw[q2]at df;obtain⟨r2,r3,r4,r5,Jl⟩:=hM.bk id _ df;obtain⟨aD,d1,d2,d3,d4,ad,Qv,vE⟩:=hd;rw[Qv]at Fq;injection Fq with aam aez WT
       have vG:0<(ρ.aI (.aj id)).cap:=by clear Jl;omega
       obtain⟨cur,b8,h1,_⟩:=Jl vG;exact⟨id,lo,eQ,rfl,⟨_,df,aC,λ_=>vG⟩,by rw[<-aam];exact vE (by clear Jl;omega),WT.symm,cur,b8,h1⟩
      .cases AN
     .cases AN
    .cases AN;obtain⟨ad,Qv⟩:=hd;rw[Qv]at Fq;injection Fq with _ _ WT
     omega
    .cases AN
   obtain⟨id,lo,eQ,rfl,bK,rfl,HN,cur,b8,eL⟩:=oC;have ir:lo+kV=(ρ.aI (.aj id)).cap:=om;have hbound:(ρ.aI (.aj id)).ar+lo*i.size+kV*i.size<=cur.size:=by have:(lo+kV)*i.size=lo*i.size+kV*i.size:=abk ..;rw[<-ir,this]at eL;omega
   have aan:E1.length*i.size+E2.length*i.size<=kV*i.size:=by rw[<-abk];exact aa8 _ oo
   obtain⟨w',gZ,lZ,rS,VS,aao,gh⟩:=nM (P:=P) (ρ.aI (.aj id)).b ((ρ.aI (.aj id)).ar+lo*i.size+E1.length*i.size) Mr 0 cur w b8 (by rw[F2.len];omega) F2.one
   have zu:(Builtin.append_ #[t,t2] ty #[v,v2]).run P w= .ok (.slice (some ⟨(ρ.aI (.aj id)).b,(ρ.aI (.aj id)).ar+lo*i.size,none⟩) (E1.length+E2.length) kV) w':=by rw[cP];simp only[zw,mF];rw[lZ];rfl
   let l:wj:=⟨(ρ.aI (.aj id)).b,(ρ.aI (.aj id)).ar+lo*i.size,E1.length+E2.length,kV⟩;have b9:=hM.aO _ bK;obtain⟨jl,SI⟩:=hM.move (m1:=jk (jk m (.rv (.one (.row id i.size lo eQ)))) c2) (D:=D) (esz:=i.size) (E:=E1++E2) (l:=l) (src:=src) (w':=w') (by rw[k3,k1]) Jk (Nat.le_of_eq VS.size.symm) VS.os VS.tape VS.output
    (λb hb hn=>VS.heap b λe=>hn id (.inl ⟨_,_,_,rfl⟩) bK e.symm) (λ_=>⟨by rw[VS.size];exact b9.1,.inr ⟨id,.inl ⟨_,_,_,rfl⟩,bK,rfl⟩⟩) (by simp[l]) oo Qr l7
    (λg _=>⟨gZ,rS,by rw[aao];exact hbound,λk cs j c hk hj=>by
     obtain⟨u,hu,cz⟩:=jr g (HM l) k cs j c hk hj;refine⟨u,?_,cz⟩;rw[gh];simp only[l,ac8];have aD:=(Ki.1 hu).1;rw[aa5,F1.len,F2.len]at aD;rcases aag (k*i.size+j) (E1.length*i.size)with zs|zs
     .rw[if_neg om];rw[aad (by rw[F1.len];exact zs)]at hu
      obtain⟨b',aeA,T6,hrd⟩:=F1.Mo (by
       rcases abp E1.length with h0|h0
       .rw[h0]at zs;simp at zs
       .exact h0)
      injection T6 with T6
      injection T6 with WU fK
      have hh:=hrd _ u hu;rw[<-WU,<-fK,b8.cell]at hh;rw[<-hh];congr 1;omega
     .rw[if_pos (by rw[F2.len];omega)]
      rw[Y5 (by rw[F1.len];exact zs)]at hu
      rw[<-hu];congr 1;rw[F1.len];omega⟩) Ms oX
   refine⟨_,_,w',_,_,_,by rw[Sem.run_bind,zu];rfl,.inl rfl,g3,jl,?_,SI⟩
   exact Qu l rfl Qr oo _ (λ_=>rfl) w'
 ·
  rw[if_neg oo]at cP;have eG:=grownCap_ge w (E1.length+E2.length) kV e;have WV:grownCap w (E1.length+E2.length) kV e<=maxLen:=grownCap_le_maxLen w _ kV e (by unfold maxLen;omega)
  let cells:Array Value:=VR.toArray++Mr.toArray++Builtin.zeroCells zv.cells (grownCap w (E1.length+E2.length) kV e-(E1.length+E2.length));let l:wj:=⟨w.heap.size,0,E1.length+E2.length,grownCap w (E1.length+E2.length) kV e⟩;have WW:cells.size=grownCap w (E1.length+E2.length) kV e*i.size:=by simp only[cells,Array.size_append,List.size_toArray,F1.len,F2.len,size_zeroCells,WQ,<-Nat.add_mul];congr 1;omega
  have m6:mE (i.size=1) (w.drew.alloc (.cells cells e)) w.heap.size cells:=mE.new w.drew cells e;obtain⟨jl,SI⟩:=hM.move (m1:=jk (jk m c1) c2) (D:=D) (esz:=i.size) (E:=E1++E2) (l:=l) (src:=src) (w':=w.drew.alloc (.cells cells e)) (by rw[k3,k1]) Jk aC rfl rfl rfl
   (λb hb _=>heap_alloc_old w.drew _ b hb) (λ_=>⟨m6.lt,.inl (Yj _)⟩) (by simp[l]) eG WV l7
   (λg _=>⟨cells,m6,by simp only[l,aa6];rw[WW];exact Yj _,λk cs j c hk hj=>by
    obtain⟨u,hu,cz⟩:=jr g (HM l) k cs j c hk hj;refine⟨u,?_,cz⟩;have aD:=(Ki.1 hu).1;simp only[l,aa6,cells];rw[acZ (by simpa using aD)]
    simpa using hu⟩) Ms oX
  refine⟨_,_,_,_,_,_,by rw[Sem.run_bind,cP];rfl,.inl rfl,g3,jl,?_,SI⟩
  exact Qu l rfl WV eG _ (λ_=>rfl) _
end
end Go.AM
