/- Part 3 of 18. -/
import Derived.Test.YtojhmadmlnfpcaaGreatDoorS02
import Derived.ChangeKeysEq
import Derived.Laws.StructEq
set_option linter.unusedVariables false
set_option linter.unusedSimpArgs false
set_option linter.unnecessarySimpa false
set_option maxRecDepth 100000
set_option maxHeartbeats 0
namespace Go.AM
section
variable {P:Program} {ρ:bQ} {m:Mem} {w:World} {a8:List CV} {a:Act} {K:CV->Mem->Prop}
def iQ:List Kd->List Value->List Value->Option Bool
 | [],[],[]=>some true
 |k::ks,a::r,b::s=>match Oc k a b,iQ ks r s with
  |some x,some y=>some (x&&y)
  |_,_=>none
 |_,_,_=>none
theorem nW:∀{ks:List Kd}{a b:List Value}{r:Bool},iQ ks a b=some r->a.length=ks.length/\b.length=ks.length
 | [],[],[],r,h=>⟨rfl,rfl⟩
 | [],[],_::_,r,h=>by simp[iQ]at h
 | [],_::_,_,r,h=>by simp[iQ]at h
 |k::ks,[],_,r,h=>by simp[iQ]at h
 |k::ks,_::_,[],r,h=>by simp[iQ]at h
 |k::ks,a::l,b::l',r,h=>by
  simp only[iQ]at h;split at h
  .rename_i x y hx hy;obtain⟨h1,h2⟩:=nW hy;exact⟨by simp[h1],by simp[h2]⟩
  .cases h
theorem tz:∀{ks ls:List Kd}{u v:List Value}{r:Bool},iQ (ks++ls) u v=some r->
  ∃u1 u2 v1 v2 x y,u=u1++u2/\v=v1++v2/\iQ ks u1 v1=some x/\iQ ls u2 v2=some y/\r=(x&&y)
 | [],ls,u,v,r,h=>⟨[],u,[],v,true,r,rfl,rfl,rfl,h,aG⟩
 |k::ks,ls,[],v,r,h=>by simp[iQ]at h
 |k::ks,ls,_::_,[],r,h=>by simp[iQ]at h
 |k::ks,ls,a::l,b::l',r,h=>by
  simp only[adj,iQ]at h;split at h
  .rename_i x y hx hy;cases h;obtain⟨u1,u2,v1,v2,x1,y1,rfl,rfl,h1,h2,rfl⟩:=tz hy;exact⟨a::u1,u2,b::v1,v2,x&&x1,y1,rfl,rfl,by simp[iQ,hx,h1],h2,by simp[Bool.and_assoc]⟩
  .cases h
def pq(P:Program)(t:TypeId)(us:List Value):Value:=if ep P t=some true then .agg us.toArray else us.headD Go.undef
theorem qI{t:TypeId}{pre us post:List Value}(hs:eL P t=some us.length)(ha:ep P t=some true\/(ep P t=some false/\us.length=1)):
  (part t (pre++(us++post)).toArray pre.length).run P w= .ok (pq P t us) w:=by
 unfold part pq;rcases ha with ha|⟨ha,h1⟩
 .rw[Sem.run_bind,oQ ha];simp only[Result.andThen_ok,if_true,ha];rw[Sem.run_bind,fq hs];simp only[Result.andThen_ok,Sem.run_pure];congr 2;apply ab4;simp
 .rw[Sem.run_bind,oQ ha]
  match us,h1 with
  | [u],_=>
   simp[ha]
theorem qJ:∀(d:Nat)(t:TypeId)(ks:List Kd),flatK P d t=some ks->eL P t=some ks.length/\(ep P t=some true\/(ep P t=some false/\ks.length=1))/\
  ∀(k:Nat),d<=k->∀(us vs:List Value)(b:Bool),iQ ks us vs=some b->(Op.equalIn k t (pq P t us) (pq P t vs)).run P w= .ok b w
 |0,t,ks,h=>by simp[flatK]at h
 |d+1,t,ks,h=>by
  simp only[flatK]at h;have plain:∀kd,ks=[kd]->eL P t=some 1->ep P t=some false->(∀(k:Nat)(x y:Value)b,Oc kd x y=some b->(Op.equalIn (k+1) t x y).run P w= .ok b w)->
    eL P t=some ks.length/\(ep P t=some true\/(ep P t=some false/\ks.length=1))/\
    ∀(k:Nat),d+1<=k->∀(us vs:List Value)(b:Bool),iQ ks us vs=some b->(Op.equalIn k t (pq P t us) (pq P t vs)).run P w= .ok b w:=by
   rintro kd rfl hs ha dO;refine⟨hs,.inr ⟨ha,rfl⟩,fun k hk us vs b he=>?_⟩
   obtain⟨h1,h2⟩:=nW he
   match us,vs,h1,h2 with
   | [x],[y],_,_=>
    obtain⟨k,rfl⟩:∃k',k=k'+1:=⟨k-1,om⟩;simp only[pq,ha];simp only[iQ]at he;split at he
    .rename_i p q hp hq;cases he;cases hq;simp only[ada];exact dO k x y p hp
    .cases he
  split at h
  .rename_i hu;split at h
   .cases h;refine plain .b rfl (by assumption) (by simp[ep,hu]) fun k x y b he=>?_
    cases x<;>cases y<;>simp only[Oc]at he<;>try(cases he;done)
    cases he;simp[Op.equalIn,run_underlying hu]
   .cases h
  .rename_i kk hu;split at h
   .cases h;refine plain .i rfl (by assumption) (by simp[ep,hu]) fun k x y b he=>?_
    cases x<;>cases y<;>simp only[Oc]at he<;>try(cases he;done)
    rename_i k1 a k2 b';by_cases hk:k1=k2
    .subst hk;simp at he;subst he;simp[Op.equalIn,run_underlying hu]
    .rw[decide_eq_false hk]at he;cases he
   .cases h
  .rename_i hu;split at h
   .cases h;refine plain .s rfl (by assumption) (by simp[ep,hu]) fun k x y b he=>?_
    cases x<;>cases y<;>simp only[Oc]at he<;>try(cases he;done)
    cases he;simp[Op.equalIn,run_underlying hu,beq_toListBytes]
   .cases h
  .rename_i fs hu;split at h
   .rename_i ua;split at h
    .rename_i ks0 hf;split at h
     .rename_i dN;cases h;have ha:ep P t=some true:=by simp[ep,hu]
      refine⟨dN,.inl ha,fun k hk us vs b he=>?_⟩
      obtain⟨k,rfl⟩:∃k',k=k'+1:=⟨k-1,om⟩;have TU:P.fieldsOf t=fs:=by simp[Program.fieldsOf,hu]
      simp only[pq,ha,if_true];rw[run_equalIn_struct w k t us.toArray vs.toArray (by rw[TU];exact hu) ua,TU]
      have key:∀(l:List Field)(pre qK:List Value)(ls:List Kd)(us vs:List Value)(b:Bool),pre.length=qK.length->A4 (flatK P d) l pre.length=some ls->iQ ls us vs=some b->
        (Op.eqFields k (pre++us).toArray (qK++vs).toArray l).run P w= .ok b w:=by
       intro l
       induction l with
       |nil=>
        intro pre qK ls us vs b _ rY he;simp[A4]at rY;subst rY;obtain⟨h1,h2⟩:=nW he;cases us<;>cases vs<;>simp[iQ]at he h1 h2
        subst he;simp[Op.eqFields]
       |cons f l ih=>
        intro pre qK ls us vs b UG rY he;simp only[A4]at rY;split at rY
        .rename_i hc;split at rY
         .rename_i ks1 jI;split at rY
          .rename_i ls1 Bf;cases rY;obtain⟨u1,u2,v1,v2,x,y,rfl,rfl,RG,oT,rfl⟩:=tz he;obtain⟨g1,g2,g3⟩:=qJ d f.type ks1 jI;obtain⟨e1,e2⟩:=nW RG;simp only[Op.eqFields];rw[if_pos hc.1,hc.2];rw[Sem.run_bind,qI (by rw[g1,e1]) (by rw[e1];exact g2)]
           simp only[Result.andThen_ok];rw[Sem.run_bind,UG,qI (by rw[g1,e2]) (by rw[e2];exact g2)]
           simp only[Result.andThen_ok];rw[Sem.run_bind,g3 k om u1 v1 x RG];simp only[Result.andThen_ok];have:=ih (pre++u1) (qK++v1) ls1 u2 v2 y (by simp[UG,e1,e2]) (by rw[abO,e1];exact Bf) oT
           simp only[acM]at this;cases x
           .simp
           .simpa using this
          .cases rY
         .cases rY
        .cases rY
      have:=key fs.toList [] [] ks us vs b rfl hf he;simpa using this
     .cases h
    .cases h
   .cases h
  .cases h
theorem nX:∀{ks:List Kd}{cs ds:List CC}{b:Bool}{us vs:List Value},jR ks cs ds=some b->us.length=cs.length->vs.length=ds.length->
  (∀(i:Nat)c,cs[i]? =some c->∃u,us[i]? =some u/\bC ρ w .none c u)->(∀(i:Nat)c,ds[i]? =some c->∃u,vs[i]? =some u/\bC ρ w .none c u)->iQ ks us vs=some b
 | [],[],[],b,us,vs,h,h1,h2,_,_=>by simp at h1 h2;subst h1 h2;simpa[jR,iQ]using h
 | [],[],_::_,b,us,vs,h,h1,h2,_,_=>by simp[jR]at h
 | [],_::_,_,b,us,vs,h,h1,h2,_,_=>by simp[jR]at h
 |k::ks,[],_,b,us,vs,h,h1,h2,_,_=>by simp[jR]at h
 |k::ks,c::cs,[],b,us,vs,h,h1,h2,_,_=>by cases c<;>simp[jR]at h
 |k::ks,c::cs,d::ds,b,us,vs,h,h1,h2,g1,g2=>by
  unfold jR at h;split at h
  .cases ‹_::_=[]›
  .rename_i k' ks' x r y s e1 e2 e3;cases e1;cases e2;cases e3;split at h
   .rename_i p q hp hq;cases h
    match us,vs,h1,h2 with
    |u::us,v::vs,h1,h2=>
     obtain⟨u',hu,cz⟩:=g1 0 _ rfl;obtain⟨v',hv,uA⟩:=g2 0 _ rfl;simp at hu hv;subst hu hv;obtain⟨rfl,_⟩:=bS cz (fun e=>by subst e;cases k<;>simp[Oc]at hp)
     obtain⟨rfl,_⟩:=bS uA (fun e=>by subst e;cases k<;>cases u<;>simp[Oc]at hp)
     have:=nX (us:=us) (vs:=vs) hq (by simpa using h1) (by simpa using h2) (fun i c hi=>by simpa using g1 (i+1) c (by simpa using hi)) (fun i c hi=>by simpa using g2 (i+1) c (by simpa using hi))
     simp[iQ,hp,this]
   .cases h
  .cases h
theorem xR(hM:aL ρ m w)(hE:bm ρ w a8 a.tmps){neg:Bool}{t:TypeId}{fs:Array Field}{ks:List Kd}{x y:Operand}{x' y':X}(ht:P.underlying t=some (.struct fs))(hg:P.eqGuardType P.depth t=false)(hk:flatK P 5 t=some ks)(hx:bt x=some x')(hy:bt y=some y')(h:step P (.Ht neg ks x' y') a8 m K):dI P (do let v<-(do eqGuard (if neg then .neq else .eql) t x y (a.eval x) (a.eval y);binOp (if neg then .neq else .eql) t (a.eval x) (a.eval y));pure (Next.value v)) ρ m w K:=by
 have hd:=aR hE hx;have po:=aR hE hy;simp only[step]at h;generalize a.eval x=v at hd⊢;generalize a.eval y=u at po⊢;generalize x'.ev a8=c at hd h;generalize y'.ev a8=d at po h;split at h
 .split at h
  .obtain⟨us,rfl,l1,d1⟩:=hd;obtain⟨vs,rfl,l2,d2⟩:=po;obtain⟨b,he,hK⟩:=bh.1 h;have Qt:=nX he l1 l2 d1 d2;have dO:=(qJ (w:=w) 5 t ks hk).2.2 10000 om us vs b Qt;have ha:ep P t=some true:=by simp[ep,ht]
   simp only[pq,ha,if_true]at dO;refine dI.pure hM (v:=_) ?_ hK (cA rfl);rw[Sem.run_bind,Sem.run_bind,run_eqGuard_agg w _ t x y _ _ hg];cases neg
   .simp only[Result.andThen_ok,abV,if_false,run_eql_struct,dO,Sem.run_pure]
   .simp only[Result.andThen_ok,if_true,run_neq_struct,dO,Sem.run_pure]
  .exact h.elim
 .exact h.elim
theorem qM{e:TypeId}{kk:IntKind}(hu:P.underlying e=some (.int kk))(hs:eL P e=some 1)(d:Nat):∀(us vs pre qK:List Value)(b:Bool),pre.length=qK.length->iQ (fT us.length .i) us vs=some b->
  (Op.eqItems (d+1) e 1 (pre++us).toArray (qK++vs).toArray (List.range' pre.length us.length)).run P w= .ok b w
 | [],[],pre,qK,b,_,he=>by simp[fT,iQ]at he;subst he;simp[Op.eqItems]
 | [],v::vs,pre,qK,b,_,he=>by simp[fT,iQ]at he
 |u::us,[],pre,qK,b,_,he=>by simp[fT,iQ]at he
 |u::us,v::vs,pre,qK,b,hp,he=>by
  have ha:ep P e=some false:=by simp[ep,hu]
  simp only[aar,fT,iQ]at he;split at he
  .rename_i x y hx hy;cases he;have ih:=qM hu hs d us vs (pre++ [u]) (qK++ [v]) y (by simp[hp]) hy
   have p1:=qI (w:=w) (t:=e) (pre:=pre) (us:=[u]) (post:=us) hs (.inr ⟨ha,rfl⟩);have p2:=qI (w:=w) (t:=e) (pre:=qK) (us:=[v]) (post:=vs) hs (.inr ⟨ha,rfl⟩);simp only[pq,ha,List.singleton_append]at p1 p2;have p3:(Op.equalIn (d+1) e u v).run P w= .ok x w:=by
    cases u<;>cases v<;>simp only[Oc]at hx<;>try(cases hx;done)
    rename_i k1 a k2 b';by_cases hk:k1=k2
    .subst hk;simp at hx;subst hx;simp[Op.equalIn,run_underlying hu]
    .rw[decide_eq_false hk]at hx;cases hx
   simp only[aar,acR,Op.eqItems,Sem.run_bind,Nat.mul_one];rw[p1];simp only[Result.andThen_ok];rw[hp,p2];simp only[Result.andThen_ok,aag,abV,if_false,List.headD_cons];rw[p3];simp only[Result.andThen_ok];cases x
   .simp
   .simp only[adb,abV,if_false,acm];rw[<-hp];simpa using ih
  .cases he
theorem u4(hM:aL ρ m w)(hE:bm ρ w a8 a.tmps){neg:Bool}{t e:TypeId}{n:Nat}{kk:IntKind}{x y:Operand}{x' y':X}(ht:P.underlying t=some (.array n e))(hg:P.eqGuardType P.depth t=false)(hu:P.underlying e=some (.int kk))(hs:eL P e=some 1)(hx:bt x=some x')(hy:bt y=some y')(h:step P (.Ht neg (fT n .i) x' y') a8 m K):dI P (do let v<-(do eqGuard (if neg then .neq else .eql) t x y (a.eval x) (a.eval y);binOp (if neg then .neq else .eql) t (a.eval x) (a.eval y));pure (Next.value v)) ρ m w K:=by
 have hd:=aR hE hx;have po:=aR hE hy;simp only[step]at h;generalize a.eval x=v at hd⊢;generalize a.eval y=u at po⊢;generalize x'.ev a8=c at hd h;generalize y'.ev a8=d at po h;split at h
 .split at h
  .obtain⟨us,rfl,l1,d1⟩:=hd;obtain⟨vs,rfl,l2,d2⟩:=po;obtain⟨b,he,hK⟩:=bh.1 h;have Qt:=nX he l1 l2 d1 d2;obtain⟨e1,e2⟩:=nW Qt;have hn:us.length=n:=by rw[e1,fG];simp
   have hs':=hs;simp only[eL,aaI]at hs';obtain⟨i,hi,Qs⟩:=hs';have hc:P.cellsOf e=1:=by simp[Program.cellsOf,hi,Qs]
   have dO:=qM (w:=w) hu hs 9998 us vs [] [] b rfl (by rw[hn];exact Qt)
   simp only[adp,aby]at dO;have xS:(Op.equalIn 10000 t (.agg us.toArray) (.agg vs.toArray)).run P w= .ok b w:=by rw[run_equalIn_array w 9999 _ _ ht hi,hc,<-hn,List.range_eq_range'];exact dO
   refine dI.pure hM (v:=_) ?_ hK (cA rfl);rw[Sem.run_bind,Sem.run_bind,run_eqGuard_agg w _ t x y _ _ hg];cases neg
   .simp only[Result.andThen_ok,abV,if_false,run_eql_struct,xS,Sem.run_pure]
   .simp only[Result.andThen_ok,if_true,run_neq_struct,xS,Sem.run_pure]
  .exact h.elim
 .exact h.elim
end
section
variable {P:Program} {ρ:bQ} {m:Mem} {w:World} {a8:List CV} {a:Act} {K:CV->Mem->Prop}
def bQ.move(ρ:bQ)(l:wW)(src:Nat->Nat->jz):bQ:=
 {n:=ρ.n+1
  aV:=fun k=>match k with
   | .ar id=>if id=ρ.n then l else ρ.aV (.ar id)
   | .sub id i j=>if id=ρ.n then ρ.aV (src i j)else ρ.aV (.sub id i j)
  S:=ρ.S}
theorem aL.move{w':World}(hM:aL ρ m w){m1:Mem}{D:Nat->Prop}{esz:Nat}{E:List (List CC)}{l:wW}{src:Nat->Nat->jz}(hlen:m1.length=m.length)(HI:∀(id:Nat)b,m1[id]? =some b->b= .aW\/(m[id]? =some b/\¬D id))(dN:w.heap.size<=w'.heap.size)(UH:w'.os=w.os)(UI:w'.tape=w.tape)(gD:w'.output=w.output)(lB:∀b,b<w.heap.size->(∀id,D id->Live ρ m (.ar id)->(ρ.aV (.ar id)).b≠b)->w'.heap[b]? =w.heap[b]?)(hl:0<l.cap->l.b<w'.heap.size/\(w.heap.size<=l.b\/∃id,D id/\Live ρ m (.ar id)/\(ρ.aV (.ar id)).b=l.b))(hE:E.length=l.len)(rP:l.len<=l.cap)(bq:l.cap<=maxLen)(nV:∀cs,cs∈E->cs.length=esz)(ek:iD ρ w (ρ.move l src) w'->0<l.cap->∃cur,lS (esz=1) w' l.b cur/\l.aA+l.cap*esz<=cur.size/\
   ∀(i:Nat)cs(j:Nat)c,E[i]? =some cs->cs[j]? =some c->∃u,cur[l.aA+i*esz+j]? =some u/\bC (ρ.move l src) w' (some (ρ.n,i,j)) c u)(mh:∀(i:Nat)cs(j:Nat)s e,E[i]? =some cs->cs[j]? =some (.gO s e)->∃jH i' j',src i j= .sub jH i' j'/\D jH/\fJ m jH i' j' s e)(rZ:∀i j i' j',src i j=src i' j'->(∃cs s e,E[i]? =some cs/\cs[j]? =some (.gO s e))->(∃cs s e,E[i']? =some cs/\cs[j']? =some (.gO s e))->i=i'/\j=j'):
  aL (ρ.move l src) (m1++ [.row esz E]) w'/\Ext ρ m w (ρ.move l src) (m1++ [.row esz E]) w':=by
 have hn:=hM.n;have old:∀k:jz,k.id<ρ.n->(ρ.move l src).aV k=ρ.aV k:=by
  intro k hk;cases k with
  |ar id=>simp only[bQ.move];rw[if_neg (by simp only[jz.id]at hk;omega)]
  |sub id i j=>simp only[bQ.move];rw[if_neg (by simp only[jz.id]at hk;omega)]
 have u5:(ρ.move l src).aV (.ar ρ.n)=l:=by simp[bQ.move]
 have xi:∀i j,(ρ.move l src).aV (.sub ρ.n i j)=ρ.aV (src i j):=by intro i j;simp[bQ.move]
 have u6:∀b,ρ.S b->w'.heap[b]? =w.heap[b]? :=fun b hb=>lB b (hM.S b hb) fun id _ cX e=>(hM.aQ _ cX).2 (e▸hb)
 have g:iD ρ w (ρ.move l src) w':=⟨by simp[bQ.move],old,fun b hb=>hb,u6⟩
 have get:∀{id:Nat}{b:Bk},(m1++ [.row esz E])[id]? =some b->(id<ρ.n/\(b= .aW\/(m[id]? =some b/\¬D id)))\/(id=ρ.n/\b= .row esz E):=by
  intro id b hb;rcases ZX id m1.length with h|h
  .rw[ZY h]at hb;exact .inl ⟨om,HI id b hb⟩
  .rw[ZW h]at hb;have:id-m1.length=0:=by
    rcases abB (id-m1.length)with h0|h0
    .exact h0
    .rw[abg (by simp;omega)]at hb;cases hb
   rw[this]at hb;exact .inr ⟨om,by simpa using hb.symm⟩
 have il:∀{id i j s e},fJ (m1++ [.row esz E]) id i j s e->(id<ρ.n/\¬D id/\fJ m id i j s e)\/
   (id=ρ.n/\(∃cs s e,E[i]? =some cs/\cs[j]? =some (.gO s e))/\∃jH i' j',src i j= .sub jH i' j'/\D jH/\fJ m jH i' j' s e):=by
  rintro id i j s e ⟨es,rows,cs,xg,hi,hj⟩;rcases get xg with⟨aB,hb|⟨hb,hD⟩⟩|⟨rfl,hb⟩
  .cases hb
  .exact .inl ⟨aB,hD,es,rows,cs,hb,hi,hj⟩
  .injection hb with RH mj
   subst RH mj;exact .inr ⟨rfl,⟨cs,_,_,hi,hj⟩,mh i cs j s e hi hj⟩
 have du:∀k,Live (ρ.move l src) (m1++ [.row esz E]) k->
   (k.id<ρ.n/\¬D k.id/\Live ρ m k)\/(k= .ar ρ.n/\0<l.cap)\/
   (∃i j,k= .sub ρ.n i j/\(∃cs s e,E[i]? =some cs/\cs[j]? =some (.gO s e))/\Live ρ m (src i j)/\D (src i j).id/\∃a b c,src i j= .sub a b c):=by
  intro k hk;cases k with
  |ar id=>
   obtain⟨b,hb,fc,wX⟩:=hk;rcases get hb with⟨aB,rfl|⟨hb,hD⟩⟩|⟨rfl,rfl⟩
   .exact absurd rfl fc
   .rw[old (.ar id) aB]at wX;exact .inl ⟨aB,hD,b,hb,fc,wX⟩
   .rw[u5]at wX;exact .inr (.inl ⟨rfl,wX ⟨_,_,rfl⟩⟩)
  |sub id i j=>
   obtain⟨⟨s,e,ho⟩,wX⟩:=hk;rcases il ho with⟨aB,hD,ho⟩|⟨rfl,jj,jH,i',j',hs,hD,ho⟩
   .rw[old (.sub id i j) aB]at wX;exact .inl ⟨aB,hD,⟨s,e,ho⟩,wX⟩
   .rw[xi]at wX;exact .inr (.inr ⟨i,j,rfl,jj,by rw[hs]at wX⊢;exact⟨⟨s,e,ho⟩,wX⟩,by rw[hs];exact hD,_,_,_,hs⟩)
 have eS:∀k,Live ρ m k->(k.id<ρ.n/\¬D k.id)\/(∃a b c,k= .sub a b c)->w'.heap[(ρ.aV k).b]? =w.heap[(ρ.aV k).b]? :=by
  intro k hk UJ;refine lB _ (hM.aQ k hk).1 fun id hD cX e=>?_
  have:=hM.inj _ _ cX hk e;rcases UJ with⟨_,Yo⟩|⟨_,_,_,rfl⟩
  .exact Yo (by rw[<-this];exact hD)
  .cases this
 refine⟨⟨by simp[bQ.move,hn,hlen],fun b hb=>abh (hM.S b hb) dN,?_,?_,?_,?_⟩,
  ⟨by simp[bQ.move],fun id hid=>old (.ar id) hid,fun b hb=>hb,fun b hb=>.inl hb,?_,?_,dN,UH,UI,gD⟩⟩
 .intro k hk;rcases du k hk with⟨aB,_,hk⟩|⟨rfl,hc⟩|⟨i,j,rfl,_,hk,_⟩
  .rw[old k aB];exact⟨abh (hM.aQ k hk).1 dN,(hM.aQ k hk).2⟩
  .rw[u5];obtain⟨h1,h2⟩:=hl hc;refine⟨h1,fun hs=>?_⟩
   rcases h2 with h2|⟨id,hD,cX,e⟩
   .have:=hM.S _ hs;omega
   .exact(hM.aQ _ cX).2 (e▸hs)
  .rw[xi];exact⟨abh (hM.aQ _ hk).1 dN,(hM.aQ _ hk).2⟩
 ·
  have zd:0<l.cap->∀k,Live ρ m k->(k.id<ρ.n/\¬D k.id)\/(∃a b c,k= .sub a b c)->(ρ.aV k).b≠l.b:=by
   intro hc k hk UJ e;obtain⟨h1,h2⟩:=hl hc;rcases h2 with h2|⟨id,hD,cX,e2⟩
   .have:=(hM.aQ k hk).1;omega
   .have:=hM.inj _ _ cX hk (e2.trans e.symm);rcases UJ with⟨_,Yo⟩|⟨_,_,_,rfl⟩
    .exact Yo (by rw[<-this];exact hD)
    .cases this
  intro k k' hk gK he;rcases du k hk with⟨aB,hD,hk⟩|⟨rfl,hc⟩|⟨i,j,rfl,hx,hk,hDs,r8⟩<;>rcases du k' gK with⟨nU,UK,gK⟩|⟨rfl,qH⟩|⟨i',j',rfl,uc,gK,Yp,UL⟩
  .rw[old k aB,old k' nU]at he;exact hM.inj k k' hk gK he
  .rw[old k aB,u5]at he;exact absurd he (zd qH k hk (.inl ⟨aB,hD⟩))
  .rw[old k aB,xi]at he;have:=hM.inj _ _ hk gK he;exact absurd (by rw[this];exact Yp) hD
  .rw[old k' nU,u5]at he;exact absurd he.symm (zd hc k' gK (.inl ⟨nU,UK⟩))
  .rfl
  .rw[u5,xi]at he;exact absurd he.symm (zd hc _ gK (.inr UL))
  .rw[old k' nU,xi]at he;have:=hM.inj _ _ hk gK he;exact absurd (by rw[<-this];exact hDs) UK
  .rw[u5,xi]at he;exact absurd he (zd qH _ hk (.inr r8))
  .rw[xi,xi]at he;obtain⟨rfl,rfl⟩:=rZ i j i' j' (hM.inj _ _ hk gK he) hx uc;rfl
 .intro id b hb;rcases get hb with⟨aB,rfl|⟨hb,hD⟩⟩|⟨rfl,rfl⟩
  .trivial
  .exact(hM.bk id b hb).cQ g aB fun fc wX=>eS (.ar id) ⟨b,hb,fc,wX⟩ (.inl ⟨aB,hD⟩)
  .exact⟨by rw[u5];exact hE,by rw[u5];exact rP,by rw[u5];exact bq,nV,fun hc=>by rw[u5]at hc⊢;exact ek g hc⟩
 .intro id i j s e ho wX;rcases il ho with⟨aB,hD,ho⟩|⟨rfl,_,jH,i',j',hs,hD,ho⟩
  .rw[old (.sub id i j) aB]at wX⊢;exact(hM.gO id i j s e ho wX).cQ g (eS (.sub id i j) ⟨⟨s,e,ho⟩,wX⟩ (.inr ⟨_,_,_,rfl⟩))
  .rw[xi,hs]at wX⊢;exact(hM.gO jH i' j' s e ho wX).cQ g (eS (.sub jH i' j') ⟨⟨s,e,ho⟩,wX⟩ (.inr ⟨_,_,_,rfl⟩))
 .intro k hk;rcases du k hk with⟨aB,_,hk⟩|⟨rfl,hc⟩|⟨i,j,rfl,_,hk,_⟩
  .exact .inr ⟨k,hk,by rw[old k aB]⟩
  .rw[u5];obtain⟨h1,h2⟩:=hl hc;rcases h2 with h2|⟨id,hD,cX,e⟩
   .exact .inl h2
   .exact .inr ⟨_,cX,e⟩
  .exact .inr ⟨_,hk,by rw[xi]⟩
 .intro b hb hk;exact lB b hb fun id hD cX e=>hk _ cX e
def xT(ad:Option Addr)(k:Nat)(vs:List Value):Sem Unit:=
 match ad with
 |some a=>storeCells (a.add k) vs
 |none=>pure ()
theorem nY{t t2 ty e e2:TypeId}{i:TypeInfo}{z:Value}(ht:P.underlying t=some (.slice e))(u7:P.underlying t2=some (.slice e2))(hi:P.info? e=some i)(hz:i.zero=some z){a0:Option Addr}{n1 c1 n2:Nat}{src:Value}{olds news:List Value}(hlen:(Builtin.lenOf src).run P w= .ok n2 w)(Qu:∀k,(Builtin.firstCells i.size n2 src).run P (w.drewN k)= .ok news.toArray (w.drewN k))(holds:∀k,(Builtin.firstCells i.size n1 (.slice a0 n1 c1)).run P (w.drewN k)= .ok olds.toArray (w.drewN k))(hb:0<i.bytes)(jk:(n1+n2)*i.bytes<=140737488355328):
  (Builtin.append_ #[t,t2] ty #[.slice a0 n1 c1,src]).run P w=if n1+n2<=c1 then
    ((xT a0 (n1*i.size) news).run P w).andThen fun _ w'=>.ok (.slice a0 (n1+n2) c1) w'
   else .ok (.slice (some ⟨w.heap.size,0,none⟩) (n1+n2) (grownCap w (n1+n2) c1 e)) (w.drew.alloc (.cells (olds.toArray++news.toArray++Builtin.zeroCells z.cells (grownCap w (n1+n2) c1 e-(n1+n2))) e)):=by
 have Og:=Qu 0;have pQ:=Qu 1;have ho1:=holds 1;have e0:w.drewN 0=w:=rfl;have e1:w.drewN 1=w.drew:=rfl;rw[e0]at Og;rw[e1]at pQ ho1;have u9:n1+n2<=140737488355328:=abT (acL _ hb) jk;unfold Builtin.append_;by_cases hc:n1+n2<=c1
 .simp[run_underlying ht,run_underlying u7,sizeOf,typeInfo,hi,hlen,hc,Og];cases a0<;>simp[xT]
 .have Yq:¬(9223372036854775807<((n1:Int)+(n2:Int))):=om;have Yr:¬(281474976710656<Builtin.nextslicecap (n1+n2) c1*i.bytes):=by have:=growslice_fits (need:=n1+n2) (old:=c1) om jk;omega
  have r9:¬i.bytes=0:=om;simp[run_underlying ht,run_underlying u7,sizeOf,typeInfo,zeroValue,hi,hz,hlen,hc,Yq,Yr,Question.forced,pQ,ho1,newRow,grownCap];congr 2;apply ab4;simp[acM]
def va(v:CV)(i j:Nat):Option (Nat×Nat×Nat):=
 match v with
 | .rv (.one (.row id _ lo _))=>some (id,lo+i,j)
 |_=>none
theorem lD{α:Type}(l:List α)(lo:Nat)(hi:Option Nat):cD l lo hi=(match hi with|none=>l|some h=>l.take h).drop lo:=by
 cases lo<;>cases hi<;>simp[cD]
structure ze(ρ:bQ)(w:World)(esz:Nat)(pos:Nat->Nat->Option (Nat×Nat×Nat))(E:List (List CC))(ad:Option Addr)(vs:List Value):Prop where
 len:vs.length=E.length*esz
 lh:∀cs,cs∈E->cs.length=esz
 RI:0<E.length->∃b off,ad=some ⟨b,off,none⟩/\∀k u,vs[k]? =some u->w.cell? ⟨b,off+k,none⟩=some u
 k9:∀(i:Nat)cs(j:Nat)c,E[i]? =some cs->cs[j]? =some c->∃u,vs[i*esz+j]? =some u/\bC ρ w (pos i j) c u
 one:∀u,u∈vs->u.oneCell'=true
theorem xU{esz:Nat}{pos:Nat->Nat->Option (Nat×Nat×Nat)}{E:List (List CC)}{b off:Nat}(lh:∀cs,cs∈E->cs.length=esz)(h:∀(i:Nat)cs(j:Nat)c,E[i]? =some cs->cs[j]? =some c->∃u,w.cell? ⟨b,off+i*esz+j,none⟩=some u/\bC ρ w (pos i j) c u):
  ∃vs,ze ρ w esz pos E (some ⟨b,off,none⟩) vs:=by
 have all:∀k,k<E.length*esz->∃u p c,w.cell? ⟨b,off+k,none⟩=some u/\bC ρ w p c u:=by
  intro k hk;have dz:0<esz:=by
   rcases abB esz with h0|h0
   .subst h0;simp at hk
   .exact h0
  have hi:k/esz<E.length:=Nat.div_lt_of_lt_mul (by rwa [acJ])
  have hj:k%esz<esz:=Nat.mod_lt _ dz;have eJ:=lh _ (Z0 hi);obtain⟨u,hu,hd⟩:=h (k/esz) _ (k%esz) _ (IE hi) (IE (by rw[eJ];exact hj))
  have e:off+k/esz*esz+k%esz=off+k:=by have:=Nat.div_add_mod k esz;rw[acJ]at this;omega
  rw[e]at hu;exact⟨u,_,_,hu,hd⟩
 let vs:=(List.range (E.length*esz)).map fun k=>(w.cell? ⟨b,off+k,none⟩).getD Go.undef
 have mi:∀k u,vs[k]? =some u->k<E.length*esz/\w.cell? ⟨b,off+k,none⟩=some u:=by
  intro k u hu;have hk:k<E.length*esz:=by have:=(Mh.1 hu).1;simpa[vs]using this
  obtain⟨u',p,c,ud,_⟩:=all k hk;simp only[vs,Q8,List.getElem?_range hk,aaG,ud,abI,aag]at hu;exact⟨hk,by rw[ud,hu]⟩
 refine⟨vs,by simp[vs],lh,fun _=>⟨b,off,rfl,fun k u hu=>(mi k u hu).2⟩,fun i cs j c hi hj=>?_,fun u hu=>?_⟩
 .obtain⟨u,hu,hd⟩:=h i cs j c hi hj;refine⟨u,?_,hd⟩;have Qv:=(Mh.1 hi).1;have km:j<esz:=by rw[<-lh _ (Rq hi)];exact(Mh.1 hj).1
  have aB:i*esz+j<E.length*esz:=by have:(i+1)*esz<=E.length*esz:=abq _ Qv;rw[abE,ab3]at this;omega
  simp only[vs,Q8,List.getElem?_range aB,aaG,<-Nat.add_assoc,hu,abI]
 .obtain⟨k,hk,rfl⟩:=acE hu;obtain⟨pd,hc⟩:=mi k _ (IE hk);obtain⟨u',p,c,ud,hd⟩:=all k pd;rw[hc]at ud;cases ud;exact hd.one
theorem mQ(hM:aL ρ m w){esz:Nat}{c:CV}{v:Value}{E:List (List CC)}(h:fo m esz c=some E)(hd:cm ρ w c v):
  ∃ad cap vs,v= .slice ad E.length cap/\E.length<=cap/\cap<=maxLen/\ze ρ w esz (va c) E ad vs:=by
 unfold fo at h;split at h
 .rename_i e elems;split at h
  .rename_i he;have he:e=esz:=Z2 he;subst he;cases h;cases hd with
   |nil _ a cap hc=>exact⟨_,_,[],rfl,aG,hc,aG,aG,aG,aG,aG⟩
   |sl _ _ b off cap u hS hl bq dN hc cw=>
    obtain⟨vs,C7⟩:=xU (ρ:=ρ) (w:=w) (esz:=e) (pos:=fun _ _=>none) (E:=elems.map fun ds=>ds.map .aa) (b:=b) (off:=off) (fun cs eJ=>by
     obtain⟨ds,Kw,rfl⟩:=aaQ.1 eJ;simpa using dN ds Kw) (fun i cs j c hi hj=>by
     rw[Q8]at hi;cases eC:elems[i]? with
     |none=>rw[eC]at hi;cases hi
     |some ds=>
      rw[eC]at hi;cases hi;rw[Q8]at hj;cases kj:ds[j]? with
      |none=>rw[kj]at hj;cases hj
      |some d=>
       rw[kj]at hj;cases hj;exact⟨_,hc i ds j d eC kj,cw i ds j d eC kj⟩)
    exact⟨_,cap,vs,aG,by simpa using hl,bq,C7⟩
  .cases h
 .rename_i id e lo hi;split at h
  .rename_i e2 rows hb;rw[aZ]at hb;split at h
   .rename_i he oT;have he:e=esz:=Z2 he;have oT:e2=esz:=Z2 oT;subst he;subst oT;cases h;obtain⟨h2,h3,h4,h5,AO⟩:=hM.bk id _ hb;obtain⟨aB,d1,d2,d3,d4,ad,rfl,ub⟩:=hd;have hlen:(cD rows lo hi).length=hi.getD (ρ.aV (.ar id)).len-lo:=by
     rw[lD];cases hi with
     |none=>simp[h2]
     |some h=>simp[h2];simp at d2;omega
    have mi:∀i cs,(cD rows lo hi)[i]? =some cs->rows[lo+i]? =some cs:=by
     intro i cs DG;rw[lD]at DG;rw[abG]at DG;cases hi with
     |none=>exact DG
     |some h=>
      rw[abm]at DG;split at DG
      .exact DG
      .cases DG
    rw[<-hlen];rcases abB (cD rows lo hi).length with h0|h0
    .have RJ:=Z1 h0;refine⟨ad,_,[],rfl,om,om,?_⟩;rw[RJ];exact⟨aG,aG,aG,aG,aG⟩
    .have dz:0<(ρ.aV (.ar id)).cap:=by clear AO;omega
     obtain⟨cur,cj,h1,cw⟩:=AO dz;rw[ub (by clear AO;omega)]
     obtain⟨vs,C7⟩:=xU (ρ:=ρ) (w:=w) (esz:=e2) (pos:=va (.rv (.one (.row id e2 lo hi)))) (E:=cD rows lo hi) (b:=(ρ.aV (.ar id)).b) (off:=(ρ.aV (.ar id)).aA+lo*e2) (fun cs eJ=>by
      obtain⟨i,eu,UM⟩:=acE eJ;have:=mi i cs (by rw[IE eu,UM])
      exact h5 cs (Rq this)) (fun i cs j c eu pP=>by
      obtain⟨u,hu,cz⟩:=cw (lo+i) cs j c (mi i cs eu) pP;refine⟨u,?_,cz⟩;rw[cj.cell,<-hu];congr 1;rw[abE];omega)
     exact⟨_,_,vs,rfl,by clear AO;omega,by clear AO;omega,C7⟩
   .cases h
  .cases h
 .cases h;obtain⟨ad,rfl⟩:=hd;exact⟨ad,0,[],rfl,aG,by unfold maxLen;omega,aG,aG,aG,aG,aG⟩
 .cases h
theorem ze.firstCells{esz:Nat}{pos:Nat->Nat->Option (Nat×Nat×Nat)}{E:List (List CC)}{ad:Option Addr}{vs:List Value}(h:ze ρ w esz pos E ad vs)(cap k:Nat):
  (Builtin.firstCells esz E.length (.slice ad E.length cap)).run P (w.drewN k)= .ok vs.toArray (w.drewN k):=by
 rcases abB E.length with h0|h0
 .have hv:vs=[]:=Z1 (by rw[h.len,h0];simp)
  subst hv;rw[h0];cases ad<;>simp[Builtin.firstCells,loadCells,loadCellsFrom]
 .obtain⟨b,off,rfl,hc⟩:=h.RI h0;exact run_firstCells_some (P:=P) (w.drewN k) esz E.length ⟨b,off,none⟩ E.length cap vs h.len fun j v hj=>by rw[lT];exact hc j v hj
theorem xV(m:Mem)(c:CV):(iE m c).length=m.length/\∀(id:Nat)b,(iE m c)[id]? =some b->b= .aW\/(m[id]? =some b/\¬∃e lo hi,c= .rv (.one (.row id e lo hi))):=by
 unfold iE;split
 .rename_i id e lo hi;rw[bj];refine⟨aG,fun k b hb=>?_⟩
  by_cases hk:id=k
  .subst hk;have aB:id<m.length:=by
    rcases ZX id m.length with h|h
    .exact h
    .rw[abg (by simpa using h)]at hb;cases hb
   rw[Wl aB]at hb;cases hb;exact .inl rfl
  .rw[ZZ hk]at hb;refine .inr ⟨hb,?_⟩;rintro⟨_,_,_,h⟩;cases h;exact hk rfl
 .rename_i jc;refine⟨rfl,fun k b hb=>.inr ⟨hb,?_⟩⟩
  rintro⟨e,lo,hi,rfl⟩;exact jc _ _ _ _ rfl
def pR(c1 c2:CV)(n1:Nat)(i j:Nat):jz:=
 if i<n1 then(match va c1 i j with|some (a,b,c)=>.sub a b c|none=>.ar 0)
 else(match va c2 (i-n1) j with|some (a,b,c)=>.sub a b c|none=>.ar 0)
theorem lE{esz:Nat}{c:CV}{E:List (List CC)}(h:fo m esz c=some E){i j:Nat}{cs:List CC}{s:Nat}{e:List (List Dt)}(hi:E[i]? =some cs)(hj:cs[j]? =some (.gO s e)):
  ∃id e0 lo eu,c= .rv (.one (.row id e0 lo eu))/\fJ m id (lo+i) j s e:=by
 unfold fo at h;split at h
 .split at h
  .cases h;rw[Q8]at hi;cases eC:(_:List (List Dt))[i]? with
   |none=>rw[eC]at hi;cases hi
   |some ds=>
    rw[eC]at hi;cases hi;rw[Q8]at hj;cases kj:ds[j]? with
    |none=>rw[kj]at hj;cases hj
    |some d=>rw[kj]at hj;cases hj
  .cases h
 .rename_i id e0 lo eu;split at h
  .rename_i e2 rows hb;rw[aZ]at hb;split at h
   .cases h;refine⟨id,e0,lo,eu,rfl,_,rows,cs,hb,?_,hj⟩;rw[lD,abG]at hi;cases eu with
    |none=>exact hi
    |some h=>
     rw[abm]at hi;split at hi
     .exact hi
     .cases hi
   .cases h
  .cases h
 .cases h;simp at hi
 .cases h
theorem oU{c:CV}{id e lo:Nat}{hi:Option Nat}(h:c= .rv (.one (.row id e lo hi)))(i j:Nat):va c i j=some (id,lo+i,j):=by subst h;rfl
theorem DH(hM:aL ρ m w)(hE:bm ρ w a8 a.tmps){t t2 ty e e2:TypeId}{i:TypeInfo}{z:List CC}{x y:Operand}{x' y':X}(ht:P.underlying t=some (.slice e))(u7:P.underlying t2=some (.slice e2))(hi:P.info? e=some i)(hz:dY P e=some z)(dN:i.size=z.length)(dz:0<z.length)(hb:0<i.bytes)(hx:bt x=some x')(hy:bt y=some y')(xW:(uS (x'.ev a8)&&FX (x'.ev a8) (y'.ev a8))=true)(g1:ok (fo m i.size (x'.ev a8)) fun E1=>ok (fo m i.size (y'.ev a8)) fun E2=>(E1.length+E2.length)*i.bytes<=140737488355328/\pI m fun n=>K (.rv (.one (.row n i.size 0 none))) (gh (iE (iE m (x'.ev a8)) (y'.ev a8)) [.row i.size (E1++E2)])):
  dI P (do pure (Next.value (<-Builtin.append_ #[t,t2] ty #[a.eval x,a.eval y]))) ρ m w K:=by
 have hd:=aR hE hx;have po:=aR hE hy;generalize a.eval x=v at hd⊢;generalize a.eval y=v2 at po⊢;generalize x'.ev a8=c1 at hd xW g1;generalize y'.ev a8=c2 at po xW g1;rw[ZM]at xW;obtain⟨mh,fc⟩:=xW;obtain⟨E1,zf,g2⟩:=bh.1 g1;obtain⟨E2,C8,jk,g3⟩:=bh.1 g2;rw[ik,b9]at g3;obtain⟨Oj,jS,TV,DI,UN,Ok,F1⟩:=mQ hM zf hd;obtain⟨ad2,Kz,KA,zg,UO,UP,F2⟩:=mQ hM C8 po;have C6:=hz;simp only[dY,SR,Q6]at C6;obtain⟨i',eu,zv,Ol,Oi⟩:=C6;rw[hi]at eu;cases eu;have UQ:zv.cells.size=i.size:=by have:=(eZ (ρ:=ρ) (w:=w) Oi).1;rw[dN];simpa using this
 have u9:E1.length+E2.length<=140737488355328:=abT (acL _ hb) jk;have dO:=nY (P:=P) (w:=w) (ty:=ty) ht u7 hi Ol (a0:=Oj) (n1:=E1.length) (c1:=jS) (n2:=E2.length) (src:=v2) (olds:=TV) (news:=KA)
  (by rw[zg];rfl) (fun k=>by rw[zg];exact F2.firstCells Kz k) (fun k=>F1.firstCells jS k) hb jk
 rw[<-DI]at dO;let D:Nat->Prop:=fun id=>(∃e lo hi,c1= .rv (.one (.row id e lo hi)))\/(∃e lo hi,c2= .rv (.one (.row id e lo hi)))
 obtain⟨k1,k2⟩:=xV m c1;obtain⟨k3,k4⟩:=xV (iE m c1) c2;have HI:∀(id:Nat)b,(iE (iE m c1) c2)[id]? =some b->b= .aW\/(m[id]? =some b/\¬D id):=fun id b hb=>by
  rcases k4 id b hb with h|⟨h,hn⟩
  .exact .inl h
  .rcases k2 id b h with h|⟨h,NV⟩
   .exact .inl h
   .exact .inr ⟨h,fun hD=>hD.elim NV hn⟩
 let src:=pR c1 c2 E1.length;have lh:∀cs,cs∈E1++E2->cs.length=i.size:=fun cs eJ=>(abL.1 eJ).elim (F1.lh cs) (F2.lh cs)
 have jj:∀{ρ':bQ}{w':World},iD ρ w ρ' w'->(∀i j,ρ'.aV (.sub ρ.n i j)=ρ.aV (src i j))->
   ∀(k:Nat)cs(j:Nat)c,(E1++E2)[k]? =some cs->cs[j]? =some c->∃u,(TV++KA)[k*i.size+j]? =some u/\bC ρ' w' (some (ρ.n,k,j)) c u:=by
  intro ρ' w' g cC k cs j c hk hj;have km:j<i.size:=by rw[<-lh cs (Rq hk)];exact(Mh.1 hj).1
  have conv:∀(p:Option (Nat×Nat×Nat))u,bC ρ w p c u->(∀a b d,p=some (a,b,d)->a<ρ.n/\src k j= .sub a b d)->bC ρ' w' (some (ρ.n,k,j)) c u:=by
   intro p u cz hp;have h1:=cz.cQ g (fun a b d ue=>(hp a b d ue).1)
   cases c<;>try exact h1
   obtain⟨a,b,d,ue,qC⟩:=cz;obtain⟨_,hs⟩:=hp a b d ue;exact⟨ρ.n,k,j,rfl,by rw[cC,hs];exact qC⟩
  have UR:∀{cc:CV}{vv:Value}{i j a b d:Nat},cm ρ w cc vv->va cc i j=some (a,b,d)->a<ρ.n:=by
   intro cc vv i j a b d Om hp;unfold va at hp;split at hp
   .cases hp;exact Om.1
   .cases hp
  rcases ZX k E1.length with aB|ew
  .rw[ZY aB]at hk;obtain⟨u,hu,cz⟩:=F1.k9 k cs j c hk hj;refine⟨u,?_,conv _ u cz fun a b d hp=>⟨UR hd hp,by simp only[src,pR,if_pos aB,hp]⟩⟩
   rw[ZY]
   .exact hu
   .exact(Mh.1 hu).1
  .rw[ZW ew]at hk;obtain⟨u,hu,cz⟩:=F2.k9 (k-E1.length) cs j c hk hj;refine⟨u,?_,conv _ u cz fun a b d hp=>⟨UR po hp,by simp only[src,pR,if_neg (show ¬k<E1.length by omega),hp]⟩⟩
   rw[ZW]
   .rw[<-hu];congr 1;rw[F1.len,ads];have:E1.length*i.size<=k*i.size:=abq _ ew;omega
   .rw[F1.len];have:E1.length*i.size<=k*i.size:=abq _ ew;omega
 have KB:∀(k:Nat)cs(j:Nat)s e,(E1++E2)[k]? =some cs->cs[j]? =some (.gO s e)->∃jH i' j',src k j= .sub jH i' j'/\D jH/\fJ m jH i' j' s e:=by
  intro k cs j s e hk hj;rcases ZX k E1.length with aB|ew
  .rw[ZY aB]at hk;obtain⟨id,e0,lo,eu,hc,ho⟩:=lE zf hk hj;exact⟨id,lo+k,j,by simp only[src,pR,if_pos aB,oU hc],.inl ⟨_,_,_,hc⟩,ho⟩
  .rw[ZW ew]at hk;obtain⟨id,e0,lo,eu,hc,ho⟩:=lE C8 hk hj;exact⟨id,lo+(k-E1.length),j,by simp only[src,pR,if_neg (show ¬k<E1.length by omega),oU hc],.inr ⟨_,_,_,hc⟩,ho⟩
 have rZ:∀i j i' j',src i j=src i' j'->(∃cs s e,(E1++E2)[i]? =some cs/\cs[j]? =some (.gO s e))->(∃cs s e,(E1++E2)[i']? =some cs/\cs[j']? =some (.gO s e))->i=i'/\j=j':=by
  have side:∀k j,(∃cs s e,(E1++E2)[k]? =some cs/\cs[j]? =some (.gO s e))->
    (k<E1.length/\∃id e0 lo eu,c1= .rv (.one (.row id e0 lo eu))/\src k j= .sub id (lo+k) j)\/(E1.length<=k/\∃id e0 lo eu,c2= .rv (.one (.row id e0 lo eu))/\src k j= .sub id (lo+(k-E1.length)) j):=by
   rintro k j ⟨cs,s,e,hk,hj⟩;rcases ZX k E1.length with aB|ew
   .rw[ZY aB]at hk;obtain⟨id,e0,lo,eu,hc,ho⟩:=lE zf hk hj;exact .inl ⟨aB,id,e0,lo,eu,hc,by simp only[src,pR,if_pos aB,oU hc]⟩
   .rw[ZW ew]at hk;obtain⟨id,e0,lo,eu,hc,ho⟩:=lE C8 hk hj;exact .inr ⟨ew,id,e0,lo,eu,hc,by simp only[src,pR,if_neg (show ¬k<E1.length by omega),oU hc]⟩
  intro k j k' j' hs hk gK;rcases side k j hk with⟨h1,id,e0,lo,uy,hc,US⟩|⟨h1,id,e0,lo,uy,hc,US⟩<;>rcases side k' j' gK with⟨h2,id2,e02,lo2,Ys,vd,KC⟩|⟨h2,id2,e02,lo2,Ys,vd,KC⟩
  .rw[hc]at vd;injection vd with vd;injection vd with vd;injection vd with q1 q2 q3 q4
   subst q3;rw[US,KC]at hs;injection hs with q5 q6 q7
   exact⟨om,q7⟩
  .rw[US,KC]at hs;injection hs with q5 q6 q7
   rw[hc,vd]at fc;simp only[FX,abX]at fc;exact absurd q5 (acx fc)
  .rw[US,KC]at hs;injection hs with q5 q6 q7
   rw[hc,vd]at fc;simp only[FX,abX]at fc;exact absurd q5.symm (acx fc)
  .rw[hc]at vd;injection vd with vd;injection vd with vd;injection vd with q1 q2 q3 q4
   subst q3;rw[US,KC]at hs;injection hs with q5 q6 q7
   exact⟨om,q7⟩
 have Ga:∀(l:wW)i j,(ρ.move l src).aV (.sub ρ.n i j)=ρ.aV (src i j):=by intro l i j;simp[bQ.move]
 have qN:∀(l:wW),(ρ.move l src).aV (.ar m.length)=l:=by intro l;rw[<-hM.n];simp[bQ.move]
 have TW:∀(l:wW),l.len=E1.length+E2.length->l.cap<=maxLen->l.len<=l.cap->∀ad,(0<l.cap->ad=some ⟨l.b,l.aA,none⟩)->∀w',cm (ρ.move l src) w' (.rv (.one (.row m.length i.size 0 none))) (.slice ad (E1.length+E2.length) l.cap):=by
  intro l hl hc rP ad ub w';refine⟨by simp[bQ.move,hM.n],aG,aG,by rw[qN];exact rP,by rw[qN];exact hc,ad,?_,?_⟩
  .rw[qN];simp[hl]
  .rw[qN];intro h0;rw[ub h0];simp
 by_cases nn:E1.length+E2.length<=jS
 .rw[if_pos nn]at dO;rcases abB jS with JR|JR
  ·
   have n1:E1.length=0:=om;have n2:E2.length=0:=om;have Yt:KA=[]:=Z1 (by rw[F2.len,n2];simp)
   subst Yt;have ua:((xT Oj (E1.length*i.size) []).run P w)= .ok () w:=by
    cases Oj<;>simp[xT,storeCells]
   rw[ua]at dO;simp only[Result.andThen_ok]at dO;let l:wW:=⟨0,0,0,0⟩;obtain⟨lU,Qw⟩:=hM.move (m1:=iE (iE m c1) c2) (D:=D) (esz:=i.size) (E:=E1++E2) (l:=l) (src:=src) (w':=w) (by rw[k3,k1]) HI (SS _) rfl rfl rfl (fun _ _ _=>rfl)
    (by simp[l]) (by simp[l,n1,n2]) (SS _) (by simp[l]) lh (by simp[l]) KB rZ
   refine⟨_,_,w,_,_,_,by rw[Sem.run_bind,dO];rfl,.inl rfl,g3,lU,?_,Qw⟩
   have:=TW l (by simp[l,n1,n2]) (by simp[l]) (SS _) Oj (by simp[l]) w
   rw[JR];exact this
  ·
   have nA:∃id lo eu,c1= .rv (.one (.row id i.size lo eu))/\Live ρ m (.ar id)/\Oj=some ⟨(ρ.aV (.ar id)).b,(ρ.aV (.ar id)).aA+lo*i.size,none⟩/\jS=(ρ.aV (.ar id)).cap-lo/\
     ∃cur,lS (i.size=1) w (ρ.aV (.ar id)).b cur/\(ρ.aV (.ar id)).aA+(ρ.aV (.ar id)).cap*i.size<=cur.size:=by
    unfold fo at zf;split at zf
    .simp[uS]at mh
    .rename_i id e0 lo eu;split at zf
     .rename_i e2' rows eY;rw[aZ]at eY;split at zf
      .rename_i q1 q2;have q1:e0=i.size:=Z2 q1;have q2:e2'=i.size:=Z2 q2;subst q1;rw[q2]at eY;obtain⟨r2,r3,r4,r5,HK⟩:=hM.bk id _ eY;obtain⟨aB,d1,d2,d3,d4,ad,On,ub⟩:=hd;rw[On]at DI;injection DI with Yu acV UT
       have wX:0<(ρ.aV (.ar id)).cap:=by clear HK;omega
       obtain⟨cur,cj,h1,_⟩:=HK wX;exact⟨id,lo,eu,rfl,⟨_,eY,aG,fun _=>wX⟩,by rw[<-Yu];exact ub (by clear HK;omega),UT.symm,cur,cj,h1⟩
      .cases zf
     .cases zf
    .cases zf;obtain⟨ad,On⟩:=hd;rw[On]at DI;injection DI with _ _ UT
     omega
    .cases zf
   obtain⟨id,lo,eu,rfl,cX,rfl,Gb,cur,cj,eJ⟩:=nA;have ic:lo+jS=(ρ.aV (.ar id)).cap:=om;have hbound:(ρ.aV (.ar id)).aA+lo*i.size+jS*i.size<=cur.size:=by have:(lo+jS)*i.size=lo*i.size+jS*i.size:=abE ..;rw[<-ic,this]at eJ;omega
   have Yv:E1.length*i.size+E2.length*i.size<=jS*i.size:=by rw[<-abE];exact abq _ nn
   obtain⟨w',gq,ua,qH,TY,Yw,gK⟩:=mP (P:=P) (ρ.aV (.ar id)).b ((ρ.aV (.ar id)).aA+lo*i.size+E1.length*i.size) KA 0 cur w cj (by rw[F2.len];omega) F2.one
   have xS:(Builtin.append_ #[t,t2] ty #[v,v2]).run P w= .ok (.slice (some ⟨(ρ.aV (.ar id)).b,(ρ.aV (.ar id)).aA+lo*i.size,none⟩) (E1.length+E2.length) jS) w':=by rw[dO];simp only[xT,lT];rw[ua];rfl
   let l:wW:=⟨(ρ.aV (.ar id)).b,(ρ.aV (.ar id)).aA+lo*i.size,E1.length+E2.length,jS⟩;have cG:=hM.aQ _ cX;obtain⟨lU,Qw⟩:=hM.move (m1:=iE (iE m (.rv (.one (.row id i.size lo eu)))) c2) (D:=D) (esz:=i.size) (E:=E1++E2) (l:=l) (src:=src) (w':=w') (by rw[k3,k1]) HI (Nat.le_of_eq TY.size.symm) TY.os TY.tape TY.output
    (fun b hb hn=>TY.heap b fun e=>hn id (.inl ⟨_,_,_,rfl⟩) cX e.symm) (fun _=>⟨by rw[TY.size];exact cG.1,.inr ⟨id,.inl ⟨_,_,_,rfl⟩,cX,rfl⟩⟩) (by simp[l]) nn Ok lh
    (fun g _=>⟨gq,qH,by rw[Yw];exact hbound,fun k cs j c hk hj=>by
     obtain⟨u,hu,cz⟩:=jj g (Ga l) k cs j c hk hj;refine⟨u,?_,cz⟩;rw[gK];simp only[l,acI];have aB:=(Mh.1 hu).1;rw[abO,F1.len,F2.len]at aB;rcases ZX (k*i.size+j) (E1.length*i.size)with Bf|Bf
     .rw[if_neg om];rw[ZY (by rw[F1.len];exact Bf)]at hu
      obtain⟨b',acW,RK,hrd⟩:=F1.RI (by
       rcases abB E1.length with h0|h0
       .rw[h0]at Bf;simp at Bf
       .exact h0)
      injection RK with RK
      injection RK with RH mj
      have hh:=hrd _ u hu;rw[<-RH,<-mj,cj.cell]at hh;rw[<-hh];congr 1;omega
     .rw[if_pos (by rw[F2.len];omega)]
      rw[ZW (by rw[F1.len];exact Bf)]at hu
      rw[<-hu];congr 1;rw[F1.len];omega⟩) KB rZ
   refine⟨_,_,w',_,_,_,by rw[Sem.run_bind,xS];rfl,.inl rfl,g3,lU,?_,Qw⟩
   exact TW l rfl Ok nn _ (fun _=>rfl) w'
 ·
  rw[if_neg nn]at dO;have ew:=grownCap_ge w (E1.length+E2.length) jS e;have hgm:grownCap w (E1.length+E2.length) jS e<=maxLen:=grownCap_le_maxLen w _ jS e (by unfold maxLen;omega)
  let cells:Array Value:=TV.toArray++KA.toArray++Builtin.zeroCells zv.cells (grownCap w (E1.length+E2.length) jS e-(E1.length+E2.length));let l:wW:=⟨w.heap.size,0,E1.length+E2.length,grownCap w (E1.length+E2.length) jS e⟩;have UU:cells.size=grownCap w (E1.length+E2.length) jS e*i.size:=by simp only[cells,Array.size_append,List.size_toArray,F1.len,F2.len,size_zeroCells,UQ,<-Nat.add_mul];congr 1;omega
  have zh:lS (i.size=1) (w.drew.alloc (.cells cells e)) w.heap.size cells:=lS.new w.drew cells e;obtain⟨lU,Qw⟩:=hM.move (m1:=iE (iE m c1) c2) (D:=D) (esz:=i.size) (E:=E1++E2) (l:=l) (src:=src) (w':=w.drew.alloc (.cells cells e)) (by rw[k3,k1]) HI aG rfl rfl rfl
   (fun b hb _=>heap_alloc_old w.drew _ b hb) (fun _=>⟨zh.lt,.inl (SS _)⟩) (by simp[l]) ew hgm lh
   (fun g _=>⟨cells,zh,by simp only[l,abx];rw[UU];exact SS _,fun k cs j c hk hj=>by
    obtain⟨u,hu,cz⟩:=jj g (Ga l) k cs j c hk hj;refine⟨u,?_,cz⟩;have aB:=(Mh.1 hu).1;simp only[l,abx,cells];rw[acn (by simpa using aB)]
    simpa using hu⟩) KB rZ
  refine⟨_,_,_,_,_,_,by rw[Sem.run_bind,dO];rfl,.inl rfl,g3,lU,?_,Qw⟩
  exact TW l rfl hgm ew _ (fun _=>rfl) _
end
end Go.AM
