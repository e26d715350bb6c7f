/- Part 4 of 39: what the law stands on. -/
import Derived.Test.YtodckkkbiidffaaGreatDoorT03
set_option linter.unusedVariables false
set_option linter.unusedSimpArgs false
set_option linter.unnecessarySimpa false
set_option maxRecDepth 100000
set_option maxHeartbeats 64000000
namespace Go.AM
section
variable {P:Program} {ρ:bG} {m:Mem} {w:World} {aV:List CV} {a:Act} {K:CV->Mem->Prop}
theorem By(hM:aA ρ m w)(hE:be ρ w aV a.tmps){t:TypeId}{fs:Array Field}{f:Field}{k n:Nat}{x:Operand}{x':X}(hu:P.underlying t=some (.struct fs))(hf:fs[k]? =some f)(hs:d6 P f.type=some n)(hn:n≠0)(hx:bh x=some x')(h:step P (.bX f.offset x') aV m K):di P (do pure (Next.value (<-Instr.fieldAt t (a.eval x) k))) ρ m w K:=by
 have hd:=aN hE hx;simp only[step]at h;have run:∀b off:Nat,(Instr.fieldAt t (.pointer (some ⟨b,off,none⟩)) k).run P w= .ok (.pointer (some ⟨b,off+f.offset,none⟩)) w:=fun b off=>by simp[Instr.fieldAt,run_underlying hu,hf,Instr.sureAddr,fieldPlace,eP hs,hn,kI]
 generalize a.eval x=v at hd⊢;generalize x'.ev aV=c at hd h;split at h
 .obtain⟨aE,rfl⟩:=hd;exact di.pure hM (by rw[Sem.run_bind,run];rfl) h ⟨aE,by simp[aao]⟩
 .obtain⟨aE,rfl⟩:=hd;exact di.pure hM (by rw[Sem.run_bind,run];rfl) h ⟨aE,by simp[aao]⟩
 .obtain⟨b,off,rfl,hS,bY⟩:=hd;refine di.pure hM (by rw[Sem.run_bind,run];rfl) h ⟨b,off+f.offset,rfl,hS,fun j d hj=>?_⟩
  rw[aat]at hj;rw[aao];exact bY _ d hj
 .exact h.elim
theorem y6{t:TypeId}{agg:Bool}{off n:Nat}{cs l:List CC}{cells:Array Value}{cv:CV}(ha:dO P t=some agg)(hs:d6 P t=some n)(hc:Cells ρ w cs cells)(hr:gR cs off n=some l)(hm:HB agg l=some cv):∃u,(part t cells off).run P w= .ok u w/\bV ρ w cv u:=by
 obtain⟨hl,kZ⟩:=jv hr;unfold part;rw[Sem.run_bind,nn ha];simp only[Result.andThen_ok];cases agg with
 |true=>
  simp[HB]at hm;subst hm;refine⟨.agg (cells.extract off (off+n)),by simp[eP hs],?_⟩
  refine DY ⟨?_,fun i c hi=>?_⟩
  .simp only[Array.size_extract,hl];rcases aap n with h0|h0
   .omega
   .have:=kZ (n-1) om;have h1:off+(n-1)<cs.length:=by
     rcases Wj (off+(n-1)) cs.length with h|h
     .exact h
     .rw[aae h,sA om]at this;cases this
    have:=hc.1;omega
  .have jx:i<n:=by rw[<-hl];exact(Gf.1 hi).1
   obtain⟨u,hu,b8⟩:=hc.2 (off+i) c ((kZ i jx).trans hi);have aE:=(Z4.1 hu).1;refine⟨u,?_,b8⟩;rw[Array.getElem?_extract];rw[if_pos om];exact hu
 |false=>
  match l,hm with
  | [c],hm=>
   simp[HB]at hm;subst hm;obtain⟨u,hu,b8⟩:=hc.2 off c (by have:=kZ 0 (by simp at hl;omega);simpa using this)
   exact⟨u,by simp[hu],b8⟩
theorem Fh(hM:aA ρ m w)(hE:be ρ w aV a.tmps){t:TypeId}{fs:Array Field}{f:Field}{k n:Nat}{agg:Bool}{x:Operand}{x':X}(hu:P.underlying t=some (.struct fs))(hf:fs[k]? =some f)(ha:dO P f.type=some agg)(hs:d6 P f.type=some n)(hx:bh x=some x')(h:step P (.Qx agg f.offset n x') aV m K):di P (do pure (Next.value (<-Instr.field t (a.eval x) k))) ρ m w K:=by
 have hd:=aN hE hx;simp only[step]at h;generalize a.eval x=v at hd⊢;generalize x'.ev aV=c at hd h;split at h
 .rename_i cs;obtain⟨vs,rfl,hl,hc⟩:=hd;obtain⟨l,hr,h⟩:=bc.1 h;obtain⟨cv,hm,hK⟩:=bc.1 h;obtain⟨u,dq,b8⟩:=y6 (w:=w) ha hs (cells:=vs.toArray) ⟨by simpa using hl,fun i c hi=>by simpa using hc i c hi⟩ hr hm
  refine di.pure hM (v:=u) ?_ hK b8;simp[Instr.field,run_underlying hu,hf,asAgg,dq]
 .exact h.elim
theorem vG{α:Type}{l:List α}{n:Int}{x:α}(h:dg l n=some x):∃k:Nat,n=k/\l[k]? =some x:=by
 cases n with
 |ofNat k=>exact⟨k,rfl,by simpa[dg,aU]using h⟩
 |negSucc k=>simp[dg]at h
theorem k6{n:Int}{len k:Nat}(h:dp n len=some k):n=k/\k<len:=by
 cases n with
 |ofNat j=>
  simp only[dp]at h;split at h
  .rename_i hb;simp at h;subst h;exact⟨rfl,by simpa[aaQ]using hb⟩
  .cases h
 |negSucc j=>simp[dp]at h
theorem j0(a b:Nat):gu a b=a+b:=by
 cases a<;>simp[gu]
theorem gA(n lo:Nat)(hi:Option Nat):lenOf n lo hi=hi.getD n-lo:=by
 cases lo<;>cases hi<;>simp[lenOf]
theorem np{k:IntKind}{n:Int}{v:Value}(h:bV ρ w (.rv (.one (.aa (.val (.int k n))))) v):v= .int k n:=(bJ h).1
theorem j7{t e:TypeId}{esz:Nat}(hu:P.underlying t=some (.slice e))(hs:d6 P e=some esz)(b off len cap k:Nat)(kd:IntKind)(hk:k<len):
  (Instr.indexAt t (.slice (some ⟨b,off,none⟩) len cap) (.int kd (k:Int))).run P w= .ok (.pointer (some ⟨b,off+k*esz,none⟩)) w:=by
 have h1:(0:Int)<=(k:Int)/\(k:Int)<(len:Int):=⟨om,om⟩;simp[Instr.indexAt,asIntOf,run_underlying hu,eP hs,kI];omega
theorem Fi(hM:aA ρ m w)(hE:be ρ w aV a.tmps){t e:TypeId}{esz:Nat}{x i:Operand}{x' i':X}(hu:P.underlying t=some (.slice e))(hs:d6 P e=some esz)(hx:bh x=some x')(hi:bh i=some i')(h:step P (.cr esz x' i') aV m K):di P (do pure (Next.value (<-Instr.indexAt t (a.eval x) (a.eval i)))) ρ m w K:=by
 have hd:=aN hE hx;have HQ:=aN hE hi;simp only[step]at h;generalize a.eval x=v at hd⊢;generalize a.eval i=vi at HQ⊢;generalize x'.ev aV=c at hd h;generalize i'.ev aV=ci at HQ h;split at h
 .rename_i kd n;obtain rfl:=np HQ;split at h
  .rename_i mG elems;rcases cg.1 h with⟨he,g1⟩|⟨_,g1⟩
   case inr=>exact g1.elim
   have he:esz=mG:=Wh he;subst he;obtain⟨ds,hg,hK⟩:=bc.1 g1;obtain⟨k,rfl,hk⟩:=vG hg;have aE:=(Gf.1 hk).1;cases hd with
   |nil=>simp at aE
   |sl _ _ b off cap u hS hl bl dn hc bY=>
    refine di.pure hM (by rw[Sem.run_bind,j7 hu hs b off _ cap k kd aE];rfl) hK ⟨b,off+k*esz,rfl,hS,fun j d hj=>?_⟩
    exact⟨_,hc k ds j d hk hj,bY k ds j d hk hj⟩
  .rename_i id mG lo hi;obtain⟨bk,hb,h⟩:=bc.1 h;rw[aU]at hb;cases bk<;>simp only at h
   rename_i u9 elems;rcases cg.1 h with⟨he,g1⟩|⟨_,g1⟩
   case inr=>exact g1.elim
   rcases cg.1 g1 with⟨pX,g2⟩|⟨_,g2⟩
   case inr=>exact g2.elim
   have he:esz=mG:=Wh he;subst he;obtain⟨k,hg,hK⟩:=bc.1 g2;obtain⟨rfl,hk⟩:=k6 hg;obtain⟨h2,h3,h4,h5,yH⟩:=hM.bk id _ hb;obtain⟨aE,d1,d2,d3,d4,ad,rfl,sj⟩:=hd;rw[gA,h2]at hk;rw[sj (by clear yH;omega)]
   refine di.pure hM (by rw[Sem.run_bind,j7 hu hs _ _ _ _ k kd hk];rfl) hK ⟨aE,?_⟩
   rw[j0,aas];simp[aao]
  .exact h.elim
 .exact h.elim
theorem gB{t e:TypeId}{esz len:Nat}(hu:P.underlying t=some (.array len e))(hs:d6 P e=some esz)(b off k:Nat)(kd:IntKind)(hk:k<len):
  (Instr.indexAt t (.pointer (some ⟨b,off,none⟩)) (.int kd (k:Int))).run P w= .ok (.pointer (some ⟨b,off+k*esz,none⟩)) w:=by
 have h1:(0:Int)<=(k:Int)/\(k:Int)<(len:Int):=⟨om,om⟩;simp[Instr.indexAt,asIntOf,run_underlying hu,eP hs,kI,Instr.sureAddr];omega
theorem Bz(hM:aA ρ m w)(hE:be ρ w aV a.tmps){t e:TypeId}{len esz:Nat}{x i:Operand}{x' i':X}(hu:P.underlying t=some (.array len e))(hs:d6 P e=some esz)(hx:bh x=some x')(hi:bh i=some i')(h:step P (.yS len esz x' i') aV m K):di P (do pure (Next.value (<-Instr.indexAt t (a.eval x) (a.eval i)))) ρ m w K:=by
 have hd:=aN hE hx;have HQ:=aN hE hi;simp only[step]at h;generalize a.eval x=v at hd⊢;generalize a.eval i=vi at HQ⊢;generalize x'.ev aV=c at hd h;generalize i'.ev aV=ci at HQ h;split at h
 .rename_i kd n;obtain rfl:=np HQ;split at h
  .obtain⟨k,hg,hK⟩:=bc.1 h;obtain⟨rfl,hk⟩:=k6 hg;obtain⟨aE,rfl⟩:=hd;exact di.pure hM (by rw[Sem.run_bind,gB hu hs _ _ k kd hk];rfl) hK ⟨aE,by simp[aao]⟩
  .obtain⟨k,hg,hK⟩:=bc.1 h;obtain⟨rfl,hk⟩:=k6 hg;obtain⟨aE,rfl⟩:=hd;exact di.pure hM (by rw[Sem.run_bind,gB hu hs _ _ k kd hk];rfl) hK ⟨aE,by simp[aao]⟩
  .obtain⟨k,hg,hK⟩:=bc.1 h;obtain⟨rfl,hk⟩:=k6 hg;obtain⟨b,off,rfl,hS,bY⟩:=hd;refine di.pure hM (by rw[Sem.run_bind,gB hu hs _ _ k kd hk];rfl) hK ⟨b,off+k*esz,rfl,hS,fun j d hj=>?_⟩
   rw[aat]at hj;rw[aao];exact bY _ d hj
  .exact h.elim
 .exact h.elim
theorem BA(hM:aA ρ m w)(hE:be ρ w aV a.tmps){t:TypeId}{x i:Operand}{x' i':X}(hu:P.underlying t=some .string)(hx:bh x=some x')(hi:bh i=some i')(h:step P (.yT x' i') aV m K):di P (do pure (Next.value (<-Instr.index t (a.eval x) (a.eval i)))) ρ m w K:=by
 have hd:=aN hE hx;have HQ:=aN hE hi;simp only[step]at h;generalize a.eval x=v at hd⊢;generalize a.eval i=vi at HQ⊢;generalize x'.ev aV=c at hd h;generalize i'.ev aV=ci at HQ h;split at h
 .rename_i kd n;obtain rfl:=np HQ;split at h
  .rename_i s;obtain⟨rfl,_⟩:=bJ hd;obtain⟨b,hg,hK⟩:=bc.1 h;obtain⟨k,rfl,hk⟩:=vG hg;have aE:k<s.size:=by have:=(Gf.1 hk).1;simpa using this
   have hs:s[k]? =some b:=by
    rw[sA (by simpa using aE)]at hk
    simp at hk;rw[getElem?_pos s k aE];simp[<-hk];rfl
   refine di.pure hM (v:= .int .u8 b.toNat) ?_ hK (b9 rfl);simp[Instr.index,asIntOf,run_underlying hu,hs]
  .exact h.elim
 .exact h.elim
theorem vH(hM:aA ρ m w)(hE:be ρ w aV a.tmps){op:BinOp}{t:TypeId}{x y:Operand}{x' y':X}(hx:bh x=some x')(hy:bh y=some y')(h:step P (.aH op x' y') aV m K):di P (do let v<-(do eqGuard op t x y (a.eval x) (a.eval y);binOp op t (a.eval x) (a.eval y));pure (Next.value v)) ρ m w K:=by
 have hd:=aN hE hx;have nM:=aN hE hy;simp only[step]at h;generalize a.eval x=v at hd⊢;generalize a.eval y=u at nM⊢;generalize x'.ev aV=c at hd h;generalize y'.ev aV=d at nM h;split at h
 .split at h
  .obtain⟨r,hr,hK⟩:=bc.1 h;obtain⟨rfl,hp⟩:=bJ hd (fun e=>by subst e;simp[Fa]at hr)
   obtain⟨rfl,hq⟩:=bJ nM (fun e=>by subst e;cases v<;>simp[Fa]at hr)
   obtain⟨h1,h2⟩:=Bu (P:=P) (w:=w) hr (t:=t);refine di.pure hM (v:=r) ?_ hK (b9 h2);have hg:(eqGuard op t x y v u).run P w= .ok () w:=rB hp (by rintro rfl;cases u<;>simp[Fa]at hr)
   simp only[Sem.run_bind,hg,Result.andThen_ok,h1,Sem.run_pure]
  .exact h.elim
 .exact h.elim
theorem vI(hM:aA ρ m w)(hE:be ρ w aV a.tmps){neg:Bool}{t:TypeId}{x y:Operand}{x' y':X}(ht:P.underlying t=some .bool)(hx:bh x=some x')(hy:bh y=some y')(h:step P (.beq neg x' y') aV m K):di P (do let v<-(do eqGuard (if neg then .neq else .eql) t x y (a.eval x) (a.eval y);binOp (if neg then .neq else .eql) t (a.eval x) (a.eval y));pure (Next.value v)) ρ m w K:=by
 have hd:=aN hE hx;have nM:=aN hE hy;simp only[step]at h;generalize a.eval x=v at hd⊢;generalize a.eval y=u at nM⊢;generalize x'.ev aV=c at hd h;generalize y'.ev aV=d at nM h;split at h
 .split at h
  .obtain⟨rfl,hp⟩:=bJ hd;obtain⟨rfl,hq⟩:=bJ nM;refine di.pure hM (v:=_) ?_ h (b9 rfl);rw[Sem.run_bind,Sem.run_bind,rB hp aI];simp only[Result.andThen_ok,Lb ht,Sem.run_pure];rfl
  .exact h.elim
 .exact h.elim
theorem HR(hM:aA ρ m w)(hE:be ρ w aV a.tmps){op:UnOp}{x:Operand}{x':X}(hx:bh x=some x')(h:step P (.un op x') aV m K):di P (do pure (Next.value (<-Op.unary op (a.eval x)))) ρ m w K:=by
 have hd:=aN hE hx;simp only[step]at h;generalize a.eval x=v at hd⊢;generalize x'.ev aV=c at hd h;split at h
 .obtain⟨r,hr,hK⟩:=bc.1 h;obtain⟨rfl,hp⟩:=bJ hd (fun e=>by subst e;simp[TK]at hr)
  obtain⟨h1,h2⟩:=Ff (P:=P) (w:=w) hr;exact di.pure hM (v:=r) (by rw[Sem.run_bind,h1];rfl) hK (b9 h2)
 .exact h.elim
theorem BB(hM:aA ρ m w)(hE:be ρ w aV a.tmps){s d:TypeId}{k0 k:IntKind}{x:Operand}{x':X}(hs:P.underlying s=some (.int k0))(hk:P.underlying d=some (.int k))(hx:bh x=some x')(h:step P (.conv k x') aV m K):di P (do pure (Next.value (<-convert s d (a.eval x)))) ρ m w K:=by
 have hd:=aN hE hx;simp only[step]at h;generalize a.eval x=v at hd⊢;generalize x'.ev aV=c at hd h;split at h
 .obtain rfl:=np hd;refine di.pure hM (v:=_) ?_ h (b9 rfl);simp[convert,run_underlying hs,run_underlying hk,Conv.intToInt]
 .exact h.elim
theorem Fj(hM:aA ρ m w)(hE:be ρ w aV a.tmps){s d:TypeId}{x:Operand}{x':X}(hs:P.underlying s=some .string)(hk:P.underlying d=some .string)(hx:bh x=some x')(h:step P (.Qy x') aV m K):di P (do pure (Next.value (<-convert s d (a.eval x)))) ρ m w K:=by
 have hd:=aN hE hx;simp only[step]at h;generalize a.eval x=v at hd⊢;generalize x'.ev aV=c at hd h;split at h
 .obtain⟨rfl,hp⟩:=bJ hd;refine di.pure hM (v:=_) ?_ h (b9 rfl);simp[convert,run_underlying hs,run_underlying hk]
 .exact h.elim
theorem p8(hE:be ρ w aV a.tmps):∀{xs:List Operand}{DZ:List X},ry xs=some DZ->(DN aV DZ).length=xs.length/\
  ∀(i:Nat)c,(DN aV DZ)[i]? =some c->∃v,(xs.map a.eval)[i]? =some v/\bV ρ w c v
 | [],DZ,h=>by simp[ry]at h;subst h;simp[DN]
 |x::r,DZ,h=>by
  simp only[ry,N7,Jm]at h;obtain⟨x',hx,r',hr,h⟩:=h;simp at h;subst h;obtain⟨h1,h2⟩:=p8 hE hr;refine⟨by simp[DN,h1],fun i c hi=>?_⟩
  cases i with
  |zero=>simp[DN]at hi;subst hi;exact⟨_,aI,aN hE hx⟩
  |succ i=>simpa using h2 i c (by simpa[DN]using hi)
theorem rF:∀{cs:List CV}{iN:List Nat},sX cs=some iN->cs=iN.map fun id=>CV.rv (.one (.ptr id 0))
 | [],iN,h=>by simp[sX]at h;subst h;rfl
 |c::r,iN,h=>by
  unfold sX at h;split at h
  .rename_i h1;simp at h1
  .rename_i id r' h1;simp only[List.cons.injEq]at h1;obtain⟨rfl,rfl⟩:=h1;split at h
   .rename_i l hl;simp at h;subst h;rw[rF hl];rfl
   .cases h
  .cases h
theorem tj:∀iN:List Nat,sG iN=iN.map fun id=>CV.rv (.one (.ptr id 0))
 | []=>rfl
 |id::r=>by simp[sG,tj r]
theorem HS(hM:aA ρ m w)(hE:be ρ w aV a.tmps){f:Nat}{xs:Array Operand}{DZ:List X}(hx:ry xs.toList=some DZ)(h:step P (.fn f DZ) aV m K):di P (do pure (Next.value (<-Instr.makeFunc (.func f) ((#[]:Array Operand).map a.eval) (xs.map a.eval)))) ρ m w K:=by
 simp only[step]at h;obtain⟨iN,hi,hK⟩:=bc.1 h;obtain⟨h1,h2⟩:=p8 hE hx;rw[rF hi]at h1 h2;refine di.pure hM (v:= .func (.func f) #[] (xs.map a.eval)) (by simp[Instr.makeFunc]) hK ⟨fun id hid=>?_,?_⟩
 .obtain⟨k,hk,rfl⟩:=abx hid;obtain⟨v,_,hd⟩:=h2 k _ (by rw[NO,sA hk];rfl)
  exact hd.1
 .congr 1;apply aa0;rw[Array.toList_map];apply aaL;intro k;simp only[KB]at h1;rcases Wj k iN.length with hk|hk
  .obtain⟨v,hv,hd⟩:=h2 k _ (by rw[NO,sA hk];rfl)
   rw[hv,hd.2];simp[sA hk]
  .rw[aae (by simp;rw[<-Array.length_toList,<-h1];exact hk),aae (by simpa using hk)]
theorem Fk(hM:aA ρ m w)(hE:be ρ w aV a.tmps){i:Nat}{x:Operand}{x':X}(hx:bh x=some x')(h:step P (.ext x' i) aV m K):di P (do pure (Next.value (<-Instr.extract (a.eval x) i))) ρ m w K:=by
 have hd:=aN hE hx;simp only[step]at h;generalize a.eval x=v at hd⊢;generalize x'.ev aV=c at hd h;split at h
 .obtain⟨r,hr,hK⟩:=bc.1 h;rw[aU]at hr;obtain⟨vs,rfl,hl,hc⟩:=hd;obtain⟨u,hu,b8⟩:=hc i r hr;refine di.pure hM (v:=u) ?_ hK b8;simp[Instr.extract,hu]
 .exact h.elim
theorem p9(hM:aA ρ m w)(hE:be ρ w aV a.tmps){t ty:TypeId}{x:Operand}{x':X}{k:Nat}(hu:(k=0/\P.underlying t=some .string)\/(k=1/\∃e,P.underlying t=some (.slice e))\/(k=2/\∃kt e,P.underlying t=some (.map kt e)))(hx:bh x=some x')(h:step P (.len k x') aV m K):di P (do pure (Next.value (<-Builtin.len_ #[t] ty #[a.eval x]))) ρ m w K:=by
 have hd:=aN hE hx;generalize a.eval x=v at hd⊢;rcases hu with⟨rfl,hu⟩|⟨rfl,e,hu⟩|⟨rfl,kt,e,hu⟩
 .simp only[step]at h;generalize x'.ev aV=c at hd h;split at h
  .obtain⟨rfl,hp⟩:=bJ hd;refine di.pure hM (v:=_) ?_ h (b9 rfl);simp[Builtin.len_,run_underlying hu,goInt]
  .exact h.elim
 .simp only[step]at h;generalize x'.ev aV=c at hd h;split at h
  .rename_i esz elems;refine di.pure hM (v:= .int .i64 (elems.length:Int)) ?_ h (b9 rfl);cases hd<;>simp[Builtin.len_,run_underlying hu,goInt]
  .rename_i id esz lo hi;obtain⟨bk,hb,h⟩:=bc.1 h;rw[aU]at hb;cases bk<;>simp only at h
   rename_i mG elems;obtain⟨h2,h3,h4,h5,yH⟩:=hM.bk id _ hb;obtain⟨aE,d1,d2,d3,d4,ad,rfl,sj⟩:=hd;rw[gA,h2]at h;refine di.pure hM (v:=_) ?_ h (b9 rfl);simp[Builtin.len_,run_underlying hu,goInt]
  .obtain⟨ad,rfl⟩:=hd;refine di.pure hM (v:=_) ?_ h (b9 rfl);simp[Builtin.len_,run_underlying hu,goInt]
  .exact h.elim
 .simp only[step]at h;generalize x'.ev aV=c at hd h;split at h
  .rename_i id;obtain⟨bk,hb,h⟩:=bc.1 h;rw[aU]at hb;cases bk<;>simp only at h
   rename_i es;obtain⟨cH,clock,j8,dn,BC⟩:=hM.bk id _ hb;obtain⟨aE,rfl⟩:=hd;refine di.pure hM (v:= .int .i64 (es.length:Int)) ?_ h (b9 rfl);simp[Builtin.len_,run_underlying hu,goInt,getObj,Sem.run,j8,dn]
  .exact h.elim
theorem BD(hM:aA ρ m w)(hE:be ρ w aV a.tmps){x:Operand}{x':X}{o:Oper}(ho:o.op= .nilCheck x)(hx:bh x=some x')(h:step P (.aT x') aV m K):di P (execOp a.eval o) ρ m w K:=by
 have hd:=aN hE hx;simp only[step]at h;unfold execOp;rw[ho];simp only;generalize a.eval x=v at hd⊢;generalize x'.ev aV=c at hd h;split at h
 .have On:=hd;obtain⟨aE,rfl⟩:=hd;exact di.pure hM rfl h On
 .have On:=hd;obtain⟨aE,rfl⟩:=hd;exact di.pure hM rfl h On
 .have On:=hd;obtain⟨b,off,rfl,_⟩:=hd;exact di.pure hM rfl h On
 .exact h.elim
theorem BE(hM:aA ρ m w)(hE:be ρ w aV a.tmps){c x y:Operand}{c' x' y':X}(hc:bh c=some c')(hx:bh x=some x')(hy:bh y=some y')(h:step P (.pick c' x' y') aV m K):di P (do pure (Next.value (if<-asBool (a.eval c)then a.eval x else a.eval y))) ρ m w K:=by
 have hd:=aN hE hc;simp only[step]at h;generalize a.eval c=v at hd⊢;generalize c'.ev aV=cc at hd h;split at h
 .obtain⟨rfl,hp⟩:=bJ hd;rcases cg.1 h with⟨rfl,h⟩|⟨rfl,h⟩
  .exact di.pure hM (v:=a.eval x) (by simp[asBool]) h (aN hE hx)
  .exact di.pure hM (v:=a.eval y) (by simp[asBool]) h (aN hE hy)
 .exact h.elim
theorem HT{α:Type}{n i:Nat}{x y:α}(h:(fC n x)[i]? =some y):y=x/\i<n:=by
 rw[fb,abF]at h;split at h
 .exact⟨by simpa using h.symm,by assumption⟩
 .cases h
def xf(ρ:bG)(w:World)(esz:Nat)(rows:List (List CC))(cells:Array Value):Prop:=
 cells.size=rows.length*esz/\(∀cs,cs∈rows->cs.length=esz)/\
  ∀(i:Nat)cs(j:Nat)c,rows[i]? =some cs->cs[j]? =some c->∃u,cells[i*esz+j]? =some u/\bq ρ w .none c u
theorem rG(hE:be ρ w aV a.tmps){esz:Nat}:
  ∀{ps:List (Nat×Operand)}{oO:List (Nat×X)}{rows j9:List (List CC)}{cells:Array Value},jl ps=some oO->rx aV esz rows oO=some j9->xf ρ w esz rows cells->
   ∃eF,Instr.fill (fun i=>some (i*esz,esz)) cells (ps.map fun p=>(p.1,a.eval p.2))=some eF/\xf ρ w esz j9 eF/\j9.length=rows.length
 | [],oO,z,z',cells,hp,hf,hz=>by simp[jl]at hp;subst hp;simp[rx]at hf;subst hf;exact⟨cells,rfl,hz,rfl⟩
 |(i,x)::r,oO,z,z',cells,hp,hf,hz=>by
  simp only[jl,N7,Jm]at hp;obtain⟨x',hx,r',hr,hp⟩:=hp;simp at hp;subst hp;simp only[rx]at hf;split at hf
  .rename_i cs eY;split at hf
   .rename_i hlen;simp only[SD,aaQ]at hlen;have hl:cs.length=esz:=Wh hlen.1;obtain⟨h1,h2,_⟩:=iw eY (aN hE hx);have dn:i*esz+esz<=cells.size:=by rw[hz.1];have:(i+1)*esz<=z.length*esz:=aag _ hlen.2;rwa [aas,aaY]at this
    have UD:=p7 (i*esz) (a.eval x).cells.toList 0 cells;simp only[abC]at UD;have he:(a.eval x).cells.zipIdx.foldl (fun cs(p:Value×Nat)=>cs.setIfInBounds (i*esz+p.2) p.1) cells=((a.eval x).cells.toList.zipIdx 0).foldl (fun(cs:Array Value)(p:Value×Nat)=>cs.setIfInBounds (i*esz+p.2) p.1) cells:=by rw[<-Array.foldl_toList];simp
    have y7:Instr.fill (fun i=>some (i*esz,esz)) cells ((i,a.eval x)::r.map fun p=>(p.1,a.eval p.2))=
      Instr.fill (fun i=>some (i*esz,esz)) ((a.eval x).cells.zipIdx.foldl (fun cs(p:Value×Nat)=>cs.setIfInBounds (i*esz+p.2) p.1) cells) (r.map fun p=>(p.1,a.eval p.2)):=by
     rw[Instr.fill];simp only;rw[if_neg (by rw[h1,hl];simp;omega)]
    have QN:xf ρ w esz (aZ z i cs) ((a.eval x).cells.zipIdx.foldl (fun cs(p:Value×Nat)=>cs.setIfInBounds (i*esz+p.2) p.1) cells):=by
     rw[he,bg];refine⟨by rw[UD.1,hz.1];simp,fun ef HU=>?_,fun i' ef j c dP hj=>?_⟩
     .rcases aac HU with hm|rfl
      .exact hz.2.1 ef hm
      .exact hl
     .have rH:(a.eval x).cells.toList.length=esz:=by simp[h1,hl]
      rw[UD.2 (by rw[rH];exact dn),rH]
      by_cases KM:i=i'
      .subst KM;rw[Pr hlen.2]at dP;simp only[Wm]at dP;subst dP;have jm:j<esz:=by rw[<-hl];exact(Gf.1 hj).1
       rw[if_pos om];obtain⟨u,hu,b8⟩:=h2 j c hj;exact⟨u,by rw[show i*esz+j-i*esz=j by omega];simpa using hu,b8⟩
      .rw[Wf KM]at dP;have jm:j<esz:=by rw[<-hz.2.1 _ (NQ dP)];exact(Gf.1 hj).1
       rw[if_neg]
       .exact hz.2.2 i' ef j c dP hj
       .rcases Nat.lt_or_gt_of_ne KM with mK|mK
        .have:(i+1)*esz<=i'*esz:=aag _ mK;rw[aas,aaY]at this;omega
        .have:(i'+1)*esz<=i*esz:=aag _ mK;rw[aas,aaY]at this;omega
    obtain⟨eF,h3,h4,h5⟩:=rG hE hr hf QN;exact⟨eF,by rw[aar,y7,h3],h4,by rw[h5,bg];simp⟩
   .cases hf
  .cases hf
theorem BF(zero:Array Value)(n:Nat)(k:Nat)(hk:k<n)(hz:0<zero.size):((Array.range n).map (zero[· %zero.size]!))[k]? =zero[k%zero.size]? :=by have:k%zero.size<zero.size:=Nat.mod_lt _ hz;simp[hk,this]
theorem Fl(hM:aA ρ m w)(hE:be ρ w aV a.tmps){t e:TypeId}{n:Nat}{ps:Array (Nat×Operand)}{z:List CC}{oO:List (Nat×X)}(hu:P.underlying t=some (.slice e))(hz:dB P e=some z)(hs:d6 P e=some z.length)(dd:0<z.length)(hn:n*z.length<=2^24)(hp:jl ps.toList=some oO)(h:step P (.l5 z.length z n oO) aV m K):di P (do pure (Next.value (<-Instr.buildSlice t n (ps.map fun(i,x)=>(i,a.eval x))))) ρ m w K:=by
 simp only[step]at h;obtain⟨rows,hf,hK⟩:=bc.1 h;rw[ei,gy,cf]at hK;obtain⟨zv,QO,Le⟩:=Bw (ρ:=ρ) (w:=w) hz;have UE:zv.cells.size=z.length:=Le.1;have h0:xf ρ w z.length (fC n z) ((Array.range (n*z.length)).map (zv.cells[· %zv.cells.size]!)):=by
  refine⟨by simp[fb],fun cs eY=>?_,fun i cs j c hi hj=>?_⟩
  .rw[fb]at eY;rw[aba eY]
  .obtain⟨rfl,jx⟩:=HT hi;have jm:=(Gf.1 hj).1;have aE:i*cs.length+j<n*cs.length:=by have:(i+1)*cs.length<=n*cs.length:=aag _ jx;rw[aas,aaY]at this;omega
   rw[BF _ _ _ aE om,UE,abD i,ab9,ab4 jm];exact Le.2 j c hj
 obtain⟨cells,h1,h2,h3⟩:=rG hE hp hf h0;have hlen:rows.length=n:=by rw[h3,fb];simp
 obtain⟨ρ',g1,g2,g3⟩:=HO hM (ty:=e) (cap:=n) (cells:=cells) (elems:=rows) (w':=w.alloc (.cells cells e)) (.inl rfl) (by rw[h2.1,hlen];exact Pq _) om (by unfold maxLen;have:n*1<=n*z.length:=Nat.mul_le_mul_left _ dd;omega) h2.2.1 h2.2.2
 rw[hlen]at g3;refine⟨_,_,_,_,_,ρ',?_,.inl rfl,hK,g1,g3,g2⟩;have y7:Instr.fill (fun i=>some (i*z.length,z.length)) ((Array.range (n*z.length)).map (zv.cells[· %zv.cells.size]!)) (ps.map fun(i,x)=>(i,a.eval x)).toList=some cells:=by simpa using h1
 rcases aap n with Lc|Lc
 .subst Lc;have e0:∀zz:Array Value,((Array.range (0*z.length)).map (zz[· %zz.size]!))= #[]:=by intro zz;simp
  rw[e0]at y7;simp only[Instr.buildSlice,Sem.run_bind,run_underlying hu,Result.andThen_ok,eP hs];rw[if_neg om,if_pos aI];simp only[Sem.run_pure,Result.andThen_ok,e0,y7];simp[newRow]
 .have eG:n*z.length≠0:=Nat.ne_of_gt (Nat.mul_pos Lc dd);simp only[Instr.buildSlice,Sem.run_bind,run_underlying hu,Result.andThen_ok,eP hs];rw[if_neg om,if_neg eG];simp only[Sem.run_bind,QO,Result.andThen_ok,Sem.run_pure,y7];simp[newRow]
end
end Go.AM
