/- Part 4 of 41: what the law stands on. -/
import Derived.Test.YthagjdhjmamakaaGreatDoorT03
set_option linter.unusedVariables false
set_option linter.unusedSimpArgs false
set_option linter.unnecessarySimpa false
set_option maxRecDepth 100000
set_option maxHeartbeats 64000000
namespace Go.AM
section
variable {P:Program} {ρ:bH} {m:Mem} {w:World} {aU:List CV} {a:Act} {K:CV->Mem->Prop}
theorem CE(hM:aC ρ m w)(hE:be ρ w aU a.tmps){t:TypeId}{fs:Array Field}{f:Field}{k n:Nat}{x:Operand}{x':X}(hu:P.underlying t=some (.struct fs))(hf:fs[k]? =some f)(hs:d9 P f.type=some n)(hn:n≠0)(hx:bh x=some x')(h:step P (.bQ f.offset x') aU m K):dl P (do pure (Next.value (<-Instr.fieldAt t (a.eval x) k))) ρ m w K:=by
 have hd:=aN hE hx;simp only[step]at h;have run:∀b off:Nat,(Instr.fieldAt t (.pointer (some ⟨b,off,none⟩)) k).run P w= .ok (.pointer (some ⟨b,off+f.offset,none⟩)) w:=fun b off=>by simp[Instr.fieldAt,run_underlying hu,hf,Instr.sureAddr,fieldPlace,eU hs,hn,kX]
 generalize a.eval x=v at hd⊢;generalize x'.ev aU=c at hd h;split at h
 .obtain⟨aF,rfl⟩:=hd;exact dl.pure hM (by rw[Sem.run_bind,run];rfl) h ⟨aF,by simp[aau]⟩
 .obtain⟨aF,rfl⟩:=hd;exact dl.pure hM (by rw[Sem.run_bind,run];rfl) h ⟨aF,by simp[aau]⟩
 .obtain⟨b,off,rfl,hS,bY⟩:=hd;refine dl.pure hM (by rw[Sem.run_bind,run];rfl) h ⟨b,off+f.offset,rfl,hS,fun j d hj=>?_⟩
  rw[aaA]at hj;rw[aau];exact bY _ d hj
 .exact h.elim
theorem Aa{t:TypeId}{agg:Bool}{off n:Nat}{cs l:List CC}{cells:Array Value}{cv:CV}(ha:dU P t=some agg)(hs:d9 P t=some n)(hc:Cells ρ w cs cells)(hr:gH cs off n=some l)(hm:IV agg l=some cv):∃u,(part t cells off).run P w= .ok u w/\bW ρ w cv u:=by
 obtain⟨hl,lE⟩:=jG hr;unfold part;rw[Sem.run_bind,nS ha];simp only[Result.andThen_ok];cases agg with
 |true=>
  simp[IV]at hm;subst hm;refine⟨.agg (cells.extract off (off+n)),by simp[eU hs],?_⟩
  refine Fg ⟨?_,fun i c hi=>?_⟩
  .simp only[Array.size_extract,hl];rcases aav n with h0|h0
   .omega
   .have:=lE (n-1) om;have h1:off+(n-1)<cs.length:=by
     rcases XN (off+(n-1)) cs.length with h|h
     .exact h
     .rw[aaj h,tq om]at this;cases this
    have:=hc.1;omega
  .have jI:i<n:=by rw[<-hl];exact(Hy.1 hi).1
   obtain⟨u,hu,b9⟩:=hc.2 (off+i) c ((lE i jI).trans hi);have aF:=(aac.1 hu).1;refine⟨u,?_,b9⟩;rw[Array.getElem?_extract];rw[if_pos om];exact hu
 |false=>
  match l,hm with
  | [c],hm=>
   simp[IV]at hm;subst hm;obtain⟨u,hu,b9⟩:=hc.2 off c (by have:=lE 0 (by simp at hl;omega);simpa using this)
   exact⟨u,by simp[hu],b9⟩
theorem GB(hM:aC ρ m w)(hE:be ρ w aU a.tmps){t:TypeId}{fs:Array Field}{f:Field}{k n:Nat}{agg:Bool}{x:Operand}{x':X}(hu:P.underlying t=some (.struct fs))(hf:fs[k]? =some f)(ha:dU P f.type=some agg)(hs:d9 P f.type=some n)(hx:bh x=some x')(h:step P (.RZ agg f.offset n x') aU m K):dl P (do pure (Next.value (<-Instr.field t (a.eval x) k))) ρ m w K:=by
 have hd:=aN hE hx;simp only[step]at h;generalize a.eval x=v at hd⊢;generalize x'.ev aU=c at hd h;split at h
 .rename_i cs;obtain⟨vs,rfl,hl,hc⟩:=hd;obtain⟨l,hr,h⟩:=bc.1 h;obtain⟨cv,hm,hK⟩:=bc.1 h;obtain⟨u,du,b9⟩:=Aa (w:=w) ha hs (cells:=vs.toArray) ⟨by simpa using hl,fun i c hi=>by simpa using hc i c hi⟩ hr hm
  refine dl.pure hM (v:=u) ?_ hK b9;simp[Instr.field,run_underlying hu,hf,asAgg,du]
 .exact h.elim
theorem wN{α:Type}{l:List α}{n:Int}{x:α}(h:dg l n=some x):∃k:Nat,n=k/\l[k]? =some x:=by
 cases n with
 |ofNat k=>exact⟨k,rfl,by simpa[dg,aT]using h⟩
 |negSucc k=>simp[dg]at h
theorem lF{n:Int}{len k:Nat}(h:dt n len=some k):n=k/\k<len:=by
 cases n with
 |ofNat j=>
  simp only[dt]at h;split at h
  .rename_i hb;simp at h;subst h;exact⟨rfl,by simpa[aaO]using hb⟩
  .cases h
 |negSucc j=>simp[dt]at h
theorem kp(a b:Nat):gB a b=a+b:=by
 cases a<;>simp[gB]
theorem gL(n lo:Nat)(hi:Option Nat):lenOf n lo hi=hi.getD n-lo:=by
 cases lo<;>cases hi<;>simp[lenOf]
theorem nT{k:IntKind}{n:Int}{v:Value}(h:bW ρ w (.rv (.one (.aa (.val (.int k n))))) v):v= .int k n:=(bJ h).1
theorem kq{t e:TypeId}{esz:Nat}(hu:P.underlying t=some (.slice e))(hs:d9 P e=some esz)(b off len cap k:Nat)(kd:IntKind)(hk:k<len):
  (Instr.indexAt t (.slice (some ⟨b,off,none⟩) len cap) (.int kd (k:Int))).run P w= .ok (.pointer (some ⟨b,off+k*esz,none⟩)) w:=by
 have h1:(0:Int)<=(k:Int)/\(k:Int)<(len:Int):=⟨om,om⟩;simp[Instr.indexAt,asIntOf,run_underlying hu,eU hs,kX];omega
theorem GC(hM:aC ρ m w)(hE:be ρ w aU a.tmps){t e:TypeId}{esz:Nat}{x i:Operand}{x' i':X}(hu:P.underlying t=some (.slice e))(hs:d9 P e=some esz)(hx:bh x=some x')(hi:bh i=some i')(h:step P (.b7 esz x' i') aU m K):dl P (do pure (Next.value (<-Instr.indexAt t (a.eval x) (a.eval i)))) ρ m w K:=by
 have hd:=aN hE hx;have I9:=aN hE hi;simp only[step]at h;generalize a.eval x=v at hd⊢;generalize a.eval i=vi at I9⊢;generalize x'.ev aU=c at hd h;generalize i'.ev aU=ci at I9 h;split at h
 .rename_i kd n;obtain rfl:=nT I9;split at h
  .rename_i m8 elems;rcases cj.1 h with⟨he,g1⟩|⟨_,g1⟩
   case inr=>exact g1.elim
   have he:esz=m8:=XM he;subst he;obtain⟨ds,hg,hK⟩:=bc.1 g1;obtain⟨k,rfl,hk⟩:=wN hg;have aF:=(Hy.1 hk).1;cases hd with
   |nil=>simp at aF
   |sl _ _ b off cap u hS hl bl dj hc bY=>
    refine dl.pure hM (by rw[Sem.run_bind,kq hu hs b off _ cap k kd aF];rfl) hK ⟨b,off+k*esz,rfl,hS,fun j d hj=>?_⟩
    exact⟨_,hc k ds j d hk hj,bY k ds j d hk hj⟩
  .rename_i id m8 lo hi;obtain⟨bk,hb,h⟩:=bc.1 h;rw[aT]at hb;cases bk<;>simp only at h
   rename_i wa elems;rcases cj.1 h with⟨he,g1⟩|⟨_,g1⟩
   case inr=>exact g1.elim
   rcases cj.1 g1 with⟨qH,g2⟩|⟨_,g2⟩
   case inr=>exact g2.elim
   have he:esz=m8:=XM he;subst he;obtain⟨k,hg,hK⟩:=bc.1 g2;obtain⟨rfl,hk⟩:=lF hg;obtain⟨h2,h3,h4,h5,zE⟩:=hM.bk id _ hb;obtain⟨aF,d1,d2,d3,d4,ad,rfl,tf⟩:=hd;rw[gL,h2]at hk;rw[tf (by clear zE;omega)]
   refine dl.pure hM (by rw[Sem.run_bind,kq hu hs _ _ _ _ k kd hk];rfl) hK ⟨aF,?_⟩
   rw[kp,aaz];simp[aau]
  .exact h.elim
 .exact h.elim
theorem gM{t e:TypeId}{esz len:Nat}(hu:P.underlying t=some (.array len e))(hs:d9 P e=some esz)(b off k:Nat)(kd:IntKind)(hk:k<len):
  (Instr.indexAt t (.pointer (some ⟨b,off,none⟩)) (.int kd (k:Int))).run P w= .ok (.pointer (some ⟨b,off+k*esz,none⟩)) w:=by
 have h1:(0:Int)<=(k:Int)/\(k:Int)<(len:Int):=⟨om,om⟩;simp[Instr.indexAt,asIntOf,run_underlying hu,eU hs,kX,Instr.sureAddr];omega
theorem CF(hM:aC ρ m w)(hE:be ρ w aU a.tmps){t e:TypeId}{len esz:Nat}{x i:Operand}{x' i':X}(hu:P.underlying t=some (.array len e))(hs:d9 P e=some esz)(hx:bh x=some x')(hi:bh i=some i')(h:step P (.tP len esz x' i') aU m K):dl P (do pure (Next.value (<-Instr.indexAt t (a.eval x) (a.eval i)))) ρ m w K:=by
 have hd:=aN hE hx;have I9:=aN hE hi;simp only[step]at h;generalize a.eval x=v at hd⊢;generalize a.eval i=vi at I9⊢;generalize x'.ev aU=c at hd h;generalize i'.ev aU=ci at I9 h;split at h
 .rename_i kd n;obtain rfl:=nT I9;split at h
  .obtain⟨k,hg,hK⟩:=bc.1 h;obtain⟨rfl,hk⟩:=lF hg;obtain⟨aF,rfl⟩:=hd;exact dl.pure hM (by rw[Sem.run_bind,gM hu hs _ _ k kd hk];rfl) hK ⟨aF,by simp[aau]⟩
  .obtain⟨k,hg,hK⟩:=bc.1 h;obtain⟨rfl,hk⟩:=lF hg;obtain⟨aF,rfl⟩:=hd;exact dl.pure hM (by rw[Sem.run_bind,gM hu hs _ _ k kd hk];rfl) hK ⟨aF,by simp[aau]⟩
  .obtain⟨k,hg,hK⟩:=bc.1 h;obtain⟨rfl,hk⟩:=lF hg;obtain⟨b,off,rfl,hS,bY⟩:=hd;refine dl.pure hM (by rw[Sem.run_bind,gM hu hs _ _ k kd hk];rfl) hK ⟨b,off+k*esz,rfl,hS,fun j d hj=>?_⟩
   rw[aaA]at hj;rw[aau];exact bY _ d hj
  .exact h.elim
 .exact h.elim
theorem CG(hM:aC ρ m w)(hE:be ρ w aU a.tmps){t:TypeId}{x i:Operand}{x' i':X}(hu:P.underlying t=some .string)(hx:bh x=some x')(hi:bh i=some i')(h:step P (.zR x' i') aU m K):dl P (do pure (Next.value (<-Instr.index t (a.eval x) (a.eval i)))) ρ m w K:=by
 have hd:=aN hE hx;have I9:=aN hE hi;simp only[step]at h;generalize a.eval x=v at hd⊢;generalize a.eval i=vi at I9⊢;generalize x'.ev aU=c at hd h;generalize i'.ev aU=ci at I9 h;split at h
 .rename_i kd n;obtain rfl:=nT I9;split at h
  .rename_i s;obtain⟨rfl,_⟩:=bJ hd;obtain⟨b,hg,hK⟩:=bc.1 h;obtain⟨k,rfl,hk⟩:=wN hg;have aF:k<s.size:=by have:=(Hy.1 hk).1;simpa using this
   have hs:s[k]? =some b:=by
    rw[tq (by simpa using aF)]at hk
    simp at hk;rw[getElem?_pos s k aF];simp[<-hk];rfl
   refine dl.pure hM (v:= .int .u8 b.toNat) ?_ hK (ce rfl);simp[Instr.index,asIntOf,run_underlying hu,hs]
  .exact h.elim
 .exact h.elim
theorem wO(hM:aC ρ m w)(hE:be ρ w aU a.tmps){op:BinOp}{t:TypeId}{x y:Operand}{x' y':X}(hx:bh x=some x')(hy:bh y=some y')(h:step P (.aE op x' y') aU m K):dl P (do let v<-(do eqGuard op t x y (a.eval x) (a.eval y);binOp op t (a.eval x) (a.eval y));pure (Next.value v)) ρ m w K:=by
 have hd:=aN hE hx;have ow:=aN hE hy;simp only[step]at h;generalize a.eval x=v at hd⊢;generalize a.eval y=u at ow⊢;generalize x'.ev aU=c at hd h;generalize y'.ev aU=d at ow h;split at h
 .split at h
  .obtain⟨r,hr,hK⟩:=bc.1 h;obtain⟨rfl,hp⟩:=bJ hd (fun e=>by subst e;simp[Gu]at hr)
   obtain⟨rfl,hq⟩:=bJ ow (fun e=>by subst e;cases v<;>simp[Gu]at hr)
   obtain⟨h1,h2⟩:=Cz (P:=P) (w:=w) hr (t:=t);refine dl.pure hM (v:=r) ?_ hK (ce h2);have hg:(eqGuard op t x y v u).run P w= .ok () w:=sj hp (by rintro rfl;cases u<;>simp[Gu]at hr)
   simp only[Sem.run_bind,hg,Result.andThen_ok,h1,Sem.run_pure]
  .exact h.elim
 .exact h.elim
theorem wP(hM:aC ρ m w)(hE:be ρ w aU a.tmps){neg:Bool}{t:TypeId}{x y:Operand}{x' y':X}(ht:P.underlying t=some .bool)(hx:bh x=some x')(hy:bh y=some y')(h:step P (.beq neg x' y') aU m K):dl P (do let v<-(do eqGuard (if neg then .neq else .eql) t x y (a.eval x) (a.eval y);binOp (if neg then .neq else .eql) t (a.eval x) (a.eval y));pure (Next.value v)) ρ m w K:=by
 have hd:=aN hE hx;have ow:=aN hE hy;simp only[step]at h;generalize a.eval x=v at hd⊢;generalize a.eval y=u at ow⊢;generalize x'.ev aU=c at hd h;generalize y'.ev aU=d at ow h;split at h
 .split at h
  .obtain⟨rfl,hp⟩:=bJ hd;obtain⟨rfl,hq⟩:=bJ ow;refine dl.pure hM (v:=_) ?_ h (ce rfl);rw[Sem.run_bind,Sem.run_bind,sj hp aK];simp only[Result.andThen_ok,Mz ht,Sem.run_pure];rfl
  .exact h.elim
 .exact h.elim
theorem Ja(hM:aC ρ m w)(hE:be ρ w aU a.tmps){op:UnOp}{x:Operand}{x':X}(hx:bh x=some x')(h:step P (.un op x') aU m K):dl P (do pure (Next.value (<-Op.unary op (a.eval x)))) ρ m w K:=by
 have hd:=aN hE hx;simp only[step]at h;generalize a.eval x=v at hd⊢;generalize x'.ev aU=c at hd h;split at h
 .obtain⟨r,hr,hK⟩:=bc.1 h;obtain⟨rfl,hp⟩:=bJ hd (fun e=>by subst e;simp[Ve]at hr)
  obtain⟨h1,h2⟩:=Gz (P:=P) (w:=w) hr;exact dl.pure hM (v:=r) (by rw[Sem.run_bind,h1];rfl) hK (ce h2)
 .exact h.elim
theorem CH(hM:aC ρ m w)(hE:be ρ w aU a.tmps){s d:TypeId}{k0 k:IntKind}{x:Operand}{x':X}(hs:P.underlying s=some (.int k0))(hk:P.underlying d=some (.int k))(hx:bh x=some x')(h:step P (.conv k x') aU m K):dl P (do pure (Next.value (<-convert s d (a.eval x)))) ρ m w K:=by
 have hd:=aN hE hx;simp only[step]at h;generalize a.eval x=v at hd⊢;generalize x'.ev aU=c at hd h;split at h
 .obtain rfl:=nT hd;refine dl.pure hM (v:=_) ?_ h (ce rfl);simp[convert,run_underlying hs,run_underlying hk,Conv.intToInt]
 .exact h.elim
theorem GD(hM:aC ρ m w)(hE:be ρ w aU a.tmps){s d:TypeId}{x:Operand}{x':X}(hs:P.underlying s=some .string)(hk:P.underlying d=some .string)(hx:bh x=some x')(h:step P (.R0 x') aU m K):dl P (do pure (Next.value (<-convert s d (a.eval x)))) ρ m w K:=by
 have hd:=aN hE hx;simp only[step]at h;generalize a.eval x=v at hd⊢;generalize x'.ev aU=c at hd h;split at h
 .obtain⟨rfl,hp⟩:=bJ hd;refine dl.pure hM (v:=_) ?_ h (ce rfl);simp[convert,run_underlying hs,run_underlying hk]
 .exact h.elim
theorem qT(hE:be ρ w aU a.tmps):∀{xs:List Operand}{Fh:List X},sf xs=some Fh->(E6 aU Fh).length=xs.length/\
  ∀(i:Nat)c,(E6 aU Fh)[i]? =some c->∃v,(xs.map a.eval)[i]? =some v/\bW ρ w c v
 | [],Fh,h=>by simp[sf]at h;subst h;simp[E6]
 |x::r,Fh,h=>by
  simp only[sf,Pq,KG]at h;obtain⟨x',hx,r',hr,h⟩:=h;simp at h;subst h;obtain⟨h1,h2⟩:=qT hE hr;refine⟨by simp[E6,h1],fun i c hi=>?_⟩
  cases i with
  |zero=>simp[E6]at hi;subst hi;exact⟨_,aK,aN hE hx⟩
  |succ i=>simpa using h2 i c (by simpa[E6]using hi)
theorem sr:∀{cs:List CV}{iZ:List Nat},tS cs=some iZ->cs=iZ.map fun id=>CV.rv (.one (.ptr id 0))
 | [],iZ,h=>by simp[tS]at h;subst h;rfl
 |c::r,iZ,h=>by
  unfold tS at h;split at h
  .rename_i h1;simp at h1
  .rename_i id r' h1;simp only[List.cons.injEq]at h1;obtain⟨rfl,rfl⟩:=h1;split at h
   .rename_i l hl;simp at h;subst h;rw[sr hl];rfl
   .cases h
  .cases h
theorem uc:∀iZ:List Nat,tz iZ=iZ.map fun id=>CV.rv (.one (.ptr id 0))
 | []=>rfl
 |id::r=>by simp[tz,uc r]
theorem Jb(hM:aC ρ m w)(hE:be ρ w aU a.tmps){f:Nat}{xs:Array Operand}{Fh:List X}(hx:sf xs.toList=some Fh)(h:step P (.fn f Fh) aU m K):dl P (do pure (Next.value (<-Instr.makeFunc (.func f) ((#[]:Array Operand).map a.eval) (xs.map a.eval)))) ρ m w K:=by
 simp only[step]at h;obtain⟨iZ,hi,hK⟩:=bc.1 h;obtain⟨h1,h2⟩:=qT hE hx;rw[sr hi]at h1 h2;refine dl.pure hM (v:= .func (.func f) #[] (xs.map a.eval)) (by simp[Instr.makeFunc]) hK ⟨fun id hid=>?_,?_⟩
 .obtain⟨k,hk,rfl⟩:=abE hid;obtain⟨v,_,hd⟩:=h2 k _ (by rw[O6,tq hk];rfl)
  exact hd.1
 .congr 1;apply aaX;rw[Array.toList_map];apply aaI;intro k;simp only[LW]at h1;rcases XN k iZ.length with hk|hk
  .obtain⟨v,hv,hd⟩:=h2 k _ (by rw[O6,tq hk];rfl)
   rw[hv,hd.2];simp[tq hk]
  .rw[aaj (by simp;rw[<-Array.length_toList,<-h1];exact hk),aaj (by simpa using hk)]
theorem GF(hM:aC ρ m w)(hE:be ρ w aU a.tmps){i:Nat}{x:Operand}{x':X}(hx:bh x=some x')(h:step P (.ext x' i) aU m K):dl P (do pure (Next.value (<-Instr.extract (a.eval x) i))) ρ m w K:=by
 have hd:=aN hE hx;simp only[step]at h;generalize a.eval x=v at hd⊢;generalize x'.ev aU=c at hd h;split at h
 .obtain⟨r,hr,hK⟩:=bc.1 h;rw[aT]at hr;obtain⟨vs,rfl,hl,hc⟩:=hd;obtain⟨u,hu,b9⟩:=hc i r hr;refine dl.pure hM (v:=u) ?_ hK b9;simp[Instr.extract,hu]
 .exact h.elim
theorem qU(hM:aC ρ m w)(hE:be ρ w aU a.tmps){t ty:TypeId}{x:Operand}{x':X}{k:Nat}(hu:(k=0/\P.underlying t=some .string)\/(k=1/\∃e,P.underlying t=some (.slice e))\/(k=2/\∃kt e,P.underlying t=some (.map kt e)))(hx:bh x=some x')(h:step P (.len k x') aU m K):dl P (do pure (Next.value (<-Builtin.len_ #[t] ty #[a.eval x]))) ρ m w K:=by
 have hd:=aN hE hx;generalize a.eval x=v at hd⊢;rcases hu with⟨rfl,hu⟩|⟨rfl,e,hu⟩|⟨rfl,kt,e,hu⟩
 .simp only[step]at h;generalize x'.ev aU=c at hd h;split at h
  .obtain⟨rfl,hp⟩:=bJ hd;refine dl.pure hM (v:=_) ?_ h (ce rfl);simp[Builtin.len_,run_underlying hu,goInt]
  .exact h.elim
 .simp only[step]at h;generalize x'.ev aU=c at hd h;split at h
  .rename_i esz elems;refine dl.pure hM (v:= .int .i64 (elems.length:Int)) ?_ h (ce rfl);cases hd<;>simp[Builtin.len_,run_underlying hu,goInt]
  .rename_i id esz lo hi;obtain⟨bk,hb,h⟩:=bc.1 h;rw[aT]at hb;cases bk<;>simp only at h
   rename_i m8 elems;obtain⟨h2,h3,h4,h5,zE⟩:=hM.bk id _ hb;obtain⟨aF,d1,d2,d3,d4,ad,rfl,tf⟩:=hd;rw[gL,h2]at h;refine dl.pure hM (v:=_) ?_ h (ce rfl);simp[Builtin.len_,run_underlying hu,goInt]
  .obtain⟨ad,rfl⟩:=hd;refine dl.pure hM (v:=_) ?_ h (ce rfl);simp[Builtin.len_,run_underlying hu,goInt]
  .exact h.elim
 .simp only[step]at h;generalize x'.ev aU=c at hd h;split at h
  .rename_i id;obtain⟨bk,hb,h⟩:=bc.1 h;rw[aT]at hb;cases bk<;>simp only at h
   rename_i es;obtain⟨cJ,clock,ku,dj,CI⟩:=hM.bk id _ hb;obtain⟨aF,rfl⟩:=hd;refine dl.pure hM (v:= .int .i64 (es.length:Int)) ?_ h (ce rfl);simp[Builtin.len_,run_underlying hu,goInt,getObj,Sem.run,ku,dj]
  .exact h.elim
theorem CJ(hM:aC ρ m w)(hE:be ρ w aU a.tmps){x:Operand}{x':X}{o:Oper}(ho:o.op= .nilCheck x)(hx:bh x=some x')(h:step P (.aR x') aU m K):dl P (execOp a.eval o) ρ m w K:=by
 have hd:=aN hE hx;simp only[step]at h;unfold execOp;rw[ho];simp only;generalize a.eval x=v at hd⊢;generalize x'.ev aU=c at hd h;split at h
 .have PH:=hd;obtain⟨aF,rfl⟩:=hd;exact dl.pure hM rfl h PH
 .have PH:=hd;obtain⟨aF,rfl⟩:=hd;exact dl.pure hM rfl h PH
 .have PH:=hd;obtain⟨b,off,rfl,_⟩:=hd;exact dl.pure hM rfl h PH
 .exact h.elim
theorem CK(hM:aC ρ m w)(hE:be ρ w aU a.tmps){c x y:Operand}{c' x' y':X}(hc:bh c=some c')(hx:bh x=some x')(hy:bh y=some y')(h:step P (.pick c' x' y') aU m K):dl P (do pure (Next.value (if<-asBool (a.eval c)then a.eval x else a.eval y))) ρ m w K:=by
 have hd:=aN hE hc;simp only[step]at h;generalize a.eval c=v at hd⊢;generalize c'.ev aU=cc at hd h;split at h
 .obtain⟨rfl,hp⟩:=bJ hd;rcases cj.1 h with⟨rfl,h⟩|⟨rfl,h⟩
  .exact dl.pure hM (v:=a.eval x) (by simp[asBool]) h (aN hE hx)
  .exact dl.pure hM (v:=a.eval y) (by simp[asBool]) h (aN hE hy)
 .exact h.elim
theorem Jc{α:Type}{n i:Nat}{x y:α}(h:(fI n x)[i]? =some y):y=x/\i<n:=by
 rw[fk,abO]at h;split at h
 .exact⟨by simpa using h.symm,by assumption⟩
 .cases h
def yb(ρ:bH)(w:World)(esz:Nat)(rows:List (List CC))(cells:Array Value):Prop:=
 cells.size=rows.length*esz/\(∀cs,cs∈rows->cs.length=esz)/\
  ∀(i:Nat)cs(j:Nat)c,rows[i]? =some cs->cs[j]? =some c->∃u,cells[i*esz+j]? =some u/\br ρ w .none c u
theorem su(hE:be ρ w aU a.tmps){esz:Nat}:
  ∀{ps:List (Nat×Operand)}{ph:List (Nat×X)}{rows kz:List (List CC)}{cells:Array Value},jx ps=some ph->se aU esz rows ph=some kz->yb ρ w esz rows cells->
   ∃eK,Instr.fill (fun i=>some (i*esz,esz)) cells (ps.map fun p=>(p.1,a.eval p.2))=some eK/\yb ρ w esz kz eK/\kz.length=rows.length
 | [],ph,z,z',cells,hp,hf,hz=>by simp[jx]at hp;subst hp;simp[se]at hf;subst hf;exact⟨cells,rfl,hz,rfl⟩
 |(i,x)::r,ph,z,z',cells,hp,hf,hz=>by
  simp only[jx,Pq,KG]at hp;obtain⟨x',hx,r',hr,hp⟩:=hp;simp at hp;subst hp;simp only[se]at hf;split at hf
  .rename_i cs fb;split at hf
   .rename_i hlen;simp only[T6,aaO]at hlen;have hl:cs.length=esz:=XM hlen.1;obtain⟨h1,h2,_⟩:=iH fb (aN hE hx);have dj:i*esz+esz<=cells.size:=by rw[hz.1];have:(i+1)*esz<=z.length*esz:=aam _ hlen.2;rwa [aaz,aaU]at this
    have V4:=qS (i*esz) (a.eval x).cells.toList 0 cells;simp only[abL]at V4;have he:(a.eval x).cells.zipIdx.foldl (fun cs(p:Value×Nat)=>cs.setIfInBounds (i*esz+p.2) p.1) cells=((a.eval x).cells.toList.zipIdx 0).foldl (fun(cs:Array Value)(p:Value×Nat)=>cs.setIfInBounds (i*esz+p.2) p.1) cells:=by rw[<-Array.foldl_toList];simp
    have Ab:Instr.fill (fun i=>some (i*esz,esz)) cells ((i,a.eval x)::r.map fun p=>(p.1,a.eval p.2))=
      Instr.fill (fun i=>some (i*esz,esz)) ((a.eval x).cells.zipIdx.foldl (fun cs(p:Value×Nat)=>cs.setIfInBounds (i*esz+p.2) p.1) cells) (r.map fun p=>(p.1,a.eval p.2)):=by
     rw[Instr.fill];simp only;rw[if_neg (by rw[h1,hl];simp;omega)]
    have Sf:yb ρ w esz (a7 z i cs) ((a.eval x).cells.zipIdx.foldl (fun cs(p:Value×Nat)=>cs.setIfInBounds (i*esz+p.2) p.1) cells):=by
     rw[he,bg];refine⟨by rw[V4.1,hz.1];simp,fun ek Jd=>?_,fun i' ek j c dV hj=>?_⟩
     .rcases aag Jd with hm|rfl
      .exact hz.2.1 ek hm
      .exact hl
     .have sw:(a.eval x).cells.toList.length=esz:=by simp[h1,hl]
      rw[V4.2 (by rw[sw];exact dj),sw]
      by_cases Mg:i=i'
      .subst Mg;rw[QO hlen.2]at dV;simp only[XQ]at dV;subst dV;have jy:j<esz:=by rw[<-hl];exact(Hy.1 hj).1
       rw[if_pos om];obtain⟨u,hu,b9⟩:=h2 j c hj;exact⟨u,by rw[show i*esz+j-i*esz=j by omega];simpa using hu,b9⟩
      .rw[XK Mg]at dV;have jy:j<esz:=by rw[<-hz.2.1 _ (O9 dV)];exact(Hy.1 hj).1
       rw[if_neg]
       .exact hz.2.2 i' ek j c dV hj
       .rcases Nat.lt_or_gt_of_ne Mg with nc|nc
        .have:(i+1)*esz<=i'*esz:=aam _ nc;rw[aaz,aaU]at this;omega
        .have:(i'+1)*esz<=i*esz:=aam _ nc;rw[aaz,aaU]at this;omega
    obtain⟨eK,h3,h4,h5⟩:=su hE hr hf Sf;exact⟨eK,by rw[aay,Ab,h3],h4,by rw[h5,bg];simp⟩
   .cases hf
  .cases hf
theorem CL(zero:Array Value)(n:Nat)(k:Nat)(hk:k<n)(hz:0<zero.size):((Array.range n).map (zero[· %zero.size]!))[k]? =zero[k%zero.size]? :=by have:k%zero.size<zero.size:=Nat.mod_lt _ hz;simp[hk,this]
theorem GG(hM:aC ρ m w)(hE:be ρ w aU a.tmps){t e:TypeId}{n:Nat}{ps:Array (Nat×Operand)}{z:List CC}{ph:List (Nat×X)}(hu:P.underlying t=some (.slice e))(hz:dE P e=some z)(hs:d9 P e=some z.length)(de:0<z.length)(hn:n*z.length<=2^24)(hp:jx ps.toList=some ph)(h:step P (.lu z.length z n ph) aU m K):dl P (do pure (Next.value (<-Instr.buildSlice t n (ps.map fun(i,x)=>(i,a.eval x))))) ρ m w K:=by
 simp only[step]at h;obtain⟨rows,hf,hK⟩:=bc.1 h;rw[ew,gI,cg]at hK;obtain⟨zv,Sg,MC⟩:=CB (ρ:=ρ) (w:=w) hz;have V5:zv.cells.size=z.length:=MC.1;have h0:yb ρ w z.length (fI n z) ((Array.range (n*z.length)).map (zv.cells[· %zv.cells.size]!)):=by
  refine⟨by simp[fk],fun cs fb=>?_,fun i cs j c hi hj=>?_⟩
  .rw[fk]at fb;rw[aa4 fb]
  .obtain⟨rfl,jI⟩:=Jc hi;have jy:=(Hy.1 hj).1;have aF:i*cs.length+j<n*cs.length:=by have:(i+1)*cs.length<=n*cs.length:=aam _ jI;rw[aaz,aaU]at this;omega
   rw[CL _ _ _ aF om,V5,abM i,acr,acm jy];exact MC.2 j c hj
 obtain⟨cells,h1,h2,h3⟩:=su hE hp hf h0;have hlen:rows.length=n:=by rw[h3,fk];simp
 obtain⟨ρ',g1,g2,g3⟩:=I7 hM (ty:=e) (cap:=n) (cells:=cells) (elems:=rows) (w':=w.alloc (.cells cells e)) (.inl rfl) (by rw[h2.1,hlen];exact QN _) om (by unfold maxLen;have:n*1<=n*z.length:=Nat.mul_le_mul_left _ de;omega) h2.2.1 h2.2.2
 rw[hlen]at g3;refine⟨_,_,_,_,_,ρ',?_,.inl rfl,hK,g1,g3,g2⟩;have Ab:Instr.fill (fun i=>some (i*z.length,z.length)) ((Array.range (n*z.length)).map (zv.cells[· %zv.cells.size]!)) (ps.map fun(i,x)=>(i,a.eval x)).toList=some cells:=by simpa using h1
 rcases aav n with MA|MA
 .subst MA;have e0:∀zz:Array Value,((Array.range (0*z.length)).map (zz[· %zz.size]!))= #[]:=by intro zz;simp
  rw[e0]at Ab;simp only[Instr.buildSlice,Sem.run_bind,run_underlying hu,Result.andThen_ok,eU hs];rw[if_neg om,if_pos aK];simp only[Sem.run_pure,Result.andThen_ok,e0,Ab];simp[newRow]
 .have eL:n*z.length≠0:=Nat.ne_of_gt (Nat.mul_pos MA de);simp only[Instr.buildSlice,Sem.run_bind,run_underlying hu,Result.andThen_ok,eU hs];rw[if_neg om,if_neg eL];simp only[Sem.run_bind,Sg,Result.andThen_ok,Sem.run_pure,Ab];simp[newRow]
end
end Go.AM
