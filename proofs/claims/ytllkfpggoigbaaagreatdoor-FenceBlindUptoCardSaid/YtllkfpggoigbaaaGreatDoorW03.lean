/- Part 3 of 23. -/
import Derived.Test.YtllkfpggoigbaaaGreatDoorW02
set_option linter.unusedVariables false
set_option linter.unusedSimpArgs false
set_option linter.unnecessarySimpa false
set_option maxRecDepth 100000
set_option maxHeartbeats 0
namespace Go.AM
section
variable {P:Program} {ρ:b9} {m:Mem} {w:World} {ba:List CV} {a:Act} {K:CV->Mem->Prop}
theorem GF(hM:aN ρ m w)(hE:bu ρ w ba a.tmps){t:TypeId}{fs:Array Field}{f:Field}{k n:Nat}{x:Operand}{x':X}(hu:P.underlying t=some (.struct fs))(hf:fs[k]? =some f)(hs:fE P f.type=some n)(hn:n≠0)(hx:bG x=some x')(h:step P (.K8 f.offset x') ba m K):eM P (do pure (Next.value (<-Instr.fieldAt t (a.eval x) k))) ρ m w K:=by
 have hd:=aU hE hx;simp only[step]at h;have run:∀b off:Nat,(Instr.fieldAt t (.pointer (some ⟨b,off,none⟩)) k).run P w= .ok (.pointer (some ⟨b,off+f.offset,none⟩)) w:=λb off=>by simp[Instr.fieldAt,run_underlying hu,hf,Instr.sureAddr,fieldPlace,gv hs,hn,nS]
 generalize a.eval x=v at hd|-;generalize x'.ev ba=c at hd h;split at h
 .obtain⟨ay,rfl⟩:=hd;exact eM.pure hM (by rw[Sem.run_bind,run];rfl) h ⟨ay,by simp[acL]⟩
 .obtain⟨ay,rfl⟩:=hd;exact eM.pure hM (by rw[Sem.run_bind,run];rfl) h ⟨ay,by simp[acL]⟩
 .obtain⟨b,off,rfl,hS,cL⟩:=hd;refine eM.pure hM (by rw[Sem.run_bind,run];rfl) h ⟨b,off+f.offset,rfl,hS,λj d hj=>?_⟩
  rw[adi]at hj;rw[acL];exact cL _ d hj
 .exact h.elim
theorem D2{t:TypeId}{agg:Bool}{off n:Nat}{cs l:List CC}{cells:Array Value}{cv:CV}(ha:fl P t=some agg)(hs:fE P t=some n)(hc:Cells ρ w cs cells)(hr:kh cs off n=some l)(hm:N9 agg l=some cv):∃u,(part t cells off).run P w= .ok u w/\cG ρ w cv u:=by
 obtain⟨hl,oo⟩:=mz hr;unfold part;rw[Sem.run_bind,rh ha];simp only[Result.andThen_ok];cases agg with
 |true=>
  simp[N9]at hm;subst hm;refine⟨.agg (cells.extract off (off+n)),by simp[gv hs],?_⟩
  refine Jn ⟨?_,λi c hi=>?_⟩
  .simp only[Array.size_extract,hl];rcases acO n with h0|h0
   .omega
   .have:=oo (n-1) om;have h1:off+(n-1)<cs.length:=by
     rcases aaD (off+(n-1)) cs.length with h|h
     .exact h
     .rw[abk h,xm om]at this;cases this
    have:=hc.1;omega
  .have iF:i<n:=by rw[<-hl];exact(Mp.1 hi).1
   obtain⟨u,hu,cP⟩:=hc.2 (off+i) c ((oo i iF).trans hi);have ay:=(abG.1 hu).1;refine⟨u,?_,cP⟩;rw[Array.getElem?_extract];rw[if_pos om];exact hu
 |false=>
  match l,hm with
  | [c],hm=>
   simp[N9]at hm;subst hm;obtain⟨u,hu,cP⟩:=hc.2 off c (by have:=oo 0 (by simp at hl;omega);simpa using this)
   exact⟨u,by simp[hu],cP⟩
theorem Lj(hM:aN ρ m w)(hE:bu ρ w ba a.tmps){t:TypeId}{fs:Array Field}{f:Field}{k n:Nat}{agg:Bool}{x:Operand}{x':X}(hu:P.underlying t=some (.struct fs))(hf:fs[k]? =some f)(ha:fl P f.type=some agg)(hs:fE P f.type=some n)(hx:bG x=some x')(h:step P (.ZO agg f.offset n x') ba m K):eM P (do pure (Next.value (<-Instr.field t (a.eval x) k))) ρ m w K:=by
 have hd:=aU hE hx;simp only[step]at h;generalize a.eval x=v at hd|-;generalize x'.ev ba=c at hd h;split at h
 .rename_i cs;obtain⟨vs,rfl,hl,hc⟩:=hd;obtain⟨l,hr,h⟩:=be.1 h;obtain⟨cv,hm,hK⟩:=be.1 h;obtain⟨u,fv,cP⟩:=D2 (w:=w) ha hs (cells:=vs.toArray) ⟨by simpa using hl,λi c hi=>by simpa using hc i c hi⟩ hr hm
  refine eM.pure hM (v:=u) ?_ hK cP;simp[Instr.field,run_underlying hu,hf,asAgg,fv]
 .exact h.elim
theorem AV{α:Type}{l:List α}{n:Int}{x:α}(h:cH l n=some x):∃k:Nat,n=k/\l[k]? =some x:=by
 cases n with
 |ofNat k=>exact⟨k,rfl,by simpa[cH,aX]using h⟩
 |negSucc k=>simp[cH]at h
theorem ot{n:Int}{len k:Nat}(h:dW n len=some k):n=k/\k<len:=by
 cases n with
 |ofNat j=>
  simp only[dW]at h;split at h
  .rename_i hb;simp at h;subst h;exact⟨rfl,by simpa[adw]using hb⟩
  .cases h
 |negSucc j=>simp[dW]at h
theorem lZ(a b:Nat):gl a b=a+b:=by
 cases a<;>simp[gl]
theorem jG(n lo:Nat)(hi:Option Nat):lenOf n lo hi=hi.getD n-lo:=by
 cases lo<;>cases hi<;>simp[lenOf]
theorem ri{k:IntKind}{n:Int}{v:Value}(h:cG ρ w (.rv (.one (.ai (.val (.int k n))))) v):v= .int k n:=(cf h).1
theorem nk{t e:TypeId}{esz:Nat}(hu:P.underlying t=some (.slice e))(hs:fE P e=some esz)(b off len cap k:Nat)(kd:IntKind)(hk:k<len):
  (Instr.indexAt t (.slice (some ⟨b,off,none⟩) len cap) (.int kd (k:Int))).run P w= .ok (.pointer (some ⟨b,off+k*esz,none⟩)) w:=by
 have h1:(0:Int)<=(k:Int)/\(k:Int)<(len:Int):=⟨om,om⟩;simp[Instr.indexAt,asIntOf,run_underlying hu,gv hs,nS];omega
theorem Ll(hM:aN ρ m w)(hE:bu ρ w ba a.tmps){t e:TypeId}{esz:Nat}{x i:Operand}{x' i':X}(hu:P.underlying t=some (.slice e))(hs:fE P e=some esz)(hx:bG x=some x')(hi:bG i=some i')(h:step P (.ZP esz x' i') ba m K):eM P (do pure (Next.value (<-Instr.indexAt t (a.eval x) (a.eval i)))) ρ m w K:=by
 have hd:=aU hE hx;have Oo:=aU hE hi;simp only[step]at h;generalize a.eval x=v at hd|-;generalize a.eval i=vi at Oo|-;generalize x'.ev ba=c at hd h;generalize i'.ev ba=ci at Oo h;split at h
 .rename_i kd n;obtain rfl:=ri Oo;split at h
  .rename_i qt elems;rcases cU.1 h with⟨he,g1⟩|⟨_,g1⟩
   case inr=>exact g1.elim
   have he:esz=qt:=aaX he;subst he;obtain⟨ds,hg,hK⟩:=be.1 g1;obtain⟨k,rfl,hk⟩:=AV hg;have ay:=(Mp.1 hk).1;cases hd with
   |nil=>simp at ay
   |sl _ _ b off cap u hS hl bF eu hc cL=>
    refine eM.pure hM (by rw[Sem.run_bind,nk hu hs b off _ cap k kd ay];rfl) hK ⟨b,off+k*esz,rfl,hS,λj d hj=>?_⟩
    exact⟨_,hc k ds j d hk hj,cL k ds j d hk hj⟩
  .rename_i id qt lo hi;obtain⟨bk,hb,h⟩:=be.1 h;rw[aX]at hb;cases bk<;>simp only at h
   rename_i Aj elems;rcases cU.1 h with⟨he,g1⟩|⟨_,g1⟩
   case inr=>exact g1.elim
   rcases cU.1 g1 with⟨pW,g2⟩|⟨_,g2⟩
   case inr=>exact g2.elim
   have he:esz=qt:=aaX he;subst he;obtain⟨k,hg,hK⟩:=be.1 g2;obtain⟨rfl,hk⟩:=ot hg;obtain⟨h2,h3,h4,h5,DE⟩:=hM.bk id _ hb;obtain⟨ay,d1,d2,d3,d4,ad,rfl,w8⟩:=hd;rw[jG,h2]at hk;rw[w8 (by clear DE;omega)]
   refine eM.pure hM (by rw[Sem.run_bind,nk hu hs _ _ _ _ k kd hk];rfl) hK ⟨ay,?_⟩
   rw[lZ,ade];simp[acL]
  .exact h.elim
 .exact h.elim
theorem jH{t e:TypeId}{esz len:Nat}(hu:P.underlying t=some (.array len e))(hs:fE P e=some esz)(b off k:Nat)(kd:IntKind)(hk:k<len):
  (Instr.indexAt t (.pointer (some ⟨b,off,none⟩)) (.int kd (k:Int))).run P w= .ok (.pointer (some ⟨b,off+k*esz,none⟩)) w:=by
 have h1:(0:Int)<=(k:Int)/\(k:Int)<(len:Int):=⟨om,om⟩;simp[Instr.indexAt,asIntOf,run_underlying hu,gv hs,nS,Instr.sureAddr];omega
theorem GG(hM:aN ρ m w)(hE:bu ρ w ba a.tmps){t e:TypeId}{len esz:Nat}{x i:Operand}{x' i':X}(hu:P.underlying t=some (.array len e))(hs:fE P e=some esz)(hx:bG x=some x')(hi:bG i=some i')(h:step P (.N3 len esz x' i') ba m K):eM P (do pure (Next.value (<-Instr.indexAt t (a.eval x) (a.eval i)))) ρ m w K:=by
 have hd:=aU hE hx;have Oo:=aU hE hi;simp only[step]at h;generalize a.eval x=v at hd|-;generalize a.eval i=vi at Oo|-;generalize x'.ev ba=c at hd h;generalize i'.ev ba=ci at Oo h;split at h
 .rename_i kd n;obtain rfl:=ri Oo;split at h
  .obtain⟨k,hg,hK⟩:=be.1 h;obtain⟨rfl,hk⟩:=ot hg;obtain⟨ay,rfl⟩:=hd;exact eM.pure hM (by rw[Sem.run_bind,jH hu hs _ _ k kd hk];rfl) hK ⟨ay,by simp[acL]⟩
  .obtain⟨k,hg,hK⟩:=be.1 h;obtain⟨rfl,hk⟩:=ot hg;obtain⟨ay,rfl⟩:=hd;exact eM.pure hM (by rw[Sem.run_bind,jH hu hs _ _ k kd hk];rfl) hK ⟨ay,by simp[acL]⟩
  .obtain⟨k,hg,hK⟩:=be.1 h;obtain⟨rfl,hk⟩:=ot hg;obtain⟨b,off,rfl,hS,cL⟩:=hd;refine eM.pure hM (by rw[Sem.run_bind,jH hu hs _ _ k kd hk];rfl) hK ⟨b,off+k*esz,rfl,hS,λj d hj=>?_⟩
   rw[adi]at hj;rw[acL];exact cL _ d hj
  .exact h.elim
 .exact h.elim
theorem GH(hM:aN ρ m w)(hE:bu ρ w ba a.tmps){t:TypeId}{x i:Operand}{x' i':X}(hu:P.underlying t=some .string)(hx:bG x=some x')(hi:bG i=some i')(h:step P (.K9 x' i') ba m K):eM P (do pure (Next.value (<-Instr.index t (a.eval x) (a.eval i)))) ρ m w K:=by
 have hd:=aU hE hx;have Oo:=aU hE hi;simp only[step]at h;generalize a.eval x=v at hd|-;generalize a.eval i=vi at Oo|-;generalize x'.ev ba=c at hd h;generalize i'.ev ba=ci at Oo h;split at h
 .rename_i kd n;obtain rfl:=ri Oo;split at h
  .rename_i s;obtain⟨rfl,_⟩:=cf hd;obtain⟨b,hg,hK⟩:=be.1 h;obtain⟨k,rfl,hk⟩:=AV hg;have ay:k<s.size:=by have:=(Mp.1 hk).1;simpa using this
   have hs:s[k]? =some b:=by
    rw[xm (by simpa using ay)]at hk
    simp at hk;rw[getElem?_pos s k ay];simp[<-hk];rfl
   refine eM.pure hM (v:= .int .u8 b.toNat) ?_ hK (cS rfl);simp[Instr.index,asIntOf,run_underlying hu,hs]
  .exact h.elim
 .exact h.elim
theorem AW(hM:aN ρ m w)(hE:bu ρ w ba a.tmps){op:BinOp}{t:TypeId}{x y:Operand}{x' y':X}(hx:bG x=some x')(hy:bG y=some y')(h:step P (.N4 op x' y') ba m K):eM P (do let v<-(do eqGuard op t x y (a.eval x) (a.eval y);binOp op t (a.eval x) (a.eval y));pure (Next.value v)) ρ m w K:=by
 have hd:=aU hE hx;have rR:=aU hE hy;simp only[step]at h;generalize a.eval x=v at hd|-;generalize a.eval y=u at rR|-;generalize x'.ev ba=c at hd h;generalize y'.ev ba=d at rR h;split at h
 .split at h
  .obtain⟨r,hr,hK⟩:=be.1 h;obtain⟨rfl,hp⟩:=cf hd (λe=>by subst e;simp[DR]at hr)
   obtain⟨rfl,hq⟩:=cf rR (λe=>by subst e;cases v<;>simp[DR]at hr)
   obtain⟨h1,h2⟩:=Gy (P:=P) (w:=w) hr (t:=t);refine eM.pure hM (v:=r) ?_ hK (cS h2);have hg:(eqGuard op t x y v u).run P w= .ok () w:=we hp (by rintro rfl;cases u<;>simp[DR]at hr)
   simp only[Sem.run_bind,hg,Result.andThen_ok,h1,Sem.run_pure]
  .exact h.elim
 .exact h.elim
theorem AX(hM:aN ρ m w)(hE:bu ρ w ba a.tmps){neg:Bool}{t:TypeId}{x y:Operand}{x' y':X}(ht:P.underlying t=some .bool)(hx:bG x=some x')(hy:bG y=some y')(h:step P (.beq neg x' y') ba m K):eM P (do let v<-(do eqGuard (if neg then .neq else .eql) t x y (a.eval x) (a.eval y);binOp (if neg then .neq else .eql) t (a.eval x) (a.eval y));pure (Next.value v)) ρ m w K:=by
 have hd:=aU hE hx;have rR:=aU hE hy;simp only[step]at h;generalize a.eval x=v at hd|-;generalize a.eval y=u at rR|-;generalize x'.ev ba=c at hd h;generalize y'.ev ba=d at rR h;split at h
 .split at h
  .obtain⟨rfl,hp⟩:=cf hd;obtain⟨rfl,hq⟩:=cf rR;refine eM.pure hM (v:=_) ?_ h (cS rfl);rw[Sem.run_bind,Sem.run_bind,we hp aG];simp only[Result.andThen_ok,SF ht,Sem.run_pure]<;>rfl
  .exact h.elim
 .exact h.elim
theorem Oq(hM:aN ρ m w)(hE:bu ρ w ba a.tmps){op:UnOp}{x:Operand}{x':X}(hx:bG x=some x')(h:step P (.un op x') ba m K):eM P (do pure (Next.value (<-Op.unary op (a.eval x)))) ρ m w K:=by
 have hd:=aU hE hx;simp only[step]at h;generalize a.eval x=v at hd|-;generalize x'.ev ba=c at hd h;split at h
 .obtain⟨r,hr,hK⟩:=be.1 h;obtain⟨rfl,hp⟩:=cf hd (λe=>by subst e;simp[unV]at hr)
  obtain⟨h1,h2⟩:=Lg (P:=P) (w:=w) hr;exact eM.pure hM (v:=r) (by rw[Sem.run_bind,h1];rfl) hK (cS h2)
 .exact h.elim
theorem GI(hM:aN ρ m w)(hE:bu ρ w ba a.tmps){s d:TypeId}{k0 k:IntKind}{x:Operand}{x':X}(hs:P.underlying s=some (.int k0))(hk:P.underlying d=some (.int k))(hx:bG x=some x')(h:step P (.conv k x') ba m K):eM P (do pure (Next.value (<-convert s d (a.eval x)))) ρ m w K:=by
 have hd:=aU hE hx;simp only[step]at h;generalize a.eval x=v at hd|-;generalize x'.ev ba=c at hd h;split at h
 .obtain rfl:=ri hd;refine eM.pure hM (v:=_) ?_ h (cS rfl);simp[convert,run_underlying hs,run_underlying hk,Conv.intToInt]
 .exact h.elim
theorem Lm(hM:aN ρ m w)(hE:bu ρ w ba a.tmps){s d:TypeId}{x:Operand}{x':X}(hs:P.underlying s=some .string)(hk:P.underlying d=some .string)(hx:bG x=some x')(h:step P (.ZQ x') ba m K):eM P (do pure (Next.value (<-convert s d (a.eval x)))) ρ m w K:=by
 have hd:=aU hE hx;simp only[step]at h;generalize a.eval x=v at hd|-;generalize x'.ev ba=c at hd h;split at h
 .obtain⟨rfl,hp⟩:=cf hd;refine eM.pure hM (v:=_) ?_ h (cS rfl);simp[convert,run_underlying hs,run_underlying hk]
 .exact h.elim
theorem uT(hE:bu ρ w ba a.tmps):∀{xs:List Operand}{Jo:List X},v8 xs=some Jo->(Jd ba Jo).length=xs.length/\
  ∀(i:Nat)c,(Jd ba Jo)[i]? =some c->∃v,(xs.map a.eval)[i]? =some v/\cG ρ w c v
 | [],Jo,h=>by simp[v8]at h;subst h;simp[Jd]
 |x::r,Jo,h=>by
  simp only[v8,XX,V3]at h;obtain⟨x',hx,r',hr,h⟩:=h;simp at h;subst h;obtain⟨h1,h2⟩:=uT hE hr;refine⟨by simp[Jd,h1],λi c hi=>?_⟩
  cases i with
  |zero=>simp[Jd]at hi;subst hi;exact⟨_,aG,aU hE hx⟩
  |succ i=>simpa using h2 i c (by simpa[Jd]using hi)
theorem wm:∀{cs:List CV}{lN:List Nat},xT cs=some lN->cs=lN.map λid=>CV.rv (.one (.ptr id 0))
 | [],lN,h=>by simp[xT]at h;subst h;rfl
 |c::r,lN,h=>by
  unfold xT at h;split at h
  .rename_i h1;simp at h1
  .rename_i id r' h1;simp only[aek]at h1;obtain⟨rfl,rfl⟩:=h1;split at h
   .rename_i l hl;simp at h;subst h;rw[wm hl];rfl
   .cases h
  .cases h
theorem ya:∀lN:List Nat,xy lN=lN.map λid=>CV.rv (.one (.ptr id 0))
 | []=>rfl
 |id::r=>by simp[xy,ya r]
theorem Ot(hM:aN ρ m w)(hE:bu ρ w ba a.tmps){f:Nat}{xs:Array Operand}{Jo:List X}(hx:v8 xs.toList=some Jo)(h:step P (.fn f Jo) ba m K):eM P (do pure (Next.value (<-Instr.makeFunc (.func f) ((#[]:Array Operand).map a.eval) (xs.map a.eval)))) ρ m w K:=by
 simp only[step]at h;obtain⟨lN,hi,hK⟩:=be.1 h;obtain⟨h1,h2⟩:=uT hE hx;rw[wm hi]at h1 h2;refine eM.pure hM (v:= .func (.func f) #[] (xs.map a.eval)) (by simp[Instr.makeFunc]) hK ⟨λid hid=>?_,?_⟩
 .obtain⟨k,hk,rfl⟩:=aei hid;obtain⟨v,_,hd⟩:=h2 k _ (by rw[Rn,xm hk];rfl)
  exact hd.1
 .congr 1;apply adH;rw[Array.toList_map];apply acq;intro k;simp only[P2]at h1;rcases aaD k lN.length with hk|hk
  .obtain⟨v,hv,hd⟩:=h2 k _ (by rw[Rn,xm hk];rfl)
   rw[hv,hd.2];simp[xm hk]
  .rw[abk (by simp;rw[<-Array.length_toList,<-h1];exact hk),abk (by simpa using hk)]
theorem Ln(hM:aN ρ m w)(hE:bu ρ w ba a.tmps){i:Nat}{x:Operand}{x':X}(hx:bG x=some x')(h:step P (.ext x' i) ba m K):eM P (do pure (Next.value (<-Instr.extract (a.eval x) i))) ρ m w K:=by
 have hd:=aU hE hx;simp only[step]at h;generalize a.eval x=v at hd|-;generalize x'.ev ba=c at hd h;split at h
 .obtain⟨r,hr,hK⟩:=be.1 h;rw[aX]at hr;obtain⟨vs,rfl,hl,hc⟩:=hd;obtain⟨u,hu,cP⟩:=hc i r hr;refine eM.pure hM (v:=u) ?_ hK cP;simp[Instr.extract,hu]
 .exact h.elim
theorem uU(hM:aN ρ m w)(hE:bu ρ w ba a.tmps){t ty:TypeId}{x:Operand}{x':X}{k:Nat}(hu:(k=0/\P.underlying t=some .string)\/(k=1/\∃e,P.underlying t=some (.slice e))\/(k=2/\∃kt e,P.underlying t=some (.map kt e)))(hx:bG x=some x')(h:step P (.len k x') ba m K):eM P (do pure (Next.value (<-Builtin.len_ #[t] ty #[a.eval x]))) ρ m w K:=by
 have hd:=aU hE hx;generalize a.eval x=v at hd|-;rcases hu with⟨rfl,hu⟩|⟨rfl,e,hu⟩|⟨rfl,kt,e,hu⟩
 .simp only[step]at h;generalize x'.ev ba=c at hd h;split at h
  .obtain⟨rfl,hp⟩:=cf hd;refine eM.pure hM (v:=_) ?_ h (cS rfl);simp[Builtin.len_,run_underlying hu,goInt]
  .exact h.elim
 .simp only[step]at h;generalize x'.ev ba=c at hd h;split at h
  .rename_i esz elems;refine eM.pure hM (v:= .int .i64 (elems.length:Int)) ?_ h (cS rfl);cases hd<;>simp[Builtin.len_,run_underlying hu,goInt]
  .rename_i id esz lo hi;obtain⟨bk,hb,h⟩:=be.1 h;rw[aX]at hb;cases bk<;>simp only at h
   rename_i qt elems;obtain⟨h2,h3,h4,h5,DE⟩:=hM.bk id _ hb;obtain⟨ay,d1,d2,d3,d4,ad,rfl,w8⟩:=hd;rw[jG,h2]at h;refine eM.pure hM (v:=_) ?_ h (cS rfl);simp[Builtin.len_,run_underlying hu,goInt]
  .obtain⟨ad,rfl⟩:=hd;refine eM.pure hM (v:=_) ?_ h (cS rfl);simp[Builtin.len_,run_underlying hu,goInt]
  .exact h.elim
 .simp only[step]at h;generalize x'.ev ba=c at hd h;split at h
  .rename_i id;obtain⟨bk,hb,h⟩:=be.1 h;rw[aX]at hb;cases bk<;>simp only at h
   rename_i es;obtain⟨fH,clock,nl,eu,uV⟩:=hM.bk id _ hb;obtain⟨ay,rfl⟩:=hd;refine eM.pure hM (v:= .int .i64 (es.length:Int)) ?_ h (cS rfl);simp[Builtin.len_,run_underlying hu,goInt,getObj,Sem.run,nl,eu]
  .exact h.elim
theorem GJ(hM:aN ρ m w)(hE:bu ρ w ba a.tmps){x:Operand}{x':X}{o:Oper}(ho:o.op= .nilCheck x)(hx:bG x=some x')(h:step P (.N5 x') ba m K):eM P (execOp a.eval o) ρ m w K:=by
 have hd:=aU hE hx;simp only[step]at h;unfold execOp;rw[ho];simp only;generalize a.eval x=v at hd|-;generalize x'.ev ba=c at hd h;split at h
 .have Vs:=hd;obtain⟨ay,rfl⟩:=hd;exact eM.pure hM rfl h Vs
 .have Vs:=hd;obtain⟨ay,rfl⟩:=hd;exact eM.pure hM rfl h Vs
 .have Vs:=hd;obtain⟨b,off,rfl,_⟩:=hd;exact eM.pure hM rfl h Vs
 .exact h.elim
theorem GK(hM:aN ρ m w)(hE:bu ρ w ba a.tmps){c x y:Operand}{c' x' y':X}(hc:bG c=some c')(hx:bG x=some x')(hy:bG y=some y')(h:step P (.pick c' x' y') ba m K):eM P (do pure (Next.value (if<-asBool (a.eval c)then a.eval x else a.eval y))) ρ m w K:=by
 have hd:=aU hE hc;simp only[step]at h;generalize a.eval c=v at hd|-;generalize c'.ev ba=cc at hd h;split at h
 .obtain⟨rfl,hp⟩:=cf hd;rcases cU.1 h with⟨rfl,h⟩|⟨rfl,h⟩
  .exact eM.pure hM (v:=a.eval x) (by simp[asBool]) h (aU hE hx)
  .exact eM.pure hM (v:=a.eval y) (by simp[asBool]) h (aU hE hy)
 .exact h.elim
theorem Ov{α:Type}{n i:Nat}{x y:α}(h:(iu n x)[i]? =some y):y=x/\i<n:=by
 rw[gn,aes]at h;split at h
 .exact⟨by simpa using h.symm,by assumption⟩
 .cases h
def Cf(ρ:b9)(w:World)(esz:Nat)(rows:List (List CC))(cells:Array Value):Prop:=
 cells.size=rows.length*esz/\(∀cs,cs∈rows->cs.length=esz)/\
  ∀(i:Nat)cs(j:Nat)c,rows[i]? =some cs->cs[j]? =some c->∃u,cells[i*esz+j]? =some u/\bJ ρ w .none c u
theorem wn(hE:bu ρ w ba a.tmps){esz:Nat}:
  ∀{ps:List (Nat×Operand)}{oZ:List (Nat×X)}{rows nn:List (List CC)}{cells:Array Value},mf ps=some oZ->v7 ba esz rows oZ=some nn->Cf ρ w esz rows cells->
   ∃fW,Instr.fill (λi=>some (i*esz,esz)) cells (ps.map λp=>(p.1,a.eval p.2))=some fW/\Cf ρ w esz nn fW/\nn.length=rows.length
 | [],oZ,z,z',cells,hp,hf,hz=>by simp[mf]at hp;subst hp;simp[v7]at hf;subst hf;exact⟨cells,rfl,hz,rfl⟩
 |(i,x)::r,oZ,z,z',cells,hp,hf,hz=>by
  simp only[mf,XX,V3]at hp;obtain⟨x',hx,r',hr,hp⟩:=hp;simp at hp;subst hp;simp only[v7]at hf;split at hf
  .rename_i cs fF;split at hf
   .rename_i hlen;simp only[aaJ,adw]at hlen;have hl:cs.length=esz:=aaX hlen.1;obtain⟨h1,h2,_⟩:=lh fF (aU hE hx);have eu:i*esz+esz<=cells.size:=by rw[hz.1];have:(i+1)*esz<=z.length*esz:=acr _ hlen.2;rwa [ade,adG]at this
    have hff:=uS (i*esz) (a.eval x).cells.toList 0 cells;simp only[aeo]at hff;have he:(a.eval x).cells.zipIdx.foldl (λcs(p:Value×Nat)=>cs.setIfInBounds (i*esz+p.2) p.1) cells=((a.eval x).cells.toList.zipIdx 0).foldl (λ(cs:Array Value)(p:Value×Nat)=>cs.setIfInBounds (i*esz+p.2) p.1) cells:=by rw[<-Array.foldl_toList];simp
    have D3:Instr.fill (λi=>some (i*esz,esz)) cells ((i,a.eval x)::r.map λp=>(p.1,a.eval p.2))=
      Instr.fill (λi=>some (i*esz,esz)) ((a.eval x).cells.zipIdx.foldl (λcs(p:Value×Nat)=>cs.setIfInBounds (i*esz+p.2) p.1) cells) (r.map λp=>(p.1,a.eval p.2)):=by
     rw[Instr.fill];simp only;rw[if_neg (by rw[h1,hl];simp;omega)]
    have Z1:Cf ρ w esz (aZ z i cs) ((a.eval x).cells.zipIdx.foldl (λcs(p:Value×Nat)=>cs.setIfInBounds (i*esz+p.2) p.1) cells):=by
     rw[he,br];refine⟨by rw[hff.1,hz.1];simp,λfD Ow=>?_,λi' fD j c fm hj=>?_⟩
     .rcases abF Ow with hm|rfl
      .exact hz.2.1 fD hm
      .exact hl
     .have wo:(a.eval x).cells.toList.length=esz:=by simp[h1,hl]
      rw[hff.2 (by rw[wo];exact eu),wo]
      by_cases R5:i=i'
      .subst R5;rw[aal hlen.2]at fm;simp only[abi]at fm;subst fm;have mg:j<esz:=by rw[<-hl];exact(Mp.1 hj).1
       rw[if_pos om];obtain⟨u,hu,cP⟩:=h2 j c hj;exact⟨u,by rw[show i*esz+j-i*esz=j by omega];simpa using hu,cP⟩
      .rw[aap R5]at fm;have mg:j<esz:=by rw[<-hz.2.1 _ (Wm fm)];exact(Mp.1 hj).1
       rw[if_neg]
       .exact hz.2.2 i' fD j c fm hj
       .rcases Nat.lt_or_gt_of_ne R5 with qx|qx
        .have:(i+1)*esz<=i'*esz:=acr _ qx;rw[ade,adG]at this;omega
        .have:(i'+1)*esz<=i*esz:=acr _ qx;rw[ade,adG]at this;omega
    obtain⟨fW,h3,h4,h5⟩:=wn hE hr hf Z1;exact⟨fW,by rw[ac6,D3,h3],h4,by rw[h5,br];simp⟩
   .cases hf
  .cases hf
theorem GL(zero:Array Value)(n:Nat)(k:Nat)(hk:k<n)(hz:0<zero.size):((Array.range n).map (zero[· %zero.size]!))[k]? =zero[k%zero.size]? :=by have:k%zero.size<zero.size:=Nat.mod_lt _ hz;simp[hk,this]
theorem Lo(hM:aN ρ m w)(hE:bu ρ w ba a.tmps){t e:TypeId}{n:Nat}{ps:Array (Nat×Operand)}{z:List CC}{oZ:List (Nat×X)}(hu:P.underlying t=some (.slice e))(hz:eV P e=some z)(hs:fE P e=some z.length)(dQ:0<z.length)(hn:n*z.length<=2^24)(hp:mf ps.toList=some oZ)(h:step P (.Zi z.length z n oZ) ba m K):eM P (do pure (Next.value (<-Instr.buildSlice t n (ps.map λ(i,x)=>(i,a.eval x))))) ρ m w K:=by
 simp only[step]at h;obtain⟨rows,hf,hK⟩:=be.1 h;rw[fO,kZ,cw]at hK;obtain⟨zv,Z2,SH⟩:=GC (ρ:=ρ) (w:=w) hz;have aey:zv.cells.size=z.length:=SH.1;have h0:Cf ρ w z.length (iu n z) ((Array.range (n*z.length)).map (zv.cells[· %zv.cells.size]!)):=by
  refine⟨by simp[gn],λcs fF=>?_,λi cs j c hi hj=>?_⟩
  .rw[gn]at fF;rw[adX fF]
  .obtain⟨rfl,iF⟩:=Ov hi;have mg:=(Mp.1 hj).1;have ay:i*cs.length+j<n*cs.length:=by have:(i+1)*cs.length<=n*cs.length:=acr _ iF;rw[ade,adG]at this;omega
   rw[GL _ _ _ ay om,aey,aep i,afN,afG mg];exact SH.2 j c hj
 obtain⟨cells,h1,h2,h3⟩:=wn hE hp hf h0;have hlen:rows.length=n:=by rw[h3,gn];simp
 obtain⟨U',g1,g2,g3⟩:=Om hM (ty:=e) (cap:=n) (cells:=cells) (elems:=rows) (w':=w.alloc (.cells cells e)) (.inl rfl) (by rw[h2.1,hlen];exact aah _) om (by unfold maxLen;have:n*1<=n*z.length:=Nat.mul_le_mul_left _ dQ;omega) h2.2.1 h2.2.2
 rw[hlen]at g3;refine⟨_,_,_,_,_,U',?_,.inl rfl,hK,g1,g3,g2⟩;have D3:Instr.fill (λi=>some (i*z.length,z.length)) ((Array.range (n*z.length)).map (zv.cells[· %zv.cells.size]!)) (ps.map λ(i,x)=>(i,a.eval x)).toList=some cells:=by simpa using h1
 rcases acO n with SG|SG
 .subst SG;have e0:∀zz:Array Value,((Array.range (0*z.length)).map (zz[· %zz.size]!))= #[]:=by intro zz;simp
  rw[e0]at D3;simp only[Instr.buildSlice,Sem.run_bind,run_underlying hu,Result.andThen_ok,gv hs];rw[if_neg om,if_pos aG];simp only[Sem.run_pure,Result.andThen_ok,e0,D3];simp[newRow]
 .have gj:n*z.length≠0:=Nat.ne_of_gt (Nat.mul_pos SG dQ);simp only[Instr.buildSlice,Sem.run_bind,run_underlying hu,Result.andThen_ok,gv hs];rw[if_neg om,if_neg gj];simp only[Sem.run_bind,Z2,Result.andThen_ok,Sem.run_pure,D3];simp[newRow]
end
end Go.AM
