/- Part 4 of 43: what the law stands on. -/
import Derived.Test.YtojhmadmlnfpcaaGreatDoorK03
set_option linter.unusedVariables false
set_option linter.unusedSimpArgs false
set_option linter.unnecessarySimpa false
set_option maxRecDepth 100000
set_option maxHeartbeats 64000000
namespace Go.AM
section
variable {P:Program} {ρ:bL} {m:Mem} {w:World} {aY:List CV} {a:Act} {K:CV->Mem->Prop}
theorem D4(hM:aH ρ m w)(hE:bj ρ w aY a.tmps){t:TypeId}{fs:Array Field}{f:Field}{k n:Nat}{x:Operand}{x':X}(hu:P.underlying t=some (.struct fs))(hf:fs[k]? =some f)(hs:eN P f.type=some n)(hn:n≠0)(hx:bo x=some x')(h:step P (.bg f.offset x') aY m K):dO P (do pure (Next.value (<-Instr.fieldAt t (a.eval x) k))) ρ m w K:=by
 have hd:=aP hE hx;simp only[step]at h;have run:∀b off:Nat,(Instr.fieldAt t (.pointer (some ⟨b,off,none⟩)) k).run P w= .ok (.pointer (some ⟨b,off+f.offset,none⟩)) w:=fun b off=>by simp[Instr.fieldAt,run_underlying hu,hf,Instr.sureAddr,fieldPlace,fk hs,hn,lU]
 generalize a.eval x=v at hd⊢;generalize x'.ev aY=c at hd h;split at h
 .obtain⟨aC,rfl⟩:=hd;exact dO.pure hM (by rw[Sem.run_bind,run];rfl) h ⟨aC,by simp[aaV]⟩
 .obtain⟨aC,rfl⟩:=hd;exact dO.pure hM (by rw[Sem.run_bind,run];rfl) h ⟨aC,by simp[aaV]⟩
 .obtain⟨b,off,rfl,hS,cj⟩:=hd;refine dO.pure hM (by rw[Sem.run_bind,run];rfl) h ⟨b,off+f.offset,rfl,hS,fun j d hj=>?_⟩
  rw[aaZ]at hj;rw[aaV];exact cj _ d hj
 .exact h.elim
theorem BG{t:TypeId}{agg:Bool}{off n:Nat}{cs l:List CC}{cells:Array Value}{cv:CV}(ha:eB P t=some agg)(hs:eN P t=some n)(hc:Cells ρ w cs cells)(hr:io cs off n=some l)(hm:Kz agg l=some cv):∃u,(part t cells off).run P w= .ok u w/\b8 ρ w cv u:=by
 obtain⟨hl,mt⟩:=kI hr;unfold part;rw[Sem.run_bind,oJ ha];simp only[Result.andThen_ok];cases agg with
 |true=>
  simp[Kz]at hm;subst hm;refine⟨.agg (cells.extract off (off+n)),by simp[fk hs],?_⟩
  refine GN ⟨?_,fun i c hi=>?_⟩
  .simp only[Array.size_extract,hl];rcases aaY n with h0|h0
   .omega
   .have:=mt (n-1) om;have h1:off+(n-1)<cs.length:=by
     rcases aaq (off+(n-1)) cs.length with h|h
     .exact h
     .rw[aaG h,aab om]at this;cases this
    have:=hc.1;omega
  .have iV:i<n:=by rw[<-hl];exact(aac.1 hi).1
   obtain⟨u,hu,cn⟩:=hc.2 (off+i) c ((mt i iV).trans hi);have aC:=(aaF.1 hu).1;refine⟨u,?_,cn⟩;rw[Array.getElem?_extract];rw[if_pos om];exact hu
 |false=>
  match l,hm with
  | [c],hm=>
   simp[Kz]at hm;subst hm;obtain⟨u,hu,cn⟩:=hc.2 off c (by have:=mt 0 (by simp at hl;omega);simpa using this)
   exact⟨u,by simp[hu],cn⟩
theorem H6(hM:aH ρ m w)(hE:bj ρ w aY a.tmps){t:TypeId}{fs:Array Field}{f:Field}{k n:Nat}{agg:Bool}{x:Operand}{x':X}(hu:P.underlying t=some (.struct fs))(hf:fs[k]? =some f)(ha:eB P f.type=some agg)(hs:eN P f.type=some n)(hx:bo x=some x')(h:step P (.On agg f.offset n x') aY m K):dO P (do pure (Next.value (<-Instr.field t (a.eval x) k))) ρ m w K:=by
 have hd:=aP hE hx;simp only[step]at h;generalize a.eval x=v at hd⊢;generalize x'.ev aY=c at hd h;split at h
 .rename_i cs;obtain⟨vs,rfl,hl,hc⟩:=hd;obtain⟨l,hr,h⟩:=be.1 h;obtain⟨cv,hm,hK⟩:=be.1 h;obtain⟨u,dV,cn⟩:=BG (w:=w) ha hs (cells:=vs.toArray) ⟨by simpa using hl,fun i c hi=>by simpa using hc i c hi⟩ hr hm
  refine dO.pure hM (v:=u) ?_ hK cn;simp[Instr.field,run_underlying hu,hf,asAgg,dV]
 .exact h.elim
theorem yq{α:Type}{l:List α}{n:Int}{x:α}(h:cy l n=some x):∃k:Nat,n=k/\l[k]? =some x:=by
 cases n with
 |ofNat k=>exact⟨k,rfl,by simpa[cy,aX]using h⟩
 |negSucc k=>simp[cy]at h
theorem mv{n:Int}{len k:Nat}(h:dU n len=some k):n=k/\k<len:=by
 cases n with
 |ofNat j=>
  simp only[dU]at h;split at h
  .rename_i hb;simp at h;subst h;exact⟨rfl,by simpa[abe]using hb⟩
  .cases h
 |negSucc j=>simp[dU]at h
theorem lB(a b:Nat):ii a b=a+b:=by
 cases a<;>simp[ii]
theorem iu(n lo:Nat)(hi:Option Nat):lenOf n lo hi=hi.getD n-lo:=by
 cases lo<;>cases hi<;>simp[lenOf]
theorem oK{k:IntKind}{n:Int}{v:Value}(h:b8 ρ w (.rv (.one (.aa (.val (.int k n))))) v):v= .int k n:=(bM h).1
theorem lC{t e:TypeId}{esz:Nat}(hu:P.underlying t=some (.slice e))(hs:eN P e=some esz)(b off len cap k:Nat)(kd:IntKind)(hk:k<len):
  (Instr.indexAt t (.slice (some ⟨b,off,none⟩) len cap) (.int kd (k:Int))).run P w= .ok (.pointer (some ⟨b,off+k*esz,none⟩)) w:=by
 have h1:(0:Int)<=(k:Int)/\(k:Int)<(len:Int):=⟨om,om⟩;simp[Instr.indexAt,asIntOf,run_underlying hu,fk hs,lU];omega
theorem H7(hM:aH ρ m w)(hE:bj ρ w aY a.tmps){t e:TypeId}{esz:Nat}{x i:Operand}{x' i':X}(hu:P.underlying t=some (.slice e))(hs:eN P e=some esz)(hx:bo x=some x')(hi:bo i=some i')(h:step P (.bO esz x' i') aY m K):dO P (do pure (Next.value (<-Instr.indexAt t (a.eval x) (a.eval i)))) ρ m w K:=by
 have hd:=aP hE hx;have KO:=aP hE hi;simp only[step]at h;generalize a.eval x=v at hd⊢;generalize a.eval i=vi at KO⊢;generalize x'.ev aY=c at hd h;generalize i'.ev aY=ci at KO h;split at h
 .rename_i kd n;obtain rfl:=oK KO;split at h
  .rename_i nR elems;rcases ct.1 h with⟨he,g1⟩|⟨_,g1⟩
   case inr=>exact g1.elim
   have he:esz=nR:=aav he;subst he;obtain⟨ds,hg,hK⟩:=be.1 g1;obtain⟨k,rfl,hk⟩:=yq hg;have aC:=(aac.1 hk).1;cases hd with
   |nil=>simp at aC
   |sl _ _ b off cap u hS hl bp dI hc cj=>
    refine dO.pure hM (by rw[Sem.run_bind,lC hu hs b off _ cap k kd aC];rfl) hK ⟨b,off+k*esz,rfl,hS,fun j d hj=>?_⟩
    exact⟨_,hc k ds j d hk hj,cj k ds j d hk hj⟩
  .rename_i id nR lo hi;obtain⟨bk,hb,h⟩:=be.1 h;rw[aX]at hb;cases bk<;>simp only at h
   rename_i xN elems;rcases ct.1 h with⟨he,g1⟩|⟨_,g1⟩
   case inr=>exact g1.elim
   rcases ct.1 g1 with⟨mO,g2⟩|⟨_,g2⟩
   case inr=>exact g2.elim
   have he:esz=nR:=aav he;subst he;obtain⟨k,hg,hK⟩:=be.1 g2;obtain⟨rfl,hk⟩:=mv hg;obtain⟨h2,h3,h4,h5,Bg⟩:=hM.bk id _ hb;obtain⟨aC,d1,d2,d3,d4,ad,rfl,uk⟩:=hd;rw[iu,h2]at hk;rw[uk (by clear Bg;omega)]
   refine dO.pure hM (by rw[Sem.run_bind,lC hu hs _ _ _ _ k kd hk];rfl) hK ⟨aC,?_⟩
   rw[lB,aa2];simp[aaV]
  .exact h.elim
 .exact h.elim
theorem iv{t e:TypeId}{esz len:Nat}(hu:P.underlying t=some (.array len e))(hs:eN P e=some esz)(b off k:Nat)(kd:IntKind)(hk:k<len):
  (Instr.indexAt t (.pointer (some ⟨b,off,none⟩)) (.int kd (k:Int))).run P w= .ok (.pointer (some ⟨b,off+k*esz,none⟩)) w:=by
 have h1:(0:Int)<=(k:Int)/\(k:Int)<(len:Int):=⟨om,om⟩;simp[Instr.indexAt,asIntOf,run_underlying hu,fk hs,lU,Instr.sureAddr];omega
theorem D5(hM:aH ρ m w)(hE:bj ρ w aY a.tmps){t e:TypeId}{len esz:Nat}{x i:Operand}{x' i':X}(hu:P.underlying t=some (.array len e))(hs:eN P e=some esz)(hx:bo x=some x')(hi:bo i=some i')(h:step P (.pA len esz x' i') aY m K):dO P (do pure (Next.value (<-Instr.indexAt t (a.eval x) (a.eval i)))) ρ m w K:=by
 have hd:=aP hE hx;have KO:=aP hE hi;simp only[step]at h;generalize a.eval x=v at hd⊢;generalize a.eval i=vi at KO⊢;generalize x'.ev aY=c at hd h;generalize i'.ev aY=ci at KO h;split at h
 .rename_i kd n;obtain rfl:=oK KO;split at h
  .obtain⟨k,hg,hK⟩:=be.1 h;obtain⟨rfl,hk⟩:=mv hg;obtain⟨aC,rfl⟩:=hd;exact dO.pure hM (by rw[Sem.run_bind,iv hu hs _ _ k kd hk];rfl) hK ⟨aC,by simp[aaV]⟩
  .obtain⟨k,hg,hK⟩:=be.1 h;obtain⟨rfl,hk⟩:=mv hg;obtain⟨aC,rfl⟩:=hd;exact dO.pure hM (by rw[Sem.run_bind,iv hu hs _ _ k kd hk];rfl) hK ⟨aC,by simp[aaV]⟩
  .obtain⟨k,hg,hK⟩:=be.1 h;obtain⟨rfl,hk⟩:=mv hg;obtain⟨b,off,rfl,hS,cj⟩:=hd;refine dO.pure hM (by rw[Sem.run_bind,iv hu hs _ _ k kd hk];rfl) hK ⟨b,off+k*esz,rfl,hS,fun j d hj=>?_⟩
   rw[aaZ]at hj;rw[aaV];exact cj _ d hj
  .exact h.elim
 .exact h.elim
theorem D6(hM:aH ρ m w)(hE:bj ρ w aY a.tmps){t:TypeId}{x i:Operand}{x' i':X}(hu:P.underlying t=some .string)(hx:bo x=some x')(hi:bo i=some i')(h:step P (.Bv x' i') aY m K):dO P (do pure (Next.value (<-Instr.index t (a.eval x) (a.eval i)))) ρ m w K:=by
 have hd:=aP hE hx;have KO:=aP hE hi;simp only[step]at h;generalize a.eval x=v at hd⊢;generalize a.eval i=vi at KO⊢;generalize x'.ev aY=c at hd h;generalize i'.ev aY=ci at KO h;split at h
 .rename_i kd n;obtain rfl:=oK KO;split at h
  .rename_i s;obtain⟨rfl,_⟩:=bM hd;obtain⟨b,hg,hK⟩:=be.1 h;obtain⟨k,rfl,hk⟩:=yq hg;have aC:k<s.size:=by have:=(aac.1 hk).1;simpa using this
   have hs:s[k]? =some b:=by
    rw[aab (by simpa using aC)]at hk
    simp at hk;rw[getElem?_pos s k aC];simp[<-hk];rfl
   refine dO.pure hM (v:= .int .u8 b.toNat) ?_ hK (cq rfl);simp[Instr.index,asIntOf,run_underlying hu,hs]
  .exact h.elim
 .exact h.elim
theorem yr(hM:aH ρ m w)(hE:bj ρ w aY a.tmps){op:BinOp}{t:TypeId}{x y:Operand}{x' y':X}(hx:bo x=some x')(hy:bo y=some y')(h:step P (.aF op x' y') aY m K):dO P (do let v<-(do eqGuard op t x y (a.eval x) (a.eval y);binOp op t (a.eval x) (a.eval y));pure (Next.value v)) ρ m w K:=by
 have hd:=aP hE hx;have o9:=aP hE hy;simp only[step]at h;generalize a.eval x=v at hd⊢;generalize a.eval y=u at o9⊢;generalize x'.ev aY=c at hd h;generalize y'.ev aY=d at o9 h;split at h
 .split at h
  .obtain⟨r,hr,hK⟩:=be.1 h;obtain⟨rfl,hp⟩:=bM hd (fun e=>by subst e;simp[HY]at hr)
   obtain⟨rfl,hq⟩:=bM o9 (fun e=>by subst e;cases v<;>simp[HY]at hr)
   obtain⟨h1,h2⟩:=D0 (P:=P) (w:=w) hr (t:=t);refine dO.pure hM (v:=r) ?_ hK (cq h2);have hg:(eqGuard op t x y v u).run P w= .ok () w:=tG hp (by rintro rfl;cases u<;>simp[HY]at hr)
   simp only[Sem.run_bind,hg,Result.andThen_ok,h1,Sem.run_pure]
  .exact h.elim
 .exact h.elim
theorem yu(hM:aH ρ m w)(hE:bj ρ w aY a.tmps){neg:Bool}{t:TypeId}{x y:Operand}{x' y':X}(ht:P.underlying t=some .bool)(hx:bo x=some x')(hy:bo y=some y')(h:step P (.beq neg x' y') aY m K):dO P (do let v<-(do eqGuard (if neg then .neq else .eql) t x y (a.eval x) (a.eval y);binOp (if neg then .neq else .eql) t (a.eval x) (a.eval y));pure (Next.value v)) ρ m w K:=by
 have hd:=aP hE hx;have o9:=aP hE hy;simp only[step]at h;generalize a.eval x=v at hd⊢;generalize a.eval y=u at o9⊢;generalize x'.ev aY=c at hd h;generalize y'.ev aY=d at o9 h;split at h
 .split at h
  .obtain⟨rfl,hp⟩:=bM hd;obtain⟨rfl,hq⟩:=bM o9;refine dO.pure hM (v:=_) ?_ h (cq rfl);rw[Sem.run_bind,Sem.run_bind,tG hp aG];simp only[Result.andThen_ok,Ou ht,Sem.run_pure];rfl
  .exact h.elim
 .exact h.elim
theorem KP(hM:aH ρ m w)(hE:bj ρ w aY a.tmps){op:UnOp}{x:Operand}{x':X}(hx:bo x=some x')(h:step P (.un op x') aY m K):dO P (do pure (Next.value (<-Op.unary op (a.eval x)))) ρ m w K:=by
 have hd:=aP hE hx;simp only[step]at h;generalize a.eval x=v at hd⊢;generalize x'.ev aY=c at hd h;split at h
 .obtain⟨r,hr,hK⟩:=be.1 h;obtain⟨rfl,hp⟩:=bM hd (fun e=>by subst e;simp[WH]at hr)
  obtain⟨h1,h2⟩:=H4 (P:=P) (w:=w) hr;exact dO.pure hM (v:=r) (by rw[Sem.run_bind,h1];rfl) hK (cq h2)
 .exact h.elim
theorem D7(hM:aH ρ m w)(hE:bj ρ w aY a.tmps){s d:TypeId}{k0 k:IntKind}{x:Operand}{x':X}(hs:P.underlying s=some (.int k0))(hk:P.underlying d=some (.int k))(hx:bo x=some x')(h:step P (.conv k x') aY m K):dO P (do pure (Next.value (<-convert s d (a.eval x)))) ρ m w K:=by
 have hd:=aP hE hx;simp only[step]at h;generalize a.eval x=v at hd⊢;generalize x'.ev aY=c at hd h;split at h
 .obtain rfl:=oK hd;refine dO.pure hM (v:=_) ?_ h (cq rfl);simp[convert,run_underlying hs,run_underlying hk,Conv.intToInt]
 .exact h.elim
theorem H8(hM:aH ρ m w)(hE:bj ρ w aY a.tmps){s d:TypeId}{x:Operand}{x':X}(hs:P.underlying s=some .string)(hk:P.underlying d=some .string)(hx:bo x=some x')(h:step P (.TH x') aY m K):dO P (do pure (Next.value (<-convert s d (a.eval x)))) ρ m w K:=by
 have hd:=aP hE hx;simp only[step]at h;generalize a.eval x=v at hd⊢;generalize x'.ev aY=c at hd h;split at h
 .obtain⟨rfl,hp⟩:=bM hd;refine dO.pure hM (v:=_) ?_ h (cq rfl);simp[convert,run_underlying hs,run_underlying hk]
 .exact h.elim
theorem rY(hE:bj ρ w aY a.tmps):∀{xs:List Operand}{GO:List X},tC xs=some GO->(GC aY GO).length=xs.length/\
  ∀(i:Nat)c,(GC aY GO)[i]? =some c->∃v,(xs.map a.eval)[i]? =some v/\b8 ρ w c v
 | [],GO,h=>by simp[tC]at h;subst h;simp[GC]
 |x::r,GO,h=>by
  simp only[tC,aah,aae]at h;obtain⟨x',hx,r',hr,h⟩:=h;simp at h;subst h;obtain⟨h1,h2⟩:=rY hE hr;refine⟨by simp[GC,h1],fun i c hi=>?_⟩
  cases i with
  |zero=>simp[GC]at hi;subst hi;exact⟨_,aG,aP hE hx⟩
  |succ i=>simpa using h2 i c (by simpa[GC]using hi)
theorem tK:∀{cs:List CV}{jK:List Nat},u0 cs=some jK->cs=jK.map fun id=>CV.rv (.one (.ptr id 0))
 | [],jK,h=>by simp[u0]at h;subst h;rfl
 |c::r,jK,h=>by
  unfold u0 at h;split at h
  .rename_i h1;simp at h1
  .rename_i id r' h1;simp only[List.cons.injEq]at h1;obtain⟨rfl,rfl⟩:=h1;split at h
   .rename_i l hl;simp at h;subst h;rw[tK hl];rfl
   .cases h
  .cases h
theorem vh:∀jK:List Nat,uM jK=jK.map fun id=>CV.rv (.one (.ptr id 0))
 | []=>rfl
 |id::r=>by simp[uM,vh r]
theorem KQ(hM:aH ρ m w)(hE:bj ρ w aY a.tmps){f:Nat}{xs:Array Operand}{GO:List X}(hx:tC xs.toList=some GO)(h:step P (.fn f GO) aY m K):dO P (do pure (Next.value (<-Instr.makeFunc (.func f) ((#[]:Array Operand).map a.eval) (xs.map a.eval)))) ρ m w K:=by
 simp only[step]at h;obtain⟨jK,hi,hK⟩:=be.1 h;obtain⟨h1,h2⟩:=rY hE hx;rw[tK hi]at h1 h2;refine dO.pure hM (v:= .func (.func f) #[] (xs.map a.eval)) (by simp[Instr.makeFunc]) hK ⟨fun id hid=>?_,?_⟩
 .obtain⟨k,hk,rfl⟩:=ab4 hid;obtain⟨v,_,hd⟩:=h2 k _ (by rw[aaf,aab hk];rfl)
  exact hd.1
 .congr 1;apply abn;rw[Array.toList_map];apply aa7;intro k;simp only[aad]at h1;rcases aaq k jK.length with hk|hk
  .obtain⟨v,hv,hd⟩:=h2 k _ (by rw[aaf,aab hk];rfl)
   rw[hv,hd.2];simp[aab hk]
  .rw[aaG (by simp;rw[<-Array.length_toList,<-h1];exact hk),aaG (by simpa using hk)]
theorem H9(hM:aH ρ m w)(hE:bj ρ w aY a.tmps){i:Nat}{x:Operand}{x':X}(hx:bo x=some x')(h:step P (.ext x' i) aY m K):dO P (do pure (Next.value (<-Instr.extract (a.eval x) i))) ρ m w K:=by
 have hd:=aP hE hx;simp only[step]at h;generalize a.eval x=v at hd⊢;generalize x'.ev aY=c at hd h;split at h
 .obtain⟨r,hr,hK⟩:=be.1 h;rw[aX]at hr;obtain⟨vs,rfl,hl,hc⟩:=hd;obtain⟨u,hu,cn⟩:=hc i r hr;refine dO.pure hM (v:=u) ?_ hK cn;simp[Instr.extract,hu]
 .exact h.elim
theorem rZ(hM:aH ρ m w)(hE:bj ρ w aY a.tmps){t ty:TypeId}{x:Operand}{x':X}{k:Nat}(hu:(k=0/\P.underlying t=some .string)\/(k=1/\∃e,P.underlying t=some (.slice e))\/(k=2/\∃kt e,P.underlying t=some (.map kt e)))(hx:bo x=some x')(h:step P (.len k x') aY m K):dO P (do pure (Next.value (<-Builtin.len_ #[t] ty #[a.eval x]))) ρ m w K:=by
 have hd:=aP hE hx;generalize a.eval x=v at hd⊢;rcases hu with⟨rfl,hu⟩|⟨rfl,e,hu⟩|⟨rfl,kt,e,hu⟩
 .simp only[step]at h;generalize x'.ev aY=c at hd h;split at h
  .obtain⟨rfl,hp⟩:=bM hd;refine dO.pure hM (v:=_) ?_ h (cq rfl);simp[Builtin.len_,run_underlying hu,goInt]
  .exact h.elim
 .simp only[step]at h;generalize x'.ev aY=c at hd h;split at h
  .rename_i esz elems;refine dO.pure hM (v:= .int .i64 (elems.length:Int)) ?_ h (cq rfl);cases hd<;>simp[Builtin.len_,run_underlying hu,goInt]
  .rename_i id esz lo hi;obtain⟨bk,hb,h⟩:=be.1 h;rw[aX]at hb;cases bk<;>simp only at h
   rename_i nR elems;obtain⟨h2,h3,h4,h5,Bg⟩:=hM.bk id _ hb;obtain⟨aC,d1,d2,d3,d4,ad,rfl,uk⟩:=hd;rw[iu,h2]at h;refine dO.pure hM (v:=_) ?_ h (cq rfl);simp[Builtin.len_,run_underlying hu,goInt]
  .obtain⟨ad,rfl⟩:=hd;refine dO.pure hM (v:=_) ?_ h (cq rfl);simp[Builtin.len_,run_underlying hu,goInt]
  .exact h.elim
 .simp only[step]at h;generalize x'.ev aY=c at hd h;split at h
  .rename_i id;obtain⟨bk,hb,h⟩:=be.1 h;rw[aX]at hb;cases bk<;>simp only at h
   rename_i es;obtain⟨cV,clock,lD,dI,D8⟩:=hM.bk id _ hb;obtain⟨aC,rfl⟩:=hd;refine dO.pure hM (v:= .int .i64 (es.length:Int)) ?_ h (cq rfl);simp[Builtin.len_,run_underlying hu,goInt,getObj,Sem.run,lD,dI]
  .exact h.elim
theorem D9(hM:aH ρ m w)(hE:bj ρ w aY a.tmps){x:Operand}{x':X}{o:Oper}(ho:o.op= .nilCheck x)(hx:bo x=some x')(h:step P (.aW x') aY m K):dO P (execOp a.eval o) ρ m w K:=by
 have hd:=aP hE hx;simp only[step]at h;unfold execOp;rw[ho];simp only;generalize a.eval x=v at hd⊢;generalize x'.ev aY=c at hd h;split at h
 .have Rx:=hd;obtain⟨aC,rfl⟩:=hd;exact dO.pure hM rfl h Rx
 .have Rx:=hd;obtain⟨aC,rfl⟩:=hd;exact dO.pure hM rfl h Rx
 .have Rx:=hd;obtain⟨b,off,rfl,_⟩:=hd;exact dO.pure hM rfl h Rx
 .exact h.elim
theorem Ea(hM:aH ρ m w)(hE:bj ρ w aY a.tmps){c x y:Operand}{c' x' y':X}(hc:bo c=some c')(hx:bo x=some x')(hy:bo y=some y')(h:step P (.pick c' x' y') aY m K):dO P (do pure (Next.value (if<-asBool (a.eval c)then a.eval x else a.eval y))) ρ m w K:=by
 have hd:=aP hE hc;simp only[step]at h;generalize a.eval c=v at hd⊢;generalize c'.ev aY=cc at hd h;split at h
 .obtain⟨rfl,hp⟩:=bM hd;rcases ct.1 h with⟨rfl,h⟩|⟨rfl,h⟩
  .exact dO.pure hM (v:=a.eval x) (by simp[asBool]) h (aP hE hx)
  .exact dO.pure hM (v:=a.eval y) (by simp[asBool]) h (aP hE hy)
 .exact h.elim
theorem KR{α:Type}{n i:Nat}{x y:α}(h:(gg n x)[i]? =some y):y=x/\i<n:=by
 rw[fA,ace]at h;split at h
 .exact⟨by simpa using h.symm,by assumption⟩
 .cases h
def zB(ρ:bL)(w:World)(esz:Nat)(rows:List (List CC))(cells:Array Value):Prop:=
 cells.size=rows.length*esz/\(∀cs,cs∈rows->cs.length=esz)/\
  ∀(i:Nat)cs(j:Nat)c,rows[i]? =some cs->cs[j]? =some c->∃u,cells[i*esz+j]? =some u/\bz ρ w .none c u
theorem tL(hE:bj ρ w aY a.tmps){esz:Nat}:
  ∀{ps:List (Nat×Operand)}{qp:List (Nat×X)}{rows lE:List (List CC)}{cells:Array Value},kj ps=some qp->tx aY esz rows qp=some lE->zB ρ w esz rows cells->
   ∃e9,Instr.fill (fun i=>some (i*esz,esz)) cells (ps.map fun p=>(p.1,a.eval p.2))=some e9/\zB ρ w esz lE e9/\lE.length=rows.length
 | [],qp,z,z',cells,hp,hf,hz=>by simp[kj]at hp;subst hp;simp[tx]at hf;subst hf;exact⟨cells,rfl,hz,rfl⟩
 |(i,x)::r,qp,z,z',cells,hp,hf,hz=>by
  simp only[kj,aah,aae]at hp;obtain⟨x',hx,r',hr,hp⟩:=hp;simp at hp;subst hp;simp only[tx]at hf;split at hf
  .rename_i cs dG;split at hf
   .rename_i hlen;simp only[aap,abe]at hlen;have hl:cs.length=esz:=aav hlen.1;obtain⟨h1,h2,_⟩:=jp dG (aP hE hx);have dI:i*esz+esz<=cells.size:=by rw[hz.1];have:(i+1)*esz<=z.length*esz:=aaP _ hlen.2;rwa [aa2,abl]at this
    have Tc:=rX (i*esz) (a.eval x).cells.toList 0 cells;simp only[aca]at Tc;have he:(a.eval x).cells.zipIdx.foldl (fun cs(p:Value×Nat)=>cs.setIfInBounds (i*esz+p.2) p.1) cells=((a.eval x).cells.toList.zipIdx 0).foldl (fun(cs:Array Value)(p:Value×Nat)=>cs.setIfInBounds (i*esz+p.2) p.1) cells:=by rw[<-Array.foldl_toList];simp
    have BH:Instr.fill (fun i=>some (i*esz,esz)) cells ((i,a.eval x)::r.map fun p=>(p.1,a.eval p.2))=
      Instr.fill (fun i=>some (i*esz,esz)) ((a.eval x).cells.zipIdx.foldl (fun cs(p:Value×Nat)=>cs.setIfInBounds (i*esz+p.2) p.1) cells) (r.map fun p=>(p.1,a.eval p.2)):=by
     rw[Instr.fill];simp only;rw[if_neg (by rw[h1,hl];simp;omega)]
    have TY:zB ρ w esz (ba z i cs) ((a.eval x).cells.zipIdx.foldl (fun cs(p:Value×Nat)=>cs.setIfInBounds (i*esz+p.2) p.1) cells):=by
     rw[he,bn];refine⟨by rw[Tc.1,hz.1];simp,fun eu KT=>?_,fun i' eu j c eC hj=>?_⟩
     .rcases aaI KT with hm|rfl
      .exact hz.2.1 eu hm
      .exact hl
     .have tM:(a.eval x).cells.toList.length=esz:=by simp[h1,hl]
      rw[Tc.2 (by rw[tM];exact dI),tM]
      by_cases N3:i=i'
      .subst N3;rw[aal hlen.2]at eC;simp only[aaA]at eC;subst eC;have km:j<esz:=by rw[<-hl];exact(aac.1 hj).1
       rw[if_pos om];obtain⟨u,hu,cn⟩:=h2 j c hj;exact⟨u,by rw[show i*esz+j-i*esz=j by omega];simpa using hu,cn⟩
      .rw[aas N3]at eC;have km:j<esz:=by rw[<-hz.2.1 _ (aag eC)];exact(aac.1 hj).1
       rw[if_neg]
       .exact hz.2.2 i' eu j c eC hj
       .rcases Nat.lt_or_gt_of_ne N3 with nU|nU
        .have:(i+1)*esz<=i'*esz:=aaP _ nU;rw[aa2,abl]at this;omega
        .have:(i'+1)*esz<=i*esz:=aaP _ nU;rw[aa2,abl]at this;omega
    obtain⟨e9,h3,h4,h5⟩:=tL hE hr hf TY;exact⟨e9,by rw[aaX,BH,h3],h4,by rw[h5,bn];simp⟩
   .cases hf
  .cases hf
theorem Eb(zero:Array Value)(n:Nat)(k:Nat)(hk:k<n)(hz:0<zero.size):((Array.range n).map (zero[· %zero.size]!))[k]? =zero[k%zero.size]? :=by have:k%zero.size<zero.size:=Nat.mod_lt _ hz;simp[hk,this]
theorem Ia(hM:aH ρ m w)(hE:bj ρ w aY a.tmps){t e:TypeId}{n:Nat}{ps:Array (Nat×Operand)}{z:List CC}{qp:List (Nat×X)}(hu:P.underlying t=some (.slice e))(hz:d8 P e=some z)(hs:eN P e=some z.length)(dD:0<z.length)(hn:n*z.length<=2^24)(hp:kj ps.toList=some qp)(h:step P (.mh z.length z n qp) aY m K):dO P (do pure (Next.value (<-Instr.buildSlice t n (ps.map fun(i,x)=>(i,a.eval x))))) ρ m w K:=by
 simp only[step]at h;obtain⟨rows,hf,hK⟩:=be.1 h;rw[eU,ip,cr]at hK;obtain⟨zv,TZ,Ox⟩:=D2 (ρ:=ρ) (w:=w) hz;have XC:zv.cells.size=z.length:=Ox.1;have h0:zB ρ w z.length (gg n z) ((Array.range (n*z.length)).map (zv.cells[· %zv.cells.size]!)):=by
  refine⟨by simp[fA],fun cs dG=>?_,fun i cs j c hi hj=>?_⟩
  .rw[fA]at dG;rw[aby dG]
  .obtain⟨rfl,iV⟩:=KR hi;have km:=(aac.1 hj).1;have aC:i*cs.length+j<n*cs.length:=by have:(i+1)*cs.length<=n*cs.length:=aaP _ iV;rw[aa2,abl]at this;omega
   rw[Eb _ _ _ aC om,XC,acb i,acS,acO km];exact Ox.2 j c hj
 obtain⟨cells,h1,h2,h3⟩:=tL hE hp hf h0;have hlen:rows.length=n:=by rw[h3,fA];simp
 obtain⟨ρ',g1,g2,g3⟩:=KM hM (ty:=e) (cap:=n) (cells:=cells) (elems:=rows) (w':=w.alloc (.cells cells e)) (.inl rfl) (by rw[h2.1,hlen];exact aaj _) om (by unfold maxLen;have:n*1<=n*z.length:=Nat.mul_le_mul_left _ dD;omega) h2.2.1 h2.2.2
 rw[hlen]at g3;refine⟨_,_,_,_,_,ρ',?_,.inl rfl,hK,g1,g3,g2⟩;have BH:Instr.fill (fun i=>some (i*z.length,z.length)) ((Array.range (n*z.length)).map (zv.cells[· %zv.cells.size]!)) (ps.map fun(i,x)=>(i,a.eval x)).toList=some cells:=by simpa using h1
 rcases aaY n with Ov|Ov
 .subst Ov;have e0:∀zz:Array Value,((Array.range (0*z.length)).map (zz[· %zz.size]!))= #[]:=by intro zz;simp
  rw[e0]at BH;simp only[Instr.buildSlice,Sem.run_bind,run_underlying hu,Result.andThen_ok,fk hs];rw[if_neg om,if_pos aG];simp only[Sem.run_pure,Result.andThen_ok,e0,BH];simp[newRow]
 .have eW:n*z.length≠0:=Nat.ne_of_gt (Nat.mul_pos Ov dD);simp only[Instr.buildSlice,Sem.run_bind,run_underlying hu,Result.andThen_ok,fk hs];rw[if_neg om,if_neg eW];simp only[Sem.run_bind,TZ,Result.andThen_ok,Sem.run_pure,BH];simp[newRow]
end
end Go.AM
