/- Part 4 of 35. -/
import Derived.Test.YtllkfpggoigbaaaGreatDoorS03
set_option linter.unusedVariables false
set_option linter.unusedSimpArgs false
set_option linter.unnecessarySimpa false
set_option maxRecDepth 100000
set_option maxHeartbeats 0
namespace Go.AM
section
variable {P:Program} {ρ:bX} {m:Mem} {w:World} {aY:List CV} {a:Act} {K:CV->Mem->Prop}
theorem FT(hM:aK ρ m w)(hE:bq ρ w aY a.tmps){t:TypeId}{fs:Array Field}{f:Field}{k n:Nat}{x:Operand}{x':X}(hu:P.underlying t=some (.struct fs))(hf:fs[k]? =some f)(hs:fh P f.type=some n)(hn:n≠0)(hx:bD x=some x')(h:step P (.kp f.offset x') aY m K):ec P (do pure (Next.value (<-Instr.fieldAt t (a.eval x) k))) ρ m w K:=by
 have hd:=aS hE hx;simp only[step]at h;have run:∀b off:Nat,(Instr.fieldAt t (.pointer (some ⟨b,off,none⟩)) k).run P w= .ok (.pointer (some ⟨b,off+f.offset,none⟩)) w:=λb off=>by simp[Instr.fieldAt,run_underlying hu,hf,Instr.sureAddr,fieldPlace,fN hs,hn,nc]
 generalize a.eval x=v at hd|-;generalize x'.ev aY=c at hd h;split at h
 .obtain⟨ax,rfl⟩:=hd;exact ec.pure hM (by rw[Sem.run_bind,run];rfl) h ⟨ax,by simp[abX]⟩
 .obtain⟨ax,rfl⟩:=hd;exact ec.pure hM (by rw[Sem.run_bind,run];rfl) h ⟨ax,by simp[abX]⟩
 .obtain⟨b,off,rfl,hS,cD⟩:=hd;refine ec.pure hM (by rw[Sem.run_bind,run];rfl) h ⟨b,off+f.offset,rfl,hS,λj d hj=>?_⟩
  rw[ab5]at hj;rw[abX];exact cD _ d hj
 .exact h.elim
theorem Dm{t:TypeId}{agg:Bool}{off n:Nat}{cs l:List CC}{cells:Array Value}{cv:CV}(ha:eL P t=some agg)(hs:fh P t=some n)(hc:Cells ρ w cs cells)(hr:jI cs off n=some l)(hm:Nj agg l=some cv):∃u,(part t cells off).run P w= .ok u w/\cw ρ w cv u:=by
 obtain⟨hl,ny⟩:=lP hr;unfold part;rw[Sem.run_bind,qv ha];simp only[Result.andThen_ok];cases agg with
 |true=>
  simp[Nj]at hm;subst hm;refine⟨.agg (cells.extract off (off+n)),by simp[fN hs],?_⟩
  refine IG ⟨?_,λi c hi=>?_⟩
  .simp only[Array.size_extract,hl];rcases abY n with h0|h0
   .omega
   .have:=ny (n-1) om;have h1:off+(n-1)<cs.length:=by
     rcases aax (off+(n-1)) cs.length with h|h
     .exact h
     .rw[abj h,wy om]at this;cases this
    have:=hc.1;omega
  .have ip:i<n:=by rw[<-hl];exact(Lw.1 hi).1
   obtain⟨u,hu,cI⟩:=hc.2 (off+i) c ((ny i ip).trans hi);have ax:=(abG.1 hu).1;refine⟨u,?_,cI⟩;rw[Array.getElem?_extract];rw[if_pos om];exact hu
 |false=>
  match l,hm with
  | [c],hm=>
   simp[Nj]at hm;subst hm;obtain⟨u,hu,cI⟩:=hc.2 off c (by have:=ny 0 (by simp at hl;omega);simpa using this)
   exact⟨u,by simp[hu],cI⟩
theorem Kt(hM:aK ρ m w)(hE:bq ρ w aY a.tmps){t:TypeId}{fs:Array Field}{f:Field}{k n:Nat}{agg:Bool}{x:Operand}{x':X}(hu:P.underlying t=some (.struct fs))(hf:fs[k]? =some f)(ha:eL P f.type=some agg)(hs:fh P f.type=some n)(hx:bD x=some x')(h:step P (.Yu agg f.offset n x') aY m K):ec P (do pure (Next.value (<-Instr.field t (a.eval x) k))) ρ m w K:=by
 have hd:=aS hE hx;simp only[step]at h;generalize a.eval x=v at hd|-;generalize x'.ev aY=c at hd h;split at h
 .rename_i cs;obtain⟨vs,rfl,hl,hc⟩:=hd;obtain⟨l,hr,h⟩:=bb.1 h;obtain⟨cv,hm,hK⟩:=bb.1 h;obtain⟨u,eU,cI⟩:=Dm (w:=w) ha hs (cells:=vs.toArray) ⟨by simpa using hl,λi c hi=>by simpa using hc i c hi⟩ hr hm
  refine ec.pure hM (v:=u) ?_ hK cI;simp[Instr.field,run_underlying hu,hf,asAgg,eU]
 .exact h.elim
theorem Ak{α:Type}{l:List α}{n:Int}{x:α}(h:cm l n=some x):∃k:Nat,n=k/\l[k]? =some x:=by
 cases n with
 |ofNat k=>exact⟨k,rfl,by simpa[cm,aW]using h⟩
 |negSucc k=>simp[cm]at h
theorem nB{n:Int}{len k:Nat}(h:dL n len=some k):n=k/\k<len:=by
 cases n with
 |ofNat j=>
  simp only[dL]at h;split at h
  .rename_i hb;simp at h;subst h;exact⟨rfl,by simpa[aci]using hb⟩
  .cases h
 |negSucc j=>simp[dL]at h
theorem mN(a b:Nat):fL a b=a+b:=by
 cases a<;>simp[fL]
theorem i9(n lo:Nat)(hi:Option Nat):lenOf n lo hi=hi.getD n-lo:=by
 cases lo<;>cases hi<;>simp[lenOf]
theorem qx{k:IntKind}{n:Int}{v:Value}(h:cw ρ w (.rv (.one (.ai (.val (.int k n))))) v):v= .int k n:=(bY h).1
theorem mO{t e:TypeId}{esz:Nat}(hu:P.underlying t=some (.slice e))(hs:fh P e=some esz)(b off len cap k:Nat)(kd:IntKind)(hk:k<len):
  (Instr.indexAt t (.slice (some ⟨b,off,none⟩) len cap) (.int kd (k:Int))).run P w= .ok (.pointer (some ⟨b,off+k*esz,none⟩)) w:=by
 have h1:(0:Int)<=(k:Int)/\(k:Int)<(len:Int):=⟨om,om⟩;simp[Instr.indexAt,asIntOf,run_underlying hu,fN hs,nc];omega
theorem Ku(hM:aK ρ m w)(hE:bq ρ w aY a.tmps){t e:TypeId}{esz:Nat}{x i:Operand}{x' i':X}(hu:P.underlying t=some (.slice e))(hs:fh P e=some esz)(hx:bD x=some x')(hi:bD i=some i')(h:step P (.Ru esz x' i') aY m K):ec P (do pure (Next.value (<-Instr.indexAt t (a.eval x) (a.eval i)))) ρ m w K:=by
 have hd:=aS hE hx;have Nx:=aS hE hi;simp only[step]at h;generalize a.eval x=v at hd|-;generalize a.eval i=vi at Nx|-;generalize x'.ev aY=c at hd h;generalize i'.ev aY=ci at Nx h;split at h
 .rename_i kd n;obtain rfl:=qx Nx;split at h
  .rename_i pw elems;rcases cP.1 h with⟨he,g1⟩|⟨_,g1⟩
   case inr=>exact g1.elim
   have he:esz=pw:=aa1 he;subst he;obtain⟨ds,hg,hK⟩:=bb.1 g1;obtain⟨k,rfl,hk⟩:=Ak hg;have ax:=(Lw.1 hk).1;cases hd with
   |nil=>simp at ax
   |sl _ _ b off cap u hS hl bv dQ hc cD=>
    refine ec.pure hM (by rw[Sem.run_bind,mO hu hs b off _ cap k kd ax];rfl) hK ⟨b,off+k*esz,rfl,hS,λj d hj=>?_⟩
    exact⟨_,hc k ds j d hk hj,cD k ds j d hk hj⟩
  .rename_i id pw lo hi;obtain⟨bk,hb,h⟩:=bb.1 h;rw[aW]at hb;cases bk<;>simp only at h
   rename_i zE elems;rcases cP.1 h with⟨he,g1⟩|⟨_,g1⟩
   case inr=>exact g1.elim
   rcases cP.1 g1 with⟨pb,g2⟩|⟨_,g2⟩
   case inr=>exact g2.elim
   have he:esz=pw:=aa1 he;subst he;obtain⟨k,hg,hK⟩:=bb.1 g2;obtain⟨rfl,hk⟩:=nB hg;obtain⟨h2,h3,h4,h5,CY⟩:=hM.bk id _ hb;obtain⟨ax,d1,d2,d3,d4,ad,rfl,wh⟩:=hd;rw[i9,h2]at hk;rw[wh (by clear CY;omega)]
   refine ec.pure hM (by rw[Sem.run_bind,mO hu hs _ _ _ _ k kd hk];rfl) hK ⟨ax,?_⟩
   rw[mN,ab3];simp[abX]
  .exact h.elim
 .exact h.elim
theorem ja{t e:TypeId}{esz len:Nat}(hu:P.underlying t=some (.array len e))(hs:fh P e=some esz)(b off k:Nat)(kd:IntKind)(hk:k<len):
  (Instr.indexAt t (.pointer (some ⟨b,off,none⟩)) (.int kd (k:Int))).run P w= .ok (.pointer (some ⟨b,off+k*esz,none⟩)) w:=by
 have h1:(0:Int)<=(k:Int)/\(k:Int)<(len:Int):=⟨om,om⟩;simp[Instr.indexAt,asIntOf,run_underlying hu,fN hs,nc,Instr.sureAddr];omega
theorem FU(hM:aK ρ m w)(hE:bq ρ w aY a.tmps){t e:TypeId}{len esz:Nat}{x i:Operand}{x' i':X}(hu:P.underlying t=some (.array len e))(hs:fh P e=some esz)(hx:bD x=some x')(hi:bD i=some i')(h:step P (.Nc len esz x' i') aY m K):ec P (do pure (Next.value (<-Instr.indexAt t (a.eval x) (a.eval i)))) ρ m w K:=by
 have hd:=aS hE hx;have Nx:=aS hE hi;simp only[step]at h;generalize a.eval x=v at hd|-;generalize a.eval i=vi at Nx|-;generalize x'.ev aY=c at hd h;generalize i'.ev aY=ci at Nx h;split at h
 .rename_i kd n;obtain rfl:=qx Nx;split at h
  .obtain⟨k,hg,hK⟩:=bb.1 h;obtain⟨rfl,hk⟩:=nB hg;obtain⟨ax,rfl⟩:=hd;exact ec.pure hM (by rw[Sem.run_bind,ja hu hs _ _ k kd hk];rfl) hK ⟨ax,by simp[abX]⟩
  .obtain⟨k,hg,hK⟩:=bb.1 h;obtain⟨rfl,hk⟩:=nB hg;obtain⟨ax,rfl⟩:=hd;exact ec.pure hM (by rw[Sem.run_bind,ja hu hs _ _ k kd hk];rfl) hK ⟨ax,by simp[abX]⟩
  .obtain⟨k,hg,hK⟩:=bb.1 h;obtain⟨rfl,hk⟩:=nB hg;obtain⟨b,off,rfl,hS,cD⟩:=hd;refine ec.pure hM (by rw[Sem.run_bind,ja hu hs _ _ k kd hk];rfl) hK ⟨b,off+k*esz,rfl,hS,λj d hj=>?_⟩
   rw[ab5]at hj;rw[abX];exact cD _ d hj
  .exact h.elim
 .exact h.elim
theorem FV(hM:aK ρ m w)(hE:bq ρ w aY a.tmps){t:TypeId}{x i:Operand}{x' i':X}(hu:P.underlying t=some .string)(hx:bD x=some x')(hi:bD i=some i')(h:step P (.Ki x' i') aY m K):ec P (do pure (Next.value (<-Instr.index t (a.eval x) (a.eval i)))) ρ m w K:=by
 have hd:=aS hE hx;have Nx:=aS hE hi;simp only[step]at h;generalize a.eval x=v at hd|-;generalize a.eval i=vi at Nx|-;generalize x'.ev aY=c at hd h;generalize i'.ev aY=ci at Nx h;split at h
 .rename_i kd n;obtain rfl:=qx Nx;split at h
  .rename_i s;obtain⟨rfl,_⟩:=bY hd;obtain⟨b,hg,hK⟩:=bb.1 h;obtain⟨k,rfl,hk⟩:=Ak hg;have ax:k<s.size:=by have:=(Lw.1 hk).1;simpa using this
   have hs:s[k]? =some b:=by
    rw[wy (by simpa using ax)]at hk
    simp at hk;rw[getElem?_pos s k ax];simp[<-hk];rfl
   refine ec.pure hM (v:= .int .u8 b.toNat) ?_ hK (cM rfl);simp[Instr.index,asIntOf,run_underlying hu,hs]
  .exact h.elim
 .exact h.elim
theorem Al(hM:aK ρ m w)(hE:bq ρ w aY a.tmps){op:BinOp}{t:TypeId}{x y:Operand}{x' y':X}(hx:bD x=some x')(hy:bD y=some y')(h:step P (.wd op x' y') aY m K):ec P (do let v<-(do eqGuard op t x y (a.eval x) (a.eval y);binOp op t (a.eval x) (a.eval y));pure (Next.value v)) ρ m w K:=by
 have hd:=aS hE hx;have rd:=aS hE hy;simp only[step]at h;generalize a.eval x=v at hd|-;generalize a.eval y=u at rd|-;generalize x'.ev aY=c at hd h;generalize y'.ev aY=d at rd h;split at h
 .split at h
  .obtain⟨r,hr,hK⟩:=bb.1 h;obtain⟨rfl,hp⟩:=bY hd (λe=>by subst e;simp[Dc]at hr)
   obtain⟨rfl,hq⟩:=bY rd (λe=>by subst e;cases v<;>simp[Dc]at hr)
   obtain⟨h1,h2⟩:=FN (P:=P) (w:=w) hr (t:=t);refine ec.pure hM (v:=r) ?_ hK (cM h2);have hg:(eqGuard op t x y v u).run P w= .ok () w:=vj hp (by rintro rfl;cases u<;>simp[Dc]at hr)
   simp only[Sem.run_bind,hg,Result.andThen_ok,h1,Sem.run_pure]
  .exact h.elim
 .exact h.elim
theorem Am(hM:aK ρ m w)(hE:bq ρ w aY a.tmps){neg:Bool}{t:TypeId}{x y:Operand}{x' y':X}(ht:P.underlying t=some .bool)(hx:bD x=some x')(hy:bD y=some y')(h:step P (.beq neg x' y') aY m K):ec P (do let v<-(do eqGuard (if neg then .neq else .eql) t x y (a.eval x) (a.eval y);binOp (if neg then .neq else .eql) t (a.eval x) (a.eval y));pure (Next.value v)) ρ m w K:=by
 have hd:=aS hE hx;have rd:=aS hE hy;simp only[step]at h;generalize a.eval x=v at hd|-;generalize a.eval y=u at rd|-;generalize x'.ev aY=c at hd h;generalize y'.ev aY=d at rd h;split at h
 .split at h
  .obtain⟨rfl,hp⟩:=bY hd;obtain⟨rfl,hq⟩:=bY rd;refine ec.pure hM (v:=_) ?_ h (cM rfl);rw[Sem.run_bind,Sem.run_bind,vj hp aD];simp only[Result.andThen_ok,RB ht,Sem.run_pure]<;>rfl
  .exact h.elim
 .exact h.elim
theorem Ny(hM:aK ρ m w)(hE:bq ρ w aY a.tmps){op:UnOp}{x:Operand}{x':X}(hx:bD x=some x')(h:step P (.un op x') aY m K):ec P (do pure (Next.value (<-Op.unary op (a.eval x)))) ρ m w K:=by
 have hd:=aS hE hx;simp only[step]at h;generalize a.eval x=v at hd|-;generalize x'.ev aY=c at hd h;split at h
 .obtain⟨r,hr,hK⟩:=bb.1 h;obtain⟨rfl,hp⟩:=bY hd (λe=>by subst e;simp[unV]at hr)
  obtain⟨h1,h2⟩:=Kp (P:=P) (w:=w) hr;exact ec.pure hM (v:=r) (by rw[Sem.run_bind,h1];rfl) hK (cM h2)
 .exact h.elim
theorem FW(hM:aK ρ m w)(hE:bq ρ w aY a.tmps){s d:TypeId}{k0 k:IntKind}{x:Operand}{x':X}(hs:P.underlying s=some (.int k0))(hk:P.underlying d=some (.int k))(hx:bD x=some x')(h:step P (.conv k x') aY m K):ec P (do pure (Next.value (<-convert s d (a.eval x)))) ρ m w K:=by
 have hd:=aS hE hx;simp only[step]at h;generalize a.eval x=v at hd|-;generalize x'.ev aY=c at hd h;split at h
 .obtain rfl:=qx hd;refine ec.pure hM (v:=_) ?_ h (cM rfl);simp[convert,run_underlying hs,run_underlying hk,Conv.intToInt]
 .exact h.elim
theorem Kv(hM:aK ρ m w)(hE:bq ρ w aY a.tmps){s d:TypeId}{x:Operand}{x':X}(hs:P.underlying s=some .string)(hk:P.underlying d=some .string)(hx:bD x=some x')(h:step P (.Yv x') aY m K):ec P (do pure (Next.value (<-convert s d (a.eval x)))) ρ m w K:=by
 have hd:=aS hE hx;simp only[step]at h;generalize a.eval x=v at hd|-;generalize x'.ev aY=c at hd h;split at h
 .obtain⟨rfl,hp⟩:=bY hd;refine ec.pure hM (v:=_) ?_ h (cM rfl);simp[convert,run_underlying hs,run_underlying hk]
 .exact h.elim
theorem ud(hE:bq ρ w aY a.tmps):∀{xs:List Operand}{IH:List X},ve xs=some IH->(Iw aY IH).length=xs.length/\
  ∀(i:Nat)c,(Iw aY IH)[i]? =some c->∃v,(xs.map a.eval)[i]? =some v/\cw ρ w c v
 | [],IH,h=>by simp[ve]at h;subst h;simp[Iw]
 |x::r,IH,h=>by
  simp only[ve,WE,U2]at h;obtain⟨x',hx,r',hr,h⟩:=h;simp at h;subst h;obtain⟨h1,h2⟩:=ud hE hr;refine⟨by simp[Iw,h1],λi c hi=>?_⟩
  cases i with
  |zero=>simp[Iw]at hi;subst hi;exact⟨_,aD,aS hE hx⟩
  |succ i=>simpa using h2 i c (by simpa[Iw]using hi)
theorem vo:∀{cs:List CV}{kY:List Nat},wY cs=some kY->cs=kY.map λid=>CV.rv (.one (.ptr id 0))
 | [],kY,h=>by simp[wY]at h;subst h;rfl
 |c::r,kY,h=>by
  unfold wY at h;split at h
  .rename_i h1;simp at h1
  .rename_i id r' h1;simp only[adL]at h1;obtain⟨rfl,rfl⟩:=h1;split at h
   .rename_i l hl;simp at h;subst h;rw[vo hl];rfl
   .cases h
  .cases h
theorem xn:∀kY:List Nat,wG kY=kY.map λid=>CV.rv (.one (.ptr id 0))
 | []=>rfl
 |id::r=>by simp[wG,xn r]
theorem Nz(hM:aK ρ m w)(hE:bq ρ w aY a.tmps){f:Nat}{xs:Array Operand}{IH:List X}(hx:ve xs.toList=some IH)(h:step P (.fn f IH) aY m K):ec P (do pure (Next.value (<-Instr.makeFunc (.func f) ((#[]:Array Operand).map a.eval) (xs.map a.eval)))) ρ m w K:=by
 simp only[step]at h;obtain⟨kY,hi,hK⟩:=bb.1 h;obtain⟨h1,h2⟩:=ud hE hx;rw[vo hi]at h1 h2;refine ec.pure hM (v:= .func (.func f) #[] (xs.map a.eval)) (by simp[Instr.makeFunc]) hK ⟨λid hid=>?_,?_⟩
 .obtain⟨k,hk,rfl⟩:=adK hid;obtain⟨v,_,hd⟩:=h2 k _ (by rw[Qu,wy hk];rfl)
  exact hd.1
 .congr 1;apply acu;rw[Array.toList_map];apply ab4;intro k;simp only[O9]at h1;rcases aax k kY.length with hk|hk
  .obtain⟨v,hv,hd⟩:=h2 k _ (by rw[Qu,wy hk];rfl)
   rw[hv,hd.2];simp[wy hk]
  .rw[abj (by simp;rw[<-Array.length_toList,<-h1];exact hk),abj (by simpa using hk)]
theorem Kw(hM:aK ρ m w)(hE:bq ρ w aY a.tmps){i:Nat}{x:Operand}{x':X}(hx:bD x=some x')(h:step P (.ext x' i) aY m K):ec P (do pure (Next.value (<-Instr.extract (a.eval x) i))) ρ m w K:=by
 have hd:=aS hE hx;simp only[step]at h;generalize a.eval x=v at hd|-;generalize x'.ev aY=c at hd h;split at h
 .obtain⟨r,hr,hK⟩:=bb.1 h;rw[aW]at hr;obtain⟨vs,rfl,hl,hc⟩:=hd;obtain⟨u,hu,cI⟩:=hc i r hr;refine ec.pure hM (v:=u) ?_ hK cI;simp[Instr.extract,hu]
 .exact h.elim
theorem ue(hM:aK ρ m w)(hE:bq ρ w aY a.tmps){t ty:TypeId}{x:Operand}{x':X}{k:Nat}(hu:(k=0/\P.underlying t=some .string)\/(k=1/\∃e,P.underlying t=some (.slice e))\/(k=2/\∃kt e,P.underlying t=some (.map kt e)))(hx:bD x=some x')(h:step P (.len k x') aY m K):ec P (do pure (Next.value (<-Builtin.len_ #[t] ty #[a.eval x]))) ρ m w K:=by
 have hd:=aS hE hx;generalize a.eval x=v at hd|-;rcases hu with⟨rfl,hu⟩|⟨rfl,e,hu⟩|⟨rfl,kt,e,hu⟩
 .simp only[step]at h;generalize x'.ev aY=c at hd h;split at h
  .obtain⟨rfl,hp⟩:=bY hd;refine ec.pure hM (v:=_) ?_ h (cM rfl);simp[Builtin.len_,run_underlying hu,goInt]
  .exact h.elim
 .simp only[step]at h;generalize x'.ev aY=c at hd h;split at h
  .rename_i esz elems;refine ec.pure hM (v:= .int .i64 (elems.length:Int)) ?_ h (cM rfl);cases hd<;>simp[Builtin.len_,run_underlying hu,goInt]
  .rename_i id esz lo hi;obtain⟨bk,hb,h⟩:=bb.1 h;rw[aW]at hb;cases bk<;>simp only at h
   rename_i pw elems;obtain⟨h2,h3,h4,h5,CY⟩:=hM.bk id _ hb;obtain⟨ax,d1,d2,d3,d4,ad,rfl,wh⟩:=hd;rw[i9,h2]at h;refine ec.pure hM (v:=_) ?_ h (cM rfl);simp[Builtin.len_,run_underlying hu,goInt]
  .obtain⟨ad,rfl⟩:=hd;refine ec.pure hM (v:=_) ?_ h (cM rfl);simp[Builtin.len_,run_underlying hu,goInt]
  .exact h.elim
 .simp only[step]at h;generalize x'.ev aY=c at hd h;split at h
  .rename_i id;obtain⟨bk,hb,h⟩:=bb.1 h;rw[aW]at hb;cases bk<;>simp only at h
   rename_i es;obtain⟨fk,clock,mP,dQ,uf⟩:=hM.bk id _ hb;obtain⟨ax,rfl⟩:=hd;refine ec.pure hM (v:= .int .i64 (es.length:Int)) ?_ h (cM rfl);simp[Builtin.len_,run_underlying hu,goInt,getObj,Sem.run,mP,dQ]
  .exact h.elim
theorem FX(hM:aK ρ m w)(hE:bq ρ w aY a.tmps){x:Operand}{x':X}{o:Oper}(ho:o.op= .nilCheck x)(hx:bD x=some x')(h:step P (.Nf x') aY m K):ec P (execOp a.eval o) ρ m w K:=by
 have hd:=aS hE hx;simp only[step]at h;unfold execOp;rw[ho];simp only;generalize a.eval x=v at hd|-;generalize x'.ev aY=c at hd h;split at h
 .have Up:=hd;obtain⟨ax,rfl⟩:=hd;exact ec.pure hM rfl h Up
 .have Up:=hd;obtain⟨ax,rfl⟩:=hd;exact ec.pure hM rfl h Up
 .have Up:=hd;obtain⟨b,off,rfl,_⟩:=hd;exact ec.pure hM rfl h Up
 .exact h.elim
theorem FY(hM:aK ρ m w)(hE:bq ρ w aY a.tmps){c x y:Operand}{c' x' y':X}(hc:bD c=some c')(hx:bD x=some x')(hy:bD y=some y')(h:step P (.pick c' x' y') aY m K):ec P (do pure (Next.value (if<-asBool (a.eval c)then a.eval x else a.eval y))) ρ m w K:=by
 have hd:=aS hE hc;simp only[step]at h;generalize a.eval c=v at hd|-;generalize c'.ev aY=cc at hd h;split at h
 .obtain⟨rfl,hp⟩:=bY hd;rcases cP.1 h with⟨rfl,h⟩|⟨rfl,h⟩
  .exact ec.pure hM (v:=a.eval x) (by simp[asBool]) h (aS hE hx)
  .exact ec.pure hM (v:=a.eval y) (by simp[asBool]) h (aS hE hy)
 .exact h.elim
theorem NA{α:Type}{n i:Nat}{x y:α}(h:(gP n x)[i]? =some y):y=x/\i<n:=by
 rw[fK,adX]at h;split at h
 .exact⟨by simpa using h.symm,by assumption⟩
 .cases h
def BF(ρ:bX)(w:World)(esz:Nat)(rows:List (List CC))(cells:Array Value):Prop:=
 cells.size=rows.length*esz/\(∀cs,cs∈rows->cs.length=esz)/\
  ∀(i:Nat)cs(j:Nat)c,rows[i]? =some cs->cs[j]? =some c->∃u,cells[i*esz+j]? =some u/\bH ρ w .none c u
theorem vp(hE:bq ρ w aY a.tmps){esz:Nat}:
  ∀{ps:List (Nat×Operand)}{oy:List (Nat×X)}{rows mQ:List (List CC)}{cells:Array Value},lG ps=some oy->vd aY esz rows oy=some mQ->BF ρ w esz rows cells->
   ∃fz,Instr.fill (λi=>some (i*esz,esz)) cells (ps.map λp=>(p.1,a.eval p.2))=some fz/\BF ρ w esz mQ fz/\mQ.length=rows.length
 | [],oy,z,z',cells,hp,hf,hz=>by simp[lG]at hp;subst hp;simp[vd]at hf;subst hf;exact⟨cells,rfl,hz,rfl⟩
 |(i,x)::r,oy,z,z',cells,hp,hf,hz=>by
  simp only[lG,WE,U2]at hp;obtain⟨x',hx,r',hr,hp⟩:=hp;simp at hp;subst hp;simp only[vd]at hf;split at hf
  .rename_i cs fA;split at hf
   .rename_i hlen;simp only[aaL,aci]at hlen;have hl:cs.length=esz:=aa1 hlen.1;obtain⟨h1,h2,_⟩:=kD fA (aS hE hx);have dQ:i*esz+esz<=cells.size:=by rw[hz.1];have:(i+1)*esz<=z.length*esz:=abS _ hlen.2;rwa [ab3,acs]at this
    have hff:=uc (i*esz) (a.eval x).cells.toList 0 cells;simp only[adS]at hff;have he:(a.eval x).cells.zipIdx.foldl (λcs(p:Value×Nat)=>cs.setIfInBounds (i*esz+p.2) p.1) cells=((a.eval x).cells.toList.zipIdx 0).foldl (λ(cs:Array Value)(p:Value×Nat)=>cs.setIfInBounds (i*esz+p.2) p.1) cells:=by rw[<-Array.foldl_toList];simp
    have Dn:Instr.fill (λi=>some (i*esz,esz)) cells ((i,a.eval x)::r.map λp=>(p.1,a.eval p.2))=
      Instr.fill (λi=>some (i*esz,esz)) ((a.eval x).cells.zipIdx.foldl (λcs(p:Value×Nat)=>cs.setIfInBounds (i*esz+p.2) p.1) cells) (r.map λp=>(p.1,a.eval p.2)):=by
     rw[Instr.fill];simp only;rw[if_neg (by rw[h1,hl];simp;omega)]
    have YG:BF ρ w esz (aX z i cs) ((a.eval x).cells.zipIdx.foldl (λcs(p:Value×Nat)=>cs.setIfInBounds (i*esz+p.2) p.1) cells):=by
     rw[he,bh];refine⟨by rw[hff.1,hz.1];simp,λfg NB=>?_,λi' fg j c eM hj=>?_⟩
     .rcases abF NB with hm|rfl
      .exact hz.2.1 fg hm
      .exact hl
     .have vq:(a.eval x).cells.toList.length=esz:=by simp[h1,hl]
      rw[hff.2 (by rw[vq];exact dQ),vq]
      by_cases Q1:i=i'
      .subst Q1;rw[aaj hlen.2]at eM;simp only[abe]at eM;subst eM;have k6:j<esz:=by rw[<-hl];exact(Lw.1 hj).1
       rw[if_pos om];obtain⟨u,hu,cI⟩:=h2 j c hj;exact⟨u,by rw[show i*esz+j-i*esz=j by omega];simpa using hu,cI⟩
      .rw[aam Q1]at eM;have k6:j<esz:=by rw[<-hz.2.1 _ (Vm eM)];exact(Lw.1 hj).1
       rw[if_neg]
       .exact hz.2.2 i' fg j c eM hj
       .rcases Nat.lt_or_gt_of_ne Q1 with pz|pz
        .have:(i+1)*esz<=i'*esz:=abS _ pz;rw[ab3,acs]at this;omega
        .have:(i'+1)*esz<=i*esz:=abS _ pz;rw[ab3,acs]at this;omega
    obtain⟨fz,h3,h4,h5⟩:=vp hE hr hf YG;exact⟨fz,by rw[ab2,Dn,h3],h4,by rw[h5,bh];simp⟩
   .cases hf
  .cases hf
theorem FZ(zero:Array Value)(n:Nat)(k:Nat)(hk:k<n)(hz:0<zero.size):((Array.range n).map (zero[· %zero.size]!))[k]? =zero[k%zero.size]? :=by have:k%zero.size<zero.size:=Nat.mod_lt _ hz;simp[hk,this]
theorem Kz(hM:aK ρ m w)(hE:bq ρ w aY a.tmps){t e:TypeId}{n:Nat}{ps:Array (Nat×Operand)}{z:List CC}{oy:List (Nat×X)}(hu:P.underlying t=some (.slice e))(hz:eu P e=some z)(hs:fh P e=some z.length)(dD:0<z.length)(hn:n*z.length<=2^24)(hp:lG ps.toList=some oy)(h:step P (.XY z.length z n oy) aY m K):ec P (do pure (Next.value (<-Instr.buildSlice t n (ps.map λ(i,x)=>(i,a.eval x))))) ρ m w K:=by
 simp only[step]at h;obtain⟨rows,hf,hK⟩:=bb.1 h;rw[fq,kh,cf]at hK;obtain⟨zv,YH,RE⟩:=FP (ρ:=ρ) (w:=w) hz;have acM:zv.cells.size=z.length:=RE.1;have h0:BF ρ w z.length (gP n z) ((Array.range (n*z.length)).map (zv.cells[· %zv.cells.size]!)):=by
  refine⟨by simp[fK],λcs fA=>?_,λi cs j c hi hj=>?_⟩
  .rw[fK]at fA;rw[ac1 fA]
  .obtain⟨rfl,ip⟩:=NA hi;have k6:=(Lw.1 hj).1;have ax:i*cs.length+j<n*cs.length:=by have:(i+1)*cs.length<=n*cs.length:=abS _ ip;rw[ab3,acs]at this;omega
   rw[FZ _ _ _ ax om,acM,adT i,afi,aff k6];exact RE.2 j c hj
 obtain⟨cells,h1,h2,h3⟩:=vp hE hp hf h0;have hlen:rows.length=n:=by rw[h3,fK];simp
 obtain⟨U',g1,g2,g3⟩:=Nv hM (ty:=e) (cap:=n) (cells:=cells) (elems:=rows) (w':=w.alloc (.cells cells e)) (.inl rfl) (by rw[h2.1,hlen];exact aai _) om (by unfold maxLen;have:n*1<=n*z.length:=Nat.mul_le_mul_left _ dD;omega) h2.2.1 h2.2.2
 rw[hlen]at g3;refine⟨_,_,_,_,_,U',?_,.inl rfl,hK,g1,g3,g2⟩;have Dn:Instr.fill (λi=>some (i*z.length,z.length)) ((Array.range (n*z.length)).map (zv.cells[· %zv.cells.size]!)) (ps.map λ(i,x)=>(i,a.eval x)).toList=some cells:=by simpa using h1
 rcases abY n with RD|RD
 .subst RD;have e0:∀zz:Array Value,((Array.range (0*z.length)).map (zz[· %zz.size]!))= #[]:=by intro zz;simp
  rw[e0]at Dn;simp only[Instr.buildSlice,Sem.run_bind,run_underlying hu,Result.andThen_ok,fN hs];rw[if_neg om,if_pos aD];simp only[Sem.run_pure,Result.andThen_ok,e0,Dn];simp[newRow]
 .have fG:n*z.length≠0:=Nat.ne_of_gt (Nat.mul_pos RD dD);simp only[Instr.buildSlice,Sem.run_bind,run_underlying hu,Result.andThen_ok,fN hs];rw[if_neg om,if_neg fG];simp only[Sem.run_bind,YH,Result.andThen_ok,Sem.run_pure,Dn];simp[newRow]
end
end Go.AM
