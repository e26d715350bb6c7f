/- Part 6 of 35. -/
import Derived.Test.YtllkfpggoigbaaaGreatDoorS04
import Derived.Test.YtllkfpggoigbaaaGreatDoorS05
import Derived.Laws.Slices
import Derived.Laws.Strings2
import Derived.WalkSpells
import Derived.Lib.SliceRun
set_option linter.unusedVariables false
set_option linter.unusedSimpArgs false
set_option linter.unnecessarySimpa false
set_option maxRecDepth 100000
set_option maxHeartbeats 0
namespace Go.AM
section
variable {P:Program} {ρ:bX} {m:Mem} {w:World} {aY:List CV} {a:Act} {K:CV->Mem->Prop}
theorem BL{t e:TypeId}{esz:Nat}(hu:P.underlying t=some (.slice e))(hs:fh P e=some esz)(ad:Option Addr)(len cap:Nat)(tX:len<=cap){lo hi:Option Value}{l h:Nat}(ix:(lo=none/\l=0)\/∃k,lo=some (.int k (l:Int)))(BM:(hi=none/\h=len)\/∃k,hi=some (.int k (h:Int)))(h1:l<=h)(h2:h<=cap):
  (Instr.sliceAt t (.slice ad len cap) lo hi none).run P w= .ok (sliced ad l h cap esz) w:=by
 have he:P.elem t=e:=by simp[Program.elem,hu]
 have wm:P.underlying t=some (.slice (P.elem t)):=by rw[he];exact hu
 have dQ:(sizeOf (P.elem t)).run P w= .ok esz w:=by rw[he];exact fN hs
 rw[run_sliceAt_slice _ _ _ _ _ _ wm];rcases ix with⟨rfl,rfl⟩|⟨k,rfl⟩<;>rcases BM with⟨rfl,rfl⟩|⟨k',rfl⟩
 .rw[run_slice_all w t ad _ cap wm,dQ];rfl
 .rw[run_slice_h w t ad len cap wm k' h om om,dQ];simp[Result.andThen]
 .rw[run_slice_l w t ad _ cap wm k l om om,dQ];simp[Result.andThen]
 .rw[run_slice_lh w t ad len cap wm k k' l h om om om,dQ];simp[Result.andThen]
theorem RK{t e:TypeId}{esz:Nat}(hu:P.underlying t=some (.slice e))(hs:fh P e=some esz)(ad:Option Addr)(len cap:Nat){k k':IntKind}:
  ∃b,(Instr.sliceAt t (.slice ad len cap) none (some (.int k 0)) (some (.int k' 0))).run P w= .ok (.slice b 0 0) w:=by
 have he:P.elem t=e:=by simp[Program.elem,hu]
 have wm:P.underlying t=some (.slice (P.elem t)):=by rw[he];exact hu
 have dQ:(sizeOf (P.elem t)).run P w= .ok esz w:=by rw[he];exact fN hs
 rw[run_sliceAt_slice _ _ _ _ _ _ wm,run_slice_hm w t ad len cap wm k k' 0 0 om om om,dQ];exact⟨_,rfl⟩
theorem Dq{c:CV}{v:Value}{k:Nat}(h:px c=some k)(hd:cw ρ w c v):∃kd,v= .int kd (k:Int):=by
 unfold px at h;split at h
 .cases h;exact⟨_,qx hd⟩
 .cases h
theorem IL{c:CV}{v:Value}(h:isZ c=true)(hd:cw ρ w c v):∃kd,v= .int kd 0:=by
 unfold isZ at h;split at h
 .have:=of_decide_eq_true h;subst this;exact⟨_,qx hd⟩
 .cases h
theorem jQ(hE:bq ρ w aY a.tmps){o:Option Operand}{o':Option X}(h:iP o=some o'){d k:Nat}(hk:lN aY o' d=some k):
  (o.map a.eval=none/\k=d)\/∃kd,o.map a.eval=some (.int kd (k:Int)):=by
 cases o with
 |none=>
  simp[iP]at h;subst h;simp[lN]at hk;exact .inl ⟨rfl,hk.symm⟩
 |some x=>
  simp only[iP,WE,U2]at h;obtain⟨x',hx,h⟩:=h;cases h;obtain⟨kd,hv⟩:=Dq hk (aS hE hx);exact .inr ⟨kd,by simp[hv]⟩
theorem F6(hM:aK ρ m w)(hE:bq ρ w aY a.tmps){t:TypeId}{x:Operand}{lo hi:Option Operand}{x':X}{F7 eM:Option X}(hu:P.underlying t=some .string)(hx:bD x=some x')(ix:iP lo=some F7)(BM:iP hi=some eM)(h:step P (.Kj x' F7 eM) aY m K):ec P (do pure (Next.value (<-Instr.sliceAt t (a.eval x) (lo.map a.eval) (hi.map a.eval) none))) ρ m w K:=by
 have hd:=aS hE hx;generalize a.eval x=v at hd|-;simp only[step]at h;generalize x'.ev aY=c at hd h;split at h
 .rename_i s;have hv:=(bY hd).1;subst hv;obtain⟨l,hl,h⟩:=bb.1 h;obtain⟨hh,hk,h⟩:=bb.1 h;rcases cP.1 h with⟨hb,hK⟩|⟨_,g⟩
  case inr=>exact g.elim
  rw[aaL,abR,abR]at hb;have hL:=jQ hE ix hl;have hH:=jQ hE BM hk;have eU:(Instr.sliceAt t (.string s) (lo.map a.eval) (hi.map a.eval) none).run P w= .ok (.string (s.extract l hh)) w:=by
   rw[run_sliceAt_string w t _ _ _ _ hu];rcases hL with⟨e1,rfl⟩|⟨k1,e1⟩<;>rcases hH with⟨e2,rfl⟩|⟨k2,e2⟩<;>rw[e1,e2]
   .exact run_slice_string_all w t s hu
   .rw[run_slice_string_h w t s hu k2 _ om om];simp
   .rw[run_slice_string_l w t s hu k1 _ om om];simp
   .rw[run_slice_string w t s k1 k2 _ _ hu om om om];simp
  exact ec.pure hM (by rw[Sem.run_bind,eU];rfl) hK (dx.val _ rfl)
 .exact h.elim
theorem KC(hM:aK ρ m w)(hE:bq ρ w aY a.tmps){t e:TypeId}{esz:Nat}{x:Operand}{lo hi mx:Option Operand}{x':X}{F7 eM mx':Option X}(hu:P.underlying t=some (.slice e))(hs:fh P e=some esz)(hx:bD x=some x')(ix:iP lo=some F7)(BM:iP hi=some eM)(Q4:iP mx=some mx')(h:step P (.Vu esz x' F7 eM mx') aY m K):ec P (do pure (Next.value (<-Instr.sliceAt t (a.eval x) (lo.map a.eval) (hi.map a.eval) (mx.map a.eval)))) ρ m w K:=by
 have hd:=aS hE hx;generalize a.eval x=v at hd|-;cases mx with
 |none=>
  simp[iP]at Q4;subst Q4;simp only[step]at h;simp only[Option.map_none];obtain⟨l,hl,h⟩:=bb.1 h;have hL:=jQ hE ix hl;generalize x'.ev aY=c at hd h;split at h
  .rename_i e2 elems;rcases cP.1 h with⟨he,g1⟩|⟨_,g1⟩
   case inr=>exact g1.elim
   have he:e2=esz:=aa1 he;subst he;obtain⟨hh,hk,g2⟩:=bb.1 g1;rcases cP.1 g2 with⟨hb,hK⟩|⟨_,g3⟩
   case inr=>exact g3.elim
   rw[aaL,abR,abR]at hb;have hH:=jQ hE BM hk;cases hd with
   |nil _ ad cap hc=>
    simp at hb;have hz:hh=0:=om;have Ut:l=0:=om;subst hz Ut;refine ec.pure hM (by rw[Sem.run_bind,BL hu hs ad 0 cap (WG _) hL hH (aai _) (WG _)];rfl) hK ?_
    exact dx.nil e2 _ (cap-0) om
   |sl _ _ b off cap u hS tX bv dQ hc cD=>
    refine ec.pure hM (by rw[Sem.run_bind,BL hu hs _ _ cap tX hL hH hb.1 om];rfl) hK ?_
    show dx ρ.S w _ (.slice (if cap=l then _ else _) (hh-l) (cap-l))
    have hlen:((elems.take hh).drop l).length=hh-l:=by simp;omega
    rcases Nat.eq_or_lt_of_le hb.1 with rfl|ax
    .have:(elems.take l).drop l=[]:=aaX (by rw[hlen];omega)
     rw[this,adv];exact .nil e2 _ _ om
    .rw[if_neg om];have VG:(Option.map (λx:Addr=>x.add (l*e2)) (some ⟨b,off,none⟩))=some ⟨b,off+l*e2,none⟩:=by
      simp only[aa3,Addr.add];split
      .rename_i h0;simp[h0]
      .rfl
     rw[VG,<-hlen];have get:∀(i:Nat)cs,((elems.take hh).drop l)[i]? =some cs->elems[l+i]? =some cs:=λi cs hi=>by
      rw[ab5,abK]at hi;split at hi
      .exact hi
      .cases hi
     exact dx.sl e2 _ b (off+l*e2) (cap-l) (λi j=>u (l+i) j) hS om om (λcs fA=>dQ cs (ab0 (acB fA)))
      (λi cs j d hi hj=>by rw[<-hc (l+i) cs j d (get i cs hi) hj];congr 2;rw[ab3];omega)
      (λi cs j d hi hj=>cD (l+i) cs j d (get i cs hi) hj)
  .rename_i id e2 FH sj;obtain⟨bk,hb,h⟩:=bb.1 h;rw[aW]at hb;cases bk<;>simp only at h
   rename_i zE elems;rcases cP.1 h with⟨he,g1⟩|⟨_,g1⟩
   case inr=>exact g1.elim
   have he:e2=esz:=aa1 he;subst he;obtain⟨hh,hk,g2⟩:=bb.1 g1;rcases cP.1 g2 with⟨hbb,hK⟩|⟨_,g3⟩
   case inr=>exact g3.elim
   rw[aaL,abR,abR]at hbb;obtain⟨h2,h3,h4,h5,su⟩:=hM.bk id _ hb;clear su;rw[i9,h2]at hk;rw[h2]at hbb;have hH:=jQ hE BM hk;obtain⟨q1,q2,q3,q4,q5,ad,rfl,ul⟩:=hd;have b1:sj.getD (ρ.aV (.ay id)).len-FH<=(ρ.aV (.ay id)).cap-FH:=om;have b2:hh<=(ρ.aV (.ay id)).cap-FH:=om;refine ec.pure hM (by rw[Sem.run_bind,BL hu hs ad _ _ b1 hL hH hbb.1 b2];rfl) hK ?_
   rw[mN,mN];refine⟨q1,by simp;omega,by simp;omega,q4,q5,(if(ρ.aV (.ay id)).cap-FH=l then ad else ad.map (λx:Addr=>x.add (l*e2))),?_,?_⟩
   .have c1:hh-l=(some (FH+hh)).getD (ρ.aV (.ay id)).len-(FH+l):=by simp;omega
    have c2:(ρ.aV (.ay id)).cap-FH-l=(ρ.aV (.ay id)).cap-(FH+l):=om;show Value.slice _ (hh-l) ((ρ.aV (.ay id)).cap-FH-l)=_;rw[c1,c2]
   .intro ax;rw[if_neg om,ul om];simp only[aa3,Addr.add];split
    .rename_i h0;simp[ab3,h0]
    .simp[ab3,abX]
  .exact h.elim
 |some mo=>
  simp only[iP,WE,U2]at Q4;obtain⟨m',RL,Q4⟩:=Q4;cases Q4;simp only[step]at h;rcases cP.1 h with⟨hc,hK⟩|⟨_,g⟩
  case inr=>
   obtain⟨l,hl,g⟩:=bb.1 g;obtain⟨E,hE',g⟩:=bb.1 g;obtain⟨hh,hk,g⟩:=bb.1 g;obtain⟨Yx,Q4,g⟩:=bb.1 g;rcases cP.1 g with⟨hc,hK⟩|⟨_,g⟩
   case inr=>exact g.elim
   simp only[aaL,abR]at hc;obtain⟨c1,c2,c3,c4,c5⟩:=hc;have hL:=jQ hE ix hl;have hH:=jQ hE BM hk;obtain⟨kd,hmv⟩:=Dq Q4 (aS hE RL);obtain⟨ad,cap,vs,rfl,hle,hcm,_⟩:=oA hM hE' hd;cases lo with
   |none=>
    simp[iP]at ix;subst ix;simp at c1
   |some FH=>
    cases hi with
    |none=>
     simp[iP]at BM;subst BM;simp at c2
    |some sj=>
     rcases hL with⟨hL,_⟩|⟨k1,hL⟩
     .simp at hL
     rcases hH with⟨hH,_⟩|⟨k2,hH⟩
     .simp at hH
     have he:P.elem t=e:=by simp[Program.elem,hu]
     have wm:P.underlying t=some (.slice (P.elem t)):=by rw[he];exact hu
     have dQ:(sizeOf (P.elem t)).run P w= .ok esz w:=by rw[he];exact fN hs
     refine ec.pure hM (v:=sliced ad l hh Yx esz) ?_ hK trivial;rw[hL,hH,aa3,hmv,Sem.run_bind,run_sliceAt_slice _ _ _ _ _ _ wm,run_slice_lhm w t ad E.length cap wm k1 k2 kd l hh Yx om om om om,dQ];simp[Result.andThen]
  simp only[aaL]at hc;obtain⟨⟨⟨c1,c2⟩,c3⟩,c4⟩:=hc;obtain⟨k',hmv⟩:=IL c3 (aS hE RL);cases lo with
  |some l0=>
   simp only[iP,WE,U2]at ix;obtain⟨l',_,ix⟩:=ix;cases ix;simp at c1
  |none=>
   cases hi with
   |none=>
    simp[iP]at BM;subst BM;simp[FG]at c2
   |some h0=>
    simp only[iP,WE,U2]at BM;obtain⟨h',hh',BM⟩:=BM;cases BM;obtain⟨k,hhv⟩:=IL c2 (aS hE hh');have hv:∃ad len cap,v= .slice ad len cap:=by
     generalize x'.ev aY=c at hd c4;unfold Nk at c4;split at c4
     .cases hd with
      |nil _ ad cap hc=>exact⟨_,_,_,rfl⟩
      |sl _ _ b off cap u hS tX bv dQ hc cD=>exact⟨_,_,_,rfl⟩
     .obtain⟨_,_,_,_,_,ad,rfl,_⟩:=hd;exact⟨_,_,_,rfl⟩
     .obtain⟨ad,rfl⟩:=hd;exact⟨_,_,_,rfl⟩
     .cases c4
    obtain⟨ad,len,cap,rfl⟩:=hv;obtain⟨b,hb⟩:=RK (w:=w) hu hs ad len cap (k:=k) (k':=k');refine ec.pure hM (v:= .slice b 0 0) ?_ hK ⟨b,rfl⟩;simp only[Option.map_none,aa3,hhv,hmv];rw[Sem.run_bind,hb];rfl
theorem xx(hM:aK ρ m w)(hE:bq ρ w aY a.tmps){neg:Bool}{t e:TypeId}{x:Operand}{x':X}(hu:P.underlying t=some (.slice e))(hx:bD x=some x')(h:step P (.Ng neg x') aY m K):ec P (do let v<-(do eqGuard (if neg then .neq else .eql) t x (.const (.slice none 0 0)) (a.eval x) (.slice none 0 0);binOp (if neg then .neq else .eql) t (a.eval x) (.slice none 0 0));pure (Next.value v)) ρ m w K:=by
 have hd:=aS hE hx;simp only[step]at h;generalize a.eval x=v at hd|-;generalize x'.ev aY=c at hd h;have gu:∀(ad:Option Addr)(n cp:Nat),v= .slice ad n cp->K (aq (if neg then !ad.isNone else ad.isNone)) m->
   ec P (do let v<-(do eqGuard (if neg then .neq else .eql) t x (.const (.slice none 0 0)) v (.slice none 0 0);binOp (if neg then .neq else .eql) t v (.slice none 0 0));pure (Next.value v)) ρ m w K:=by
  intro ad n cp hv hK;subst hv;refine ec.pure hM (v:= .bool (if neg then !ad.isNone else ad.isNone)) ?_ hK (cM rfl)
  have hg:∀op,(eqGuard op t x (.const (.slice none 0 0)) (.slice ad n cp) (.slice none 0 0)).run P w= .ok () w:=λop=>by
   cases op<;>simp[eqGuard]
  rw[Sem.run_bind,Sem.run_bind,hg];cases neg
  .simp only[Result.andThen_ok,acj,if_false,Lib.run_eql_slice_nil w t e ad n cp 0 0 hu,Sem.run_pure]
  .simp only[Result.andThen_ok,if_true,run_neq_slice_nil_any w t e ad n cp 0 0 hu,Sem.run_pure]
 have both:∀(ad:Option Addr)(n cp:Nat),v= .slice ad n cp->(K (aq true) m/\K (aq false) m)->_:=λad n cp hv hK=>gu ad n cp hv (by
  generalize (if neg then !ad.isNone else ad.isNone)=b
  cases b
  .exact hK.2
  .exact hK.1)
 split at h
 .rename_i e2 elems;rcases cP.1 h with⟨_,g⟩|⟨fG,g⟩
  .cases hd with
   |nil _ ad cap hc=>exact both _ _ _ rfl g
   |sl _ _ b off cap u hS tX bv dQ hc cD=>exact both _ _ _ rfl g
  .cases hd with
   |nil _ ad cap hc=>simp at fG
   |sl _ _ b off cap u hS tX bv dQ hc cD=>exact gu _ _ _ rfl (by cases neg<;>simpa using g)
 .rename_i id e2 lo hi;obtain⟨bk,hb,h⟩:=bb.1 h;rw[aW]at hb;cases bk<;>simp only at h
  rename_i zE elems;obtain⟨h2,h3,h4,h5,su⟩:=hM.bk id _ hb;clear su;obtain⟨q1,q2,q3,q4,q5,ad,rfl,ul⟩:=hd;rw[i9,h2]at h;rcases cP.1 h with⟨_,g⟩|⟨fG,g⟩
  .exact both _ _ _ rfl g
  .have YE:=adu fG;have:=ul om;subst this;exact gu _ _ _ rfl (by cases neg<;>simpa using g)
 .obtain⟨ad,rfl⟩:=hd;exact both _ _ _ rfl h
 .exact h.elim
end
end Go.AM
