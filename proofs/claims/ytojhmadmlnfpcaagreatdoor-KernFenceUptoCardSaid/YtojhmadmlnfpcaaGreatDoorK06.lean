/- Part 6 of 43: what the law stands on. -/
import Derived.Test.YtojhmadmlnfpcaaGreatDoorK04
import Derived.Test.YtojhmadmlnfpcaaGreatDoorK05
import Derived.Laws.Slices
import Derived.Laws.Strings2
import Derived.WalkSpells
import Derived.Lib.SliceRun
set_option linter.unusedVariables false
set_option linter.unusedSimpArgs false
set_option linter.unnecessarySimpa false
set_option maxRecDepth 100000
set_option maxHeartbeats 64000000
namespace Go.AM
section
variable {P:Program} {ρ:bL} {m:Mem} {w:World} {aY:List CV} {a:Act} {K:CV->Mem->Prop}
theorem zH{t e:TypeId}{esz:Nat}(hu:P.underlying t=some (.slice e))(hs:eN P e=some esz)(ad:Option Addr)(len cap:Nat)(rP:len<=cap){lo hi:Option Value}{l h:Nat}(gR:(lo=none/\l=0)\/∃k,lo=some (.int k (l:Int)))(xF:(hi=none/\h=len)\/∃k,hi=some (.int k (h:Int)))(h1:l<=h)(h2:h<=cap):
  (Instr.sliceAt t (.slice ad len cap) lo hi none).run P w= .ok (sliced ad l h cap esz) w:=by
 have he:P.elem t=e:=by simp[Program.elem,hu]
 have ul:P.underlying t=some (.slice (P.elem t)):=by rw[he];exact hu
 have dI:(sizeOf (P.elem t)).run P w= .ok esz w:=by rw[he];exact fk hs
 rw[run_sliceAt_slice _ _ _ _ _ _ ul];rcases gR with⟨rfl,rfl⟩|⟨k,rfl⟩<;>rcases xF with⟨rfl,rfl⟩|⟨k',rfl⟩
 .rw[run_slice_all w t ad _ cap ul,dI];rfl
 .rw[run_slice_h w t ad len cap ul k' h om om,dI];simp[Result.andThen]
 .rw[run_slice_l w t ad _ cap ul k l om om,dI];simp[Result.andThen]
 .rw[run_slice_lh w t ad len cap ul k k' l h om om om,dI];simp[Result.andThen]
theorem OD{t e:TypeId}{esz:Nat}(hu:P.underlying t=some (.slice e))(hs:eN P e=some esz)(ad:Option Addr)(len cap:Nat){k k':IntKind}:
  ∃b,(Instr.sliceAt t (.slice ad len cap) none (some (.int k 0)) (some (.int k' 0))).run P w= .ok (.slice b 0 0) w:=by
 have he:P.elem t=e:=by simp[Program.elem,hu]
 have ul:P.underlying t=some (.slice (P.elem t)):=by rw[he];exact hu
 have dI:(sizeOf (P.elem t)).run P w= .ok esz w:=by rw[he];exact fk hs
 rw[run_sliceAt_slice _ _ _ _ _ _ ul,run_slice_hm w t ad len cap ul k k' 0 0 om om om,dI];exact⟨_,rfl⟩
theorem BL{c:CV}{v:Value}{k:Nat}(h:pF c=some k)(hd:b8 ρ w c v):∃kd,v= .int kd (k:Int):=by
 unfold pF at h;split at h
 .cases h;exact⟨_,oK hd⟩
 .cases h
theorem GR{c:CV}{v:Value}(h:WI c=true)(hd:b8 ρ w c v):∃kd,v= .int kd 0:=by
 unfold WI at h;split at h
 .have:=of_decide_eq_true h;subst this;exact⟨_,oK hd⟩
 .cases h
theorem iX(hE:bj ρ w aY a.tmps){o:Option Operand}{o':Option X}(h:gY o=some o'){d k:Nat}(hk:kG aY o' d=some k):
  (o.map a.eval=none/\k=d)\/∃kd,o.map a.eval=some (.int kd (k:Int)):=by
 cases o with
 |none=>
  simp[gY]at h;subst h;simp[kG]at hk;exact .inl ⟨rfl,hk.symm⟩
 |some x=>
  simp only[gY,aah,aae]at h;obtain⟨x',hx,h⟩:=h;cases h;obtain⟨kd,hv⟩:=BL hk (aP hE hx);exact .inr ⟨kd,by simp[hv]⟩
theorem Eg(hM:aH ρ m w)(hE:bj ρ w aY a.tmps){t:TypeId}{x:Operand}{lo hi:Option Operand}{x':X}{Eh eC:Option X}(hu:P.underlying t=some .string)(hx:bo x=some x')(gR:gY lo=some Eh)(xF:gY hi=some eC)(h:step P (.HX x' Eh eC) aY m K):dO P (do pure (Next.value (<-Instr.sliceAt t (a.eval x) (lo.map a.eval) (hi.map a.eval) none))) ρ m w K:=by
 have hd:=aP hE hx;generalize a.eval x=v at hd⊢;simp only[step]at h;generalize x'.ev aY=c at hd h;split at h
 .rename_i s;have hv:=(bM hd).1;subst hv;obtain⟨l,hl,h⟩:=be.1 h;obtain⟨hh,hk,h⟩:=be.1 h;rcases ct.1 h with⟨hb,hK⟩|⟨_,g⟩
  case inr=>exact g.elim
  rw[aap,aaR,aaR]at hb;have hL:=iX hE gR hl;have hH:=iX hE xF hk;have dV:(Instr.sliceAt t (.string s) (lo.map a.eval) (hi.map a.eval) none).run P w= .ok (.string (s.extract l hh)) w:=by
   rw[run_sliceAt_string w t _ _ _ _ hu];rcases hL with⟨e1,rfl⟩|⟨k1,e1⟩<;>rcases hH with⟨e2,rfl⟩|⟨k2,e2⟩<;>rw[e1,e2]
   .exact run_slice_string_all w t s hu
   .rw[run_slice_string_h w t s hu k2 _ om om];simp
   .rw[run_slice_string_l w t s hu k1 _ om om];simp
   .rw[run_slice_string w t s k1 k2 _ _ hu om om om];simp
  exact dO.pure hM (by rw[Sem.run_bind,dV];rfl) hK (dz.val _ rfl)
 .exact h.elim
theorem Ig(hM:aH ρ m w)(hE:bj ρ w aY a.tmps){t e:TypeId}{esz:Nat}{x:Operand}{lo hi mx:Option Operand}{x':X}{Eh eC XM:Option X}(hu:P.underlying t=some (.slice e))(hs:eN P e=some esz)(hx:bo x=some x')(gR:gY lo=some Eh)(xF:gY hi=some eC)(N5:gY mx=some XM)(h:step P (.nN esz x' Eh eC XM) aY m K):dO P (do pure (Next.value (<-Instr.sliceAt t (a.eval x) (lo.map a.eval) (hi.map a.eval) (mx.map a.eval)))) ρ m w K:=by
 have hd:=aP hE hx;generalize a.eval x=v at hd⊢;cases mx with
 |none=>
  simp[gY]at N5;subst N5;simp only[step]at h;simp only[Option.map_none];obtain⟨l,hl,h⟩:=be.1 h;have hL:=iX hE gR hl;generalize x'.ev aY=c at hd h;split at h
  .rename_i e2 elems;rcases ct.1 h with⟨he,g1⟩|⟨_,g1⟩
   case inr=>exact g1.elim
   have he:e2=esz:=aav he;subst he;obtain⟨hh,hk,g2⟩:=be.1 g1;rcases ct.1 g2 with⟨hb,hK⟩|⟨_,g3⟩
   case inr=>exact g3.elim
   rw[aap,aaR,aaR]at hb;have hH:=iX hE xF hk;cases hd with
   |nil _ ad cap hc=>
    simp at hb;have hz:hh=0:=om;have Uh:l=0:=om;subst hz Uh;refine dO.pure hM (by rw[Sem.run_bind,zH hu hs ad 0 cap (aao _) hL hH (aaj _) (aao _)];rfl) hK ?_
    exact dz.nil e2 _ (cap-0) om
   |sl _ _ b off cap u hS rP bp dI hc cj=>
    refine dO.pure hM (by rw[Sem.run_bind,zH hu hs _ _ cap rP hL hH hb.1 om];rfl) hK ?_
    show dz ρ.S w _ (.slice (if cap=l then _ else _) (hh-l) (cap-l))
    have hlen:((elems.take hh).drop l).length=hh-l:=by simp;omega
    rcases Nat.eq_or_lt_of_le hb.1 with rfl|aC
    .have:(elems.take l).drop l=[]:=aat (by rw[hlen];omega)
     rw[this,ab9];exact .nil e2 _ _ om
    .rw[if_neg om];have RC:(Option.map (fun x:Addr=>x.add (l*e2)) (some ⟨b,off,none⟩))=some ⟨b,off+l*e2,none⟩:=by
      simp only[aaC,Addr.add];split
      .rename_i h0;simp[h0]
      .rfl
     rw[RC,<-hlen];have get:∀(i:Nat)cs,((elems.take hh).drop l)[i]? =some cs->elems[l+i]? =some cs:=fun i cs hi=>by
      rw[aaZ,aaK]at hi;split at hi
      .exact hi
      .cases hi
     exact dz.sl e2 _ b (off+l*e2) (cap-l) (fun i j=>u (l+i) j) hS om om (fun cs dG=>dI cs (aa1 (abt dG)))
      (fun i cs j d hi hj=>by rw[<-hc (l+i) cs j d (get i cs hi) hj];congr 2;rw[aa2];omega)
      (fun i cs j d hi hj=>cj (l+i) cs j d (get i cs hi) hj)
  .rename_i id e2 DU uN;obtain⟨bk,hb,h⟩:=be.1 h;rw[aX]at hb;cases bk<;>simp only at h
   rename_i xN elems;rcases ct.1 h with⟨he,g1⟩|⟨_,g1⟩
   case inr=>exact g1.elim
   have he:e2=esz:=aav he;subst he;obtain⟨hh,hk,g2⟩:=be.1 g1;rcases ct.1 g2 with⟨XN,hK⟩|⟨_,g3⟩
   case inr=>exact g3.elim
   rw[aap,aaR,aaR]at XN;obtain⟨h2,h3,h4,h5,qy⟩:=hM.bk id _ hb;clear qy;rw[iu,h2]at hk;rw[h2]at XN;have hH:=iX hE xF hk;obtain⟨q1,q2,q3,q4,q5,ad,rfl,se⟩:=hd;have b1:uN.getD (ρ.aR (.au id)).len-DU<=(ρ.aR (.au id)).cap-DU:=om;have b2:hh<=(ρ.aR (.au id)).cap-DU:=om;refine dO.pure hM (by rw[Sem.run_bind,zH hu hs ad _ _ b1 hL hH XN.1 b2];rfl) hK ?_
   rw[lB,lB];refine⟨q1,by simp;omega,by simp;omega,q4,q5,(if(ρ.aR (.au id)).cap-DU=l then ad else ad.map (fun x:Addr=>x.add (l*e2))),?_,?_⟩
   .have c1:hh-l=(some (DU+hh)).getD (ρ.aR (.au id)).len-(DU+l):=by simp;omega
    have c2:(ρ.aR (.au id)).cap-DU-l=(ρ.aR (.au id)).cap-(DU+l):=om;show Value.slice _ (hh-l) ((ρ.aR (.au id)).cap-DU-l)=_;rw[c1,c2]
   .intro aC;rw[if_neg om,se om];simp only[aaC,Addr.add];split
    .rename_i h0;simp[aa2,h0]
    .simp[aa2,aaV]
  .exact h.elim
 |some mo=>
  simp only[gY,aah,aae]at N5;obtain⟨m',RD,N5⟩:=N5;cases N5;simp only[step]at h;rcases ct.1 h with⟨hc,hK⟩|⟨_,g⟩
  case inr=>
   obtain⟨l,hl,g⟩:=be.1 g;obtain⟨E,hE',g⟩:=be.1 g;obtain⟨hh,hk,g⟩:=be.1 g;obtain⟨TL,N5,g⟩:=be.1 g;rcases ct.1 g with⟨hc,hK⟩|⟨_,g⟩
   case inr=>exact g.elim
   simp only[aap,aaR]at hc;obtain⟨c1,c2,c3,c4,c5⟩:=hc;have hL:=iX hE gR hl;have hH:=iX hE xF hk;obtain⟨kd,XO⟩:=BL N5 (aP hE RD);obtain⟨ad,cap,vs,rfl,hle,WM,_⟩:=mV hM hE' hd;cases lo with
   |none=>
    simp[gY]at gR;subst gR;simp at c1
   |some DU=>
    cases hi with
    |none=>
     simp[gY]at xF;subst xF;simp at c2
    |some uN=>
     rcases hL with⟨hL,_⟩|⟨k1,hL⟩
     .simp at hL
     rcases hH with⟨hH,_⟩|⟨k2,hH⟩
     .simp at hH
     have he:P.elem t=e:=by simp[Program.elem,hu]
     have ul:P.underlying t=some (.slice (P.elem t)):=by rw[he];exact hu
     have dI:(sizeOf (P.elem t)).run P w= .ok esz w:=by rw[he];exact fk hs
     refine dO.pure hM (v:=sliced ad l hh TL esz) ?_ hK trivial;rw[hL,hH,aaC,XO,Sem.run_bind,run_sliceAt_slice _ _ _ _ _ _ ul,run_slice_lhm w t ad E.length cap ul k1 k2 kd l hh TL om om om om,dI];simp[Result.andThen]
  simp only[aap]at hc;obtain⟨⟨⟨c1,c2⟩,c3⟩,c4⟩:=hc;obtain⟨k',XO⟩:=GR c3 (aP hE RD);cases lo with
  |some l0=>
   simp only[gY,aah,aae]at gR;obtain⟨l',_,gR⟩:=gR;cases gR;simp at c1
  |none=>
   cases hi with
   |none=>
    simp[gY]at xF;subst xF;simp[DT]at c2
   |some h0=>
    simp only[gY,aah,aae]at xF;obtain⟨h',hh',xF⟩:=xF;cases xF;obtain⟨k,hhv⟩:=GR c2 (aP hE hh');have hv:∃ad len cap,v= .slice ad len cap:=by
     generalize x'.ev aY=c at hd c4;unfold KA at c4;split at c4
     .cases hd with
      |nil _ ad cap hc=>exact⟨_,_,_,rfl⟩
      |sl _ _ b off cap u hS rP bp dI hc cj=>exact⟨_,_,_,rfl⟩
     .obtain⟨_,_,_,_,_,ad,rfl,_⟩:=hd;exact⟨_,_,_,rfl⟩
     .obtain⟨ad,rfl⟩:=hd;exact⟨_,_,_,rfl⟩
     .cases c4
    obtain⟨ad,len,cap,rfl⟩:=hv;obtain⟨b,hb⟩:=OD (w:=w) hu hs ad len cap (k:=k) (k':=k');refine dO.pure hM (v:= .slice b 0 0) ?_ hK ⟨b,rfl⟩;simp only[Option.map_none,aaC,hhv,XO];rw[Sem.run_bind,hb];rfl
theorem vq(hM:aH ρ m w)(hE:bj ρ w aY a.tmps){neg:Bool}{t e:TypeId}{x:Operand}{x':X}(hu:P.underlying t=some (.slice e))(hx:bo x=some x')(h:step P (.xJ neg x') aY m K):dO P (do let v<-(do eqGuard (if neg then .neq else .eql) t x (.const (.slice none 0 0)) (a.eval x) (.slice none 0 0);binOp (if neg then .neq else .eql) t (a.eval x) (.slice none 0 0));pure (Next.value v)) ρ m w K:=by
 have hd:=aP hE hx;simp only[step]at h;generalize a.eval x=v at hd⊢;generalize x'.ev aY=c at hd h;have fS:∀(ad:Option Addr)(n cp:Nat),v= .slice ad n cp->K (ay (if neg then !ad.isNone else ad.isNone)) m->
   dO P (do let v<-(do eqGuard (if neg then .neq else .eql) t x (.const (.slice none 0 0)) v (.slice none 0 0);binOp (if neg then .neq else .eql) t v (.slice none 0 0));pure (Next.value v)) ρ m w K:=by
  intro ad n cp hv hK;subst hv;refine dO.pure hM (v:= .bool (if neg then !ad.isNone else ad.isNone)) ?_ hK (cq rfl)
  have hg:∀op,(eqGuard op t x (.const (.slice none 0 0)) (.slice ad n cp) (.slice none 0 0)).run P w= .ok () w:=fun op=>by
   cases op<;>simp[eqGuard]
  rw[Sem.run_bind,Sem.run_bind,hg];cases neg
  .simp only[Result.andThen_ok,abh,if_false,Lib.run_eql_slice_nil w t e ad n cp 0 0 hu,Sem.run_pure]
  .simp only[Result.andThen_ok,if_true,run_neq_slice_nil_any w t e ad n cp 0 0 hu,Sem.run_pure]
 have both:∀(ad:Option Addr)(n cp:Nat),v= .slice ad n cp->(K (ay true) m/\K (ay false) m)->_:=fun ad n cp hv hK=>fS ad n cp hv (by
  generalize (if neg then !ad.isNone else ad.isNone)=b
  cases b
  .exact hK.2
  .exact hK.1)
 split at h
 .rename_i e2 elems;rcases ct.1 h with⟨_,g⟩|⟨eW,g⟩
  .cases hd with
   |nil _ ad cap hc=>exact both _ _ _ rfl g
   |sl _ _ b off cap u hS rP bp dI hc cj=>exact both _ _ _ rfl g
  .cases hd with
   |nil _ ad cap hc=>simp at eW
   |sl _ _ b off cap u hS rP bp dI hc cj=>exact fS _ _ _ rfl (by cases neg<;>simpa using g)
 .rename_i id e2 lo hi;obtain⟨bk,hb,h⟩:=be.1 h;rw[aX]at hb;cases bk<;>simp only at h
  rename_i xN elems;obtain⟨h2,h3,h4,h5,qy⟩:=hM.bk id _ hb;clear qy;obtain⟨q1,q2,q3,q4,q5,ad,rfl,se⟩:=hd;rw[iu,h2]at h;rcases ct.1 h with⟨_,g⟩|⟨eW,g⟩
  .exact both _ _ _ rfl g
  .have TT:=abT eW;have:=se om;subst this;exact fS _ _ _ rfl (by cases neg<;>simpa using g)
 .obtain⟨ad,rfl⟩:=hd;exact both _ _ _ rfl h
 .exact h.elim
end
end Go.AM
