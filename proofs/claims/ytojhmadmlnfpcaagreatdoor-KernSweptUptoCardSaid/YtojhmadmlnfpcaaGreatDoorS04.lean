/- Part 4 of 18. -/
import Derived.Test.YtojhmadmlnfpcaaGreatDoorS02
import Derived.Test.YtojhmadmlnfpcaaGreatDoorS03
import Derived.Laws.Slices
import Derived.Laws.Strings2
import Derived.WalkSpells
import Derived.Lib.SliceRun
set_option linter.unusedVariables false
set_option linter.unusedSimpArgs false
set_option linter.unnecessarySimpa false
set_option maxRecDepth 100000
set_option maxHeartbeats 0
namespace Go.AM
section
variable {P:Program} {ρ:bQ} {m:Mem} {w:World} {a8:List CV} {a:Act} {K:CV->Mem->Prop}
theorem zi{t e:TypeId}{esz:Nat}(hu:P.underlying t=some (.slice e))(hs:eL P e=some esz)(ad:Option Addr)(len cap:Nat)(rP:len<=cap){lo hi:Option Value}{l h:Nat}(ic:(lo=none/\l=0)\/∃k,lo=some (.int k (l:Int)))(zj:(hi=none/\h=len)\/∃k,hi=some (.int k (h:Int)))(h1:l<=h)(h2:h<=cap):
  (Instr.sliceAt t (.slice ad len cap) lo hi none).run P w= .ok (sliced ad l h cap esz) w:=by
 have he:P.elem t=e:=by simp[Program.elem,hu]
 have ud:P.underlying t=some (.slice (P.elem t)):=by rw[he];exact hu
 have dN:(sizeOf (P.elem t)).run P w= .ok esz w:=by rw[he];exact fq hs
 rw[run_sliceAt_slice _ _ _ _ _ _ ud];rcases ic with⟨rfl,rfl⟩|⟨k,rfl⟩<;>rcases zj with⟨rfl,rfl⟩|⟨k',rfl⟩
 .rw[run_slice_all w t ad _ cap ud,dN];rfl
 .rw[run_slice_h w t ad len cap ud k' h om om,dN];simp[Result.andThen]
 .rw[run_slice_l w t ad _ cap ud k l om om,dN];simp[Result.andThen]
 .rw[run_slice_lh w t ad len cap ud k k' l h om om om,dN];simp[Result.andThen]
theorem Oo{t e:TypeId}{esz:Nat}(hu:P.underlying t=some (.slice e))(hs:eL P e=some esz)(ad:Option Addr)(len cap:Nat){k k':IntKind}:
  ∃b,(Instr.sliceAt t (.slice ad len cap) none (some (.int k 0)) (some (.int k' 0))).run P w= .ok (.slice b 0 0) w:=by
 have he:P.elem t=e:=by simp[Program.elem,hu]
 have ud:P.underlying t=some (.slice (P.elem t)):=by rw[he];exact hu
 have dN:(sizeOf (P.elem t)).run P w= .ok esz w:=by rw[he];exact fq hs
 rw[run_sliceAt_slice _ _ _ _ _ _ ud,run_slice_hm w t ad len cap ud k k' 0 0 om om om,dN];exact⟨_,rfl⟩
theorem Bg{c:CV}{v:Value}{k:Nat}(h:nR c=some k)(hd:cm ρ w c v):∃kd,v= .int kd (k:Int):=by
 unfold nR at h;split at h
 .cases h;exact⟨_,oS hd⟩
 .cases h
theorem Gc{c:CV}{v:Value}(h:Xy c=true)(hd:cm ρ w c v):∃kd,v= .int kd 0:=by
 unfold Xy at h;split at h
 .have:=of_decide_eq_true h;subst this;exact⟨_,oS hd⟩
 .cases h
theorem iR(hE:bm ρ w a8 a.tmps){o:Option Operand}{o':Option X}(h:gW o=some o'){d k:Nat}(hk:kF a8 o' d=some k):
  (o.map a.eval=none/\k=d)\/∃kd,o.map a.eval=some (.int kd (k:Int)):=by
 cases o with
 |none=>
  simp[gW]at h;subst h;simp[kF]at hk;exact .inl ⟨rfl,hk.symm⟩
 |some x=>
  simp only[gW,SR,Q6]at h;obtain⟨x',hx,h⟩:=h;cases h;obtain⟨kd,hv⟩:=Bg hk (aR hE hx);exact .inr ⟨kd,by simp[hv]⟩
theorem DJ(hM:aL ρ m w)(hE:bm ρ w a8 a.tmps){t:TypeId}{x:Operand}{lo hi:Option Operand}{x':X}{DK eu:Option X}(hu:P.underlying t=some .string)(hx:bt x=some x')(ic:gW lo=some DK)(zj:gW hi=some eu)(h:step P (.Hu x' DK eu) a8 m K):dI P (do pure (Next.value (<-Instr.sliceAt t (a.eval x) (lo.map a.eval) (hi.map a.eval) none))) ρ m w K:=by
 have hd:=aR hE hx;generalize a.eval x=v at hd⊢;simp only[step]at h;generalize x'.ev a8=c at hd h;split at h
 .rename_i s;have hv:=(bS hd).1;subst hv;obtain⟨l,hl,h⟩:=bh.1 h;obtain⟨hh,hk,h⟩:=bh.1 h;rcases cE.1 h with⟨hb,hK⟩|⟨_,g⟩
  case inr=>exact g.elim
  rw[ZM,abr,abr]at hb;have hL:=iR hE ic hl;have hH:=iR hE zj hk;have dO:(Instr.sliceAt t (.string s) (lo.map a.eval) (hi.map a.eval) none).run P w= .ok (.string (s.extract l hh)) w:=by
   rw[run_sliceAt_string w t _ _ _ _ hu];rcases hL with⟨e1,rfl⟩|⟨k1,e1⟩<;>rcases hH with⟨e2,rfl⟩|⟨k2,e2⟩<;>rw[e1,e2]
   .exact run_slice_string_all w t s hu
   .rw[run_slice_string_h w t s hu k2 _ om om];simp
   .rw[run_slice_string_l w t s hu k1 _ om om];simp
   .rw[run_slice_string w t s k1 k2 _ _ hu om om om];simp
  exact dI.pure hM (by rw[Sem.run_bind,dO];rfl) hK (dv.val _ rfl)
 .exact h.elim
theorem HL(hM:aL ρ m w)(hE:bm ρ w a8 a.tmps){t e:TypeId}{esz:Nat}{x:Operand}{lo hi mx:Option Operand}{x':X}{DK eu Yx:Option X}(hu:P.underlying t=some (.slice e))(hs:eL P e=some esz)(hx:bt x=some x')(ic:gW lo=some DK)(zj:gW hi=some eu)(NW:gW mx=some Yx)(h:step P (.nh esz x' DK eu Yx) a8 m K):dI P (do pure (Next.value (<-Instr.sliceAt t (a.eval x) (lo.map a.eval) (hi.map a.eval) (mx.map a.eval)))) ρ m w K:=by
 have hd:=aR hE hx;generalize a.eval x=v at hd⊢;cases mx with
 |none=>
  simp[gW]at NW;subst NW;simp only[step]at h;simp only[Option.map_none];obtain⟨l,hl,h⟩:=bh.1 h;have hL:=iR hE ic hl;generalize x'.ev a8=c at hd h;split at h
  .rename_i e2 elems;rcases cE.1 h with⟨he,g1⟩|⟨_,g1⟩
   case inr=>exact g1.elim
   have he:e2=esz:=Z2 he;subst he;obtain⟨hh,hk,g2⟩:=bh.1 g1;rcases cE.1 g2 with⟨hb,hK⟩|⟨_,g3⟩
   case inr=>exact g3.elim
   rw[ZM,abr,abr]at hb;have hH:=iR hE zj hk;cases hd with
   |nil _ ad cap hc=>
    simp at hb;have hz:hh=0:=om;have UW:l=0:=om;subst hz UW;refine dI.pure hM (by rw[Sem.run_bind,zi hu hs ad 0 cap (Wi _) hL hH (SS _) (Wi _)];rfl) hK ?_
    exact dv.nil e2 _ (cap-0) om
   |sl _ _ b off cap u hS rP bq dN hc cw=>
    refine dI.pure hM (by rw[Sem.run_bind,zi hu hs _ _ cap rP hL hH hb.1 om];rfl) hK ?_
    show dv ρ.S w _ (.slice (if cap=l then _ else _) (hh-l) (cap-l))
    have hlen:((elems.take hh).drop l).length=hh-l:=by simp;omega
    rcases Nat.eq_or_lt_of_le hb.1 with rfl|aB
    .have:(elems.take l).drop l=[]:=Z1 (by rw[hlen];omega)
     rw[this,acH];exact .nil e2 _ _ om
    .rw[if_neg om];have RL:(Option.map (fun x:Addr=>x.add (l*e2)) (some ⟨b,off,none⟩))=some ⟨b,off+l*e2,none⟩:=by
      simp only[aaG,Addr.add];split
      .rename_i h0;simp[h0]
      .rfl
     rw[RL,<-hlen];have get:∀(i:Nat)cs,((elems.take hh).drop l)[i]? =some cs->elems[l+i]? =some cs:=fun i cs hi=>by
      rw[abG,abm]at hi;split at hi
      .exact hi
      .cases hi
     exact dv.sl e2 _ b (off+l*e2) (cap-l) (fun i j=>u (l+i) j) hS om om (fun cs eJ=>dN cs (abC (ace eJ)))
      (fun i cs j d hi hj=>by rw[<-hc (l+i) cs j d (get i cs hi) hj];congr 2;rw[abE];omega)
      (fun i cs j d hi hj=>cw (l+i) cs j d (get i cs hi) hj)
  .rename_i id e2 Dl uy;obtain⟨bk,hb,h⟩:=bh.1 h;rw[aZ]at hb;cases bk<;>simp only at h
   rename_i xf elems;rcases cE.1 h with⟨he,g1⟩|⟨_,g1⟩
   case inr=>exact g1.elim
   have he:e2=esz:=Z2 he;subst he;obtain⟨hh,hk,g2⟩:=bh.1 g1;rcases cE.1 g2 with⟨Yy,hK⟩|⟨_,g3⟩
   case inr=>exact g3.elim
   rw[ZM,abr,abr]at Yy;obtain⟨h2,h3,h4,h5,qC⟩:=hM.bk id _ hb;clear qC;rw[io,h2]at hk;rw[h2]at Yy;have hH:=iR hE zj hk;obtain⟨q1,q2,q3,q4,q5,ad,rfl,sa⟩:=hd;have b1:uy.getD (ρ.aV (.ar id)).len-Dl<=(ρ.aV (.ar id)).cap-Dl:=om;have b2:hh<=(ρ.aV (.ar id)).cap-Dl:=om;refine dI.pure hM (by rw[Sem.run_bind,zi hu hs ad _ _ b1 hL hH Yy.1 b2];rfl) hK ?_
   rw[lw,lw];refine⟨q1,by simp;omega,by simp;omega,q4,q5,(if(ρ.aV (.ar id)).cap-Dl=l then ad else ad.map (fun x:Addr=>x.add (l*e2))),?_,?_⟩
   .have c1:hh-l=(some (Dl+hh)).getD (ρ.aV (.ar id)).len-(Dl+l):=by simp;omega
    have c2:(ρ.aV (.ar id)).cap-Dl-l=(ρ.aV (.ar id)).cap-(Dl+l):=om;show Value.slice _ (hh-l) ((ρ.aV (.ar id)).cap-Dl-l)=_;rw[c1,c2]
   .intro aB;rw[if_neg om,sa om];simp only[aaG,Addr.add];split
    .rename_i h0;simp[abE,h0]
    .simp[abE,abA]
  .exact h.elim
 |some mo=>
  simp only[gW,SR,Q6]at NW;obtain⟨m',RM,NW⟩:=NW;cases NW;simp only[step]at h;rcases cE.1 h with⟨hc,hK⟩|⟨_,g⟩
  case inr=>
   obtain⟨l,hl,g⟩:=bh.1 g;obtain⟨E,hE',g⟩:=bh.1 g;obtain⟨hh,hk,g⟩:=bh.1 g;obtain⟨Ut,NW,g⟩:=bh.1 g;rcases cE.1 g with⟨hc,hK⟩|⟨_,g⟩
   case inr=>exact g.elim
   simp only[ZM,abr]at hc;obtain⟨c1,c2,c3,c4,c5⟩:=hc;have hL:=iR hE ic hl;have hH:=iR hE zj hk;obtain⟨kd,Yz⟩:=Bg NW (aR hE RM);obtain⟨ad,cap,vs,rfl,hle,XB,_⟩:=mQ hM hE' hd;cases lo with
   |none=>
    simp[gW]at ic;subst ic;simp at c1
   |some Dl=>
    cases hi with
    |none=>
     simp[gW]at zj;subst zj;simp at c2
    |some uy=>
     rcases hL with⟨hL,_⟩|⟨k1,hL⟩
     .simp at hL
     rcases hH with⟨hH,_⟩|⟨k2,hH⟩
     .simp at hH
     have he:P.elem t=e:=by simp[Program.elem,hu]
     have ud:P.underlying t=some (.slice (P.elem t)):=by rw[he];exact hu
     have dN:(sizeOf (P.elem t)).run P w= .ok esz w:=by rw[he];exact fq hs
     refine dI.pure hM (v:=sliced ad l hh Ut esz) ?_ hK trivial;rw[hL,hH,aaG,Yz,Sem.run_bind,run_sliceAt_slice _ _ _ _ _ _ ud,run_slice_lhm w t ad E.length cap ud k1 k2 kd l hh Ut om om om om,dN];simp[Result.andThen]
  simp only[ZM]at hc;obtain⟨⟨⟨c1,c2⟩,c3⟩,c4⟩:=hc;obtain⟨k',Yz⟩:=Gc c3 (aR hE RM);cases lo with
  |some l0=>
   simp only[gW,SR,Q6]at ic;obtain⟨l',_,ic⟩:=ic;cases ic;simp at c1
  |none=>
   cases hi with
   |none=>
    simp[gW]at zj;subst zj;simp[Dk]at c2
   |some h0=>
    simp only[gW,SR,Q6]at zj;obtain⟨h',hh',zj⟩:=zj;cases zj;obtain⟨k,hhv⟩:=Gc c2 (aR hE hh');have hv:∃ad len cap,v= .slice ad len cap:=by
     generalize x'.ev a8=c at hd c4;unfold Kc at c4;split at c4
     .cases hd with
      |nil _ ad cap hc=>exact⟨_,_,_,rfl⟩
      |sl _ _ b off cap u hS rP bq dN hc cw=>exact⟨_,_,_,rfl⟩
     .obtain⟨_,_,_,_,_,ad,rfl,_⟩:=hd;exact⟨_,_,_,rfl⟩
     .obtain⟨ad,rfl⟩:=hd;exact⟨_,_,_,rfl⟩
     .cases c4
    obtain⟨ad,len,cap,rfl⟩:=hv;obtain⟨b,hb⟩:=Oo (w:=w) hu hs ad len cap (k:=k) (k':=k');refine dI.pure hM (v:= .slice b 0 0) ?_ hK ⟨b,rfl⟩;simp only[Option.map_none,aaG,hhv,Yz];rw[Sem.run_bind,hb];rfl
theorem ve(hM:aL ρ m w)(hE:bm ρ w a8 a.tmps){neg:Bool}{t e:TypeId}{x:Operand}{x':X}(hu:P.underlying t=some (.slice e))(hx:bt x=some x')(h:step P (.xb neg x') a8 m K):dI P (do let v<-(do eqGuard (if neg then .neq else .eql) t x (.const (.slice none 0 0)) (a.eval x) (.slice none 0 0);binOp (if neg then .neq else .eql) t (a.eval x) (.slice none 0 0));pure (Next.value v)) ρ m w K:=by
 have hd:=aR hE hx;simp only[step]at h;generalize a.eval x=v at hd⊢;generalize x'.ev a8=c at hd h;have iC:∀(ad:Option Addr)(n cp:Nat),v= .slice ad n cp->K (ax (if neg then !ad.isNone else ad.isNone)) m->
   dI P (do let v<-(do eqGuard (if neg then .neq else .eql) t x (.const (.slice none 0 0)) v (.slice none 0 0);binOp (if neg then .neq else .eql) t v (.slice none 0 0));pure (Next.value v)) ρ m w K:=by
  intro ad n cp hv hK;subst hv;refine dI.pure hM (v:= .bool (if neg then !ad.isNone else ad.isNone)) ?_ hK (cA rfl)
  have hg:∀op,(eqGuard op t x (.const (.slice none 0 0)) (.slice ad n cp) (.slice none 0 0)).run P w= .ok () w:=fun op=>by
   cases op<;>simp[eqGuard]
  rw[Sem.run_bind,Sem.run_bind,hg];cases neg
  .simp only[Result.andThen_ok,abV,if_false,Lib.run_eql_slice_nil w t e ad n cp 0 0 hu,Sem.run_pure]
  .simp only[Result.andThen_ok,if_true,run_neq_slice_nil_any w t e ad n cp 0 0 hu,Sem.run_pure]
 have both:∀(ad:Option Addr)(n cp:Nat),v= .slice ad n cp->(K (ax true) m/\K (ax false) m)->_:=fun ad n cp hv hK=>iC ad n cp hv (by
  generalize (if neg then !ad.isNone else ad.isNone)=b
  cases b
  .exact hK.2
  .exact hK.1)
 split at h
 .rename_i e2 elems;rcases cE.1 h with⟨_,g⟩|⟨fc,g⟩
  .cases hd with
   |nil _ ad cap hc=>exact both _ _ _ rfl g
   |sl _ _ b off cap u hS rP bq dN hc cw=>exact both _ _ _ rfl g
  .cases hd with
   |nil _ ad cap hc=>simp at fc
   |sl _ _ b off cap u hS rP bq dN hc cw=>exact iC _ _ _ rfl (by cases neg<;>simpa using g)
 .rename_i id e2 lo hi;obtain⟨bk,hb,h⟩:=bh.1 h;rw[aZ]at hb;cases bk<;>simp only at h
  rename_i xf elems;obtain⟨h2,h3,h4,h5,qC⟩:=hM.bk id _ hb;clear qC;obtain⟨q1,q2,q3,q4,q5,ad,rfl,sa⟩:=hd;rw[io,h2]at h;rcases cE.1 h with⟨_,g⟩|⟨fc,g⟩
  .exact both _ _ _ rfl g
  .have UA:=acx fc;have:=sa om;subst this;exact iC _ _ _ rfl (by cases neg<;>simpa using g)
 .obtain⟨ad,rfl⟩:=hd;exact both _ _ _ rfl h
 .exact h.elim
end
end Go.AM
