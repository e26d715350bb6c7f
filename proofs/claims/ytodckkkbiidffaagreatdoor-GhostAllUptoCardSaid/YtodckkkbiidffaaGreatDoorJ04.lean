/- Part 4 of 16. -/
import Derived.Test.YtodckkkbiidffaaGreatDoorJ02
import Derived.Test.YtodckkkbiidffaaGreatDoorJ03
import Derived.Laws.Slices
import Derived.Laws.Strings2
import Derived.WalkSpells
import Derived.Lib.SliceRun
set_option linter.unusedVariables false
set_option linter.unusedSimpArgs false
set_option maxRecDepth 100000
set_option maxHeartbeats 0
namespace Go.AM
section
variable {P:Program} {ρ:bJ} {m:Mem} {w:World} {aZ:List CV} {a:Act} {K:CV->Mem->Prop}
theorem AO{t e:TypeId}{esz:Nat}(hu:P.underlying t=some (.slice e))(hs:eN P e=some esz)(ad:Option Addr)(len cap:Nat)(oW:len<=cap){lo hi:Option Value}{l h:Nat}(ir:(lo=none/\l=0)\/∃k,lo=some (.int k (l:Int)))(yG:(hi=none/\h=len)\/∃k,hi=some (.int k (h:Int)))(h1:l<=h)(h2:h<=cap):
  (Instr.sliceAt t (.slice ad len cap) lo hi none).run P w= .ok (sliced ad l h cap esz) w:=by
 have he:P.elem t=e:=by simp[Program.elem,hu]
 have vH:P.underlying t=some (.slice (P.elem t)):=by rw[he];exact hu
 have dq:(sizeOf (P.elem t)).run P w= .ok esz w:=by rw[he];exact ft hs
 rw[run_sliceAt_slice _ _ _ _ _ _ vH];rcases ir with⟨rfl,rfl⟩|⟨k,rfl⟩<;>rcases yG with⟨rfl,rfl⟩|⟨k',rfl⟩
 .rw[run_slice_all w t ad _ cap vH,dq];rfl
 .rw[run_slice_h w t ad len cap vH k' h om om,dq];simp[Result.andThen]
 .rw[run_slice_l w t ad _ cap vH k l om om,dq];simp[Result.andThen]
 .rw[run_slice_lh w t ad len cap vH k k' l h om om om,dq];simp[Result.andThen]
theorem Qw{t e:TypeId}{esz:Nat}(hu:P.underlying t=some (.slice e))(hs:eN P e=some esz)(ad:Option Addr)(len cap:Nat){k k':IntKind}:
  ∃b,(Instr.sliceAt t (.slice ad len cap) none (some (.int k 0)) (some (.int k' 0))).run P w= .ok (.slice b 0 0) w:=by
 have he:P.elem t=e:=by simp[Program.elem,hu]
 have vH:P.underlying t=some (.slice (P.elem t)):=by rw[he];exact hu
 have dq:(sizeOf (P.elem t)).run P w= .ok esz w:=by rw[he];exact ft hs
 rw[run_sliceAt_slice _ _ _ _ _ _ vH,run_slice_hm w t ad len cap vH k k' 0 0 om om om,dq];exact⟨_,rfl⟩
theorem CP{c:CV}{v:Value}{k:Nat}(h:qS c=some k)(hd:cf ρ w c v):∃kd,v= .int kd (k:Int):=by
 unfold qS at h;split at h
 .cases h;exact⟨_,pN hd⟩
 .cases h
theorem HO{c:CV}{v:Value}(h:Zp c=true)(hd:cf ρ w c v):∃kd,v= .int kd 0:=by
 unfold Zp at h;split at h
 .have:=of_decide_eq_true h;subst this;exact⟨_,pN hd⟩
 .cases h
theorem jB(hE:bn ρ w aZ a.tmps){o:Option Operand}{o':Option X}(h:iA o=some o'){d k:Nat}(hk:lq aZ o' d=some k):
  (o.map a.eval=none/\k=d)\/∃kd,o.map a.eval=some (.int kd (k:Int)):=by
 cases o with
 |none=>
  simp[iA]at h;subst h;simp[lq]at hk;exact .inl ⟨rfl,hk.symm⟩
 |some x=>
  simp only[iA,U8,Pu]at h;obtain⟨x',hx,h⟩:=h;cases h;obtain⟨kd,hv⟩:=CP hk (aT hE hx);exact .inr ⟨kd,by simp[hv]⟩
theorem Fs(hM:aA ρ m w)(hE:bn ρ w aZ a.tmps){t:TypeId}{x:Operand}{lo hi:Option Operand}{x':X}{Ft eQ:Option X}(hu:P.underlying t=some .string)(hx:bq x=some x')(ir:iA lo=some Ft)(yG:iA hi=some eQ)(h:step P (.I6 x' Ft eQ) aZ m K):dh P (do pure (Next.value (<-Instr.sliceAt t (a.eval x) (lo.map a.eval) (hi.map a.eval) none))) ρ m w K:=by
 have hd:=aT hE hx;generalize a.eval x=v at hd|-;simp only[step]at h;generalize x'.ev aZ=c at hd h;split at h
 .rename_i s;have hv:=(bH hd).1;subst hv;obtain⟨l,hl,h⟩:=aW.1 h;obtain⟨hh,hk,h⟩:=aW.1 h;rcases cq.1 h with⟨hb,hK⟩|⟨_,g⟩
  case inr=>exact g.elim
  rw[aae,abe,abe]at hb;have hL:=jB hE ir hl;have hH:=jB hE yG hk;have cP:(Instr.sliceAt t (.string s) (lo.map a.eval) (hi.map a.eval) none).run P w= .ok (.string (s.extract l hh)) w:=by
   rw[run_sliceAt_string w t _ _ _ _ hu];rcases hL with⟨e1,rfl⟩|⟨k1,e1⟩<;>rcases hH with⟨e2,rfl⟩|⟨k2,e2⟩<;>rw[e1,e2]
   .exact run_slice_string_all w t s hu
   .rw[run_slice_string_h w t s hu k2 _ om om];simp
   .rw[run_slice_string_l w t s hu k1 _ om om];simp
   .rw[run_slice_string w t s k1 k2 _ _ hu om om om];simp
  exact dh.pure hM (by rw[Sem.run_bind,cP];rfl) hK (dj.val _ rfl)
 .exact h.elim
theorem Jm(hM:aA ρ m w)(hE:bn ρ w aZ a.tmps){t e:TypeId}{esz:Nat}{x:Operand}{lo hi mx:Option Operand}{x':X}{Ft eQ mx':Option X}(hu:P.underlying t=some (.slice e))(hs:eN P e=some esz)(hx:bq x=some x')(ir:iA lo=some Ft)(yG:iA hi=some eQ)(P3:iA mx=some mx')(h:step P (.oI esz x' Ft eQ mx') aZ m K):dh P (do pure (Next.value (<-Instr.sliceAt t (a.eval x) (lo.map a.eval) (hi.map a.eval) (mx.map a.eval)))) ρ m w K:=by
 have hd:=aT hE hx;generalize a.eval x=v at hd|-;cases mx with
 |none=>
  simp[iA]at P3;subst P3;simp only[step]at h;simp only[Option.map_none];obtain⟨l,hl,h⟩:=aW.1 h;have hL:=jB hE ir hl;generalize x'.ev aZ=c at hd h;split at h
  .rename_i e2 elems;rcases cq.1 h with⟨he,g1⟩|⟨_,g1⟩
   case inr=>exact g1.elim
   have he:e2=esz:=aau he;subst he;obtain⟨hh,hk,g2⟩:=aW.1 g1;rcases cq.1 g2 with⟨hb,hK⟩|⟨_,g3⟩
   case inr=>exact g3.elim
   rw[aae,abe,abe]at hb;have hH:=jB hE yG hk;cases hd with
   |nil _ ad cap hc=>
    simp at hb;have hz:hh=0:=om;have SJ:l=0:=om;subst hz SJ;refine dh.pure hM (by rw[Sem.run_bind,AO hu hs ad 0 cap (aav _) hL hH (Yj _) (aav _)];rfl) hK ?_
    exact dj.nil e2 _ (cap-0) om
   |sl _ _ b off cap u hS oW bg dq hc cr=>
    refine dh.pure hM (by rw[Sem.run_bind,AO hu hs _ _ cap oW hL hH hb.1 om];rfl) hK ?_
    show dj ρ.S w _ (.slice (if cap=l then _ else _) (hh-l) (cap-l))
    have hlen:((elems.take hh).drop l).length=hh-l:=by simp;omega
    rcases Nat.eq_or_lt_of_le hb.1 with rfl|aD
    .have:(elems.take l).drop l=[]:=aaq (by rw[hlen];omega)
     rw[this,ac6];exact .nil e2 _ _ om
    .rw[if_neg om];have T7:(Option.map (λx:Addr=>x.add (l*e2)) (some ⟨b,off,none⟩))=some ⟨b,off+l*e2,none⟩:=by
      simp only[aaG,Addr.add];split
      .rename_i h0;simp[h0]
      .rfl
     rw[T7,<-hlen];have get:∀(i:Nat)cs,((elems.take hh).drop l)[i]? =some cs->elems[l+i]? =some cs:=λi cs hi=>by
      rw[abi,aaS]at hi;split at hi
      .exact hi
      .cases hi
     exact dj.sl e2 _ b (off+l*e2) (cap-l) (λi j=>u (l+i) j) hS om om (λcs eL=>dq cs (abq (acI eL)))
      (λi cs j d hi hj=>by rw[<-hc (l+i) cs j d (get i cs hi) hj];congr 2;rw[abk];omega)
      (λi cs j d hi hj=>cr (l+i) cs j d (get i cs hi) hj)
  .rename_i id e2 E7 vZ;obtain⟨bk,hb,h⟩:=aW.1 h;rw[aV]at hb;cases bk<;>simp only at h
   rename_i rP elems;rcases cq.1 h with⟨he,g1⟩|⟨_,g1⟩
   case inr=>exact g1.elim
   have he:e2=esz:=aau he;subst he;obtain⟨hh,hk,g2⟩:=aW.1 g1;rcases cq.1 g2 with⟨hbb,hK⟩|⟨_,g3⟩
   case inr=>exact g3.elim
   rw[aae,abe,abe]at hbb;obtain⟨h2,h3,h4,h5,rL⟩:=hM.bk id _ hb;clear rL;rw[iW,h2]at hk;rw[h2]at hbb;have hH:=jB hE yG hk;obtain⟨q1,q2,q3,q4,q5,ad,rfl,tM⟩:=hd;have b1:vZ.getD (ρ.aI (.aj id)).len-E7<=(ρ.aI (.aj id)).cap-E7:=om;have b2:hh<=(ρ.aI (.aj id)).cap-E7:=om;refine dh.pure hM (by rw[Sem.run_bind,AO hu hs ad _ _ b1 hL hH hbb.1 b2];rfl) hK ?_
   rw[mi,mi];refine⟨q1,by simp;omega,by simp;omega,q4,q5,(if(ρ.aI (.aj id)).cap-E7=l then ad else ad.map (λx:Addr=>x.add (l*e2))),?_,?_⟩
   .have c1:hh-l=(some (E7+hh)).getD (ρ.aI (.aj id)).len-(E7+l):=by simp;omega
    have c2:(ρ.aI (.aj id)).cap-E7-l=(ρ.aI (.aj id)).cap-(E7+l):=om;show Value.slice _ (hh-l) ((ρ.aI (.aj id)).cap-E7-l)=_;rw[c1,c2]
   .intro aD;rw[if_neg om,tM om];simp only[aaG,Addr.add];split
    .rename_i h0;simp[abk,h0]
    .simp[abk,abh]
  .exact h.elim
 |some mo=>
  simp only[iA,U8,Pu]at P3;obtain⟨m',T8,P3⟩:=P3;cases P3;simp only[step]at h;rcases cq.1 h with⟨hc,hK⟩|⟨_,g⟩
  case inr=>
   obtain⟨l,hl,g⟩:=aW.1 g;obtain⟨E,hE',g⟩:=aW.1 g;obtain⟨hh,hk,g⟩:=aW.1 g;obtain⟨Wr,P3,g⟩:=aW.1 g;rcases cq.1 g with⟨hc,hK⟩|⟨_,g⟩
   case inr=>exact g.elim
   simp only[aae,abe]at hc;obtain⟨c1,c2,c3,c4,c5⟩:=hc;have hL:=jB hE ir hl;have hH:=jB hE yG hk;obtain⟨kd,hmv⟩:=CP P3 (aT hE T8);obtain⟨ad,cap,vs,rfl,hle,P4,_⟩:=nO hM hE' hd;cases lo with
   |none=>
    simp[iA]at ir;subst ir;simp at c1
   |some E7=>
    cases hi with
    |none=>
     simp[iA]at yG;subst yG;simp at c2
    |some vZ=>
     rcases hL with⟨hL,_⟩|⟨k1,hL⟩
     .simp at hL
     rcases hH with⟨hH,_⟩|⟨k2,hH⟩
     .simp at hH
     have he:P.elem t=e:=by simp[Program.elem,hu]
     have vH:P.underlying t=some (.slice (P.elem t)):=by rw[he];exact hu
     have dq:(sizeOf (P.elem t)).run P w= .ok esz w:=by rw[he];exact ft hs
     refine dh.pure hM (v:=sliced ad l hh Wr esz) ?_ hK trivial;rw[hL,hH,aaG,hmv,Sem.run_bind,run_sliceAt_slice _ _ _ _ _ _ vH,run_slice_lhm w t ad E.length cap vH k1 k2 kd l hh Wr om om om om,dq];simp[Result.andThen]
  simp only[aae]at hc;obtain⟨⟨⟨c1,c2⟩,c3⟩,c4⟩:=hc;obtain⟨k',hmv⟩:=HO c3 (aT hE T8);cases lo with
  |some l0=>
   simp only[iA,U8,Pu]at ir;obtain⟨l',_,ir⟩:=ir;cases ir;simp at c1
  |none=>
   cases hi with
   |none=>
    simp[iA]at yG;subst yG;simp[E6]at c2
   |some h0=>
    simp only[iA,U8,Pu]at yG;obtain⟨h',hh',yG⟩:=yG;cases yG;obtain⟨k,hhv⟩:=HO c2 (aT hE hh');have hv:∃ad len cap,v= .slice ad len cap:=by
     generalize x'.ev aZ=c at hd c4;unfold L9 at c4;split at c4
     .cases hd with
      |nil _ ad cap hc=>exact⟨_,_,_,rfl⟩
      |sl _ _ b off cap u hS oW bg dq hc cr=>exact⟨_,_,_,rfl⟩
     .obtain⟨_,_,_,_,_,ad,rfl,_⟩:=hd;exact⟨_,_,_,rfl⟩
     .obtain⟨ad,rfl⟩:=hd;exact⟨_,_,_,rfl⟩
     .cases c4
    obtain⟨ad,len,cap,rfl⟩:=hv;obtain⟨b,hb⟩:=Qw (w:=w) hu hs ad len cap (k:=k) (k':=k');refine dh.pure hM (v:= .slice b 0 0) ?_ hK ⟨b,rfl⟩;simp only[Option.map_none,aaG,hhv,hmv];rw[Sem.run_bind,hb];rfl
theorem wP(hM:aA ρ m w)(hE:bn ρ w aZ a.tmps){neg:Bool}{t e:TypeId}{x:Operand}{x':X}(hu:P.underlying t=some (.slice e))(hx:bq x=some x')(h:step P (.yM neg x') aZ m K):dh P (do let v<-(do eqGuard (if neg then .neq else .eql) t x (.const (.slice none 0 0)) (a.eval x) (.slice none 0 0);binOp (if neg then .neq else .eql) t (a.eval x) (.slice none 0 0));pure (Next.value v)) ρ m w K:=by
 have hd:=aT hE hx;simp only[step]at h;generalize a.eval x=v at hd|-;generalize x'.ev aZ=c at hd h;have iu:∀(ad:Option Addr)(n cp:Nat),v= .slice ad n cp->K (aF (if neg then !ad.isNone else ad.isNone)) m->
   dh P (do let v<-(do eqGuard (if neg then .neq else .eql) t x (.const (.slice none 0 0)) v (.slice none 0 0);binOp (if neg then .neq else .eql) t v (.slice none 0 0));pure (Next.value v)) ρ m w K:=by
  intro ad n cp hv hK;subst hv;refine dh.pure hM (v:= .bool (if neg then !ad.isNone else ad.isNone)) ?_ hK (cA rfl)
  have hg:∀op,(eqGuard op t x (.const (.slice none 0 0)) (.slice ad n cp) (.slice none 0 0)).run P w= .ok () w:=λop=>by
   cases op<;>simp[eqGuard]
  rw[Sem.run_bind,Sem.run_bind,hg];cases neg
  .simp only[Result.andThen_ok,abR,if_false,Lib.run_eql_slice_nil w t e ad n cp 0 0 hu,Sem.run_pure]
  .simp only[Result.andThen_ok,if_true,run_neq_slice_nil_any w t e ad n cp 0 0 hu,Sem.run_pure]
 have both:∀(ad:Option Addr)(n cp:Nat),v= .slice ad n cp->(K (aF true) m/\K (aF false) m)->_:=λad n cp hv hK=>iu ad n cp hv (by
  generalize (if neg then !ad.isNone else ad.isNone)=b
  cases b
  .exact hK.2
  .exact hK.1)
 split at h
 .rename_i e2 elems;rcases cq.1 h with⟨_,g⟩|⟨dy,g⟩
  .cases hd with
   |nil _ ad cap hc=>exact both _ _ _ rfl g
   |sl _ _ b off cap u hS oW bg dq hc cr=>exact both _ _ _ rfl g
  .cases hd with
   |nil _ ad cap hc=>simp at dy
   |sl _ _ b off cap u hS oW bg dq hc cr=>exact iu _ _ _ rfl (by cases neg<;>simpa using g)
 .rename_i id e2 lo hi;obtain⟨bk,hb,h⟩:=aW.1 h;rw[aV]at hb;cases bk<;>simp only at h
  rename_i rP elems;obtain⟨h2,h3,h4,h5,rL⟩:=hM.bk id _ hb;clear rL;obtain⟨q1,q2,q3,q4,q5,ad,rfl,tM⟩:=hd;rw[iW,h2]at h;rcases cq.1 h with⟨_,g⟩|⟨dy,g⟩
  .exact both _ _ _ rfl g
  .have Wz:=adh dy;have:=tM om;subst this;exact iu _ _ _ rfl (by cases neg<;>simpa using g)
 .obtain⟨ad,rfl⟩:=hd;exact both _ _ _ rfl h
 .exact h.elim
end
end Go.AM
