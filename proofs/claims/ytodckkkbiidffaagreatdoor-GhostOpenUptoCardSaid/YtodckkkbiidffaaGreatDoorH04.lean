/- Part 4 of 16. -/
import Derived.Test.YtodckkkbiidffaaGreatDoorH02
import Derived.Test.YtodckkkbiidffaaGreatDoorH03
import Derived.Laws.Slices
import Derived.Laws.Strings2
import Derived.WalkSpells
import Derived.Lib.SliceRun
set_option linter.unusedVariables false
set_option linter.unusedSimpArgs false
set_option maxRecDepth 100000
set_option maxHeartbeats 0
namespace Go.AM
section
variable {P:Program} {ρ:bG} {m:Mem} {w:World} {aX:List CV} {a:Act} {K:CV->Mem->Prop}
theorem Aw{t e:TypeId}{esz:Nat}(hu:P.underlying t=some (.slice e))(hs:eE P e=some esz)(ad:Option Addr)(len cap:Nat)(oI:len<=cap){lo hi:Option Value}{l h:Nat}(ia:(lo=none/\l=0)\/∃k,lo=some (.int k (l:Int)))(ye:(hi=none/\h=len)\/∃k,hi=some (.int k (h:Int)))(h1:l<=h)(h2:h<=cap):
  (Instr.sliceAt t (.slice ad len cap) lo hi none).run P w= .ok (sliced ad l h cap esz) w:=by
 have he:P.elem t=e:=by simp[Program.elem,hu]
 have va:P.underlying t=some (.slice (P.elem t)):=by rw[he];exact hu
 have dj:(sizeOf (P.elem t)).run P w= .ok esz w:=by rw[he];exact ff hs
 rw[run_sliceAt_slice _ _ _ _ _ _ va];rcases ia with⟨rfl,rfl⟩|⟨k,rfl⟩<;>rcases ye with⟨rfl,rfl⟩|⟨k',rfl⟩
 .rw[run_slice_all w t ad _ cap va,dj];rfl
 .rw[run_slice_h w t ad len cap va k' h om om,dj];simp[Result.andThen]
 .rw[run_slice_l w t ad _ cap va k l om om,dj];simp[Result.andThen]
 .rw[run_slice_lh w t ad len cap va k k' l h om om om,dj];simp[Result.andThen]
theorem PF{t e:TypeId}{esz:Nat}(hu:P.underlying t=some (.slice e))(hs:eE P e=some esz)(ad:Option Addr)(len cap:Nat){k k':IntKind}:
  ∃b,(Instr.sliceAt t (.slice ad len cap) none (some (.int k 0)) (some (.int k' 0))).run P w= .ok (.slice b 0 0) w:=by
 have he:P.elem t=e:=by simp[Program.elem,hu]
 have va:P.underlying t=some (.slice (P.elem t)):=by rw[he];exact hu
 have dj:(sizeOf (P.elem t)).run P w= .ok esz w:=by rw[he];exact ff hs
 rw[run_sliceAt_slice _ _ _ _ _ _ va,run_slice_hm w t ad len cap va k k' 0 0 om om om,dj];exact⟨_,rfl⟩
theorem Cn{c:CV}{v:Value}{k:Nat}(h:qA c=some k)(hd:bZ ρ w c v):∃kd,v= .int kd (k:Int):=by
 unfold qA at h;split at h
 .cases h;exact⟨_,px hd⟩
 .cases h
theorem He{c:CV}{v:Value}(h:Yh c=true)(hd:bZ ρ w c v):∃kd,v= .int kd 0:=by
 unfold Yh at h;split at h
 .have:=of_decide_eq_true h;subst this;exact⟨_,px hd⟩
 .cases h
theorem jn(hE:bj ρ w aX a.tmps){o:Option Operand}{o':Option X}(h:il o=some o'){d k:Nat}(hk:kU aX o' d=some k):
  (o.map a.eval=none/\k=d)\/∃kd,o.map a.eval=some (.int kd (k:Int)):=by
 cases o with
 |none=>
  simp[il]at h;subst h;simp[kU]at hk;exact .inl ⟨rfl,hk.symm⟩
 |some x=>
  simp only[il,T3,OJ]at h;obtain⟨x',hx,h⟩:=h;cases h;obtain⟨kd,hv⟩:=Cn hk (aQ hE hx);exact .inr ⟨kd,by simp[hv]⟩
theorem EM(hM:ax ρ m w)(hE:bj ρ w aX a.tmps){t:TypeId}{x:Operand}{lo hi:Option Operand}{x':X}{EN eH:Option X}(hu:P.underlying t=some .string)(hx:bn x=some x')(ia:il lo=some EN)(ye:il hi=some eH)(h:step P (.Ix x' EN eH) aX m K):db P (do pure (Next.value (<-Instr.sliceAt t (a.eval x) (lo.map a.eval) (hi.map a.eval) none))) ρ m w K:=by
 have hd:=aQ hE hx;generalize a.eval x=v at hd|-;simp only[step]at h;generalize x'.ev aX=c at hd h;split at h
 .rename_i s;have hv:=(bC hd).1;subst hv;obtain⟨l,hl,h⟩:=aV.1 h;obtain⟨hh,hk,h⟩:=aV.1 h;rcases cf.1 h with⟨hb,hK⟩|⟨_,g⟩
  case inr=>exact g.elim
  rw[aac,aaU,aaU]at hb;have hL:=jn hE ia hl;have hH:=jn hE ye hk;have cN:(Instr.sliceAt t (.string s) (lo.map a.eval) (hi.map a.eval) none).run P w= .ok (.string (s.extract l hh)) w:=by
   rw[run_sliceAt_string w t _ _ _ _ hu];rcases hL with⟨e1,rfl⟩|⟨k1,e1⟩<;>rcases hH with⟨e2,rfl⟩|⟨k2,e2⟩<;>rw[e1,e2]
   .exact run_slice_string_all w t s hu
   .rw[run_slice_string_h w t s hu k2 _ om om];simp
   .rw[run_slice_string_l w t s hu k1 _ om om];simp
   .rw[run_slice_string w t s k1 k2 _ _ hu om om om];simp
  exact db.pure hM (by rw[Sem.run_bind,cN];rfl) hK (de.val _ rfl)
 .exact h.elim
theorem IN(hM:ax ρ m w)(hE:bj ρ w aX a.tmps){t e:TypeId}{esz:Nat}{x:Operand}{lo hi mx:Option Operand}{x':X}{EN eH Zh:Option X}(hu:P.underlying t=some (.slice e))(hs:eE P e=some esz)(hx:bn x=some x')(ia:il lo=some EN)(ye:il hi=some eH)(O8:il mx=some Zh)(h:step P (.nT esz x' EN eH Zh) aX m K):db P (do pure (Next.value (<-Instr.sliceAt t (a.eval x) (lo.map a.eval) (hi.map a.eval) (mx.map a.eval)))) ρ m w K:=by
 have hd:=aQ hE hx;generalize a.eval x=v at hd|-;cases mx with
 |none=>
  simp[il]at O8;subst O8;simp only[step]at h;simp only[Option.map_none];obtain⟨l,hl,h⟩:=aV.1 h;have hL:=jn hE ia hl;generalize x'.ev aX=c at hd h;split at h
  .rename_i e2 elems;rcases cf.1 h with⟨he,g1⟩|⟨_,g1⟩
   case inr=>exact g1.elim
   have he:e2=esz:=aam he;subst he;obtain⟨hh,hk,g2⟩:=aV.1 g1;rcases cf.1 g2 with⟨hb,hK⟩|⟨_,g3⟩
   case inr=>exact g3.elim
   rw[aac,aaU,aaU]at hb;have hH:=jn hE ye hk;cases hd with
   |nil _ ad cap hc=>
    simp at hb;have hz:hh=0:=om;have Rx:l=0:=om;subst hz Rx;refine db.pure hM (by rw[Sem.run_bind,Aw hu hs ad 0 cap (aan _) hL hH (T5 _) (aan _)];rfl) hK ?_
    exact de.nil e2 _ (cap-0) om
   |sl _ _ b off cap u hS oI bc dj hc cg=>
    refine db.pure hM (by rw[Sem.run_bind,Aw hu hs _ _ cap oI hL hH hb.1 om];rfl) hK ?_
    show de ρ.S w _ (.slice (if cap=l then _ else _) (hh-l) (cap-l))
    have hlen:((elems.take hh).drop l).length=hh-l:=by simp;omega
    rcases Nat.eq_or_lt_of_le hb.1 with rfl|aD
    .have:(elems.take l).drop l=[]:=aai (by rw[hlen];omega)
     rw[this,acA];exact .nil e2 _ _ om
    .rw[if_neg om];have SX:(Option.map (λx:Addr=>x.add (l*e2)) (some ⟨b,off,none⟩))=some ⟨b,off+l*e2,none⟩:=by
      simp only[aax,Addr.add];split
      .rename_i h0;simp[h0]
      .rfl
     rw[SX,<-hlen];have get:∀(i:Nat)cs,((elems.take hh).drop l)[i]? =some cs->elems[l+i]? =some cs:=λi cs hi=>by
      rw[aaX,aaF]at hi;split at hi
      .exact hi
      .cases hi
     exact de.sl e2 _ b (off+l*e2) (cap-l) (λi j=>u (l+i) j) hS om om (λcs eC=>dj cs (aaY (aci eC)))
      (λi cs j d hi hj=>by rw[<-hc (l+i) cs j d (get i cs hi) hj];congr 2;rw[aaZ];omega)
      (λi cs j d hi hj=>cg (l+i) cs j d (get i cs hi) hj)
  .rename_i id e2 Es vy;obtain⟨bk,hb,h⟩:=aV.1 h;rw[aT]at hb;cases bk<;>simp only at h
   rename_i rx elems;rcases cf.1 h with⟨he,g1⟩|⟨_,g1⟩
   case inr=>exact g1.elim
   have he:e2=esz:=aam he;subst he;obtain⟨hh,hk,g2⟩:=aV.1 g1;rcases cf.1 g2 with⟨Zi,hK⟩|⟨_,g3⟩
   case inr=>exact g3.elim
   rw[aac,aaU,aaU]at Zi;obtain⟨h2,h3,h4,h5,rm⟩:=hM.bk id _ hb;clear rm;rw[iI,h2]at hk;rw[h2]at Zi;have hH:=jn hE ye hk;obtain⟨q1,q2,q3,q4,q5,ad,rfl,tp⟩:=hd;have b1:vy.getD (ρ.aH (.aj id)).len-Es<=(ρ.aH (.aj id)).cap-Es:=om;have b2:hh<=(ρ.aH (.aj id)).cap-Es:=om;refine db.pure hM (by rw[Sem.run_bind,Aw hu hs ad _ _ b1 hL hH Zi.1 b2];rfl) hK ?_
   rw[lU,lU];refine⟨q1,by simp;omega,by simp;omega,q4,q5,(if(ρ.aH (.aj id)).cap-Es=l then ad else ad.map (λx:Addr=>x.add (l*e2))),?_,?_⟩
   .have c1:hh-l=(some (Es+hh)).getD (ρ.aH (.aj id)).len-(Es+l):=by simp;omega
    have c2:(ρ.aH (.aj id)).cap-Es-l=(ρ.aH (.aj id)).cap-(Es+l):=om;show Value.slice _ (hh-l) ((ρ.aH (.aj id)).cap-Es-l)=_;rw[c1,c2]
   .intro aD;rw[if_neg om,tp om];simp only[aax,Addr.add];split
    .rename_i h0;simp[aaZ,h0]
    .simp[aaZ,aaW]
  .exact h.elim
 |some mo=>
  simp only[il,T3,OJ]at O8;obtain⟨m',SY,O8⟩:=O8;cases O8;simp only[step]at h;rcases cf.1 h with⟨hc,hK⟩|⟨_,g⟩
  case inr=>
   obtain⟨l,hl,g⟩:=aV.1 g;obtain⟨E,hE',g⟩:=aV.1 g;obtain⟨hh,hk,g⟩:=aV.1 g;obtain⟨Vn,O8,g⟩:=aV.1 g;rcases cf.1 g with⟨hc,hK⟩|⟨_,g⟩
   case inr=>exact g.elim
   simp only[aac,aaU]at hc;obtain⟨c1,c2,c3,c4,c5⟩:=hc;have hL:=jn hE ia hl;have hH:=jn hE ye hk;obtain⟨kd,Zj⟩:=Cn O8 (aQ hE SY);obtain⟨ad,cap,vs,rfl,hle,O9,_⟩:=nD hM hE' hd;cases lo with
   |none=>
    simp[il]at ia;subst ia;simp at c1
   |some Es=>
    cases hi with
    |none=>
     simp[il]at ye;subst ye;simp at c2
    |some vy=>
     rcases hL with⟨hL,_⟩|⟨k1,hL⟩
     .simp at hL
     rcases hH with⟨hH,_⟩|⟨k2,hH⟩
     .simp at hH
     have he:P.elem t=e:=by simp[Program.elem,hu]
     have va:P.underlying t=some (.slice (P.elem t)):=by rw[he];exact hu
     have dj:(sizeOf (P.elem t)).run P w= .ok esz w:=by rw[he];exact ff hs
     refine db.pure hM (v:=sliced ad l hh Vn esz) ?_ hK trivial;rw[hL,hH,aax,Zj,Sem.run_bind,run_sliceAt_slice _ _ _ _ _ _ va,run_slice_lhm w t ad E.length cap va k1 k2 kd l hh Vn om om om om,dj];simp[Result.andThen]
  simp only[aac]at hc;obtain⟨⟨⟨c1,c2⟩,c3⟩,c4⟩:=hc;obtain⟨k',Zj⟩:=He c3 (aQ hE SY);cases lo with
  |some l0=>
   simp only[il,T3,OJ]at ia;obtain⟨l',_,ia⟩:=ia;cases ia;simp at c1
  |none=>
   cases hi with
   |none=>
    simp[il]at ye;subst ye;simp[Er]at c2
   |some h0=>
    simp only[il,T3,OJ]at ye;obtain⟨h',hh',ye⟩:=ye;cases ye;obtain⟨k,hhv⟩:=He c2 (aQ hE hh');have hv:∃ad len cap,v= .slice ad len cap:=by
     generalize x'.ev aX=c at hd c4;unfold Lo at c4;split at c4
     .cases hd with
      |nil _ ad cap hc=>exact⟨_,_,_,rfl⟩
      |sl _ _ b off cap u hS oI bc dj hc cg=>exact⟨_,_,_,rfl⟩
     .obtain⟨_,_,_,_,_,ad,rfl,_⟩:=hd;exact⟨_,_,_,rfl⟩
     .obtain⟨ad,rfl⟩:=hd;exact⟨_,_,_,rfl⟩
     .cases c4
    obtain⟨ad,len,cap,rfl⟩:=hv;obtain⟨b,hb⟩:=PF (w:=w) hu hs ad len cap (k:=k) (k':=k');refine db.pure hM (v:= .slice b 0 0) ?_ hK ⟨b,rfl⟩;simp only[Option.map_none,aax,hhv,Zj];rw[Sem.run_bind,hb];rfl
theorem wm(hM:ax ρ m w)(hE:bj ρ w aX a.tmps){neg:Bool}{t e:TypeId}{x:Operand}{x':X}(hu:P.underlying t=some (.slice e))(hx:bn x=some x')(h:step P (.yj neg x') aX m K):db P (do let v<-(do eqGuard (if neg then .neq else .eql) t x (.const (.slice none 0 0)) (a.eval x) (.slice none 0 0);binOp (if neg then .neq else .eql) t (a.eval x) (.slice none 0 0));pure (Next.value v)) ρ m w K:=by
 have hd:=aQ hE hx;simp only[step]at h;generalize a.eval x=v at hd|-;generalize x'.ev aX=c at hd h;have ib:∀(ad:Option Addr)(n cp:Nat),v= .slice ad n cp->K (aE (if neg then !ad.isNone else ad.isNone)) m->
   db P (do let v<-(do eqGuard (if neg then .neq else .eql) t x (.const (.slice none 0 0)) v (.slice none 0 0);binOp (if neg then .neq else .eql) t v (.slice none 0 0));pure (Next.value v)) ρ m w K:=by
  intro ad n cp hv hK;subst hv;refine db.pure hM (v:= .bool (if neg then !ad.isNone else ad.isNone)) ?_ hK (cz rfl)
  have hg:∀op,(eqGuard op t x (.const (.slice none 0 0)) (.slice ad n cp) (.slice none 0 0)).run P w= .ok () w:=λop=>by
   cases op<;>simp[eqGuard]
  rw[Sem.run_bind,Sem.run_bind,hg];cases neg
  .simp only[Result.andThen_ok,ab0,if_false,Lib.run_eql_slice_nil w t e ad n cp 0 0 hu,Sem.run_pure]
  .simp only[Result.andThen_ok,if_true,run_neq_slice_nil_any w t e ad n cp 0 0 hu,Sem.run_pure]
 have both:∀(ad:Option Addr)(n cp:Nat),v= .slice ad n cp->(K (aE true) m/\K (aE false) m)->_:=λad n cp hv hK=>ib ad n cp hv (by
  generalize (if neg then !ad.isNone else ad.isNone)=b
  cases b
  .exact hK.2
  .exact hK.1)
 split at h
 .rename_i e2 elems;rcases cf.1 h with⟨_,g⟩|⟨du,g⟩
  .cases hd with
   |nil _ ad cap hc=>exact both _ _ _ rfl g
   |sl _ _ b off cap u hS oI bc dj hc cg=>exact both _ _ _ rfl g
  .cases hd with
   |nil _ ad cap hc=>simp at du
   |sl _ _ b off cap u hS oI bc dj hc cg=>exact ib _ _ _ rfl (by cases neg<;>simpa using g)
 .rename_i id e2 lo hi;obtain⟨bk,hb,h⟩:=aV.1 h;rw[aT]at hb;cases bk<;>simp only at h
  rename_i rx elems;obtain⟨h2,h3,h4,h5,rm⟩:=hM.bk id _ hb;clear rm;obtain⟨q1,q2,q3,q4,q5,ad,rfl,tp⟩:=hd;rw[iI,h2]at h;rcases cf.1 h with⟨_,g⟩|⟨du,g⟩
  .exact both _ _ _ rfl g
  .have Vu:=acG du;have:=tp om;subst this;exact ib _ _ _ rfl (by cases neg<;>simpa using g)
 .obtain⟨ad,rfl⟩:=hd;exact both _ _ _ rfl h
 .exact h.elim
end
end Go.AM
