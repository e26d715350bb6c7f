/- Part 8 of 39: what the law stands on. -/
import Derived.Test.YtodckkkbiidffaaGreatDoorT05
import Derived.Test.YtodckkkbiidffaaGreatDoorT06
import Derived.Test.YtodckkkbiidffaaGreatDoorT07
set_option linter.unusedVariables false
set_option linter.unusedSimpArgs false
set_option linter.unnecessarySimpa false
set_option maxRecDepth 100000
set_option maxHeartbeats 64000000
namespace Go.AM
section
variable {P:Program} {ρ:bG} {m:Mem} {w:World} {aV:List CV} {a:Act} {K:CV->Mem->Prop}
theorem tz{α:Type}{l:List α}{h:Nat}{E:List α}(hle:h+E.length<=l.length):(cF l h E).length=l.length:=by simp[cF];omega
theorem ol{α:Type}{l:List α}{h:Nat}{E:List α}(hle:h+E.length<=l.length)(i:Nat):(cF l h E)[i]? =if h<=i/\i<h+E.length then E[i-h]? else l[i]? :=by
 have hl:(l.take h).length=h:=by simp;omega
 simp only[cF];rcases Wj i h with h1|h1
 .rw[Tz om,if_neg om,aaj,if_pos h1]
 .rw[SF om,hl];rcases Wj (i-h) E.length with h2|h2
  .rw[Tz h2,if_pos om]
  .rw[SF h2,if_neg om,aat];congr 1;omega
theorem bq.H2{c:CC}{v:Value}{pos:Option (Nat×Nat×Nat)}(hc:c.gS=true)(h:bq ρ w pos c v):bq ρ w .none c v:=by
 cases c<;>first|exact h|simp[CC.gS]at hc
theorem qt(hM:aA ρ m w){id esz h:Nat}{rows E:List (List CC)}{vs:List Value}(hb:m[id]? =some (.row esz rows))(hle:h+E.length<=rows.length)(dd:0<rows.length)(hE:∀cs,cs∈E->cs.length=esz)(vg:vs.length=E.length*esz)(UU:∀u,u∈vs->u.oneCell'=true)(bY:∀(i:Nat)cs(j:Nat)c,E[i]? =some cs->cs[j]? =some c->∃u,vs[i*esz+j]? =some u/\bq ρ w .none c u):
  ∃w',(storeCells ⟨(ρ.aP (.ap id)).b,(ρ.aP (.ap id)).au+h*esz,none⟩ vs).run P w= .ok () w'/\aA ρ (m.set id (.row esz (cF rows h E))) w'/\Ext ρ m w ρ (m.set id (.row esz (cF rows h E))) w':=by
 have hid:id<m.length:=(Gf.1 hb).1;obtain⟨h2,h3,h4,h5,yH⟩:=hM.bk id _ hb;have bl:0<(ρ.aP (.ap id)).cap:=om;obtain⟨cur,bS,h1,hd⟩:=yH bl;have hmul:(h+E.length)*esz<=(ρ.aP (.ap id)).cap*esz:=aag _ om;rw[aas]at hmul;obtain⟨w',fH,hr,oX,ht,dn,hk⟩:=lF (P:=P) (ρ.aP (.ap id)).b ((ρ.aP (.ap id)).au+h*esz) vs 0 cur w bS (by rw[vg];omega) UU
 obtain⟨kJ,hX⟩:=hM.Ol (Bt:= .row esz (cF rows h E)) hb ⟨_,hb,aI,fun _=>bl⟩ ht (fun g=>⟨by rw[tz hle];exact h2,h3,h4,fun cs eY=>by
   obtain⟨i,hi⟩:=Un eY;rw[ol hle]at hi;split at hi
   .exact hE cs (NQ hi)
   .exact h5 cs (NQ hi),fun _=>⟨fH,oX,by rw[dn];exact h1,fun i cs j c hi hj=>by
  rw[hk];rw[ol hle]at hi;have lG:j<esz:=by
   have gT:cs.length=esz:=by
    split at hi
    .exact hE cs (NQ hi)
    .exact h5 cs (NQ hi)
   rw[<-gT];exact(Gf.1 hj).1
  split at hi
  .rename_i jx;obtain⟨u,hu,b8⟩:=bY _ cs j c hi hj;have e1:i*esz=h*esz+(i-h)*esz:=by rw[<-aas];congr 1;omega
   have aE:=(Gf.1 hu).1;rw[if_pos om];refine⟨u,?_,(b8.cE g aI).ti _⟩;rw[<-hu];congr 1;omega
  .rename_i jx;obtain⟨u,hu,b8⟩:=hd i cs j c hi hj;have eG:¬((ρ.aP (.ap id)).au+h*esz+0<=(ρ.aP (.ap id)).au+i*esz+j/\(ρ.aP (.ap id)).au+i*esz+j<(ρ.aP (.ap id)).au+h*esz+0+vs.length):=by
    rw[vg];rcases Wj i h with q|q
    .have:(i+1)*esz<=h*esz:=aag _ q;rw[aas,aaY]at this;omega
    .have:(h+E.length)*esz<=i*esz:=aag _ om;rw[aas]at this;omega
   rw[if_neg eG];exact⟨u,hu,b8.cE g (by rintro _ _ _ e;cases e;rw[hM.n];exact hid)⟩⟩⟩) (by
  rintro i' j' u9 e ⟨es,Nf,HP,mL,d5,jm⟩;rw[Pr hid]at mL;cases mL;rw[ol hle]at d5;split at d5
  .obtain⟨u,hu,b8⟩:=bY _ _ _ _ d5 jm;exact absurd rfl (b8.xb _ _)
  .exact⟨esz,rows,HP,hb,d5,jm⟩)
 exact⟨w',hr,kJ,hX⟩
theorem tC:∀{cs:List CC},oa cs=true->∀c,c∈cs->c.gS=true
 | [],_,c,h=>by simp at h
 |x::r,h,c,hc=>by
  simp only[oa,SD]at h;rcases aaf.1 hc with rfl|hc
  .exact h.1
  .exact tC h.2 c hc
theorem nP:∀{E:List (List CC)},eN E=true->∀cs,cs∈E->oa cs=true
 | [],_,c,h=>by simp at h
 |x::r,h,c,hc=>by
  simp only[eN,SD]at h;rcases aaf.1 hc with rfl|hc
  .exact h.1
  .exact nP h.2 c hc
theorem nR{E:List (List CC)}(h:eN E=true){i j:Nat}{cs:List CC}{c:CC}(hi:E[i]? =some cs)(hj:cs[j]? =some c):c.gS=true:=
 tC (nP h cs (NQ hi)) c (NQ hj)
theorem zf(hM:aA ρ m w){t t2 ty e e2:TypeId}{i:TypeInfo}{z:List CC}{v v2:Value}{c2:CV}{id h:Nat}{rows E2:List (List CC)}(ht:P.underlying t=some (.slice e))(tp:P.underlying t2=some (.slice e2))(hi:P.info? e=some i)(hz:dB P e=some z)(dn:i.size=z.length)(hb:0<i.bytes)(hd:bV ρ w (.rv (.one (.row id i.size 0 (some h)))) v)(nM:bV ρ w c2 v2)(eO:m[id]? =some (.row i.size rows))(A8:eK m i.size c2=some E2)(dd:0<rows.length)(hle:h+E2.length<=rows.length)(iH:eN E2=true)(iX:rows.length*i.bytes<=140737488355328)(hK:K (.rv (.one (.row id i.size 0 (some (h+E2.length))))) (m.set id (.row i.size (cF rows h E2)))):
  di P (do pure (Next.value (<-Builtin.append_ #[t,t2] ty #[v,v2]))) ρ m w K:=by
 have hid:id<m.length:=(Gf.1 eO).1;have xi:eK m i.size (.rv (.one (.row id i.size 0 (some h))))=some (cu rows 0 (some h)):=by simp[eK,aU,eO]
 obtain⟨Lg,iY,P7,BJ,QY,Lh,F1⟩:=lH hM xi hd;obtain⟨Xq,HW,HX,xj,QZ,Q0,F2⟩:=lH hM A8 nM;have A6:=hz;simp only[dB,N7,Jm]at A6;obtain⟨i',dP,zv,Li,Le⟩:=A6;rw[hi]at dP;cases dP;have Re:(cu rows 0 (some h)).length=h:=by rw[ke];simp;omega
 rw[Re]at BJ QY;have Rf:(h+E2.length)*i.bytes<=140737488355328:=aaP (aag _ hle) iX;have dq:=mO (P:=P) (w:=w) (ty:=ty) ht tp hi Li (a0:=Lg) (n1:=h) (c1:=iY) (n2:=E2.length) (src:=v2) (olds:=P7) (news:=HX)
  (by rw[xj];rfl) (fun k=>by rw[xj];exact F2.firstCells HW k) (fun k=>by have:=F1.firstCells (P:=P) iY k;rwa [Re]at this) hb Rf
 obtain⟨r2,r3,r4,r5,Fo⟩:=hM.bk id _ eO;obtain⟨aE,d1,d2,d3,d4,ad,Ll,sj⟩:=hd;rw[Ll]at BJ;injection BJ with q1 q2 q3
 simp only[aa9]at q3;have Bv:h+E2.length<=iY:=by rw[<-q3];clear Fo;omega
 have qp:=sj (by clear Fo;omega)
 rw[if_pos Bv]at dq;obtain⟨w',yI,kJ,hX⟩:=qt (P:=P) hM (h:=h) (E:=E2) (vs:=HX) eO hle dd F2.jR F2.len F2.one (fun k cs j c hk hj=>by obtain⟨u,hu,b8⟩:=F2.jP k cs j c hk hj;exact⟨u,hu,b8.H2 (nR iH hk hj)⟩)
 refine⟨.value (.slice Lg (h+E2.length) iY),_,w',.rv (.one (.row id i.size 0 (some (h+E2.length)))),_,ρ,?_,.inl rfl,hK,kJ,?_,hX⟩
 .rw[Ll,q1,q2,show(ρ.aP (.ap id)).cap-0=iY by simpa using q3,Sem.run_bind,dq]
  rw[<-q1,qp];simp only[vL,kI,Nat.zero_mul,abC];rw[yI];rfl
 .refine⟨aE,Wi _,?_,d3,d4,Lg,?_,fun h0=>by rw[<-q1];exact sj h0⟩
  .show h+E2.length<=_;clear Fo;omega
  .simp only[aax,aa9];rw[q3]
theorem zg(hM:aA ρ m w){t ty e:TypeId}{i:TypeInfo}{z:List CC}{v:Value}{id lo hi:Nat}{rows:List (List CC)}(ht:P.underlying t=some (.slice e))(dP:P.info? e=some i)(hz:dB P e=some z)(dn:i.size=z.length)(hd:bV ρ w (.rv (.one (.row id i.size lo (some hi)))) v)(eO:m[id]? =some (.row i.size rows))(gx:lo<hi)(hle:hi<=rows.length)(hK:K (.bF []) (m.set id (.row i.size (cF rows lo (fC (hi-lo) z))))):
  di P (do pure (Next.value (<-Builtin.clear_ #[t] ty #[v]))) ρ m w K:=by
 have hid:id<m.length:=(Gf.1 eO).1;have A6:=hz;simp only[dB,N7,Jm]at A6;obtain⟨i',d5,zv,Li,Le⟩:=A6;rw[dP]at d5;cases d5;obtain⟨UR,Ow⟩:=ep (ρ:=ρ) (w:=w) Le;have KO:zv.cells.size=z.length:=by simpa using UR
 obtain⟨r2,r3,r4,r5,Fo⟩:=hM.bk id _ eO;obtain⟨aE,d1,d2,d3,d4,ad,Ll,sj⟩:=hd;have qp:=sj (by clear Fo;omega)
 have Xx:(fC (hi-lo) z).length=hi-lo:=by rw[fb];simp
 obtain⟨w',yI,kJ,hX⟩:=qt (P:=P) hM (h:=lo) (E:=fC (hi-lo) z) (vs:=(Builtin.zeroCells zv.cells (hi-lo)).toList) eO (by rw[Xx];omega) om
  (fun cs eY=>by rw[fb]at eY;rw[aba eY,dn]) (by rw[Xx,aaZ,size_zeroCells,KO,dn])
  (fun u hu=>by
   rw[abT]at hu;simp only[Builtin.zeroCells,Array.mem_map]at hu;obtain⟨k,hk,rfl⟩:=hu;have hk:k<(hi-lo)*zv.cells.size:=by simpa using hk
   have YX:0<zv.cells.size:=by
    rcases aap zv.cells.size with h0|h0
    .rw[h0]at hk;simp at hk
    .exact h0
   have hm:k%zv.cells.size<zv.cells.size:=Nat.mod_lt _ YX;rw[KO]at hm;obtain⟨u,hu,b8⟩:=Ow _ _ (sA hm);have so:zv.cells[k%zv.cells.size]? =some u:=by rw[KO];simpa using hu
   rw[getElem!_def,so];exact b8.one)
  (fun k cs j c hk hj=>by
   rw[fb]at hk;have iP:=(Gf.1 hk).1;simp at iP;have eY:cs=z:=aba (NQ hk);subst eY;have yJ:=(Gf.1 hj).1;obtain⟨u,hu,b8⟩:=Ow j c hj;refine⟨u,?_,b8⟩;have aE:k*i.size+j<(hi-lo)*zv.cells.size:=by have:(k+1)*i.size<=(hi-lo)*i.size:=aag _ iP;rw[aas,aaY]at this;rw[KO,<-dn];omega
   simp only[Builtin.zeroCells,aa8,abY,Array.getElem?_range];rw[if_pos aE];simp only[Wn,Wm];have hm:(k*i.size+j)%zv.cells.size=j:=by rw[KO,dn,abD,ab9,ab4 yJ]
   rw[hm];have so:zv.cells[j]? =some u:=by simpa using hu
   rw[getElem!_def,so])
 refine⟨.value (.tuple #[]),_,w',.bF [],_,ρ,?_,.inl rfl,hK,kJ,⟨[],rfl,rfl,fun i r h=>by simp at h⟩,hX⟩
 have hn:hi-lo≠0:=om;simp only[aax]at Ll;rw[Ll,qp];obtain⟨n,Nc⟩:∃n,hi-lo=n+1:=⟨hi-lo-1,om⟩;rw[Nc]at yI⊢;simp[Builtin.clear_,run_underlying ht,zeroValue,typeInfo,dP,Li,yI]
theorem Fz(hM:aA ρ m w)(hE:be ρ w aV a.tmps){t t2 ty e e2:TypeId}{i:TypeInfo}{z:List CC}{x y:Operand}{x' y':X}(ht:P.underlying t=some (.slice e))(tp:P.underlying t2=some (.slice e2))(hi:P.info? e=some i)(hz:dB P e=some z)(dn:i.size=z.length)(dd:0<z.length)(hb:0<i.bytes)(hx:bh x=some x')(hy:bh y=some y')(h:step P (.mE i.size i.bytes x' y') aV m K):
  di P (do pure (Next.value (<-Builtin.append_ #[t,t2] ty #[a.eval x,a.eval y]))) ρ m w K:=by
 simp only[step]at h;rcases cg.1 h with⟨vQ,g1⟩|⟨_,g1⟩
 .exact BI hM hE ht tp hi hz dn dd hb hx hy vQ g1
 .have hd:=aN hE hx;have nM:=aN hE hy;split at g1
  .rename_i id e1 lo hh M9;rw[M9]at hd;obtain⟨bk,eO,g2⟩:=bc.1 g1;rw[aU]at eO;split at g2
   .rename_i Xr rows;obtain⟨E2,A8,g3⟩:=bc.1 g2;rcases cg.1 g3 with⟨hc,iX,hK⟩|⟨_,g4⟩
    case inr=>exact g4.elim
    simp only[SD,aak]at hc;obtain⟨q1,q2,q3,c1,c2,c3⟩:=hc;have q1:=Wh q1;have q2:=Wh q2;have q3:=Wh q3;subst q1 q2 q3;rw[bg]at hK;exact zf hM ht tp hi hz dn hb hd nM eO A8 c1 c2 c3 iX hK
   .exact g2.elim
  .exact g1.elim
theorem FA(hM:aA ρ m w)(hE:be ρ w aV a.tmps){t ty e:TypeId}{i:TypeInfo}{z:List CC}{x:Operand}{x':X}(ht:P.underlying t=some (.slice e))(hi:P.info? e=some i)(hz:dB P e=some z)(dn:i.size=z.length)(hx:bh x=some x')(h:step P (.P5 i.size z x') aV m K):
  di P (do pure (Next.value (<-Builtin.clear_ #[t] ty #[a.eval x]))) ρ m w K:=by
 have hd:=aN hE hx;simp only[step]at h;generalize a.eval x=v at hd⊢;generalize x'.ev aV=c at hd h;have nothing:∀ad cap,v= .slice ad 0 cap->K (.bF []) m->di P (do pure (Next.value (<-Builtin.clear_ #[t] ty #[v]))) ρ m w K:=by
  intro ad cap hv hK;refine⟨.value (.tuple #[]),_,w,.bF [],m,ρ,?_,.inl rfl,hK,hM,⟨[],rfl,rfl,fun i r h=>by simp at h⟩,Ext.refl _ _ _⟩
  subst hv;cases ad<;>simp[Builtin.clear_,run_underlying ht]
 split at h
 .rename_i id e1 lo dP;obtain⟨bk,eO,h⟩:=bc.1 h;rw[aU]at eO;split at h
  .rename_i e2 rows;rcases cg.1 h with⟨hc,jx⟩|⟨_,jx⟩
   case inr=>exact jx.elim
   clear h;simp only[SD,aak]at hc;obtain⟨q1,q2,hle⟩:=hc;have q1:=Wh q1;have q2:=Wh q2;subst q1 q2;obtain⟨r2,_⟩:=hM.bk id _ eO;have A5:bV ρ w (.rv (.one (.row id i.size lo (some (oc dP rows.length))))) v:=by
    obtain⟨d0,d1,d2,d3,d4,ad,hv,sj⟩:=hd;cases dP with
    |none=>
     simp only[abu]at d1 d2 hv;refine⟨d0,?_,?_,d3,d4,ad,?_,sj⟩<;>simp only[oc,aax,r2]
     .exact d1
     .exact Pq _
     .exact hv
    |some hh=>exact⟨d0,d1,d2,d3,d4,ad,hv,sj⟩
   rcases cg.1 jx with⟨aE,hK⟩|⟨eu,hK⟩
   .rw[bg]at hK;exact zg hM ht hi hz dn A5 eO (by simpa[aaQ]using aE) hle hK
   .have eu:¬lo<oc dP rows.length:=fun hh=>by rw[<-aaQ,eu]at hh;cases hh
    obtain⟨d0,d1,d2,d3,d4,ad,hv,sj⟩:=A5;simp only[aax]at hv;rw[show oc dP rows.length-lo=0 by omega]at hv
    exact nothing _ _ hv hK
  .exact h.elim
 .obtain⟨ad,hv⟩:=hd;exact nothing _ _ hv h
 .exact h.elim
theorem H3{c:CV}{v:Value}(hc:HD c=true)(hd:bV ρ w c v):∃ad n cap,v= .slice ad n cap:=by
 unfold HD at hc;split at hc;all_goals first
  |(cases hc;done)
  |(have hd:cZ _ _ _ _:=hd;cases hd<;>exact⟨_,_,_,rfl⟩)
  |(obtain⟨a,hv⟩:=hd;exact⟨_,_,_,hv⟩)
  |(obtain⟨_,_,_,_,_,a,hv,_⟩:=hd;exact⟨_,_,_,hv⟩)
theorem BO(hM:aA ρ m w)(hE:be ρ w aV a.tmps){t t2 ty e:TypeId}{i:TypeInfo}{z:List CC}{x y:Operand}{x' y':X}(ht:P.underlying t=some (.slice e))(hi:P.info? e=some i)(hz:dB P e=some z)(dn:i.size=z.length)(hx:bh x=some x')(hy:bh y=some y')(h:step P (.copy i.size x' y') aV m K):
  di P (do pure (Next.value (<-Builtin.copy_ #[t,t2] ty #[a.eval x,a.eval y]))) ρ m w K:=by
 have hd:=aN hE hx;have nM:=aN hE hy;simp only[step]at h;generalize a.eval x=v at hd⊢;generalize a.eval y=v2 at nM⊢;generalize x'.ev aV=c at hd h;generalize y'.ev aV=c2 at nM h;obtain⟨E,A8,h⟩:=bc.1 h;obtain⟨Xq,HW,HX,xj,QZ,Q0,F2⟩:=lH hM A8 nM;have hn:=F2.firstCells (P:=P) HW 0;rw[show w.drewN 0=w from rfl]at hn;have h':=h;clear h;rcases cg.1 h' with⟨h0,g⟩|⟨h0,g⟩
 .have h0:E.length=0:=Wh h0;rcases cg.1 g with⟨hs,hK⟩|⟨_,g⟩
  case inr=>exact g.elim
  obtain⟨ad,n,cap,hv⟩:=H3 hs hd;have vg:HX=[]:=Wg (by rw[F2.len,h0,Nat.zero_mul])
  rw[h0]at hn xj;rw[vg]at hn;refine⟨.value (goInt 0),_,w,an .i64 0,m,ρ,?_,.inl rfl,hK,hM,cZ.val (.int .i64 0) rfl,Ext.refl _ _ _⟩;subst hv xj;cases ad<;>simp[Builtin.copy_,run_underlying ht,Builtin.lenOf,sizeOf,typeInfo,hi,hn,storeCells]
 .split at g
  .clear h';rename_i Xy e1 lo dP;obtain⟨bk,eO,g⟩:=bc.1 g;rw[aU]at eO;split at g
   .rename_i e2 rows;rcases cg.1 g with⟨hc,hK⟩|⟨_,g⟩
    case inr=>exact g.elim
    clear g;simp only[SD,aak]at hc;obtain⟨q1,q2,hle,iX,iH⟩:=hc;have q1:=Wh q1;have q2:=Wh q2;subst q1 q2;have dd:0<E.length:=by
     rcases aap E.length with e0|e0
     .rw[e0]at h0;cases h0
     .exact e0
    obtain⟨r2,r3,_⟩:=hM.bk Xy _ eO;have A5:bV ρ w (.rv (.one (.row Xy i.size lo (some (oc dP rows.length))))) v:=by
     obtain⟨d0,d1,d2,d3,d4,ad,hv,sj⟩:=hd;cases dP with
     |none=>
      simp only[abu]at d1 d2 hv;refine⟨d0,?_,?_,d3,d4,ad,?_,sj⟩<;>simp only[oc,aax,r2]
      .exact d1
      .exact Pq _
      .exact hv
     |some hh=>exact⟨d0,d1,d2,d3,d4,ad,hv,sj⟩
    obtain⟨w',yI,kJ,hX⟩:=qt (P:=P) hM (h:=lo) (E:=E) (vs:=HX) eO om om F2.jR F2.len F2.one (fun k cs j c hk hj=>by obtain⟨u,hu,b8⟩:=F2.jP k cs j c hk hj;exact⟨u,hu,b8.H2 (nR iH hk hj)⟩)
    rw[bg]at hK;obtain⟨d0,d1,d2,d3,d4,ad,hv,sj⟩:=A5;simp only[aax]at hv d2;have qp:=sj om;have UW:Nat.min E.length (oc dP rows.length-lo)=E.length:=abU om;refine⟨.value (goInt E.length),_,w',an .i64 (E.length:Int),_,ρ,?_,.inl rfl,hK,kJ,cZ.val (.int .i64 (E.length:Int)) rfl,hX⟩;subst hv xj qp;simp[Builtin.copy_,run_underlying ht,Builtin.lenOf,sizeOf,typeInfo,hi,hn,UW,yI]
   .exact g.elim
  .exact g.elim
theorem BP(hM:aA ρ m w)(hE:be ρ w aV a.tmps){t e:TypeId}{n sz:Nat}{agg:Bool}{x k:Operand}{x' k':X}(hu:P.underlying t=some (.array n e))(ha:dO P e=some agg)(hs:d6 P e=some sz)(hx:bh x=some x')(hk:bh k=some k')(h:step P (.Hy agg n sz x' k') aV m K):di P (do pure (Next.value (<-Instr.index t (a.eval x) (a.eval k)))) ρ m w K:=by
 have hd:=aN hE hx;have BN:=aN hE hk;simp only[step]at h;generalize a.eval x=v at hd⊢;generalize a.eval k=vk at BN⊢;generalize x'.ev aV=c at hd h;generalize k'.ev aV=ck at BN h;split at h
 .rename_i kd j;obtain⟨rfl,_⟩:=bJ BN;split at h
  .rename_i cs;obtain⟨vs,rfl,hl,hc⟩:=hd;obtain⟨kk,A9,g1⟩:=bc.1 h;obtain⟨hj,aE⟩:=k6 A9;obtain⟨l,hr,g2⟩:=bc.1 g1;obtain⟨cv,hm,hK⟩:=bc.1 g2;clear h g1 g2;subst hj;obtain⟨u,dq,b8⟩:=y6 (w:=w) ha hs (cells:=vs.toArray) ⟨by simpa using hl,fun i c hi=>by simpa using hc i c hi⟩ hr hm
   refine di.pure hM (v:=u) ?_ hK b8;have h1:(0:Int)<=(kk:Int)/\(kk:Int)<(n:Int):=om;simp[Instr.index,asIntOf,run_underlying hu,h1,eP hs,aE,dq]
  .exact h.elim
 .exact h.elim
theorem pa(hM:aA ρ m w)(hE:be ρ w aV a.tmps){mx:Bool}{ts:Array TypeId}{ty:TypeId}{x y:Operand}{x' y':X}(hx:bh x=some x')(hy:bh y=some y')(h:step P (.hC mx [x',y']) aV m K):di P (do pure (Next.value (<-(if mx then Builtin.max_ ts ty #[a.eval x,a.eval y]else Builtin.min_ ts ty #[a.eval x,a.eval y])))) ρ m w K:=by
 have hd:=aN hE hx;have nM:=aN hE hy;simp only[step]at h;generalize a.eval x=v at hd⊢;generalize a.eval y=u at nM⊢;generalize x'.ev aV=c at hd h;generalize y'.ev aV=d at nM h;split at h
 .rename_i k p;obtain⟨rfl,_⟩:=bJ hd;split at h
  .rename_i k2 q;obtain⟨rfl,_⟩:=bJ nM;cases mx
   .refine di.pure hM (v:= .int k (if q<p then q else p)) ?_ h (b9 rfl)
    simp[Builtin.min_,Builtin.min2]
   .refine di.pure hM (v:= .int k (if q>p then q else p)) ?_ h (b9 rfl)
    simp[Builtin.max_,Builtin.max2]
  .exact h.elim
 .exact h.elim
theorem FB(hM:aA ρ m w)(hE:be ρ w aV a.tmps){s e e2:TypeId}{x:Operand}{x':X}(hs:P.underlying s=some (.slice e))(he:P.underlying e=some (.int .u8))(hx:bh x=some x')(h:step P (.TH x') aV m K):di P (do pure (Next.value (<-convert s s (a.eval x)))) ρ m w K:=by
 have hd:=aN hE hx;simp only[step]at h;generalize a.eval x=v at hd⊢;generalize x'.ev aV=c at hd h;split at h
 .rename_i id e1 lo hi;obtain⟨bk,eO,g1⟩:=bc.1 h;rw[aU]at eO;split at g1
  .rename_i esz rows;rcases cg.1 g1 with⟨aE,hK⟩|⟨_,g2⟩
   case inr=>exact g2.elim
   rw[SD,aaQ]at aE;obtain⟨nD,aE⟩:=aE;have nD:=Wh nD;have hid:id<m.length:=(Gf.1 eO).1;have On:=hd;obtain⟨d0,d1,d2,d3,d4,ad,hv,sj⟩:=hd;obtain⟨r2,r3,r4,r5,Fo⟩:=hM.bk id _ eO;have bl:0<(ρ.aP (.ap id)).cap:=by clear Fo;omega
   obtain⟨cur,bS,h1,bY⟩:=Fo bl;have qp:=sj (by clear Fo;omega)
   obtain⟨ty,fr,j8,u0,iH,_⟩:=bS;have Rd:=(Z4.1 j8).1;let Rg:Nat×Nat:=if fr.1==fr.2 then(cur.size,cur.size+1)else(min fr.1 cur.size,max fr.2 (cur.size+1))
   let w':World:=w.freeze ⟨(ρ.aP (.ap id)).b,cur.size,none⟩ 1;have OA:w'.heap[(ρ.aP (.ap id)).b]? =some (.cells cur ty Rg):=by simp[w',World.freeze,aaG,j8,Rg]
   have zh:kQ (esz=1) w' (ρ.aP (.ap id)).b cur:=by
    refine⟨ty,Rg,OA,?_,fun i hi=>?_,.inl nD⟩
    .simp only[Rg];split
     .simp
     .simp only;omega
    .simp only[Rg];split
     .simp;omega
     .rename_i eG;have eG:fr.1≠fr.2:=by simpa using eG
      have h0:cur.size<=fr.1:=by
       rcases Wj fr.1 cur.size with q|q
       .have:=iH fr.1 q;simp at this;omega
       .exact q
      simp;omega
   have ht:jw w w' (ρ.aP (.ap id)).b:=⟨fun b hb=>by simp[w',World.freeze,aaG,Ne.symm hb],by simp[w',World.freeze],by simp[w',World.freeze],by simp[w',World.freeze],by simp[w',World.freeze]⟩
   obtain⟨kJ,hX⟩:=hM.Ol (Bt:= .row esz rows) eO ⟨_,eO,aI,fun _=>bl⟩ ht (fun g=>⟨r2,r3,r4,r5,fun _=>⟨cur,zh,h1,fun i cs j c hi hj=>by
    obtain⟨u,hu,b8⟩:=bY i cs j c hi hj;exact⟨u,hu,b8.cE g (by rintro _ _ _ e;cases e;exact d0)⟩⟩⟩) (by
    rintro i' j' u9 e ⟨es,Nf,HP,mL,d5,jm⟩;rw[Pr hid]at mL;cases mL;exact⟨esz,rows,HP,eO,d5,jm⟩)
   have iZ:m.set id (.row esz rows)=m:=by
    apply aaL;intro i;rw[aan];split
    .rename_i hi;subst hi
     first|rw[eO]|rw[if_pos hid,eO]
    .rfl
   rw[iZ]at kJ hX;refine⟨.value v,v,w',_,m,ρ,?_,.inl rfl,hK,kJ,On,hX⟩;have UX:w.shape? (ρ.aP (.ap id)).b=some (ty,cur.size):=by unfold World.shape?;rw[j8]
   rw[hv,qp];simp[convert,run_underlying hs,run_underlying he,markStringish,UX];rfl
  .exact g1.elim
 .exact h.elim
end
section
variable {P:Program} {ρ:bG} {m:Mem} {w:World} {aV:List CV} {a:Act} {K:CV->Mem->Prop}
theorem be.ext{ρ':bG}{m':Mem}{w':World}{tmps:Array Value}(hM:aA ρ m w)(x:Ext ρ m w ρ' m' w')(hE:be ρ w aV tmps):be ρ' w' aV tmps:=
 ⟨hE.size,fun i c hi=>let⟨v,hv,hd⟩:=hE.jP i c hi;⟨v,hv,bV.ext hM x hd⟩⟩
theorem be.set{tmps:Array Value}{d:Nat}{c:CV}{v:Value}(hE:be ρ w aV tmps)(hd:bV ρ w c v):be ρ w (aV.set d c) (tmps.setIfInBounds d v):=by
 refine⟨by simp[hE.size],fun i c' hi=>?_⟩
 by_cases h:d=i
 .subst h;have aE:d<aV.length:=by
   rcases Wj d aV.length with h|h
   .exact h
   .rw[aae (by simpa using h)]at hi;cases hi
  rw[Pr aE]at hi;cases hi;exact⟨v,by rw[aa6];simp[hE.size,aE],hd⟩
 .rw[Wf h]at hi;obtain⟨u,hu,b8⟩:=hE.jP i c' hi;exact⟨u,by rw[aa6,if_neg h];exact hu,b8⟩
theorem H4{d:Option Nat}{v:CV}{e:List CV}{K:List CV->Prop}:put d v e K=match d with|none=>K e|some d=>K (e.set d v):=by
 cases d with
 |none=>rfl
 |some d=>simp only[put,QH,ei,bg]
theorem be.put{d:Option Nat}{c:CV}{v:Value}(hE:be ρ w aV a.tmps)(hd:bV ρ w c v){K:List CV->Prop}(h:put d c aV K):
  ∃e7,K e7/\be ρ w e7 (a.put d v).tmps/\(a.put d v).defers=a.defers:=by
 rw[H4]at h;cases d with
 |none=>exact⟨aV,h,hE,rfl⟩
 |some d=>exact⟨_,h,hE.set hd,rfl⟩
theorem BQ{o:Oper}{i:I}(hl:s9 P o=some i)(rL:∀f xs ts,o.op≠.call {callee:= .value f,args:=xs,argTypes:=ts})(hM:aA ρ m w)(hE:be ρ w aV a.tmps)(h:step P i aV m K):di P (execOp a.eval o) ρ m w K:=by
 unfold s9 at hl;cases dy:o.op;all_goals rw[dy]at hl
 all_goals try(simp only at hl;cases hl;done)
 case move x=>
  simp only[N7,Jm]at hl;obtain⟨x',hx,hl⟩:=hl;cases hl;unfold execOp;rw[dy];exact di.pure hM rfl h (aN hE hx)
 case assign x=>
  simp only[N7,Jm]at hl;obtain⟨x',hx,hl⟩:=hl;cases hl;unfold execOp;rw[dy];exact di.pure hM rfl h (aN hE hx)
 case pick c x y=>
  simp only[N7,Jm]at hl;obtain⟨c',hc,x',hx,y',hy,hl⟩:=hl;cases hl;unfold execOp;rw[dy];exact BE hM hE hc hx hy h
 case alloc t=>
  simp only[N7,Jm]at hl;obtain⟨z,hz,hl⟩:=hl;cases hl;unfold execOp;rw[dy];exact y2 hM hz h
 case box t x=>
  simp only[N7,Jm]at hl;obtain⟨x',hx,hl⟩:=hl;cases hl;unfold execOp;rw[dy];exact Fg hM hE hx h
 case build t ps=>
  simp only[N7,Jm]at hl;obtain⟨z,hz,hl⟩:=hl;unfold execOp;rw[dy];split at hl
  .rename_i fs hu;split at hl
   .rename_i fm;simp only[Jm]at hl;obtain⟨oO,hp,hl⟩:=hl;cases hl;exact rE hM hE hz (.inl ⟨fs,hu,fm,hp⟩) h
   .cases hl
  .rename_i n e hu;simp only[Jm]at hl;obtain⟨sz,hs,oO,hp,hl⟩:=hl;cases hl;exact rE hM hE hz (.inr ⟨n,e,sz,hu,hs,hp⟩) h
  .cases hl
 case buildSlice t n ps=>
  simp only[N7]at hl;unfold execOp;rw[dy];split at hl
  .rename_i e hu;simp only[Jm]at hl;obtain⟨z,hz,sz,hs,hl⟩:=hl;split at hl
   .rename_i hc;obtain⟨rfl,h2,h3⟩:=hc;simp only[Jm]at hl;obtain⟨oO,hp,hl⟩:=hl;cases hl;exact Fl hM hE hu hz hs h2 h3 hp h
   .cases hl
  .cases hl
 case load t x=>
  simp only[N7,Jm]at hl;obtain⟨agg,ha,n,hs,x',hx,hl⟩:=hl;cases hl;unfold execOp;rw[dy];exact Bx hM hE ha hs hx h
 case store t p x=>
  simp only[N7,Jm]at hl;obtain⟨n,hs,hl⟩:=hl;split at hl
  .cases hl
  .rename_i hn;simp only[Jm]at hl;obtain⟨p',hp,x',hx,hl⟩:=hl;cases hl;unfold execOp;rw[dy];exact y5 hM hE hs hn hp hx h
 case fieldAddr t x k=>
  simp only[N7]at hl;unfold execOp;rw[dy];split at hl
  .rename_i fs hu;simp only[Jm]at hl;obtain⟨f,hf,n,hs,hl⟩:=hl;split at hl
   .cases hl
   .rename_i hn;simp only[Jm]at hl;obtain⟨x',hx,hl⟩:=hl;cases hl;exact By hM hE hu hf hs hn hx h
  .cases hl
 case field t x k=>
  simp only[N7]at hl;unfold execOp;rw[dy];split at hl
  .rename_i fs hu;simp only[Jm]at hl;obtain⟨f,hf,agg,ha,n,hs,x',hx,hl⟩:=hl;cases hl;exact Fh hM hE hu hf ha hs hx h
  .cases hl
 case indexAddr t x k=>
  simp only[N7]at hl;unfold execOp;rw[dy];split at hl
  .rename_i e hu;simp only[Jm]at hl;obtain⟨n,hs,x',hx,k',hk,hl⟩:=hl;cases hl;exact Fi hM hE hu hs hx hk h
  .rename_i len e hu;simp only[Jm]at hl;obtain⟨n,hs,x',hx,k',hk,hl⟩:=hl;cases hl;exact Bz hM hE hu hs hx hk h
  .cases hl
 case index t x k=>
  simp only[N7]at hl;unfold execOp;rw[dy];split at hl
  .rename_i hu;simp only[Jm]at hl;obtain⟨x',hx,k',hk,hl⟩:=hl;cases hl;exact BA hM hE hu hx hk h
  .rename_i n e hu;simp only[Jm]at hl;obtain⟨agg,ha,sz,hs,x',hx,k',hk,hl⟩:=hl;cases hl;exact BP hM hE hu ha hs hx hk h
  .cases hl
 case binOp op t x y yt=>
  simp only[N7]at hl;unfold execOp;rw[dy];split at hl
  .simp only[Jm]at hl;obtain⟨x',hx,y',hy,hl⟩:=hl;cases hl;exact vH hM hE hx hy h
  .simp only[Jm]at hl;obtain⟨x',hx,y',hy,hl⟩:=hl;cases hl;exact vH hM hE hx hy h
  .rename_i e hu;split at hl
   .simp only[Jm]at hl;obtain⟨x',hx,hl⟩:=hl;cases hl;exact tu (neg:=false) hM hE hu hx h
   .simp only[Jm]at hl;obtain⟨x',hx,hl⟩:=hl;cases hl;exact tu (neg:=true) hM hE hu hx h
   .cases hl
  .rename_i hu;split at hl
   .simp only[Jm]at hl;obtain⟨x',hx,y',hy,hl⟩:=hl;cases hl;exact vI (neg:=false) hM hE hu hx hy h
   .simp only[Jm]at hl;obtain⟨x',hx,y',hy,hl⟩:=hl;cases hl;exact vI (neg:=true) hM hE hu hx hy h
   .cases hl
  .rename_i n e hu;split at hl
   .rename_i kk hg UY hs;simp only[Jm]at hl;obtain⟨x',hx,y',hy,hl⟩:=hl;cases hl;exact tk (neg:=false) hM hE hu hg UY hs hx hy h
   .rename_i kk hg UY hs;simp only[Jm]at hl;obtain⟨x',hx,y',hy,hl⟩:=hl;cases hl;exact tk (neg:=true) hM hE hu hg UY hs hx hy h
   .cases hl
  .rename_i fs hu;split at hl
   .rename_i ks hg hk;simp only[Jm]at hl;obtain⟨x',hx,y',hy,hl⟩:=hl;cases hl;exact vJ (neg:=false) hM hE hu hg hk hx hy h
   .rename_i ks hg hk;simp only[Jm]at hl;obtain⟨x',hx,y',hy,hl⟩:=hl;cases hl;exact vJ (neg:=true) hM hE hu hg hk hx hy h
   .cases hl
  .cases hl
 case unOp op t x=>
  simp only[N7,Jm]at hl;obtain⟨x',hx,hl⟩:=hl;cases hl;unfold execOp;rw[dy];exact HR hM hE hx h
 case convert s d x=>
  simp only[N7]at hl;unfold execOp;rw[dy];split at hl
  .rename_i hs hd;simp only[Jm]at hl;obtain⟨x',hx,hl⟩:=hl;cases hl;exact BB hM hE hs hd hx h
  .rename_i hs hd;simp only[Jm]at hl;obtain⟨x',hx,hl⟩:=hl;cases hl;exact Fj hM hE hs hd hx h
  .rename_i e hs hd;split at hl
   .rename_i he;simp only[Jm]at hl;obtain⟨x',hx,hl⟩:=hl;cases hl;exact Fq hM hE hs he hd hx h
   .cases hl
  .rename_i e hs hd;split at hl
   .rename_i he;simp only[Jm]at hl;obtain⟨x',hx,hl⟩:=hl;cases hl;exact Fr hM hE hs hd he hx h
   .cases hl
  .rename_i e0 e hs hd;split at hl
   .rename_i UZ he;simp only[Jm]at hl;obtain⟨x',hx,hl⟩:=hl;cases hl;have UZ:s=d:=by simpa using UZ
    subst UZ;rw[hs]at hd;cases hd;exact FB (e2:=e0) hM hE hs he hx h
   .cases hl
  .cases hl
 case range t x=>
  dsimp only at hl;unfold execOp;rw[dy];split at hl
  .rename_i kt vt hu;simp only[N7,Jm]at hl;obtain⟨x',hx,hl⟩:=hl;cases hl;exact Fv hM hE hu hx h
  .cases hl
 case next it b=>
  cases b with
  |false=>
   simp only[N7,Jm]at hl;unfold execOp;rw[dy];obtain⟨x',hx,hl⟩:=hl;cases hl;exact Fx hM hE hx h
  |true=>cases hl
 case entry it=>
  simp only[N7,Jm]at hl;unfold execOp;rw[dy];obtain⟨x',hx,hl⟩:=hl;cases hl;exact Fy hM hE hx h
 case makeMap t r=>
  dsimp only at hl;unfold execOp;rw[dy];split at hl
  .cases hl;exact rK hM (.inl rfl) h
  .rename_i k n kt et hu;cases hl;exact rK hM (.inr ⟨k,n,kt,et,rfl,hu⟩) h
  .cases hl
 case makeSlice t l c=>
  simp only[N7]at hl;unfold execOp;rw[dy];split at hl
  .rename_i e hu;simp only[Jm]at hl;obtain⟨i,hi,z,hz,hl⟩:=hl;split at hl
   .rename_i hc;obtain⟨h1,h2,h3⟩:=hc;simp only[Jm]at hl;obtain⟨l',Fs,c',oX,hl⟩:=hl;cases hl;exact vf hM hE hu hi hz h1 h2 h3 Fs oX h
   .cases hl
  .cases hl
 case lookup t x k b=>
  simp only[N7]at hl;unfold execOp;rw[dy];split at hl
  .rename_i kt vt hu;simp only[Jm]at hl;obtain⟨z,hz,kk,hk,x',hx,k',Ln,hl⟩:=hl;cases hl;exact BM hM hE hu hz hk hx Ln h
  .cases hl
 case mapUpdate t x k v=>
  simp only[N7]at hl;unfold execOp;rw[dy];split at hl
  .rename_i kt vt hu;simp only[Jm]at hl;obtain⟨kk,hk,x',hx,k',Ln,v',hv,hl⟩:=hl;cases hl;exact tw hM hE hu hk hx Ln hv h
  .cases hl
 case insert t x k v=>
  simp only[N7]at hl;unfold execOp;rw[dy];split at hl
  .rename_i kt vt hu;simp only[Jm]at hl;obtain⟨kk,hk,x',hx,k',Ln,v',hv,hl⟩:=hl;cases hl;exact tw hM hE hu hk hx Ln hv h
  .cases hl
 case makeFunc fn fst dJ=>
  unfold execOp;rw[dy];cases fn<;>simp only at hl<;>try(cases hl;done)
  rename_i f;split at hl
  .rename_i hz;simp only[N7,Jm]at hl;obtain⟨x',hx,hl⟩:=hl;cases hl;have hf:fst= #[]:=Array.eq_empty_of_size_eq_zero hz;subst hf;exact HS hM hE hx h
  .cases hl
 case extract x k=>
  simp only[N7,Jm]at hl;obtain⟨x',hx,hl⟩:=hl;cases hl;unfold execOp;rw[dy];exact Fk hM hE hx h
 case slice t x lo hi mx=>
  simp only[N7]at hl;unfold execOp;rw[dy];split at hl
  .rename_i e hu;simp only[Jm]at hl;obtain⟨n,hs,x',hx,BL,gx,dP,xm,UO,KN,hl⟩:=hl;cases hl;exact Fp hM hE hu hs hx gx xm KN h
  .rename_i hu;cases mx<;>simp only at hl
   .simp only[Jm]at hl;obtain⟨x',hx,BL,gx,dP,xm,hl⟩:=hl;cases hl;exact BK hM hE hu hx gx xm h
   .cases hl
  .cases hl
 case nilCheck x=>
  simp only[N7,Jm]at hl;obtain⟨x',hx,hl⟩:=hl;cases hl;exact BD hM hE dy hx h
 case call c=>
  obtain⟨callee,args,argTypes⟩:=c;cases callee with
  |value f=>
   exact absurd dy (rL _ _ _)
  |invoke r n=>simp only at hl;cases hl
  |builtin b=>
   cases b<;>simp only at hl<;>try(cases hl;done)
   case len=>
    simp only[N7]at hl;split at hl
    .rename_i x t ew BR;have e1:args= #[x]:=aa0 (by simpa using ew)
     have e2:argTypes= #[t]:=aa0 (by simpa using BR)
     subst e1 e2;unfold execOp;rw[dy];split at hl
     .rename_i hu;simp only[Jm]at hl;obtain⟨x',hx,hl⟩:=hl;cases hl;have:=p9 (ty:=o.type) hM hE (.inl ⟨rfl,hu⟩) hx h;unfold di at this⊢;simpa[resolve,invoke,builtin]using this
     .rename_i e hu;simp only[Jm]at hl;obtain⟨x',hx,hl⟩:=hl;cases hl;have:=p9 (ty:=o.type) hM hE (.inr (.inl ⟨rfl,e,hu⟩)) hx h;unfold di at this⊢;simpa[resolve,invoke,builtin]using this
     .rename_i kt e hu;simp only[Jm]at hl;obtain⟨x',hx,hl⟩:=hl;cases hl;have:=p9 (ty:=o.type) hM hE (.inr (.inr ⟨rfl,kt,e,hu⟩)) hx h;unfold di at this⊢;simpa[resolve,invoke,builtin]using this
     .cases hl
    .cases hl
   case append=>
    simp only[N7]at hl;split at hl
    .rename_i x y t t2 ew BR;have e1:args= #[x,y]:=aa0 (by simpa using ew)
     have e2:argTypes= #[t,t2]:=aa0 (by simpa using BR)
     subst e1 e2;unfold execOp;rw[dy];split at hl
     .rename_i e e2 hu QL;simp only[Jm]at hl;obtain⟨i,hi,z,hz,hl⟩:=hl;split at hl
      .rename_i hc;obtain⟨h1,h2,h3⟩:=hc;simp only[Jm]at hl;obtain⟨x',hx,y',hy,hl⟩:=hl;cases hl;have:=Fz (ty:=o.type) hM hE hu QL hi hz h1 h2 h3 hx hy h;unfold di at this⊢;simpa[resolve,invoke,builtin]using this
      .cases hl
     .cases hl
    .cases hl
   case min=>
    simp only[N7]at hl;split at hl
    .rename_i x y ew;have e1:args= #[x,y]:=aa0 (by simpa using ew)
     subst e1;unfold execOp;rw[dy];simp only[Jm]at hl;obtain⟨x',hx,y',hy,hl⟩:=hl;cases hl;have:=pa (mx:=false) (ts:=argTypes) (ty:=o.type) hM hE hx hy h;unfold di at this⊢;simpa[resolve,invoke,builtin]using this
    .cases hl
   case max=>
    simp only[N7]at hl;split at hl
    .rename_i x y ew;have e1:args= #[x,y]:=aa0 (by simpa using ew)
     subst e1;unfold execOp;rw[dy];simp only[Jm]at hl;obtain⟨x',hx,y',hy,hl⟩:=hl;cases hl;have:=pa (mx:=true) (ts:=argTypes) (ty:=o.type) hM hE hx hy h;unfold di at this⊢;simpa[resolve,invoke,builtin]using this
    .cases hl
   case copy=>
    simp only[N7]at hl;split at hl
    .rename_i x y t t2 ew BR;have e1:args= #[x,y]:=aa0 (by simpa using ew)
     have e2:argTypes= #[t,t2]:=aa0 (by simpa using BR)
     subst e1 e2;unfold execOp;rw[dy];split at hl
     .rename_i e hu;simp only[Jm]at hl;obtain⟨i,hi,z,hz,hl⟩:=hl;split at hl
      .rename_i hc;simp only[Jm]at hl;obtain⟨x',hx,y',hy,hl⟩:=hl;cases hl;have:=BO (ty:=o.type) (t2:=t2) hM hE hu hi hz hc hx hy h;unfold di at this⊢;simpa[resolve,invoke,builtin]using this
      .cases hl
     .cases hl
    .cases hl
   case clear=>
    simp only[N7]at hl;split at hl
    .rename_i x t ew BR;have e1:args= #[x]:=aa0 (by simpa using ew)
     have e2:argTypes= #[t]:=aa0 (by simpa using BR)
     subst e1 e2;unfold execOp;rw[dy];split at hl
     .rename_i e hu;simp only[Jm]at hl;obtain⟨i,hi,z,hz,hl⟩:=hl;split at hl
      .rename_i hc;simp only[Jm]at hl;obtain⟨x',hx,hl⟩:=hl;cases hl;have:=FA (ty:=o.type) hM hE hu hi hz hc hx h;unfold di at this⊢;simpa[resolve,invoke,builtin]using this
      .cases hl
     .cases hl
    .cases hl
end
section
variable {P:Program}
def zi:Exit->Option Ex
 | .normal=>some .normal
 | .exit id=>some (.exit id)
 | .ret=>some .ret
 |_=>none
def BS(N:Nat)(ρ:bG)(w:World)(ds:List Deferred):Prop:=
 ∃Ds:List Nat,ds=Ds.map (fun D=>{target:= .collected D,args:= #[]})/\Ds.Nodup/\∀D,D∈Ds->N<=D/\ρ.S D/\w.heap[D]? =some (.deferred (some []))
theorem BS.nil{N:Nat}{ρ:bG}{w:World}:BS N ρ w []:=⟨[],rfl,List.nodup_nil,aI⟩
theorem BS.ext{N:Nat}{ρ ρ':bG}{m m':Mem}{w w':World}{ds:List Deferred}(hM:aA ρ m w)(x:Ext ρ m w ρ' m' w')(h:BS N ρ w ds):BS N ρ' w' ds:=by
 obtain⟨Ds,h1,h2,h3⟩:=h;refine⟨Ds,h1,h2,fun D hD=>?_⟩
 obtain⟨g1,g2,g3⟩:=h3 D hD;exact⟨g1,x.S D g2,(x.frame D (hM.S D g2) fun k hk e=>(hM.a7 k hk).2 (e▸g2)).trans g3⟩
theorem BS.s{N:Nat}{ρ ρ':bG}{w:World}{ds:List Deferred}(hS:∀b,ρ.S b->ρ'.S b)(h:BS N ρ w ds):BS N ρ' w ds:=by obtain⟨Ds,h1,h2,h3⟩:=h;exact⟨Ds,h1,h2,fun D hD=>⟨(h3 D hD).1,hS D (h3 D hD).2.1,(h3 D hD).2.2⟩⟩
structure Inv(N:Nat)(ρ0:bG)(m0:Mem)(w0:World)(st:St)(ρ:bG)(a:Act)(w:World):Prop where
 ext:Ext ρ0 m0 w0 ρ st.mem w
 mem:aA ρ st.mem w
 aV:be ρ w st.aV a.tmps
 defers:BS N ρ w a.defers
 hN:N<=w0.heap.size
 n0:m0.length<=st.mem.length
def xn(N:Nat)(ρ0:bG)(m0:Mem)(w0:World)(K:Ex->St->Prop)(e:Exit)(a:Act)(w:World):Prop:=
 ∃ex st ρ,zi e=some ex/\K ex st/\Inv N ρ0 m0 w0 st ρ a w
variable {N:Nat} {ρ0:bG} {m0:Mem} {w0:World}
theorem Inv.step{aV:List CV}{m m':Mem}{ρ ρ':bG}{a:Act}{w w':World}{d:Option Nat}{c:CV}{v:Value}(h:Inv N ρ0 m0 w0 ⟨aV,m⟩ ρ a w)(hM:aA ρ' m' w')(hd:bV ρ' w' c v)(hx:Ext ρ m w ρ' m' w'){K:List CV->Prop}(hp:put d c aV K):
  ∃e7,K e7/\Inv N ρ0 m0 w0 ⟨e7,m'⟩ ρ' (a.put d v) w':=by
 obtain⟨e7,hK,hE,YY⟩:=(h.aV.ext h.mem hx:be ρ' w' aV a.tmps).put hd hp;refine⟨e7,hK,h.ext.trans hx,hM,hE,YY▸h.defers.ext h.mem hx,h.hN,?_⟩;have h1:=h.n0;have h2:=h.mem.n;have h3:=hM.n;have h4:=hx.n;simp only at h1 h2⊢;omega
theorem zj{o:Oper}{i:I}{aV:List CV}{m:Mem}{ρ:bG}{a:Act}{w:World}{K:List CV->Mem->Prop}{next:Act->World->Prop}{Q:Exit->Act->World->Prop}(hl:p5 P o=some i)(h:Inv N ρ0 m0 w0 ⟨aV,m⟩ ρ a w)(hs:step P i aV m fun v m'=>put o.dst v aV fun e'=>K e' m')(hn:∀e7 m' ρ' a' w',K e7 m'->Inv N ρ0 m0 w0 ⟨e7,m'⟩ ρ' a' w'->next a' w'):o.wp P a w next Q:=by
 rcases Bp hl with hl|rfl
 case inr=>rw[K9]at hs;exact hs.elim
 by_cases hc:∃f xs ts,o.op= .call {callee:= .value f,args:=xs,argTypes:=ts}
 .obtain⟨f,xs,ts,dy⟩:=hc;have Ra:∃f' DZ,i= .call f' DZ/\bh f=some f'/\ry xs.toList=some DZ:=by unfold s9 at hl;rw[dy]at hl;simp only[N7,Jm]at hl;obtain⟨f1,hf,YZ,hx,hl⟩:=hl;cases hl;exact⟨f1,YZ,rfl,hf,hx⟩
  obtain⟨f',DZ,rfl,hf,hx⟩:=Ra;have hd:=aN h.aV hf;simp only[step]at hs;split at hs
  .rename_i g dJ U0;rw[U0]at hd;obtain⟨H5,hv⟩:=hd;obtain⟨⟨fn,U1,Ng,D5⟩,rL⟩:=hs;obtain⟨e1,e2⟩:=p8 h.aV hx;simp only[cf,tj]at rL;have hb:fn.body≠none:=by intro e;rw[e]at Ng;cases Ng
   have Nh:fn.name≠ "runtime.NumGoroutine" :=by intro e;rw[e]at D5;simp at D5
   have dq:(execOp a.eval o).run P w= .ok (.enter g (xs.map a.eval++(dJ.map fun id=>Value.pointer (some ⟨(ρ.aP (.ap id)).b,(ρ.aP (.ap id)).au,none⟩)).toArray)) w:=by unfold execOp;rw[dy];simp[resolve,hv,Deferred.ofValue,invoke,callFunc,U1,Nh,hb]
   unfold Oper.wp;rw[dq,Oper.upon_enter];have xp:=rL ρ w (xs.toList.map a.eval++dJ.map fun id=>Value.pointer (some ⟨(ρ.aP (.ap id)).b,(ρ.aP (.ap id)).au,none⟩)) h.mem (by simp[e1]) (fun i c hi=>by
    rcases Wj i (DN aV DZ).length with aE|eu
    .rw[Tz aE]at hi;obtain⟨v,xj,A5⟩:=e2 i c hi;exact⟨v,by rw[Tz (by simpa[e1]using aE)];exact xj,A5⟩
    .rw[SF eu]at hi;rw[SF (by simpa[e1]using eu)]
     rw[NO]at hi;cases hk:dJ[i-(DN aV DZ).length]? with
     |none=>rw[hk]at hi;cases hi
     |some id=>
      rw[hk]at hi;simp only[Wn,Wm]at hi;subst hi;refine⟨_,by rw[KB,<-e1,NO,hk];rfl,H5 id (NQ hk),aI⟩)
   have ew:(xs.toList.map a.eval++dJ.map fun id=>Value.pointer (some ⟨(ρ.aP (.ap id)).b,(ρ.aP (.ap id)).au,none⟩)).toArray=
     xs.map a.eval++(dJ.map fun id=>Value.pointer (some ⟨(ρ.aP (.ap id)).b,(ρ.aP (.ap id)).au,none⟩)).toArray:=by
    apply aa0;simp
   rw[ew]at xp;refine xp.mono fun e w' hR=>?_
   obtain⟨v,r,m',ρ',rfl,hK,kJ,xq,sn⟩:=hR;obtain⟨e7,Hk,hI⟩:=h.step (d:=o.dst) kJ xq sn hK;exact hn e7 m' ρ' _ w' Hk hI
  .exact hs.elim
 .obtain⟨nx,v,w',cv,m',ρ',hr,Rh,hK,kJ,xq,sn⟩:=BQ hl (fun f xs ts e=>hc ⟨f,xs,ts,e⟩) h.mem h.aV hs
  obtain⟨e7,Hk,hI⟩:=h.step (d:=o.dst) kJ xq sn hK;unfold Oper.wp;rw[hr];rcases Rh with rfl|⟨rfl,rfl⟩
  .exact hn e7 m' ρ' _ w' Hk hI
  .exact hn e7 m' ρ' _ w' Hk hI
theorem qv{ops:Array Oper}:∀{l:List Oper}{bO:List LO},kW P ops l=some bO->∀(o:Oper)(r:List Oper),l=o::r->∃lo lr,bO=lo::lr/\ta P ops o=some lo/\kW P ops r=some lr:=by rintro l bO h o r rfl;simp only[kW,N7,Jm]at h;obtain⟨lo,h1,lr,h2,h3⟩:=h;cases h3;exact⟨lo,lr,rfl,h1,h2⟩
theorem xr{aV:List CV}{s:Nat}{t:Bool}(h:iV aV s=ay t):aZ aV s (ay t)=aV:=by
 rw[bg];rw[jZ]at h;cases hg:aV[s]? with
 |none=>rw[hg]at h;cases h
 |some c=>
  rw[hg]at h;simp only[aax]at h;subst h;exact aaL fun i=>by
   by_cases hi:s=i
   .subst hi;rw[Pr (Gf.1 hg).1,hg]
   .rw[Wf hi]
theorem tE{ops:Array Oper}{Q:Exit->Act->World->Prop}{K:List CV->Mem->Prop}(hQ:∀aV m ρ a w,K aV m->Inv N ρ0 m0 w0 ⟨aV,m⟩ ρ a w->Q .normal a w):
  ∀(l:List Oper)(k:Nat)(bO:List LO)(aV:List CV)(m:Mem)(ρ:bG)(a:Act)(w:World),ops.toList.drop k=l->kW P ops l=some bO->Fd P bO K aV m->Inv N ρ0 m0 w0 ⟨aV,m⟩ ρ a w->
   wpOps P ops Q (List.range' k l.length) a w
 | [],k,bO,aV,m,ρ,a,w,hl,i3,h,hI=>by simp[kW]at i3;subst i3;exact hQ aV m ρ a w h hI
 |o::r,k,bO,aV,m,ρ,a,w,hl,i3,h,hI=>by
  obtain⟨lo,lr,rfl,h1,h2⟩:=qv i3 o r rfl;have iQ:ops[k]? =some o:=by
   have:(ops.toList.drop k)[0]? =some o:=by rw[hl];rfl
   simpa using this
  have hr:ops.toList.drop (k+1)=r:=by rw[<-List.tail_drop,hl];rfl
  have ih:=fun aV m ρ a w=>tE hQ r (k+1) lr aV m ρ a w hr h2
  simp only[ta,N7,Jm]at h1;obtain⟨i,hi,g,hg,h1⟩:=h1;cases h1;simp only[Wo,abO,wpOps,iQ];have skip:∀(e:List CV),Inv N ρ0 m0 w0 ⟨e,m⟩ ρ a w->(put o.dst .undef e fun e'=>Fd P lr K e' m)->wpOps P ops Q (List.range' (k+1) r.length) (a.put o.dst Go.undef) w:=fun e TR hp=>by obtain⟨e7,Hk,nF⟩:=TR.step (d:=o.dst) (c:= .undef) (v:=Go.undef) TR.mem rfl (Ext.refl _ _ _) hp;exact ih _ _ _ _ _ Hk nF
  have exec:∀(e:List CV),Inv N ρ0 m0 w0 ⟨e,m⟩ ρ a w->(step P i e m fun v m'=>put o.dst v e fun e'=>Fd P lr K e' m')->o.wp P a w (wpOps P ops Q (List.range' (k+1) r.length)) Q:=fun e TR hp=>
   zj hi TR hp fun e7 m' ρ' a' w' Hk nF=>ih _ _ _ _ _ Hk nF
  cases H6:o.guard with
  |none=>
   rw[H6]at hg;simp[HG]at hg;subst hg;have hw:Region.wanted o (yielded ops a.tmps)=true:=by simp[Region.wanted,H6]
   rw[if_pos hw];simp only[vE,DU,ei]at h;exact .inl (exec aV hI h)
  |some jb=>
   obtain⟨j,iF⟩:=jb;rw[H6]at hg;simp only[HG,N7,Jm]at hg;obtain⟨oj,U2,s,hs,hg⟩:=hg;cases hg;have hy:yielded ops a.tmps j=match a.tmps[s]? with|some (.bool b)=>some b|_=>none:=by simp[yielded,U2,hs];rfl
   simp only[vE,DU]at h;split at h
   .rename_i eu;have bY:=hI.aV.get s;rw[eu]at bY;have hu:a.tmps[s]? =some Go.undef\/a.tmps[s]? =none:=by
     simp only[bV,aaK]at bY;cases ht:a.tmps[s]? with
     |none=>exact .inr rfl
     |some v=>rw[ht]at bY;simp at bY;exact .inl (by rw[bY])
    have hw:Region.wanted o (yielded ops a.tmps)=false:=by
     simp only[Region.wanted,H6,hy];rcases hu with hu|hu<;>rw[hu]<;>rfl
    rw[if_neg (by simp[hw])]
    exact skip aV hI h
   .rename_i t eu;have bY:=hI.aV.get s;rw[eu]at bY;have ht:a.tmps[s]? =some (.bool t):=by
     have:=(bJ bY).1;rw[aaK]at this;cases ht:a.tmps[s]? with
     |none=>rw[ht]at this;cases this
     |some v=>rw[ht]at this;simp at this;rw[this]
    have hw:Region.wanted o (yielded ops a.tmps)=(t==iF):=by simp[Region.wanted,H6,hy,ht]
    have pb:∀b,t=b->aZ aV s (ay b)=aV:=fun b hb=>by subst hb;exact xr eu
    rcases cg.1 h with⟨rfl,h⟩|⟨rfl,h⟩
    .simp only[ei,pb true rfl]at h;cases iF with
     |true=>rw[if_pos (by simp[hw])];exact .inl (exec aV hI h)
     |false=>rw[if_neg (by simp[hw])];exact skip aV hI h
    .simp only[ei,pb false rfl]at h;cases iF with
     |false=>rw[if_pos (by simp[hw])];exact .inl (exec aV hI h)
     |true=>rw[if_neg (by simp[hw])];exact skip aV hI h
   .exact h.elim
theorem bq.de{ρ:bG}{w:World}{pos:Option (Nat×Nat×Nat)}{c:CC}{v:Value}(h:bq ρ w pos c v):c.de ρ.n:=by
 cases c<;>simp only[bq]at h<;>simp only[CC.de]
 case ptr=>exact h.1
 case lC=>exact h.1
 case row=>exact h.1
 case map=>exact h.1
 case fn=>exact h.1
theorem du.de{ρ:bG}{w:World}{r:RV}{v:Value}(h:du ρ w r v):r.de ρ.n:=by
 cases r with
 |one c=>exact bq.de h
 |agg cs=>
  obtain⟨vs,_,_,hc⟩:=h;intro c oX;obtain⟨i,hi⟩:=Un oX;obtain⟨u,_,hd⟩:=hc i c hi;exact hd.de
theorem bV.de{ρ:bG}{w:World}{c:CV}{v:Value}(h:bV ρ w c v):c.de ρ.n:=by
 cases c with
 |ar=>trivial
 |undef=>trivial
 |rv r=>exact du.de h
 |bF rs=>
  obtain⟨vs,_,_,hc⟩:=h;intro r hr;obtain⟨i,hi⟩:=Un hr;obtain⟨u,_,hd⟩:=hc i r hi;exact hd.de
theorem dV.de{ρ:bG}{w:World}{id:Nat}{b:Bk}(h:dV ρ w id b):b.de ρ.n:=by
 cases b with
 |aO=>trivial
 |var cs=>
  obtain⟨cur,_,hc⟩:=h;intro c oX;obtain⟨i,hi⟩:=Un oX;obtain⟨u,_,hd⟩:=hc i c hi;exact hd.de
 |row esz elems=>
  obtain⟨h1,h2,h3,h4,h5⟩:=h;intro cs eY c oX;obtain⟨i,hi⟩:=Un eY;obtain⟨j,hj⟩:=Un oX;have aE:=(Gf.1 hi).1;obtain⟨cur,_,_,hc⟩:=h5 om;obtain⟨u,_,hd⟩:=hc i cs j c hi hj;exact hd.de
 |mp es=>
  obtain⟨cH,ck,_,_,hc⟩:=h;intro e he;obtain⟨i,hi⟩:=Un he;obtain⟨e',_,_,hd⟩:=hc i e hi;exact hd.de
 |it cur left=>trivial
theorem kX.get:∀{m m':Mem},kX m m'->∀(i:Nat)b',m'[i]? =some b'->b'= .aO\/m[i]? =some b'
 |_,_,.nil m,i,b',h=>by simp at h
 |_,_,.cons (b:=b) (b':=b1) (m:=m) (m':=m') h hm,i,b',hi=>by
  cases i with
  |zero=>simp at hi;subst hi;rcases h with rfl|rfl<;>simp
  |succ i=>simpa using hm.get i b' (by simpa using hi)
theorem HL.U3{n0:Nat}{s s':St}{ρ:bG}{w:World}(h:HL n0 s s')(hM:aA ρ s.mem w):∀b,b∈s'.mem->b.de s'.mem.length:=by
 rcases h.iN with he|hi
 .intro b hb;obtain⟨i,hi⟩:=Un hb;rcases h.mem.get i b hi with rfl|qn
  .trivial
  .have:=(hM.bk i b qn).de;rw[he,<-hM.n];exact this
 .exact hi
theorem HL.view{n0:Nat}{s s':St}(hw:HL n0 s s'):View n0 s s':=by
 refine⟨hw.n0,hw.len,fun ρ w kh=>?_⟩
 obtain⟨hM,cP⟩:=kh.HM hw.mem (hw.U3 kh);refine⟨{ρ with n:=s'.mem.length},hM,⟨fun _ _=>rfl,fun _ h=>h,fun _ h=>.inl h,fun k hk=>⟨k,cP k hk,rfl⟩⟩,fun i c hi=>?_⟩
 rcases hw.aV i c hi with rfl|⟨dP,HN⟩
 .have aE:i<s.aV.length:=by rw[<-hw.len];exact(Gf.1 hi).1
  exact⟨_,sA aE,fun _ _=>trivial⟩
 .refine⟨c,dP,fun v hd=>?_⟩
  have Ri:c.de s'.mem.length:=by
   rcases HN with he|HN
   .rw[he,<-kh.n];exact hd.de
   .exact HN
  exact hd.cut Ri
theorem Inv.HM{st ib:St}{ρ:bG}{a:Act}{w:World}(hI:Inv N ρ0 m0 w0 st ρ a w)(kh:ρ0.n=m0.length)(hw:View m0.length st ib):∃ρ',Inv N ρ0 m0 w0 ib ρ' a w:=by
 obtain⟨ρ',hM,hc,hd⟩:=hw.go ρ w hI.mem;refine⟨ρ',⟨by rw[kh,hM.n];exact hw.hn,fun id hid=>(hc.aP id (by rw[<-kh];exact hid)).trans (hI.ext.aP id hid),fun b hb=>hc.S b (hI.ext.S b hb),fun b hb=>?_,fun k hk=>?_,hI.ext.frame,hI.ext.size,hI.ext.os,hI.ext.tape,hI.ext.output⟩,hM,?_,hI.defers.s hc.S,hI.hN,hw.hn⟩
 .rcases hc.S' b hb with h|⟨k,hk,rfl⟩
  .exact hI.ext.S' b h
  .exact .inr (hI.ext.a7 k hk)
 .obtain⟨k0,h0,e0⟩:=hc.a7 k hk;rw[<-e0];exact hI.ext.a7 k0 h0
 .refine⟨hI.aV.size.trans hw.len.symm,fun i c hi=>?_⟩
  obtain⟨c0,sH,H7⟩:=hd i c hi;obtain⟨v,hv,uY⟩:=hI.aV.jP i c0 sH;exact⟨v,hv,H7 v uY⟩
end
end Go.AM
