/- Part 8 of 41: what the law stands on. -/
import Derived.Test.YthagjdhjmamakaaGreatDoorT05
import Derived.Test.YthagjdhjmamakaaGreatDoorT06
import Derived.Test.YthagjdhjmamakaaGreatDoorT07
set_option linter.unusedVariables false
set_option linter.unusedSimpArgs false
set_option linter.unnecessarySimpa false
set_option maxRecDepth 100000
set_option maxHeartbeats 64000000
namespace Go.AM
section
variable {P:Program} {ρ:bH} {m:Mem} {w:World} {aU:List CV} {a:Act} {K:CV->Mem->Prop}
theorem uo{α:Type}{l:List α}{h:Nat}{E:List α}(hle:h+E.length<=l.length):(cC l h E).length=l.length:=by simp[cC];omega
theorem oR{α:Type}{l:List α}{h:Nat}{E:List α}(hle:h+E.length<=l.length)(i:Nat):(cC l h E)[i]? =if h<=i/\i<h+E.length then E[i-h]? else l[i]? :=by
 have hl:(l.take h).length=h:=by simp;omega
 simp only[cC];rcases XN i h with h1|h1
 .rw[VO om,if_neg om,aao,if_pos h1]
 .rw[UX om,hl];rcases XN (i-h) E.length with h2|h2
  .rw[VO h2,if_pos om]
  .rw[UX h2,if_neg om,aaA];congr 1;omega
theorem br.Jk{c:CC}{v:Value}{pos:Option (Nat×Nat×Nat)}(hc:c.hC=true)(h:br ρ w pos c v):br ρ w .none c v:=by
 cases c<;>first|exact h|simp[CC.hC]at hc
theorem q9(hM:aC ρ m w){id esz h:Nat}{rows E:List (List CC)}{vs:List Value}(hb:m[id]? =some (.row esz rows))(hle:h+E.length<=rows.length)(de:0<rows.length)(hE:∀cs,cs∈E->cs.length=esz)(wi:vs.length=E.length*esz)(Wl:∀u,u∈vs->u.oneCell'=true)(bY:∀(i:Nat)cs(j:Nat)c,E[i]? =some cs->cs[j]? =some c->∃u,vs[i*esz+j]? =some u/\br ρ w .none c u):
  ∃w',(storeCells ⟨(ρ.aO (.ap id)).b,(ρ.aO (.ap id)).au+h*esz,none⟩ vs).run P w= .ok () w'/\aC ρ (m.set id (.row esz (cC rows h E))) w'/\Ext ρ m w ρ (m.set id (.row esz (cC rows h E))) w':=by
 have hid:id<m.length:=(Hy.1 hb).1;obtain⟨h2,h3,h4,h5,zE⟩:=hM.bk id _ hb;have bl:0<(ρ.aO (.ap id)).cap:=om;obtain⟨cur,bU,h1,hd⟩:=zE bl;have hmul:(h+E.length)*esz<=(ρ.aO (.ap id)).cap*esz:=aam _ om;rw[aaz]at hmul;obtain⟨w',fP,hr,px,ht,dj,hk⟩:=l3 (P:=P) (ρ.aO (.ap id)).b ((ρ.aO (.ap id)).au+h*esz) vs 0 cur w bU (by rw[wi];omega) Wl
 obtain⟨kY,hX⟩:=hM.PF (Cy:= .row esz (cC rows h E)) hb ⟨_,hb,aK,fun _=>bl⟩ ht (fun g=>⟨by rw[uo hle];exact h2,h3,h4,fun cs fb=>by
   obtain⟨i,hi⟩:=Xz fb;rw[oR hle]at hi;split at hi
   .exact hE cs (O9 hi)
   .exact h5 cs (O9 hi),fun _=>⟨fP,px,by rw[dj];exact h1,fun i cs j c hi hj=>by
  rw[hk];rw[oR hle]at hi;have l4:j<esz:=by
   have gK:cs.length=esz:=by
    split at hi
    .exact hE cs (O9 hi)
    .exact h5 cs (O9 hi)
   rw[<-gK];exact(Hy.1 hj).1
  split at hi
  .rename_i jI;obtain⟨u,hu,b9⟩:=bY _ cs j c hi hj;have e1:i*esz=h*esz+(i-h)*esz:=by rw[<-aaz];congr 1;omega
   have aF:=(Hy.1 hu).1;rw[if_pos om];refine⟨u,?_,(b9.cF g aK).ub _⟩;rw[<-hu];congr 1;omega
  .rename_i jI;obtain⟨u,hu,b9⟩:=hd i cs j c hi hj;have eL:¬((ρ.aO (.ap id)).au+h*esz+0<=(ρ.aO (.ap id)).au+i*esz+j/\(ρ.aO (.ap id)).au+i*esz+j<(ρ.aO (.ap id)).au+h*esz+0+vs.length):=by
    rw[wi];rcases XN i h with q|q
    .have:(i+1)*esz<=h*esz:=aam _ q;rw[aaz,aaU]at this;omega
    .have:(h+E.length)*esz<=i*esz:=aam _ om;rw[aaz]at this;omega
   rw[if_neg eL];exact⟨u,hu,b9.cF g (by rintro _ _ _ e;cases e;rw[hM.n];exact hid)⟩⟩⟩) (by
  rintro i' j' wa e ⟨es,Ox,I8,nf,d8,jy⟩;rw[QO hid]at nf;cases nf;rw[oR hle]at d8;split at d8
  .obtain⟨u,hu,b9⟩:=bY _ _ _ _ d8 jy;exact absurd rfl (b9.x8 _ _)
  .exact⟨esz,rows,I8,hb,d8,jy⟩)
 exact⟨w',hr,kY,hX⟩
theorem uq:∀{cs:List CC},oK cs=true->∀c,c∈cs->c.hC=true
 | [],_,c,h=>by simp at h
 |x::r,h,c,hc=>by
  simp only[oK,T6]at h;rcases aad.1 hc with rfl|hc
  .exact h.1
  .exact uq h.2 c hc
theorem oz:∀{E:List (List CC)},eS E=true->∀cs,cs∈E->oK cs=true
 | [],_,c,h=>by simp at h
 |x::r,h,c,hc=>by
  simp only[eS,T6]at h;rcases aad.1 hc with rfl|hc
  .exact h.1
  .exact oz h.2 c hc
theorem oA{E:List (List CC)}(h:eS E=true){i j:Nat}{cs:List CC}{c:CC}(hi:E[i]? =some cs)(hj:cs[j]? =some c):c.hC=true:=
 uq (oz h cs (O9 hi)) c (O9 hj)
theorem Ah(hM:aC ρ m w){t t2 ty e e2:TypeId}{i:TypeInfo}{z:List CC}{v v2:Value}{c2:CV}{id h:Nat}{rows E2:List (List CC)}(ht:P.underlying t=some (.slice e))(ug:P.underlying t2=some (.slice e2))(hi:P.info? e=some i)(hz:dE P e=some z)(dj:i.size=z.length)(hb:0<i.bytes)(hd:bW ρ w (.rv (.one (.row id i.size 0 (some h)))) v)(ow:bW ρ w c2 v2)(eT:m[id]? =some (.row i.size rows))(zG:eR m i.size c2=some E2)(de:0<rows.length)(hle:h+E2.length<=rows.length)(iV:eS E2=true)(jg:rows.length*i.bytes<=140737488355328)(hK:K (.rv (.one (.row id i.size 0 (some (h+E2.length))))) (m.set id (.row i.size (cC rows h E2)))):
  dl P (do pure (Next.value (<-Builtin.append_ #[t,t2] ty #[v,v2]))) ρ m w K:=by
 have hid:id<m.length:=(Hy.1 eT).1;have wg:eR m i.size (.rv (.one (.row id i.size 0 (some h))))=some (ct rows 0 (some h)):=by simp[eR,aT,eT]
 obtain⟨MD,jh,Rz,CQ,Sr,MF,F1⟩:=l5 hM wg hd;obtain⟨YV,Je,Jf,ye,Ss,Su,F2⟩:=l5 hM zG ow;have Cd:=hz;simp only[dE,Pq,KG]at Cd;obtain⟨i',dV,zv,MG,MC⟩:=Cd;rw[hi]at dV;cases dV;have SH:(ct rows 0 (some h)).length=h:=by rw[kD];simp;omega
 rw[SH]at CQ Sr;have SI:(h+E2.length)*i.bytes<=140737488355328:=aaC (aam _ hle) jg;have du:=ni (P:=P) (w:=w) (ty:=ty) ht ug hi MG (a0:=MD) (n1:=h) (c1:=jh) (n2:=E2.length) (src:=v2) (olds:=Rz) (news:=Jf)
  (by rw[ye];rfl) (fun k=>by rw[ye];exact F2.firstCells Je k) (fun k=>by have:=F1.firstCells (P:=P) jh k;rwa [SH]at this) hb SI
 obtain⟨r2,r3,r4,r5,GI⟩:=hM.bk id _ eT;obtain⟨aF,d1,d2,d3,d4,ad,MI,tf⟩:=hd;rw[MI]at CQ;injection CQ with q1 q2 q3
 simp only[abf]at q3;have CA:h+E2.length<=jh:=by rw[<-q3];clear GI;omega
 have q0:=tf (by clear GI;omega)
 rw[if_pos CA]at du;obtain⟨w',zF,kY,hX⟩:=q9 (P:=P) hM (h:=h) (E:=E2) (vs:=Jf) eT hle de F2.ke F2.len F2.one (fun k cs j c hk hj=>by obtain⟨u,hu,b9⟩:=F2.j7 k cs j c hk hj;exact⟨u,hu,b9.Jk (oA iV hk hj)⟩)
 refine⟨.value (.slice MD (h+E2.length) jh),_,w',.rv (.one (.row id i.size 0 (some (h+E2.length)))),_,ρ,?_,.inl rfl,hK,kY,?_,hX⟩
 .rw[MI,q1,q2,show(ρ.aO (.ap id)).cap-0=jh by simpa using q3,Sem.run_bind,du]
  rw[<-q1,q0];simp only[wS,kX,Nat.zero_mul,abL];rw[zF];rfl
 .refine⟨aF,XL _,?_,d3,d4,MD,?_,fun h0=>by rw[<-q1];exact tf h0⟩
  .show h+E2.length<=_;clear GI;omega
  .simp only[aaD,abf];rw[q3]
theorem Ai(hM:aC ρ m w){t ty e:TypeId}{i:TypeInfo}{z:List CC}{v:Value}{id lo hi:Nat}{rows:List (List CC)}(ht:P.underlying t=some (.slice e))(dV:P.info? e=some i)(hz:dE P e=some z)(dj:i.size=z.length)(hd:bW ρ w (.rv (.one (.row id i.size lo (some hi)))) v)(eT:m[id]? =some (.row i.size rows))(gG:lo<hi)(hle:hi<=rows.length)(hK:K (.bG []) (m.set id (.row i.size (cC rows lo (fI (hi-lo) z))))):
  dl P (do pure (Next.value (<-Builtin.clear_ #[t] ty #[v]))) ρ m w K:=by
 have hid:id<m.length:=(Hy.1 eT).1;have Cd:=hz;simp only[dE,Pq,KG]at Cd;obtain⟨i',d8,zv,MG,MC⟩:=Cd;rw[dV]at d8;cases d8;obtain⟨Wi,PN⟩:=eA (ρ:=ρ) (w:=w) MC;have Mi:zv.cells.size=z.length:=by simpa using Wi
 obtain⟨r2,r3,r4,r5,GI⟩:=hM.bk id _ eT;obtain⟨aF,d1,d2,d3,d4,ad,MI,tf⟩:=hd;have q0:=tf (by clear GI;omega)
 have Y2:(fI (hi-lo) z).length=hi-lo:=by rw[fk];simp
 obtain⟨w',zF,kY,hX⟩:=q9 (P:=P) hM (h:=lo) (E:=fI (hi-lo) z) (vs:=(Builtin.zeroCells zv.cells (hi-lo)).toList) eT (by rw[Y2];omega) om
  (fun cs fb=>by rw[fk]at fb;rw[aa4 fb,dj]) (by rw[Y2,aaW,size_zeroCells,Mi,dj])
  (fun u hu=>by
   rw[ab2]at hu;simp only[Builtin.zeroCells,Array.mem_map]at hu;obtain⟨k,hk,rfl⟩:=hu;have hk:k<(hi-lo)*zv.cells.size:=by simpa using hk
   have hzp:0<zv.cells.size:=by
    rcases aav zv.cells.size with h0|h0
    .rw[h0]at hk;simp at hk
    .exact h0
   have hm:k%zv.cells.size<zv.cells.size:=Nat.mod_lt _ hzp;rw[Mi]at hm;obtain⟨u,hu,b9⟩:=PN _ _ (tq hm);have ti:zv.cells[k%zv.cells.size]? =some u:=by rw[Mi];simpa using hu
   rw[getElem!_def,ti];exact b9.one)
  (fun k cs j c hk hj=>by
   rw[fk]at hk;have i4:=(Hy.1 hk).1;simp at i4;have fb:cs=z:=aa4 (O9 hk);subst fb;have zH:=(Hy.1 hj).1;obtain⟨u,hu,b9⟩:=PN j c hj;refine⟨u,?_,b9⟩;have aF:k*i.size+j<(hi-lo)*zv.cells.size:=by have:(k+1)*i.size<=(hi-lo)*i.size:=aam _ i4;rw[aaz,aaU]at this;rw[Mi,<-dj];omega
   simp only[Builtin.zeroCells,aa3,acd,Array.getElem?_range];rw[if_pos aF];simp only[XS,XQ];have hm:(k*i.size+j)%zv.cells.size=j:=by rw[Mi,dj,abM,acr,acm zH]
   rw[hm];have ti:zv.cells[j]? =some u:=by simpa using hu
   rw[getElem!_def,ti])
 refine⟨.value (.tuple #[]),_,w',.bG [],_,ρ,?_,.inl rfl,hK,kY,⟨[],rfl,rfl,fun i r h=>by simp at h⟩,hX⟩
 have hn:hi-lo≠0:=om;simp only[aaD]at MI;rw[MI,q0];obtain⟨n,Ov⟩:∃n,hi-lo=n+1:=⟨hi-lo-1,om⟩;rw[Ov]at zF⊢;simp[Builtin.clear_,run_underlying ht,zeroValue,typeInfo,dV,MG,zF]
theorem GU(hM:aC ρ m w)(hE:be ρ w aU a.tmps){t t2 ty e e2:TypeId}{i:TypeInfo}{z:List CC}{x y:Operand}{x' y':X}(ht:P.underlying t=some (.slice e))(ug:P.underlying t2=some (.slice e2))(hi:P.info? e=some i)(hz:dE P e=some z)(dj:i.size=z.length)(de:0<z.length)(hb:0<i.bytes)(hx:bh x=some x')(hy:bh y=some y')(h:step P (.mY i.size i.bytes x' y') aU m K):
  dl P (do pure (Next.value (<-Builtin.append_ #[t,t2] ty #[a.eval x,a.eval y]))) ρ m w K:=by
 simp only[step]at h;rcases cj.1 h with⟨wV,g1⟩|⟨_,g1⟩
 .exact CP hM hE ht ug hi hz dj de hb hx hy wV g1
 .have hd:=aN hE hx;have ow:=aN hE hy;split at g1
  .rename_i id e1 lo hh Oq;rw[Oq]at hd;obtain⟨bk,eT,g2⟩:=bc.1 g1;rw[aT]at eT;split at g2
   .rename_i YW rows;obtain⟨E2,zG,g3⟩:=bc.1 g2;rcases cj.1 g3 with⟨hc,jg,hK⟩|⟨_,g4⟩
    case inr=>exact g4.elim
    simp only[T6,aap]at hc;obtain⟨q1,q2,q3,c1,c2,c3⟩:=hc;have q1:=XM q1;have q2:=XM q2;have q3:=XM q3;subst q1 q2 q3;rw[bg]at hK;exact Ah hM ht ug hi hz dj hb hd ow eT zG c1 c2 c3 jg hK
   .exact g2.elim
  .exact g1.elim
theorem GV(hM:aC ρ m w)(hE:be ρ w aU a.tmps){t ty e:TypeId}{i:TypeInfo}{z:List CC}{x:Operand}{x':X}(ht:P.underlying t=some (.slice e))(hi:P.info? e=some i)(hz:dE P e=some z)(dj:i.size=z.length)(hx:bh x=some x')(h:step P (.Rx i.size z x') aU m K):
  dl P (do pure (Next.value (<-Builtin.clear_ #[t] ty #[a.eval x]))) ρ m w K:=by
 have hd:=aN hE hx;simp only[step]at h;generalize a.eval x=v at hd⊢;generalize x'.ev aU=c at hd h;have nothing:∀ad cap,v= .slice ad 0 cap->K (.bG []) m->dl P (do pure (Next.value (<-Builtin.clear_ #[t] ty #[v]))) ρ m w K:=by
  intro ad cap hv hK;refine⟨.value (.tuple #[]),_,w,.bG [],m,ρ,?_,.inl rfl,hK,hM,⟨[],rfl,rfl,fun i r h=>by simp at h⟩,Ext.refl _ _ _⟩
  subst hv;cases ad<;>simp[Builtin.clear_,run_underlying ht]
 split at h
 .rename_i id e1 lo dV;obtain⟨bk,eT,h⟩:=bc.1 h;rw[aT]at eT;split at h
  .rename_i e2 rows;rcases cj.1 h with⟨hc,jI⟩|⟨_,jI⟩
   case inr=>exact jI.elim
   clear h;simp only[T6,aap]at hc;obtain⟨q1,q2,hle⟩:=hc;have q1:=XM q1;have q2:=XM q2;subst q1 q2;obtain⟨r2,_⟩:=hM.bk id _ eT;have Cc:bW ρ w (.rv (.one (.row id i.size lo (some (oL dV rows.length))))) v:=by
    obtain⟨d0,d1,d2,d3,d4,ad,hv,tf⟩:=hd;cases dV with
    |none=>
     simp only[abz]at d1 d2 hv;refine⟨d0,?_,?_,d3,d4,ad,?_,tf⟩<;>simp only[oL,aaD,r2]
     .exact d1
     .exact QN _
     .exact hv
    |some hh=>exact⟨d0,d1,d2,d3,d4,ad,hv,tf⟩
   rcases cj.1 jI with⟨aF,hK⟩|⟨ef,hK⟩
   .rw[bg]at hK;exact Ai hM ht hi hz dj Cc eT (by simpa[aaO]using aF) hle hK
   .have ef:¬lo<oL dV rows.length:=fun hh=>by rw[<-aaO,ef]at hh;cases hh
    obtain⟨d0,d1,d2,d3,d4,ad,hv,tf⟩:=Cc;simp only[aaD]at hv;rw[show oL dV rows.length-lo=0 by omega]at hv
    exact nothing _ _ hv hK
  .exact h.elim
 .obtain⟨ad,hv⟩:=hd;exact nothing _ _ hv h
 .exact h.elim
theorem Jl{c:CV}{v:Value}(hc:IX c=true)(hd:bW ρ w c v):∃ad n cap,v= .slice ad n cap:=by
 unfold IX at hc;split at hc;all_goals first
  |(cases hc;done)
  |(have hd:cZ _ _ _ _:=hd;cases hd<;>exact⟨_,_,_,rfl⟩)
  |(obtain⟨a,hv⟩:=hd;exact⟨_,_,_,hv⟩)
  |(obtain⟨_,_,_,_,_,a,hv,_⟩:=hd;exact⟨_,_,_,hv⟩)
theorem CW(hM:aC ρ m w)(hE:be ρ w aU a.tmps){t t2 ty e:TypeId}{i:TypeInfo}{z:List CC}{x y:Operand}{x' y':X}(ht:P.underlying t=some (.slice e))(hi:P.info? e=some i)(hz:dE P e=some z)(dj:i.size=z.length)(hx:bh x=some x')(hy:bh y=some y')(h:step P (.copy i.size x' y') aU m K):
  dl P (do pure (Next.value (<-Builtin.copy_ #[t,t2] ty #[a.eval x,a.eval y]))) ρ m w K:=by
 have hd:=aN hE hx;have ow:=aN hE hy;simp only[step]at h;generalize a.eval x=v at hd⊢;generalize a.eval y=v2 at ow⊢;generalize x'.ev aU=c at hd h;generalize y'.ev aU=c2 at ow h;obtain⟨E,zG,h⟩:=bc.1 h;obtain⟨YV,Je,Jf,ye,Ss,Su,F2⟩:=l5 hM zG ow;have hn:=F2.firstCells (P:=P) Je 0;rw[show w.drewN 0=w from rfl]at hn;have h':=h;clear h;rcases cj.1 h' with⟨h0,g⟩|⟨h0,g⟩
 .have h0:E.length=0:=XM h0;rcases cj.1 g with⟨hs,hK⟩|⟨_,g⟩
  case inr=>exact g.elim
  obtain⟨ad,n,cap,hv⟩:=Jl hs hd;have wi:Jf=[]:=XJ (by rw[F2.len,h0,Nat.zero_mul])
  rw[h0]at hn ye;rw[wi]at hn;refine⟨.value (goInt 0),_,w,an .i64 0,m,ρ,?_,.inl rfl,hK,hM,cZ.val (.int .i64 0) rfl,Ext.refl _ _ _⟩;subst hv ye;cases ad<;>simp[Builtin.copy_,run_underlying ht,Builtin.lenOf,sizeOf,typeInfo,hi,hn,storeCells]
 .split at g
  .clear h';rename_i Y3 e1 lo dV;obtain⟨bk,eT,g⟩:=bc.1 g;rw[aT]at eT;split at g
   .rename_i e2 rows;rcases cj.1 g with⟨hc,hK⟩|⟨_,g⟩
    case inr=>exact g.elim
    clear g;simp only[T6,aap]at hc;obtain⟨q1,q2,hle,jg,iV⟩:=hc;have q1:=XM q1;have q2:=XM q2;subst q1 q2;have de:0<E.length:=by
     rcases aav E.length with e0|e0
     .rw[e0]at h0;cases h0
     .exact e0
    obtain⟨r2,r3,_⟩:=hM.bk Y3 _ eT;have Cc:bW ρ w (.rv (.one (.row Y3 i.size lo (some (oL dV rows.length))))) v:=by
     obtain⟨d0,d1,d2,d3,d4,ad,hv,tf⟩:=hd;cases dV with
     |none=>
      simp only[abz]at d1 d2 hv;refine⟨d0,?_,?_,d3,d4,ad,?_,tf⟩<;>simp only[oL,aaD,r2]
      .exact d1
      .exact QN _
      .exact hv
     |some hh=>exact⟨d0,d1,d2,d3,d4,ad,hv,tf⟩
    obtain⟨w',zF,kY,hX⟩:=q9 (P:=P) hM (h:=lo) (E:=E) (vs:=Jf) eT om om F2.ke F2.len F2.one (fun k cs j c hk hj=>by obtain⟨u,hu,b9⟩:=F2.j7 k cs j c hk hj;exact⟨u,hu,b9.Jk (oA iV hk hj)⟩)
    rw[bg]at hK;obtain⟨d0,d1,d2,d3,d4,ad,hv,tf⟩:=Cc;simp only[aaD]at hv d2;have q0:=tf om;have Wm:Nat.min E.length (oL dV rows.length-lo)=E.length:=ab3 om;refine⟨.value (goInt E.length),_,w',an .i64 (E.length:Int),_,ρ,?_,.inl rfl,hK,kY,cZ.val (.int .i64 (E.length:Int)) rfl,hX⟩;subst hv ye q0;simp[Builtin.copy_,run_underlying ht,Builtin.lenOf,sizeOf,typeInfo,hi,hn,Wm,zF]
   .exact g.elim
  .exact g.elim
theorem CX(hM:aC ρ m w)(hE:be ρ w aU a.tmps){t e:TypeId}{n sz:Nat}{agg:Bool}{x k:Operand}{x' k':X}(hu:P.underlying t=some (.array n e))(ha:dU P e=some agg)(hs:d9 P e=some sz)(hx:bh x=some x')(hk:bh k=some k')(h:step P (.IT agg n sz x' k') aU m K):dl P (do pure (Next.value (<-Instr.index t (a.eval x) (a.eval k)))) ρ m w K:=by
 have hd:=aN hE hx;have CU:=aN hE hk;simp only[step]at h;generalize a.eval x=v at hd⊢;generalize a.eval k=vk at CU⊢;generalize x'.ev aU=c at hd h;generalize k'.ev aU=ck at CU h;split at h
 .rename_i kd j;obtain⟨rfl,_⟩:=bJ CU;split at h
  .rename_i cs;obtain⟨vs,rfl,hl,hc⟩:=hd;obtain⟨kk,Cf,g1⟩:=bc.1 h;obtain⟨hj,aF⟩:=lF Cf;obtain⟨l,hr,g2⟩:=bc.1 g1;obtain⟨cv,hm,hK⟩:=bc.1 g2;clear h g1 g2;subst hj;obtain⟨u,du,b9⟩:=Aa (w:=w) ha hs (cells:=vs.toArray) ⟨by simpa using hl,fun i c hi=>by simpa using hc i c hi⟩ hr hm
   refine dl.pure hM (v:=u) ?_ hK b9;have h1:(0:Int)<=(kk:Int)/\(kk:Int)<(n:Int):=om;simp[Instr.index,asIntOf,run_underlying hu,h1,eU hs,aF,du]
  .exact h.elim
 .exact h.elim
theorem pI(hM:aC ρ m w)(hE:be ρ w aU a.tmps){mx:Bool}{ts:Array TypeId}{ty:TypeId}{x y:Operand}{x' y':X}(hx:bh x=some x')(hy:bh y=some y')(h:step P (.iS mx [x',y']) aU m K):dl P (do pure (Next.value (<-(if mx then Builtin.max_ ts ty #[a.eval x,a.eval y]else Builtin.min_ ts ty #[a.eval x,a.eval y])))) ρ m w K:=by
 have hd:=aN hE hx;have ow:=aN hE hy;simp only[step]at h;generalize a.eval x=v at hd⊢;generalize a.eval y=u at ow⊢;generalize x'.ev aU=c at hd h;generalize y'.ev aU=d at ow h;split at h
 .rename_i k p;obtain⟨rfl,_⟩:=bJ hd;split at h
  .rename_i k2 q;obtain⟨rfl,_⟩:=bJ ow;cases mx
   .refine dl.pure hM (v:= .int k (if q<p then q else p)) ?_ h (ce rfl)
    simp[Builtin.min_,Builtin.min2]
   .refine dl.pure hM (v:= .int k (if q>p then q else p)) ?_ h (ce rfl)
    simp[Builtin.max_,Builtin.max2]
  .exact h.elim
 .exact h.elim
theorem GW(hM:aC ρ m w)(hE:be ρ w aU a.tmps){s e e2:TypeId}{x:Operand}{x':X}(hs:P.underlying s=some (.slice e))(he:P.underlying e=some (.int .u8))(hx:bh x=some x')(h:step P (.Vb x') aU m K):dl P (do pure (Next.value (<-convert s s (a.eval x)))) ρ m w K:=by
 have hd:=aN hE hx;simp only[step]at h;generalize a.eval x=v at hd⊢;generalize x'.ev aU=c at hd h;split at h
 .rename_i id e1 lo hi;obtain⟨bk,eT,g1⟩:=bc.1 h;rw[aT]at eT;split at g1
  .rename_i esz rows;rcases cj.1 g1 with⟨aF,hK⟩|⟨_,g2⟩
   case inr=>exact g2.elim
   rw[T6,aaO]at aF;obtain⟨pg,aF⟩:=aF;have pg:=XM pg;have hid:id<m.length:=(Hy.1 eT).1;have PH:=hd;obtain⟨d0,d1,d2,d3,d4,ad,hv,tf⟩:=hd;obtain⟨r2,r3,r4,r5,GI⟩:=hM.bk id _ eT;have bl:0<(ρ.aO (.ap id)).cap:=by clear GI;omega
   obtain⟨cur,bU,h1,bY⟩:=GI bl;have q0:=tf (by clear GI;omega)
   obtain⟨ty,fr,ku,vY,iV,_⟩:=bU;have SG:=(aac.1 ku).1;let SJ:Nat×Nat:=if fr.1==fr.2 then(cur.size,cur.size+1)else(min fr.1 cur.size,max fr.2 (cur.size+1))
   let w':World:=w.freeze ⟨(ρ.aO (.ap id)).b,cur.size,none⟩ 1;have PT:w'.heap[(ρ.aO (.ap id)).b]? =some (.cells cur ty SJ):=by simp[w',World.freeze,aaJ,ku,SJ]
   have Aj:lq (esz=1) w' (ρ.aO (.ap id)).b cur:=by
    refine⟨ty,SJ,PT,?_,fun i hi=>?_,.inl pg⟩
    .simp only[SJ];split
     .simp
     .simp only;omega
    .simp only[SJ];split
     .simp;omega
     .rename_i eL;have eL:fr.1≠fr.2:=by simpa using eL
      have h0:cur.size<=fr.1:=by
       rcases XN fr.1 cur.size with q|q
       .have:=iV fr.1 q;simp at this;omega
       .exact q
      simp;omega
   have ht:jH w w' (ρ.aO (.ap id)).b:=⟨fun b hb=>by simp[w',World.freeze,aaJ,Ne.symm hb],by simp[w',World.freeze],by simp[w',World.freeze],by simp[w',World.freeze],by simp[w',World.freeze]⟩
   obtain⟨kY,hX⟩:=hM.PF (Cy:= .row esz rows) eT ⟨_,eT,aK,fun _=>bl⟩ ht (fun g=>⟨r2,r3,r4,r5,fun _=>⟨cur,Aj,h1,fun i cs j c hi hj=>by
    obtain⟨u,hu,b9⟩:=bY i cs j c hi hj;exact⟨u,hu,b9.cF g (by rintro _ _ _ e;cases e;exact d0)⟩⟩⟩) (by
    rintro i' j' wa e ⟨es,Ox,I8,nf,d8,jy⟩;rw[QO hid]at nf;cases nf;exact⟨esz,rows,I8,eT,d8,jy⟩)
   have ji:m.set id (.row esz rows)=m:=by
    apply aaI;intro i;rw[aaq];split
    .rename_i hi;subst hi
     first|rw[eT]|rw[if_pos hid,eT]
    .rfl
   rw[ji]at kY hX;refine⟨.value v,v,w',_,m,ρ,?_,.inl rfl,hK,kY,PH,hX⟩;have Wn:w.shape? (ρ.aO (.ap id)).b=some (ty,cur.size):=by unfold World.shape?;rw[ku]
   rw[hv,q0];simp[convert,run_underlying hs,run_underlying he,markStringish,Wn];rfl
  .exact g1.elim
 .exact h.elim
end
section
variable {P:Program} {ρ:bH} {m:Mem} {w:World} {aU:List CV} {a:Act} {K:CV->Mem->Prop}
theorem be.ext{ρ':bH}{m':Mem}{w':World}{tmps:Array Value}(hM:aC ρ m w)(x:Ext ρ m w ρ' m' w')(hE:be ρ w aU tmps):be ρ' w' aU tmps:=
 ⟨hE.size,fun i c hi=>let⟨v,hv,hd⟩:=hE.j7 i c hi;⟨v,hv,bW.ext hM x hd⟩⟩
theorem be.set{tmps:Array Value}{d:Nat}{c:CV}{v:Value}(hE:be ρ w aU tmps)(hd:bW ρ w c v):be ρ w (aU.set d c) (tmps.setIfInBounds d v):=by
 refine⟨by simp[hE.size],fun i c' hi=>?_⟩
 by_cases h:d=i
 .subst h;have aF:d<aU.length:=by
   rcases XN d aU.length with h|h
   .exact h
   .rw[aaj (by simpa using h)]at hi;cases hi
  rw[QO aF]at hi;cases hi;exact⟨v,by rw[aa1];simp[hE.size,aF],hd⟩
 .rw[XK h]at hi;obtain⟨u,hu,b9⟩:=hE.j7 i c' hi;exact⟨u,by rw[aa1,if_neg h];exact hu,b9⟩
theorem Jm{d:Option Nat}{v:CV}{e:List CV}{K:List CV->Prop}:put d v e K=match d with|none=>K e|some d=>K (e.set d v):=by
 cases d with
 |none=>rfl
 |some d=>simp only[put,R9,ew,bg]
theorem be.put{d:Option Nat}{c:CV}{v:Value}(hE:be ρ w aU a.tmps)(hd:bW ρ w c v){K:List CV->Prop}(h:put d c aU K):
  ∃fc,K fc/\be ρ w fc (a.put d v).tmps/\(a.put d v).defers=a.defers:=by
 rw[Jm]at h;cases d with
 |none=>exact⟨aU,h,hE,rfl⟩
 |some d=>exact⟨_,h,hE.set hd,rfl⟩
theorem CY{o:Oper}{i:I}(hl:tX P o=some i)(sF:∀f xs ts,o.op≠.call {callee:= .value f,args:=xs,argTypes:=ts})(hM:aC ρ m w)(hE:be ρ w aU a.tmps)(h:step P i aU m K):dl P (execOp a.eval o) ρ m w K:=by
 unfold tX at hl;cases dB:o.op;all_goals rw[dB]at hl
 all_goals try(simp only at hl;cases hl;done)
 case move x=>
  simp only[Pq,KG]at hl;obtain⟨x',hx,hl⟩:=hl;cases hl;unfold execOp;rw[dB];exact dl.pure hM rfl h (aN hE hx)
 case assign x=>
  simp only[Pq,KG]at hl;obtain⟨x',hx,hl⟩:=hl;cases hl;unfold execOp;rw[dB];exact dl.pure hM rfl h (aN hE hx)
 case pick c x y=>
  simp only[Pq,KG]at hl;obtain⟨c',hc,x',hx,y',hy,hl⟩:=hl;cases hl;unfold execOp;rw[dB];exact CK hM hE hc hx hy h
 case alloc t=>
  simp only[Pq,KG]at hl;obtain⟨z,hz,hl⟩:=hl;cases hl;unfold execOp;rw[dB];exact zZ hM hz h
 case box t x=>
  simp only[Pq,KG]at hl;obtain⟨x',hx,hl⟩:=hl;cases hl;unfold execOp;rw[dB];exact GA hM hE hx h
 case build t ps=>
  simp only[Pq,KG]at hl;obtain⟨z,hz,hl⟩:=hl;unfold execOp;rw[dB];split at hl
  .rename_i fs hu;split at hl
   .rename_i eB;simp only[KG]at hl;obtain⟨ph,hp,hl⟩:=hl;cases hl;exact sq hM hE hz (.inl ⟨fs,hu,eB,hp⟩) h
   .cases hl
  .rename_i n e hu;simp only[KG]at hl;obtain⟨sz,hs,ph,hp,hl⟩:=hl;cases hl;exact sq hM hE hz (.inr ⟨n,e,sz,hu,hs,hp⟩) h
  .cases hl
 case buildSlice t n ps=>
  simp only[Pq]at hl;unfold execOp;rw[dB];split at hl
  .rename_i e hu;simp only[KG]at hl;obtain⟨z,hz,sz,hs,hl⟩:=hl;split at hl
   .rename_i hc;obtain⟨rfl,h2,h3⟩:=hc;simp only[KG]at hl;obtain⟨ph,hp,hl⟩:=hl;cases hl;exact GG hM hE hu hz hs h2 h3 hp h
   .cases hl
  .cases hl
 case load t x=>
  simp only[Pq,KG]at hl;obtain⟨agg,ha,n,hs,x',hx,hl⟩:=hl;cases hl;unfold execOp;rw[dB];exact CD hM hE ha hs hx h
 case store t p x=>
  simp only[Pq,KG]at hl;obtain⟨n,hs,hl⟩:=hl;split at hl
  .cases hl
  .rename_i hn;simp only[KG]at hl;obtain⟨p',hp,x',hx,hl⟩:=hl;cases hl;unfold execOp;rw[dB];exact z8 hM hE hs hn hp hx h
 case fieldAddr t x k=>
  simp only[Pq]at hl;unfold execOp;rw[dB];split at hl
  .rename_i fs hu;simp only[KG]at hl;obtain⟨f,hf,n,hs,hl⟩:=hl;split at hl
   .cases hl
   .rename_i hn;simp only[KG]at hl;obtain⟨x',hx,hl⟩:=hl;cases hl;exact CE hM hE hu hf hs hn hx h
  .cases hl
 case field t x k=>
  simp only[Pq]at hl;unfold execOp;rw[dB];split at hl
  .rename_i fs hu;simp only[KG]at hl;obtain⟨f,hf,agg,ha,n,hs,x',hx,hl⟩:=hl;cases hl;exact GB hM hE hu hf ha hs hx h
  .cases hl
 case indexAddr t x k=>
  simp only[Pq]at hl;unfold execOp;rw[dB];split at hl
  .rename_i e hu;simp only[KG]at hl;obtain⟨n,hs,x',hx,k',hk,hl⟩:=hl;cases hl;exact GC hM hE hu hs hx hk h
  .rename_i len e hu;simp only[KG]at hl;obtain⟨n,hs,x',hx,k',hk,hl⟩:=hl;cases hl;exact CF hM hE hu hs hx hk h
  .cases hl
 case index t x k=>
  simp only[Pq]at hl;unfold execOp;rw[dB];split at hl
  .rename_i hu;simp only[KG]at hl;obtain⟨x',hx,k',hk,hl⟩:=hl;cases hl;exact CG hM hE hu hx hk h
  .rename_i n e hu;simp only[KG]at hl;obtain⟨agg,ha,sz,hs,x',hx,k',hk,hl⟩:=hl;cases hl;exact CX hM hE hu ha hs hx hk h
  .cases hl
 case binOp op t x y yt=>
  simp only[Pq]at hl;unfold execOp;rw[dB];split at hl
  .simp only[KG]at hl;obtain⟨x',hx,y',hy,hl⟩:=hl;cases hl;exact wO hM hE hx hy h
  .simp only[KG]at hl;obtain⟨x',hx,y',hy,hl⟩:=hl;cases hl;exact wO hM hE hx hy h
  .rename_i e hu;split at hl
   .simp only[KG]at hl;obtain⟨x',hx,hl⟩:=hl;cases hl;exact uj (neg:=false) hM hE hu hx h
   .simp only[KG]at hl;obtain⟨x',hx,hl⟩:=hl;cases hl;exact uj (neg:=true) hM hE hu hx h
   .cases hl
  .rename_i hu;split at hl
   .simp only[KG]at hl;obtain⟨x',hx,y',hy,hl⟩:=hl;cases hl;exact wP (neg:=false) hM hE hu hx hy h
   .simp only[KG]at hl;obtain⟨x',hx,y',hy,hl⟩:=hl;cases hl;exact wP (neg:=true) hM hE hu hx hy h
   .cases hl
  .rename_i n e hu;split at hl
   .rename_i kk hg Wo hs;simp only[KG]at hl;obtain⟨x',hx,y',hy,hl⟩:=hl;cases hl;exact ud (neg:=false) hM hE hu hg Wo hs hx hy h
   .rename_i kk hg Wo hs;simp only[KG]at hl;obtain⟨x',hx,y',hy,hl⟩:=hl;cases hl;exact ud (neg:=true) hM hE hu hg Wo hs hx hy h
   .cases hl
  .rename_i fs hu;split at hl
   .rename_i ks hg hk;simp only[KG]at hl;obtain⟨x',hx,y',hy,hl⟩:=hl;cases hl;exact wQ (neg:=false) hM hE hu hg hk hx hy h
   .rename_i ks hg hk;simp only[KG]at hl;obtain⟨x',hx,y',hy,hl⟩:=hl;cases hl;exact wQ (neg:=true) hM hE hu hg hk hx hy h
   .cases hl
  .cases hl
 case unOp op t x=>
  simp only[Pq,KG]at hl;obtain⟨x',hx,hl⟩:=hl;cases hl;unfold execOp;rw[dB];exact Ja hM hE hx h
 case convert s d x=>
  simp only[Pq]at hl;unfold execOp;rw[dB];split at hl
  .rename_i hs hd;simp only[KG]at hl;obtain⟨x',hx,hl⟩:=hl;cases hl;exact CH hM hE hs hd hx h
  .rename_i hs hd;simp only[KG]at hl;obtain⟨x',hx,hl⟩:=hl;cases hl;exact GD hM hE hs hd hx h
  .rename_i e hs hd;split at hl
   .rename_i he;simp only[KG]at hl;obtain⟨x',hx,hl⟩:=hl;cases hl;exact GK hM hE hs he hd hx h
   .cases hl
  .rename_i e hs hd;split at hl
   .rename_i he;simp only[KG]at hl;obtain⟨x',hx,hl⟩:=hl;cases hl;exact GL hM hE hs hd he hx h
   .cases hl
  .rename_i e0 e hs hd;split at hl
   .rename_i Wp he;simp only[KG]at hl;obtain⟨x',hx,hl⟩:=hl;cases hl;have Wp:s=d:=by simpa using Wp
    subst Wp;rw[hs]at hd;cases hd;exact GW (e2:=e0) hM hE hs he hx h
   .cases hl
  .cases hl
 case range t x=>
  dsimp only at hl;unfold execOp;rw[dB];split at hl
  .rename_i kt vt hu;simp only[Pq,KG]at hl;obtain⟨x',hx,hl⟩:=hl;cases hl;exact GP hM hE hu hx h
  .cases hl
 case next it b=>
  cases b with
  |false=>
   simp only[Pq,KG]at hl;unfold execOp;rw[dB];obtain⟨x',hx,hl⟩:=hl;cases hl;exact GR hM hE hx h
  |true=>cases hl
 case entry it=>
  simp only[Pq,KG]at hl;unfold execOp;rw[dB];obtain⟨x',hx,hl⟩:=hl;cases hl;exact GS hM hE hx h
 case makeMap t r=>
  dsimp only at hl;unfold execOp;rw[dB];split at hl
  .cases hl;exact sB hM (.inl rfl) h
  .rename_i k n kt et hu;cases hl;exact sB hM (.inr ⟨k,n,kt,et,rfl,hu⟩) h
  .cases hl
 case makeSlice t l c=>
  simp only[Pq]at hl;unfold execOp;rw[dB];split at hl
  .rename_i e hu;simp only[KG]at hl;obtain⟨i,hi,z,hz,hl⟩:=hl;split at hl
   .rename_i hc;obtain⟨h1,h2,h3⟩:=hc;simp only[KG]at hl;obtain⟨l',GM,c',px,hl⟩:=hl;cases hl;exact wh hM hE hu hi hz h1 h2 h3 GM px h
   .cases hl
  .cases hl
 case lookup t x k b=>
  simp only[Pq]at hl;unfold execOp;rw[dB];split at hl
  .rename_i kt vt hu;simp only[KG]at hl;obtain⟨z,hz,kk,hk,x',hx,k',MK,hl⟩:=hl;cases hl;exact CT hM hE hu hz hk hx MK h
  .cases hl
 case mapUpdate t x k v=>
  simp only[Pq]at hl;unfold execOp;rw[dB];split at hl
  .rename_i kt vt hu;simp only[KG]at hl;obtain⟨kk,hk,x',hx,k',MK,v',hv,hl⟩:=hl;cases hl;exact ul hM hE hu hk hx MK hv h
  .cases hl
 case insert t x k v=>
  simp only[Pq]at hl;unfold execOp;rw[dB];split at hl
  .rename_i kt vt hu;simp only[KG]at hl;obtain⟨kk,hk,x',hx,k',MK,v',hv,hl⟩:=hl;cases hl;exact ul hM hE hu hk hx MK hv h
  .cases hl
 case makeFunc fn fst dN=>
  unfold execOp;rw[dB];cases fn<;>simp only at hl<;>try(cases hl;done)
  rename_i f;split at hl
  .rename_i hz;simp only[Pq,KG]at hl;obtain⟨x',hx,hl⟩:=hl;cases hl;have hf:fst= #[]:=Array.eq_empty_of_size_eq_zero hz;subst hf;exact Jb hM hE hx h
  .cases hl
 case extract x k=>
  simp only[Pq,KG]at hl;obtain⟨x',hx,hl⟩:=hl;cases hl;unfold execOp;rw[dB];exact GF hM hE hx h
 case slice t x lo hi mx=>
  simp only[Pq]at hl;unfold execOp;rw[dB];split at hl
  .rename_i e hu;simp only[KG]at hl;obtain⟨n,hs,x',hx,CS,gG,dV,yh,Wf,Mh,hl⟩:=hl;cases hl;exact GJ hM hE hu hs hx gG yh Mh h
  .rename_i hu;cases mx<;>simp only at hl
   .simp only[KG]at hl;obtain⟨x',hx,CS,gG,dV,yh,hl⟩:=hl;cases hl;exact CR hM hE hu hx gG yh h
   .cases hl
  .cases hl
 case nilCheck x=>
  simp only[Pq,KG]at hl;obtain⟨x',hx,hl⟩:=hl;cases hl;exact CJ hM hE dB hx h
 case call c=>
  obtain⟨callee,args,argTypes⟩:=c;cases callee with
  |value f=>
   exact absurd dB (sF _ _ _)
  |invoke r n=>simp only at hl;cases hl
  |builtin b=>
   cases b<;>simp only at hl<;>try(cases hl;done)
   case len=>
    simp only[Pq]at hl;split at hl
    .rename_i x t eC CZ;have e1:args= #[x]:=aaX (by simpa using eC)
     have e2:argTypes= #[t]:=aaX (by simpa using CZ)
     subst e1 e2;unfold execOp;rw[dB];split at hl
     .rename_i hu;simp only[KG]at hl;obtain⟨x',hx,hl⟩:=hl;cases hl;have:=qU (ty:=o.type) hM hE (.inl ⟨rfl,hu⟩) hx h;unfold dl at this⊢;simpa[resolve,invoke,builtin]using this
     .rename_i e hu;simp only[KG]at hl;obtain⟨x',hx,hl⟩:=hl;cases hl;have:=qU (ty:=o.type) hM hE (.inr (.inl ⟨rfl,e,hu⟩)) hx h;unfold dl at this⊢;simpa[resolve,invoke,builtin]using this
     .rename_i kt e hu;simp only[KG]at hl;obtain⟨x',hx,hl⟩:=hl;cases hl;have:=qU (ty:=o.type) hM hE (.inr (.inr ⟨rfl,kt,e,hu⟩)) hx h;unfold dl at this⊢;simpa[resolve,invoke,builtin]using this
     .cases hl
    .cases hl
   case append=>
    simp only[Pq]at hl;split at hl
    .rename_i x y t t2 eC CZ;have e1:args= #[x,y]:=aaX (by simpa using eC)
     have e2:argTypes= #[t,t2]:=aaX (by simpa using CZ)
     subst e1 e2;unfold execOp;rw[dB];split at hl
     .rename_i e e2 hu Sd;simp only[KG]at hl;obtain⟨i,hi,z,hz,hl⟩:=hl;split at hl
      .rename_i hc;obtain⟨h1,h2,h3⟩:=hc;simp only[KG]at hl;obtain⟨x',hx,y',hy,hl⟩:=hl;cases hl;have:=GU (ty:=o.type) hM hE hu Sd hi hz h1 h2 h3 hx hy h;unfold dl at this⊢;simpa[resolve,invoke,builtin]using this
      .cases hl
     .cases hl
    .cases hl
   case min=>
    simp only[Pq]at hl;split at hl
    .rename_i x y eC;have e1:args= #[x,y]:=aaX (by simpa using eC)
     subst e1;unfold execOp;rw[dB];simp only[KG]at hl;obtain⟨x',hx,y',hy,hl⟩:=hl;cases hl;have:=pI (mx:=false) (ts:=argTypes) (ty:=o.type) hM hE hx hy h;unfold dl at this⊢;simpa[resolve,invoke,builtin]using this
    .cases hl
   case max=>
    simp only[Pq]at hl;split at hl
    .rename_i x y eC;have e1:args= #[x,y]:=aaX (by simpa using eC)
     subst e1;unfold execOp;rw[dB];simp only[KG]at hl;obtain⟨x',hx,y',hy,hl⟩:=hl;cases hl;have:=pI (mx:=true) (ts:=argTypes) (ty:=o.type) hM hE hx hy h;unfold dl at this⊢;simpa[resolve,invoke,builtin]using this
    .cases hl
   case copy=>
    simp only[Pq]at hl;split at hl
    .rename_i x y t t2 eC CZ;have e1:args= #[x,y]:=aaX (by simpa using eC)
     have e2:argTypes= #[t,t2]:=aaX (by simpa using CZ)
     subst e1 e2;unfold execOp;rw[dB];split at hl
     .rename_i e hu;simp only[KG]at hl;obtain⟨i,hi,z,hz,hl⟩:=hl;split at hl
      .rename_i hc;simp only[KG]at hl;obtain⟨x',hx,y',hy,hl⟩:=hl;cases hl;have:=CW (ty:=o.type) (t2:=t2) hM hE hu hi hz hc hx hy h;unfold dl at this⊢;simpa[resolve,invoke,builtin]using this
      .cases hl
     .cases hl
    .cases hl
   case clear=>
    simp only[Pq]at hl;split at hl
    .rename_i x t eC CZ;have e1:args= #[x]:=aaX (by simpa using eC)
     have e2:argTypes= #[t]:=aaX (by simpa using CZ)
     subst e1 e2;unfold execOp;rw[dB];split at hl
     .rename_i e hu;simp only[KG]at hl;obtain⟨i,hi,z,hz,hl⟩:=hl;split at hl
      .rename_i hc;simp only[KG]at hl;obtain⟨x',hx,hl⟩:=hl;cases hl;have:=GV (ty:=o.type) hM hE hu hi hz hc hx h;unfold dl at this⊢;simpa[resolve,invoke,builtin]using this
      .cases hl
     .cases hl
    .cases hl
end
section
variable {P:Program}
def Ak:Exit->Option Ex
 | .normal=>some .normal
 | .exit id=>some (.exit id)
 | .ret=>some .ret
 |_=>none
def C0(N:Nat)(ρ:bH)(w:World)(ds:List Deferred):Prop:=
 ∃Ds:List Nat,ds=Ds.map (fun D=>{target:= .collected D,args:= #[]})/\Ds.Nodup/\∀D,D∈Ds->N<=D/\ρ.S D/\w.heap[D]? =some (.deferred (some []))
theorem C0.nil{N:Nat}{ρ:bH}{w:World}:C0 N ρ w []:=⟨[],rfl,List.nodup_nil,aK⟩
theorem C0.ext{N:Nat}{ρ ρ':bH}{m m':Mem}{w w':World}{ds:List Deferred}(hM:aC ρ m w)(x:Ext ρ m w ρ' m' w')(h:C0 N ρ w ds):C0 N ρ' w' ds:=by
 obtain⟨Ds,h1,h2,h3⟩:=h;refine⟨Ds,h1,h2,fun D hD=>?_⟩
 obtain⟨g1,g2,g3⟩:=h3 D hD;exact⟨g1,x.S D g2,(x.frame D (hM.S D g2) fun k hk e=>(hM.a8 k hk).2 (e▸g2)).trans g3⟩
theorem C0.s{N:Nat}{ρ ρ':bH}{w:World}{ds:List Deferred}(hS:∀b,ρ.S b->ρ'.S b)(h:C0 N ρ w ds):C0 N ρ' w ds:=by obtain⟨Ds,h1,h2,h3⟩:=h;exact⟨Ds,h1,h2,fun D hD=>⟨(h3 D hD).1,hS D (h3 D hD).2.1,(h3 D hD).2.2⟩⟩
structure Inv(N:Nat)(ρ0:bH)(m0:Mem)(w0:World)(st:St)(ρ:bH)(a:Act)(w:World):Prop where
 ext:Ext ρ0 m0 w0 ρ st.mem w
 mem:aC ρ st.mem w
 aU:be ρ w st.aU a.tmps
 defers:C0 N ρ w a.defers
 hN:N<=w0.heap.size
 n0:m0.length<=st.mem.length
def yi(N:Nat)(ρ0:bH)(m0:Mem)(w0:World)(K:Ex->St->Prop)(e:Exit)(a:Act)(w:World):Prop:=
 ∃ex st ρ,Ak e=some ex/\K ex st/\Inv N ρ0 m0 w0 st ρ a w
variable {N:Nat} {ρ0:bH} {m0:Mem} {w0:World}
theorem Inv.step{aU:List CV}{m m':Mem}{ρ ρ':bH}{a:Act}{w w':World}{d:Option Nat}{c:CV}{v:Value}(h:Inv N ρ0 m0 w0 ⟨aU,m⟩ ρ a w)(hM:aC ρ' m' w')(hd:bW ρ' w' c v)(hx:Ext ρ m w ρ' m' w'){K:List CV->Prop}(hp:put d c aU K):
  ∃fc,K fc/\Inv N ρ0 m0 w0 ⟨fc,m'⟩ ρ' (a.put d v) w':=by
 obtain⟨fc,hK,hE,hdf⟩:=(h.aU.ext h.mem hx:be ρ' w' aU a.tmps).put hd hp;refine⟨fc,hK,h.ext.trans hx,hM,hE,hdf▸h.defers.ext h.mem hx,h.hN,?_⟩;have h1:=h.n0;have h2:=h.mem.n;have h3:=hM.n;have h4:=hx.n;simp only at h1 h2⊢;omega
theorem Al{o:Oper}{i:I}{aU:List CV}{m:Mem}{ρ:bH}{a:Act}{w:World}{K:List CV->Mem->Prop}{next:Act->World->Prop}{Q:Exit->Act->World->Prop}(hl:qN P o=some i)(h:Inv N ρ0 m0 w0 ⟨aU,m⟩ ρ a w)(hs:step P i aU m fun v m'=>put o.dst v aU fun e'=>K e' m')(hn:∀fc m' ρ' a' w',K fc m'->Inv N ρ0 m0 w0 ⟨fc,m'⟩ ρ' a' w'->next a' w'):o.wp P a w next Q:=by
 rcases Cu hl with hl|rfl
 case inr=>rw[Mx]at hs;exact hs.elim
 by_cases hc:∃f xs ts,o.op= .call {callee:= .value f,args:=xs,argTypes:=ts}
 .obtain⟨f,xs,ts,dB⟩:=hc;have SE:∃f' Fh,i= .call f' Fh/\bh f=some f'/\sf xs.toList=some Fh:=by unfold tX at hl;rw[dB]at hl;simp only[Pq,KG]at hl;obtain⟨f1,hf,xs1,hx,hl⟩:=hl;cases hl;exact⟨f1,xs1,rfl,hf,hx⟩
  obtain⟨f',Fh,rfl,hf,hx⟩:=SE;have hd:=aN h.aU hf;simp only[step]at hs;split at hs
  .rename_i g dN Wq;rw[Wq]at hd;obtain⟨Jn,hv⟩:=hd;obtain⟨⟨fn,PU,Oy,Fo⟩,sF⟩:=hs;obtain⟨e1,e2⟩:=qT h.aU hx;simp only[cg,uc]at sF;have hb:fn.body≠none:=by intro e;rw[e]at Oy;cases Oy
   have Oz:fn.name≠ "runtime.NumGoroutine" :=by intro e;rw[e]at Fo;simp at Fo
   have du:(execOp a.eval o).run P w= .ok (.enter g (xs.map a.eval++(dN.map fun id=>Value.pointer (some ⟨(ρ.aO (.ap id)).b,(ρ.aO (.ap id)).au,none⟩)).toArray)) w:=by unfold execOp;rw[dB];simp[resolve,hv,Deferred.ofValue,invoke,callFunc,PU,Oz,hb]
   unfold Oper.wp;rw[du,Oper.upon_enter];have yj:=sF ρ w (xs.toList.map a.eval++dN.map fun id=>Value.pointer (some ⟨(ρ.aO (.ap id)).b,(ρ.aO (.ap id)).au,none⟩)) h.mem (by simp[e1]) (fun i c hi=>by
    rcases XN i (E6 aU Fh).length with aF|ef
    .rw[VO aF]at hi;obtain⟨v,ye,Cc⟩:=e2 i c hi;exact⟨v,by rw[VO (by simpa[e1]using aF)];exact ye,Cc⟩
    .rw[UX ef]at hi;rw[UX (by simpa[e1]using ef)]
     rw[O6]at hi;cases hk:dN[i-(E6 aU Fh).length]? with
     |none=>rw[hk]at hi;cases hi
     |some id=>
      rw[hk]at hi;simp only[XS,XQ]at hi;subst hi;refine⟨_,by rw[LW,<-e1,O6,hk];rfl,Jn id (O9 hk),aK⟩)
   have eC:(xs.toList.map a.eval++dN.map fun id=>Value.pointer (some ⟨(ρ.aO (.ap id)).b,(ρ.aO (.ap id)).au,none⟩)).toArray=
     xs.map a.eval++(dN.map fun id=>Value.pointer (some ⟨(ρ.aO (.ap id)).b,(ρ.aO (.ap id)).au,none⟩)).toArray:=by
    apply aaX;simp
   rw[eC]at yj;refine yj.mono fun e w' hR=>?_
   obtain⟨v,r,m',ρ',rfl,hK,kY,yk,th⟩:=hR;obtain⟨fc,IE,hI⟩:=h.step (d:=o.dst) kY yk th hK;exact hn fc m' ρ' _ w' IE hI
  .exact hs.elim
 .obtain⟨nx,v,w',cv,m',ρ',hr,SK,hK,kY,yk,th⟩:=CY hl (fun f xs ts e=>hc ⟨f,xs,ts,e⟩) h.mem h.aU hs
  obtain⟨fc,IE,hI⟩:=h.step (d:=o.dst) kY yk th hK;unfold Oper.wp;rw[hr];rcases SK with rfl|⟨rfl,rfl⟩
  .exact hn fc m' ρ' _ w' IE hI
  .exact hn fc m' ρ' _ w' IE hI
theorem ra{ops:Array Oper}:∀{l:List Oper}{bO:List LO},lA P ops l=some bO->∀(o:Oper)(r:List Oper),l=o::r->∃lo lr,bO=lo::lr/\tY P ops o=some lo/\lA P ops r=some lr:=by rintro l bO h o r rfl;simp only[lA,Pq,KG]at h;obtain⟨lo,h1,lr,h2,h3⟩:=h;cases h3;exact⟨lo,lr,rfl,h1,h2⟩
theorem yl{aU:List CV}{s:Nat}{t:Bool}(h:jd aU s=aA t):a7 aU s (aA t)=aU:=by
 rw[bg];rw[kn]at h;cases hg:aU[s]? with
 |none=>rw[hg]at h;cases h
 |some c=>
  rw[hg]at h;simp only[aaD]at h;subst h;exact aaI fun i=>by
   by_cases hi:s=i
   .subst hi;rw[QO (Hy.1 hg).1,hg]
   .rw[XK hi]
theorem ur{ops:Array Oper}{Q:Exit->Act->World->Prop}{K:List CV->Mem->Prop}(hQ:∀aU m ρ a w,K aU m->Inv N ρ0 m0 w0 ⟨aU,m⟩ ρ a w->Q .normal a w):
  ∀(l:List Oper)(k:Nat)(bO:List LO)(aU:List CV)(m:Mem)(ρ:bH)(a:Act)(w:World),ops.toList.drop k=l->lA P ops l=some bO->Gx P bO K aU m->Inv N ρ0 m0 w0 ⟨aU,m⟩ ρ a w->
   wpOps P ops Q (List.range' k l.length) a w
 | [],k,bO,aU,m,ρ,a,w,hl,jj,h,hI=>by simp[lA]at jj;subst jj;exact hQ aU m ρ a w h hI
 |o::r,k,bO,aU,m,ρ,a,w,hl,jj,h,hI=>by
  obtain⟨lo,lr,rfl,h1,h2⟩:=ra jj o r rfl;have i5:ops[k]? =some o:=by
   have:(ops.toList.drop k)[0]? =some o:=by rw[hl];rfl
   simpa using this
  have hr:ops.toList.drop (k+1)=r:=by rw[<-List.tail_drop,hl];rfl
  have ih:=fun aU m ρ a w=>ur hQ r (k+1) lr aU m ρ a w hr h2
  simp only[tY,Pq,KG]at h1;obtain⟨i,hi,g,hg,h1⟩:=h1;cases h1;simp only[XR,abW,wpOps,i5];have skip:∀(e:List CV),Inv N ρ0 m0 w0 ⟨e,m⟩ ρ a w->(put o.dst .undef e fun e'=>Gx P lr K e' m)->wpOps P ops Q (List.range' (k+1) r.length) (a.put o.dst Go.undef) w:=fun e Vk hp=>by obtain⟨fc,IE,ol⟩:=Vk.step (d:=o.dst) (c:= .undef) (v:=Go.undef) Vk.mem rfl (Ext.refl _ _ _) hp;exact ih _ _ _ _ _ IE ol
  have exec:∀(e:List CV),Inv N ρ0 m0 w0 ⟨e,m⟩ ρ a w->(step P i e m fun v m'=>put o.dst v e fun e'=>Gx P lr K e' m')->o.wp P a w (wpOps P ops Q (List.range' (k+1) r.length)) Q:=fun e Vk hp=>
   Al hi Vk hp fun fc m' ρ' a' w' IE ol=>ih _ _ _ _ _ IE ol
  cases Jo:o.guard with
  |none=>
   rw[Jo]at hg;simp[I0]at hg;subst hg;have hw:Region.wanted o (yielded ops a.tmps)=true:=by simp[Region.wanted,Jo]
   rw[if_pos hw];simp only[wL,Fc,ew]at h;exact .inl (exec aU hI h)
  |some jb=>
   obtain⟨j,iT⟩:=jb;rw[Jo]at hg;simp only[I0,Pq,KG]at hg;obtain⟨oj,Wr,s,hs,hg⟩:=hg;cases hg;have hy:yielded ops a.tmps j=match a.tmps[s]? with|some (.bool b)=>some b|_=>none:=by simp[yielded,Wr,hs];rfl
   simp only[wL,Fc]at h;split at h
   .rename_i ef;have bY:=hI.aU.get s;rw[ef]at bY;have hu:a.tmps[s]? =some Go.undef\/a.tmps[s]? =none:=by
     simp only[bW,aaK]at bY;cases ht:a.tmps[s]? with
     |none=>exact .inr rfl
     |some v=>rw[ht]at bY;simp at bY;exact .inl (by rw[bY])
    have hw:Region.wanted o (yielded ops a.tmps)=false:=by
     simp only[Region.wanted,Jo,hy];rcases hu with hu|hu<;>rw[hu]<;>rfl
    rw[if_neg (by simp[hw])]
    exact skip aU hI h
   .rename_i t ef;have bY:=hI.aU.get s;rw[ef]at bY;have ht:a.tmps[s]? =some (.bool t):=by
     have:=(bJ bY).1;rw[aaK]at this;cases ht:a.tmps[s]? with
     |none=>rw[ht]at this;cases this
     |some v=>rw[ht]at this;simp at this;rw[this]
    have hw:Region.wanted o (yielded ops a.tmps)=(t==iT):=by simp[Region.wanted,Jo,hy,ht]
    have pJ:∀b,t=b->a7 aU s (aA b)=aU:=fun b hb=>by subst hb;exact yl ef
    rcases cj.1 h with⟨rfl,h⟩|⟨rfl,h⟩
    .simp only[ew,pJ true rfl]at h;cases iT with
     |true=>rw[if_pos (by simp[hw])];exact .inl (exec aU hI h)
     |false=>rw[if_neg (by simp[hw])];exact skip aU hI h
    .simp only[ew,pJ false rfl]at h;cases iT with
     |false=>rw[if_pos (by simp[hw])];exact .inl (exec aU hI h)
     |true=>rw[if_neg (by simp[hw])];exact skip aU hI h
   .exact h.elim
theorem br.df{ρ:bH}{w:World}{pos:Option (Nat×Nat×Nat)}{c:CC}{v:Value}(h:br ρ w pos c v):c.df ρ.n:=by
 cases c<;>simp only[br]at h<;>simp only[CC.df]
 case ptr=>exact h.1
 case lW=>exact h.1
 case row=>exact h.1
 case map=>exact h.1
 case fn=>exact h.1
theorem dy.df{ρ:bH}{w:World}{r:RV}{v:Value}(h:dy ρ w r v):r.df ρ.n:=by
 cases r with
 |one c=>exact br.df h
 |agg cs=>
  obtain⟨vs,_,_,hc⟩:=h;intro c px;obtain⟨i,hi⟩:=Xz px;obtain⟨u,_,hd⟩:=hc i c hi;exact hd.df
theorem bW.df{ρ:bH}{w:World}{c:CV}{v:Value}(h:bW ρ w c v):c.df ρ.n:=by
 cases c with
 |aq=>trivial
 |undef=>trivial
 |rv r=>exact dy.df h
 |bG rs=>
  obtain⟨vs,_,_,hc⟩:=h;intro r hr;obtain⟨i,hi⟩:=Xz hr;obtain⟨u,_,hd⟩:=hc i r hi;exact hd.df
theorem dZ.df{ρ:bH}{w:World}{id:Nat}{b:Bk}(h:dZ ρ w id b):b.df ρ.n:=by
 cases b with
 |aZ=>trivial
 |var cs=>
  obtain⟨cur,_,hc⟩:=h;intro c px;obtain⟨i,hi⟩:=Xz px;obtain⟨u,_,hd⟩:=hc i c hi;exact hd.df
 |row esz elems=>
  obtain⟨h1,h2,h3,h4,h5⟩:=h;intro cs fb c px;obtain⟨i,hi⟩:=Xz fb;obtain⟨j,hj⟩:=Xz px;have aF:=(Hy.1 hi).1;obtain⟨cur,_,_,hc⟩:=h5 om;obtain⟨u,_,hd⟩:=hc i cs j c hi hj;exact hd.df
 |mp es=>
  obtain⟨cJ,ck,_,_,hc⟩:=h;intro e he;obtain⟨i,hi⟩:=Xz he;obtain⟨e',_,_,hd⟩:=hc i e hi;exact hd.df
 |it cur left=>trivial
theorem lC.get:∀{m m':Mem},lC m m'->∀(i:Nat)b',m'[i]? =some b'->b'= .aZ\/m[i]? =some b'
 |_,_,.nil m,i,b',h=>by simp at h
 |_,_,.cons (b:=b) (b':=b1) (m:=m) (m':=m') h hm,i,b',hi=>by
  cases i with
  |zero=>simp at hi;subst hi;rcases h with rfl|rfl<;>simp
  |succ i=>simpa using hm.get i b' (by simpa using hi)
theorem I4.Ws{n0:Nat}{s s':St}{ρ:bH}{w:World}(h:I4 n0 s s')(hM:aC ρ s.mem w):∀b,b∈s'.mem->b.df s'.mem.length:=by
 rcases h.iZ with he|hi
 .intro b hb;obtain⟨i,hi⟩:=Xz hb;rcases h.mem.get i b hi with rfl|qY
  .trivial
  .have:=(hM.bk i b qY).df;rw[he,<-hM.n];exact this
 .exact hi
theorem I4.view{n0:Nat}{s s':St}(hw:I4 n0 s s'):View n0 s s':=by
 refine⟨hw.n0,hw.len,fun ρ w kG=>?_⟩
 obtain⟨hM,cQ⟩:=kG.I5 hw.mem (hw.Ws kG);refine⟨{ρ with n:=s'.mem.length},hM,⟨fun _ _=>rfl,fun _ h=>h,fun _ h=>.inl h,fun k hk=>⟨k,cQ k hk,rfl⟩⟩,fun i c hi=>?_⟩
 rcases hw.aU i c hi with rfl|⟨dV,I6⟩
 .have aF:i<s.aU.length:=by rw[<-hw.len];exact(Hy.1 hi).1
  exact⟨_,tq aF,fun _ _=>trivial⟩
 .refine⟨c,dV,fun v hd=>?_⟩
  have SL:c.df s'.mem.length:=by
   rcases I6 with he|I6
   .rw[he,<-kG.n];exact hd.df
   .exact I6
  exact hd.cut SL
theorem Inv.I5{st im:St}{ρ:bH}{a:Act}{w:World}(hI:Inv N ρ0 m0 w0 st ρ a w)(kG:ρ0.n=m0.length)(hw:View m0.length st im):∃ρ',Inv N ρ0 m0 w0 im ρ' a w:=by
 obtain⟨ρ',hM,hc,hd⟩:=hw.go ρ w hI.mem;refine⟨ρ',⟨by rw[kG,hM.n];exact hw.hn,fun id hid=>(hc.aO id (by rw[<-kG];exact hid)).trans (hI.ext.aO id hid),fun b hb=>hc.S b (hI.ext.S b hb),fun b hb=>?_,fun k hk=>?_,hI.ext.frame,hI.ext.size,hI.ext.os,hI.ext.tape,hI.ext.output⟩,hM,?_,hI.defers.s hc.S,hI.hN,hw.hn⟩
 .rcases hc.S' b hb with h|⟨k,hk,rfl⟩
  .exact hI.ext.S' b h
  .exact .inr (hI.ext.a8 k hk)
 .obtain⟨k0,h0,e0⟩:=hc.a8 k hk;rw[<-e0];exact hI.ext.a8 k0 h0
 .refine⟨hI.aU.size.trans hw.len.symm,fun i c hi=>?_⟩
  obtain⟨c0,tC,Jp⟩:=hd i c hi;obtain⟨v,hv,vW⟩:=hI.aU.j7 i c0 tC;exact⟨v,hv,Jp v vW⟩
end
end Go.AM
