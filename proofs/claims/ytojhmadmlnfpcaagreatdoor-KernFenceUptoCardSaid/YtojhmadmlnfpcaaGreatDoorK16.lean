/- Part 16 of 43: what the law stands on. -/
import Derived.Test.YtojhmadmlnfpcaaGreatDoorK15
set_option linter.unusedVariables false
set_option linter.unusedSimpArgs false
set_option linter.unnecessarySimpa false
set_option maxRecDepth 100000
set_option maxHeartbeats 64000000
namespace Go.AM
section
variable {P:Program}
theorem EE{l:List Nat}{n i:Nat}(hi:sg l n i<n):i<l.length:=by
 rcases aaq i l.length with h|h
 .exact h
 .rw[tY h]at hi;omega
theorem bC{f:Nat}{args args0:List CV}{m m0:Mem}{K0 K:CV->Mem->Prop}(l:List Nat)(n:Nat)(hn:m.length=n)(hl:m0.length=l.length)(hd:gp l=true)(ha:fm n l=true)(eY:args=args0.map (CV.aQ (sg l n)))(hm:∀(i:Nat)b',m0[i]? =some b'->b'= .bh\/(¬False/\∃b,m[sg l n i]? =some b/\mZ (sg l n) m (fun _=>False) (sg l n i) b b'))(h:ar P f args0 m0 K0)(hK:∀r m1,K0 r m1->l.length<=m1.length/\K (r.aQ (sg l n)) (dn m l (rb (sg l n) m1))):ar P f args m K:=by
 subst hn;refine⟨h.1,fun ρ w vs hM xS Yu=>?_⟩
 have r9:∀i j,sg l m.length i=sg l m.length j->i=j:=fun i j h=>Ls hd ha h
 obtain⟨lH,hC0,R0⟩:=zW (n0:=0) (σ:=sg l m.length) (Z:=fun _=>False) (m':=m0) hM (fun i h=>absurd h (aaL i)) (fun i j _ _ h=>r9 i j h) (fun i h=>by rw[hl];exact EE h) hm
 have WY:∀b,(ρ.vw (sg l m.length) (fun _=>False) m m0.length).S b↔ρ.S b:=fun b=>⟨fun h=>h.elim id fun⟨k,_,hf,_⟩=>hf.elim,.inl⟩
 have kM:ρ.n=m.length:=hM.n;refine(h.2 _ w vs lH (by rw[xS,eY];simp) fun i c hi=>?_).mono fun e w'⟨v,r,m1,ρ1,he,hk,uQ,xP,hx⟩=>?_
 .obtain⟨v,hv,uP⟩:=Yu i (c.aQ (sg l m.length)) (by rw[eY,aaf,hi];rfl)
  exact⟨v,hv,qv.lg hM (fun i h=>by rw[hl];exact EE h) (.IF c) uP⟩
 .obtain⟨hle,ij⟩:=hK r m1 hk;have pJ:ρ1.n=m1.length:=uQ.n;let back:Nat->Option Nat:=fun j=>(List.range m1.length).find? fun i=>sg l m.length i==j
  have kq:∀{j i},back j=some i->i<m1.length/\sg l m.length i=j:=by
   intro j i hb;have h1:=List.mem_of_find?_eq_some hb;have h2:=List.find?_some hb;exact⟨by simpa using h1,by simpa using h2⟩
  have G2:∀{i},i<m1.length->back (sg l m.length i)=some i:=by
   intro i hi;cases hb:back (sg l m.length i)with
   |none=>
    have:=acd.1 hb i (by simpa using hi)
    simp at this
   |some j=>rw[r9 _ _ (kq hb).2]
  have oO:∀{j},j<m.length+(m1.length-l.length)->back j=none->j<m.length/\j∉l:=by
   intro j hj hb;have jC:=acd.1 hb;refine⟨?_,fun mU=>?_⟩
   .rcases aaq j m.length with h|h
    .exact h
    .have:=jC (l.length+(j-m.length)) (by simp;omega)
     rw[tY om]at this;simp at this;omega
   .obtain⟨i,hi⟩:=aam mU;obtain⟨aC,rfl⟩:=aac.1 hi;have:=jC i (by simp;omega)
    rw[tX aC]at this;simp at this
  let ρ':bL:={n:=m.length+(m1.length-l.length),aR:=fun k=>match back k.id with
   |some i=>(match k with| .au _=>ρ1.aR (.au i)| .sub _ a b=>ρ1.aR (.sub i a b))
   |none=>ρ.aR k,S:=ρ1.S}
  have OR:∀i,i<ρ1.n->ρ'.aR (.au (sg l m.length i))=ρ1.aR (.au i):=by intro i hi;rw[pJ]at hi;simp only[ρ',lT.id,G2 hi]
  have R1:∀i a b,i<ρ1.n->ρ'.aR (.sub (sg l m.length i) a b)=ρ1.aR (.sub i a b):=by intro i a b hi;rw[pJ]at hi;simp only[ρ',lT.id,G2 hi]
  have IG:∀k:lT,back k.id=none->ρ'.aR k=ρ.aR k:=by intro k hb;simp only[ρ',hb]
  have Lt:∀id,id<ρ.n->ρ'.aR (.au id)=ρ.aR (.au id):=by
   intro id hid;cases hb:back id with
   |none=>exact IG (.au id) hb
   |some i=>
    obtain⟨h1,h2⟩:=kq hb;have hi:i<l.length:=EE (by rw[h2,<-kM];exact hid)
    rw[<-h2,OR i (by rw[pJ];exact h1),hx.aR i (by show i<m0.length;omega)]
    rfl
  have zG:∀i,i<ρ1.n->sg l m.length i<ρ'.n:=by
   intro i hi;rw[pJ]at hi;show _<m.length+(m1.length-l.length);rcases aaq i l.length with h|h
   .rw[tX h];have:=oN ha _ (aau h);omega
   .rw[tY h];omega
  have G3:(rb (sg l m.length) m1).length=m1.length:=by rw[zX];simp
  have WZ:(dn m l (rb (sg l m.length) m1)).length=m.length+(m1.length-l.length):=by
   rw[yO l m _ (by rw[G3];exact hle),G3]
  have W0:∀i,i<m1.length->(dn m l (rb (sg l m.length) m1))[sg l m.length i]? =(m1[i]?).map (Bk.aQ (sg l m.length)):=by
   intro i hi;rw[yP l m _ hd ha (by rw[G3];exact hle) i (by rw[G3];exact hi),zX,aaf]
  have Yv:∀j,back j=none->j<m.length+(m1.length-l.length)->(dn m l (rb (sg l m.length) m1))[j]? =m[j]? :=by intro j hb hj;obtain⟨h1,h2⟩:=oO hj hb;exact sr l m _ j h1 h2
  have xG:∀k,Live ρ m k->(k.id<m.length->k.id∉l)->(∀k0,Live (ρ.vw (sg l m.length) (fun _=>False) m m0.length) m0 k0->((ρ.vw (sg l m.length) (fun _=>False) m m0.length).aR k0).b≠(ρ.aR k).b):=by
   intro k hk Lu k0 G1 he;have h1:=R0 k0 G1;have h2:=hM.inj _ _ h1 hk he;have h3:=G1.gB;rw[hl]at h3;apply Lu hk.gB;rw[<-h2];cases k0<;>simp only[lT.aQ,lT.id]at h3⊢<;>rw[tX h3]<;>exact aau h3
  have lD:∀k,Live ρ m k->(k.id<m.length->k.id∉l)->w'.heap[(ρ.aR k).b]? =w.heap[(ρ.aR k).b]? :=fun k hk Lu=>hx.frame _ (hM.aV k hk).1 (xG k hk Lu)
  have vm:∀b,ρ.S b->w'.heap[b]? =w.heap[b]? :=fun b hb=>hx.frame b (hM.S b hb) fun k hk he=>(lH.aV k hk).2 (he▸(WY b).2 hb)
  have W4:∀b,ρ.S b->ρ1.S b:=fun b hb=>hx.S b ((WY b).2 hb)
  have U0:∀k,Live ρ m k->(k.id<m.length->k.id∉l)->¬ρ1.S (ρ.aR k).b:=by
   intro k hk Lu hs;rcases hx.S' _ hs with h|h|⟨k0,G1,he⟩
   .exact(hM.aV k hk).2 ((WY _).1 h)
   .have:=(hM.aV k hk).1;omega
   .exact xG k hk Lu k0 G1 he
  have nI:∀k,Live ρ' (dn m l (rb (sg l m.length) m1)) k->(∃k1,k1.id<m1.length/\k=k1.aQ (sg l m.length)/\Live ρ1 m1 k1/\ρ'.aR k=ρ1.aR k1)\/(back k.id=none/\k.id<m.length/\k.id∉l/\Live ρ m k/\ρ'.aR k=ρ.aR k):=by
   intro k hk;have aC:=hk.gB;rw[WZ]at aC;cases hb:back k.id with
   |none=>
    obtain⟨h1,h2⟩:=oO aC hb;have R2:=Yv k.id hb aC;refine .inr ⟨rfl,h1,h2,?_,IG k hb⟩;have cE:=IG k hb;cases k with
    |au id=>
     obtain⟨bk,fj,nY,bp⟩:=hk;simp only[lT.id]at R2;rw[R2]at fj;rw[cE]at bp;exact⟨bk,fj,nY,bp⟩
    |sub id a b=>
     obtain⟨⟨s,e,es,rows,cs,fj,hi,hj⟩,bp⟩:=hk;simp only[lT.id]at R2;rw[R2]at fj;rw[cE]at bp;exact⟨⟨s,e,es,rows,cs,fj,hi,hj⟩,bp⟩
   |some i=>
    obtain⟨h1,h2⟩:=kq hb;have R2:=W0 i h1;cases k with
    |au id=>
     simp only[lT.id]at h2;subst h2;have cE:=OR i (by rw[pJ];exact h1)
     refine .inl ⟨.au i,h1,rfl,?_,cE⟩;obtain⟨bk,fj,nY,bp⟩:=hk;rw[R2]at fj;obtain⟨b0,h0,rfl⟩:=aaD.1 fj;rw[cE]at bp;refine⟨b0,h0,?_,?_⟩
     .rintro rfl;exact nY rfl
     .rintro⟨s,es,rfl⟩;exact bp ⟨_,_,rfl⟩
    |sub id a b=>
     simp only[lT.id]at h2;subst h2;have cE:=R1 i a b (by rw[pJ];exact h1)
     refine .inl ⟨.sub i a b,h1,rfl,?_,cE⟩;obtain⟨⟨s,e,es,rows,cs,fj,hi,hj⟩,bp⟩:=hk;rw[R2]at fj;obtain⟨b0,h0,xO⟩:=aaD.1 fj;rw[cE]at bp;cases b0 with
     |row s0 es0=>
      simp only[Bk.aQ,Bk.row.injEq]at xO;obtain⟨rfl,rfl⟩:=xO;rw[aaf]at hi;obtain⟨Bo,uN,rfl⟩:=aaD.1 hi;rw[aaf]at hj;obtain⟨c0,Yw,Ke⟩:=aaD.1 hj;have:c0= .gX s e:=by cases c0<;>simp[CC.aQ]at Ke⊢;exact Ke
      subst this;exact⟨⟨s,e,_,_,_,h0,uN,Yw⟩,bp⟩
     |_=>simp[Bk.aQ]at xO
  have Yx:∀{j i},back j=some i->i<ρ1.n/\sg l m.length i=j:=fun hb=>by rw[pJ];exact kq hb
  refine⟨v,r.aQ (sg l m.length),dn m l (rb (sg l m.length) m1),ρ',he,ij,⟨WZ.symm,fun b hb=>uQ.S b hb,fun k hk=>?_,fun k k' hk pK nM=>?_,fun id b hb=>?_,fun id i j esz e ho bp=>?_⟩,b8.aQ zG OR (fun _ h=>h) xP,
   ⟨by show ρ.n<=_;rw[kM];exact Nat.le_add_right _ _,Lt,W4,fun b hb=>?_,fun k hk=>?_,fun b hb hnk=>hx.frame b hb fun k hk he=>hnk _ (R0 k hk) he,hx.size,hx.os,hx.tape,hx.output⟩⟩
  .rcases nI k hk with⟨k1,_,_,jM,cE⟩|⟨_,h1,h2,jM,cE⟩
   .rw[cE];exact uQ.aV k1 jM
   .rw[cE];exact⟨aaH (hM.aV k jM).1 hx.size,U0 k jM fun _=>h2⟩
  .have mixed:∀k1 k2,Live ρ1 m1 k1->Live ρ m k2->k2.id∉l->(ρ1.aR k1).b≠(ρ.aR k2).b:=by
    intro k1 k2 jM pK Yy mO;rcases hx.aV k1 jM with h|⟨k0,G1,e0⟩
    .have:=(hM.aV k2 pK).1;omega
    .exact xG k2 pK (fun _=>Yy) k0 G1 (e0.trans mO)
   rcases nI k hk with⟨k1,_,rfl,jM,cE⟩|⟨_,h1,h2,jM,cE⟩<;>rcases nI k' pK with⟨k1',_,rfl,Lv,oa⟩|⟨_,OS,QJ,Lv,oa⟩
   .rw[cE,oa]at nM;rw[uQ.inj k1 k1' jM Lv nM]
   .rw[cE,oa]at nM;exact absurd nM (mixed k1 k' jM Lv QJ)
   .rw[cE,oa]at nM;exact absurd nM.symm (mixed k1' k Lv jM h2)
   .rw[cE,oa]at nM;exact hM.inj k k' jM Lv nM
  .have aC:id<m.length+(m1.length-l.length):=by rw[<-WZ];exact(aac.1 hb).1
   cases fj:back id with
   |some i=>
    obtain⟨h1,rfl⟩:=kq fj;rw[W0 i h1]at hb;obtain⟨b0,h0,rfl⟩:=aaD.1 hb;exact eF.aQ zG OR (fun _ h=>h) (by rw[pJ];exact h1) (fun a b=>R1 i a b (by rw[pJ];exact h1)) (uQ.bk i b0 h0)
   |none=>
    obtain⟨h1,h2⟩:=oO aC fj;rw[Yv id fj aC]at hb;have qQ:=hM.bk id b hb;have cE:ρ'.aR (.au id)=ρ.aR (.au id):=IG (.au id) fj;have ei:ρ.n<=ρ'.n:=by rw[kM];exact Nat.le_add_right _ _
    have jq:∀{p c u},(∀a i j,p=some (a,i,j)->a=id)->bz ρ w p c u->bz ρ' w' p c u:=fun{p c u}hp hd=>bz.Yt ei Lt (fun a i j BK=>by rw[hp a i j BK];exact IG (.sub id i j) fj) W4 vm hd
    have fJ:∀{c u},dW ρ w c u->dW ρ' w' c u:=by
     intro c u hd;cases c with
     |one c=>exact jq (fun _ _ _ h=>by cases h) hd
     |agg cs=>
      obtain⟨vs,hv,Ei,hc⟩:=hd;exact⟨vs,hv,Ei,fun i c hi=>let⟨u,hu,hd⟩:=hc i c hi;⟨u,hu,jq (fun _ _ _ h=>by cases h) hd⟩⟩
    have hh:b≠.bh->((∃esz elems,b= .row esz elems)->0<(ρ.aR (.au id)).cap)->w'.heap[(ρ.aR (.au id)).b]? =w.heap[(ρ.aR (.au id)).b]? :=fun nY bp=>lD (.au id) ⟨b,hb,nY,bp⟩ fun _=>h2
    cases b with
    |bh=>trivial
    |var cs=>
     obtain⟨cur,hc,zK⟩:=qQ;simp only[eF,cE];refine⟨cur,hc.dK (hh aG (by rintro⟨_,_,h⟩;cases h)),fun j c hj=>?_⟩
     obtain⟨u,hu,cn⟩:=zK j c hj;exact⟨u,hu,jq (fun _ _ _ h=>by cases h) cn⟩
    |row esz elems=>
     obtain⟨g2,g3,g4,g5,b9⟩:=qQ;simp only[eF,cE];refine⟨g2,g3,g4,g5,fun dD=>?_⟩
     obtain⟨cur,hc,q1,q6⟩:=b9 dD;refine⟨cur,hc.dK (hh aG (fun _=>dD)),q1,fun i cs j c hi hj=>?_⟩
     obtain⟨u,hu,cn⟩:=q6 i cs j c hi hj;exact⟨u,hu,jq (fun _ _ _ h=>by cases h;rfl) cn⟩
    |mp es=>
     obtain⟨ae,clock,hc,q1,q2⟩:=qQ;simp only[eF,cE];refine⟨ae,clock,⟨(hh aG (by rintro⟨_,_,h⟩;cases h)).trans hc.1,hc.2⟩,q1,fun i e hi=>?_⟩
     obtain⟨UY,UZ,yE,uP⟩:=q2 i e hi;exact⟨UY,UZ,yE,fJ uP⟩
    |it cur left=>
     obtain⟨mb,seen,ck,cV,q2,q3,q4,q5,q6⟩:=qQ;simp only[eF,cE];exact⟨mb,seen,ck,cV,(hh aG (by rintro⟨_,_,h⟩;cases h)).trans q2,q3,W4 _ q4,(vm mb q4).trans q5,q6⟩
  .have hk:Live ρ' (dn m l (rb (sg l m.length) m1)) (.sub id i j):=⟨⟨_,_,ho⟩,bp⟩;obtain⟨es,rows,cs,hb,hi,hj⟩:=ho;have aC:id<m.length+(m1.length-l.length):=by rw[<-WZ];exact(aac.1 hb).1
   cases fj:back id with
   |some i0=>
    obtain⟨h1,rfl⟩:=kq fj;have cE:=R1 i0 i j (by rw[pJ];exact h1)
    rw[cE]at bp⊢;rw[W0 i0 h1]at hb;obtain⟨b0,h0,xO⟩:=aaD.1 hb;cases b0 with
    |row s0 es0=>
     simp only[Bk.aQ,Bk.row.injEq]at xO;obtain⟨rfl,rfl⟩:=xO;rw[aaf]at hi;obtain⟨Bo,uN,rfl⟩:=aaD.1 hi;rw[aaf]at hj;obtain⟨c0,Yw,Ke⟩:=aaD.1 hj;have:c0= .gX esz e:=by cases c0<;>simp[CC.aQ]at Ke⊢;exact Ke
     subst this;exact uQ.gX i0 i j esz e ⟨_,_,_,h0,uN,Yw⟩ bp
    |_=>simp[Bk.aQ]at xO
   |none=>
    obtain⟨h1,h2⟩:=oO aC fj;have cE:=IG (.sub id i j) fj;rw[cE]at bp⊢;rw[Yv id fj aC]at hb;have mr:fI m id i j esz e:=⟨_,_,_,hb,hi,hj⟩;obtain⟨cur,hc,q1,q2,q3⟩:=hM.gX id i j esz e mr bp;refine⟨cur,hc.dK (lD (.sub id i j) ⟨⟨_,_,mr⟩,bp⟩ fun _=>h2),q1,q2,fun i2 KN j2 d eL km=>?_⟩
    obtain⟨u,hu,cn⟩:=q3 i2 KN j2 d eL km;exact⟨u,hu,cn.mono W4 vm⟩
  .rcases hx.S' b hb with h|h|⟨k0,G1,he⟩
   .exact .inl ((WY b).1 h)
   .exact .inr (.inl h)
   .exact .inr (.inr ⟨_,R0 k0 G1,he⟩)
  .rcases nI k hk with⟨k1,_,_,jM,cE⟩|⟨_,h1,h2,jM,cE⟩
   .rw[cE];rcases hx.aV k1 jM with h|⟨k0,G1,e0⟩
    .exact .inl h
    .exact .inr ⟨_,R0 k0 G1,e0⟩
   .rw[cE];exact .inr ⟨k,jM,rfl⟩
end
section
variable {P:Program}
theorem View.aI{n0:Nat}{e:List CV}{m:Mem}(t esz n:Nat)(hn:m.length=n)(he:jR e t= .rv (.one .aI))(h0:Nat.ble n0 n=true):
  View n0 ⟨e,m⟩ ⟨ba e t (.rv (.one (.row n esz 0 none))),iI m [.row esz []]⟩:=by
 subst hn;have h0:=aak h0;rw[bn,cr];refine⟨by simp;omega,aG,fun ρ w hM=>?_⟩
 have hn:ρ.n=m.length:=hM.n;let ρ':bL:={n:=m.length+1,aR:=fun k=>if k.id=m.length then⟨0,0,0,0⟩else ρ.aR k,S:=ρ.S}
 have cE:∀k:lT,k.id<ρ.n->ρ'.aR k=ρ.aR k:=fun k hk=>by simp only[ρ'];rw[if_neg om]
 have g:iT ρ w ρ' w:=⟨by show ρ.n<=m.length+1;omega,cE,fun _ h=>h,fun _ _=>rfl⟩
 have dg:∀k,Live ρ' (m++ [.row esz []]) k->Live ρ m k:=by
  intro k hk;have aC:=hk.gB;simp at aC;cases k with
  |au id=>
   obtain⟨bk,hb,nY,bp⟩:=hk;simp only[lT.id]at aC;rcases aaq id m.length with h|h
   .rw[aar h]at hb;rw[cE (.au id) (by simp only[lT.id];omega)]at bp
    exact⟨bk,hb,nY,bp⟩
   .have:id=m.length:=om;subst this;simp at hb;subst hb;have:=bp ⟨_,_,rfl⟩;simp[ρ',lT.id]at this
  |sub id i j=>
   obtain⟨⟨s,el,es,rows,cs,hb,hi,hj⟩,bp⟩:=hk;simp only[lT.id]at aC;rcases aaq id m.length with h|h
   .rw[aar h]at hb;rw[cE (.sub id i j) (by simp only[lT.id];omega)]at bp
    exact⟨⟨s,el,es,rows,cs,hb,hi,hj⟩,bp⟩
   .have:id=m.length:=om;subst this;simp at hb;obtain⟨_,rfl⟩:=hb;simp at hi
 have oa:∀k,Live ρ m k->ρ'.aR k=ρ.aR k:=fun k hk=>cE k (by rw[hn];exact hk.gB)
 refine⟨ρ',⟨by simp[ρ'],hM.S,fun k hk=>?_,fun k k' hk ij nM=>?_,fun id b hb=>?_,fun id i j s el ho bp=>?_⟩,⟨fun id hid=>cE (.au id) (by simp only[lT.id];omega),fun _ h=>h,fun _ h=>.inl h,fun k hk=>⟨k,dg k hk,(by rw[oa k (dg k hk)])⟩⟩,fun i c' hi=>?_⟩
 .rw[oa k (dg k hk)];exact hM.aV k (dg k hk)
 .rw[oa k (dg k hk),oa k' (dg k' ij)]at nM;exact hM.inj k k' (dg k hk) (dg k' ij) nM
 .rcases aaq id m.length with h|h
  .rw[aar h]at hb;exact(hM.bk id b hb).cM g om fun _ _=>rfl
  .have aC:=(aac.1 hb).1;simp at aC;have:id=m.length:=om;subst this;simp at hb;subst hb;simp[eF,ρ',lT.id]
 .have hk:Live ρ m (.sub id i j):=dg (.sub id i j) ⟨⟨_,_,ho⟩,bp⟩;have hid:=hk.gB;simp only[lT.id]at hid;rw[oa _ hk]at bp⊢;obtain⟨es,rows,cs,hb,hi,hj⟩:=ho;rw[aar hid]at hb;obtain⟨cur,hc,q1,q2,q3⟩:=hM.gX id i j s el ⟨es,rows,cs,hb,hi,hj⟩ bp;exact⟨cur,hc,q1,q2,q3⟩
 .simp only at hi;have aC:=(aac.1 hi).1;simp at aC;rw[aaQ]at hi;split at hi
  .rename_i Lw;subst Lw;rw[if_pos aC]at hi;cases hi;refine⟨.rv (.one .aI),?_,fun v hd=>?_⟩
   .rw[lw,aab aC]at he;rw[aab aC];simpa using he
   .obtain⟨a,rfl⟩:=hd;simp[b8,dW,bz,ρ',lT.id]
  .exact⟨c',hi,fun v hd=>b8.cM g hd⟩
theorem oc{n0:Nat}{b:LC}{K:Ex->St->Prop}{s:St}{α:Type}(J:α->Prop)(f:α->List (Nat×CV))(M:α->Mem)(μ:α->Nat)(a0:α)(h0:J a0)(start:View n0 s ⟨B4 s.aY (f a0),M a0⟩)(round:∀a,J a->aw P n0 b (GL n0 J (fun a=>⟨B4 s.aY (f a),M a⟩) μ (μ a) K) ⟨B4 s.aY (f a),M a⟩):aw P n0 (.loop b) K s:=
 ⟨α,J,fun a=>⟨B4 s.aY (f a),M a⟩,μ,⟨a0,h0,start⟩,round⟩
theorem su:∀{cs:List CC}{k:Nat}{c:CC},cs[k]? =some c->io cs k 1=some [c]
 | [],k,c,h=>by simp at h
 |x::r,0,c,h=>by simp at h;subst h;cases r<;>rfl
 |x::r,k+1,c,h=>by
  show io r k 1=_;exact su (by simpa using h)
theorem vK:∀{cs:List CC}{k:Nat}{c:CC},k<cs.length->fz cs k [c]=some (cs.set k c)
 | [],k,c,h=>by simp at h
 |x::r,0,c,h=>by cases r<;>rfl
 |x::r,k+1,c,h=>by
  simp only[fz,vK (cs:=r) (k:=k) (c:=c) (by simpa using h)]
  rfl
theorem mZ.bV{σ:Nat->Nat}{m:Mem}{Z:Nat->Prop}{id s:Nat}{es:List (List CC)}{ds:List (List Dt)}(h:es=af ds):mZ σ m Z id (.row s es) (.row s (af ds)):=by subst h;have:=mZ.IF (σ:=σ) (m:=m) (Z:=Z) (id:=id) (.row s (af ds)) aG;rwa [Bk.kn]at this
theorem eZ{F:List Nat}{k:Nat}(h:bq F k=false):¬bq F k=true:=by rw[h];simp
theorem mZ.eq{σ:Nat->Nat}{m:Mem}{Z:Nat->Prop}{id:Nat}{b b':Bk}(h:b'.aQ σ=b)(hd:b'≠.bh):mZ σ m Z id b b':=h▸ .IF b' hd
theorem mZ.fK{σ:Nat->Nat}{m:Mem}{Z:Nat->Prop}{id:Nat}{cs:List CC}{ds:List Dt}(h:cs=ds.map .aa):mZ σ m Z id (.var cs) (.var (ds.map .aa)):=by subst h;have:=mZ.IF (σ:=σ) (m:=m) (Z:=Z) (id:=id) (.var (ds.map .aa)) aG;simpa[Bk.aQ,CC.aQ,abU]using this
theorem qv.hi{σ:Nat->Nat}{m:Mem}{Z:Nat->Prop}{jL id e lo n esz:Nat}{elems:List (List CC)}(hσ:σ id=jL)(hb:df m jL=some (.row esz elems))(hn:elems.length=n):
  qv σ m Z (.rv (.one (.row jL e lo none))) (.rv (.one (.row id e lo (some n)))):=by
 subst hσ;subst hn;exact .rv (.one (.hi id e lo (by rw[<-aX];exact hb)))
inductive lW:List CV->List CV->Prop
 |nil:lW [] []
 |dK {c:CV} {r r':List CV} (h:lW r r'):lW (c::r) (c::r')
 |aI (esz:Nat) {r r':List CV} (h:lW r r'):lW (.rv (.one .aI)::r) (.rv (.one (.aa (.sl esz [])))::r')
theorem lW.len{a b:List CV}(h:lW a b):a.length=b.length:=by
 induction h<;>simp[*]
theorem lW.get{a b:List CV}(h:lW a b):∀(i:Nat)c',b[i]? =some c'->∃c,a[i]? =some c/\∀ρ w v,b8 ρ w c v->b8 ρ w c' v:=by
 induction h with
 |nil=>intro i c' h;simp at h
 |dK h ih=>
  intro i c' hi;cases i with
  |zero=>simp at hi;subst hi;exact⟨_,rfl,fun _ _ _ h=>h⟩
  |succ i=>simpa using ih i c' (by simpa using hi)
 |aI esz h ih=>
  intro i c' hi;cases i with
  |zero=>
   simp at hi;subst hi;refine⟨_,rfl,fun ρ w v hd=>?_⟩
   obtain⟨a,rfl⟩:=hd;exact .nil esz a 0 (aao _)
  |succ i=>simpa using ih i c' (by simpa using hi)
theorem IH{f:Nat}{args lK:List CV}{m:Mem}{K:CV->Mem->Prop}(ha:lW args lK)(h:ar P f lK m K):ar P f args m K:=by
 refine⟨h.1,fun ρ w vs hM hl hd=>h.2 ρ w vs hM (hl.trans ha.len) fun i c' hi=>?_⟩
 obtain⟨c,hc,It⟩:=ha.get i c' hi;obtain⟨v,hv,uP⟩:=hd i c hc;exact⟨v,hv,It _ _ _ uP⟩
theorem aB{p:Prop}{i:Decidable p}{A B:Prop}(ha:p->A)(hb:¬p->B): @Bool.rec (fun _=>Prop) B A (@decide p i):=by
 cases hd: @decide p i
 .exact hb (of_decide_eq_false hd)
 .exact ha (of_decide_eq_true hd)
theorem bH{a b:Int}{A B:Prop}(ha:a=b->A)(hb:a≠b->B): @Bool.rec (fun _=>Prop) B A (a==b):=by
 cases hd:(a==b)
 .exact hb (by simpa using hd)
 .exact ha (by simpa using hd)
theorem br{a b:Int}{A B:Prop}(ha:a≠b->A)(hb:a=b->B): @Bool.rec (fun _=>Prop) B A (a !=b):=by
 cases hd:(a !=b)
 .exact hb (by simpa using hd)
 .exact ha (by simpa using hd)
theorem qv.fv{σ:Nat->Nat}{m:Mem}{F:List Nat}(id:Nat)(ds:List (List Dt)){esz:Nat}(hz:bq F id=true)(hb:df m id=some (.row esz (af ds))):
  qv σ m (fun k=>bq F k=true) (.rv (.one (.row id esz 0 none))) (.rv (.one (.aa (.sl esz ds)))):=
 .rv (.one (.fv (dP.eE (Z:=fun k=>bq F k=true) hz (by rw[<-aX];exact hb) 0 none)))
def QK(i:Nat):List (Nat×CV)->Option CV
 | []=>none
 |(j,x)::r=>match Nat.beq i j with|true=>some x|false=>QK i r
def kpV(eH:List Nat)(f:List (Nat×CV))(i:Nat)(v:CV):CV:=
 match QK i f with
 |some x=>x
 |none=>match bq eH i with|true=>v|false=>.ap
def U1(eH:List Nat)(f:List (Nat×CV)):Nat->List CV->(List CV->List CV)->List CV
 |_,[],k=>k []
 |i,v::r,k=>fV (kpV eH f i v) fun v'=>U1 eH f (i+1) r fun r'=>k (v'::r')
def Tn(eH:List Nat)(e:List CV)(f:List (Nat×CV)):List CV:=U1 eH f 0 e fun e=>e
theorem aO{n0:Nat}{b:LC}{K:Ex->St->Prop}{s:St}{α:Type}(J:α->Prop)(eH:List Nat)(f:α->List (Nat×CV))(M:α->Mem)(μ:α->Nat)(a0:α)(h0:J a0)(start:View n0 s ⟨Tn eH s.aY (f a0),M a0⟩)(round:∀a,J a->aw P n0 b (GL n0 J (fun a=>⟨Tn eH s.aY (f a),M a⟩) μ (μ a) K) ⟨Tn eH s.aY (f a),M a⟩):aw P n0 (.loop b) K s:=
 ⟨α,J,fun a=>⟨Tn eH s.aY (f a),M a⟩,μ,⟨a0,h0,start⟩,round⟩
theorem fa{n0:Nat}{b:LC}{K:Ex->St->Prop}{s:St}(eH:List Nat)(f:List (Nat×CV))(M:Mem)(hv:View n0 s ⟨Tn eH s.aY f,M⟩)(h:aw P n0 b K ⟨Tn eH s.aY f,M⟩):aw P n0 (.cO b) K s:=⟨_,hv,h⟩
end
theorem View.o{n0:Nat}{e e':List CV}{m m':Mem}(n:Nat)(l F:List Nat)(B8:iO (sg l n) m (fun k=>bq F k=true) e e')(kN:fo (sg l n) m (fun k=>bq F k=true) 0 m')(hn:m.length=n:=by exact rfl)(hl:m'.length=l.length:=by exact rfl)(h0:Nat.ble n0 l.length=true:=by exact rfl)(hi:IE l n0=true:=by exact rfl)(hd:gp l=true:=by exact rfl)(ha:fm n l=true:=by exact rfl):View n0 ⟨e,m⟩ ⟨e',m'⟩:=View.of n l F hn hl h0 hi hd ha B8 kN
theorem View.o1{n0:Nat}{e e':List CV}{m m':Mem}(n:Nat)(l F:List Nat)(kN:fo (sg l n) m (fun k=>bq F k=true) 0 m')(hn:m.length=n:=by exact rfl)(hl:m'.length=l.length:=by exact rfl)(h0:Nat.ble n0 l.length=true:=by exact rfl)(hi:IE l n0=true:=by exact rfl)(hd:gp l=true:=by exact rfl)(ha:fm n l=true:=by exact rfl)(B8:iO (sg l n) m (fun k=>bq F k=true) e e':=by repeat(first|exact .nil|refine .ap ?_|refine .eq rfl ?_)):View n0 ⟨e,m⟩ ⟨e',m'⟩:=View.of n l F hn hl h0 hi hd ha B8 kN
theorem fo.pt{σ:Nat->Nat}{m:Mem}{F:List Nat}{k:Nat}{b b':Bk}{r:Mem}(hz:bq F (σ k)=false)(hb:df m (σ k)=some b)(hv:mZ σ m (fun k=>bq F k=true) (σ k) b b')(h:fo σ m (fun k=>bq F k=true) (k+1) r):fo σ m (fun k=>bq F k=true) k (b' ::r):=.put (eZ hz) hb hv h
theorem fo.pe{σ:Nat->Nat}{m:Mem}{F:List Nat}{k:Nat}{b b':Bk}{r:Mem}(hz:bq F (σ k)=false)(hb:df m (σ k)=some b)(hv:b'.aQ σ=b)(h:fo σ m (fun k=>bq F k=true) (k+1) r)(hd:b'≠.bh:=by simp):fo σ m (fun k=>bq F k=true) k (b' ::r):=.put (eZ hz) hb (.eq hv hd) h
theorem fo.pm{σ:Nat->Nat}{m:Mem}{F:List Nat}{k:Nat}{b b':Bk}(hz:bq F (σ k)=false)(hb:df m (σ k)=some b)(hv:b'.aQ σ=b)(hd:b'≠.bh:=by simp):fo σ m (fun k=>bq F k=true) k [b']:=.put (eZ hz) hb (.eq hv hd) (.nil _)
theorem fo.pr{σ:Nat->Nat}{m:Mem}{F:List Nat}{k:Nat}{esz:Nat}{es:List (List CC)}{ds:List (List Dt)}{r:Mem}(hz:bq F (σ k)=false)(hb:df m (σ k)=some (.row esz es))(he:es=af ds)(h:fo σ m (fun k=>bq F k=true) (k+1) r):fo σ m (fun k=>bq F k=true) k (.row esz (af ds) ::r):=.put (eZ hz) hb (.bV he) h
theorem fo.pn{σ:Nat->Nat}{m:Mem}{F:List Nat}{k:Nat}{esz:Nat}{es:List (List CC)}{ds:List (List Dt)}(hz:bq F (σ k)=false)(hb:df m (σ k)=some (.row esz es))(he:es=af ds):fo σ m (fun k=>bq F k=true) k [.row esz (af ds)]:=.put (eZ hz) hb (.bV he) (.nil _)
theorem aZ{P:Program}{f:Nat}{fn:Func}{lf:LF}{args:List CV}{m:Mem}{K:CV->Mem->Prop}(hf:P.funcs[f]? =some fn)(hl:bs P fn=some lf)(h:body P lf args m K)(hn:(fn.name== "runtime.NumGoroutine")=false:=by exact rfl)(hle:Nat.ble args.length lf.n=true:=by exact rfl):ar P f args m K:=vF hf hl hn (aak hle) h
theorem cm{P:Program}{f:Nat}{fn:Func}{lf:LF}{args:List CV}{m:Mem}{K:CV->Mem->Prop}(hf:P.funcs[f]? =some fn)(hl:bs P fn=some lf.er)(h:body P lf args m K)(hn:(fn.name== "runtime.NumGoroutine")=false:=by exact rfl)(hle:Nat.ble args.length lf.n=true:=by exact rfl):ar P f args m K:=mX hf hl hn (aak hle) h
theorem Dt.Lx(d:Dt):1<=d.size:=by
 cases d with
 |val v=>cases v<;>simp[Dt.size]
 |sl e l=>simp[Dt.size]
theorem Dt.II{l:List Dt}(h:l≠[]):1<=Dt.cW l:=by
 cases l with
 |nil=>exact absurd rfl h
 |cons d r=>simp only[Dt.cW];have:=d.Lx;omega
theorem Dt.cK:∀(l:List (List Dt)),(∀e,e∈l->e≠[])->l.length<=Dt.bA l
 | [],_=>aG
 |e::r,h=>by
  have h1:=Dt.II (h e aG);have h2:=Dt.cK r fun x hx=>h x (by simp[hx])
  simp only[Dt.bA,aax];omega
theorem ff.ne{ls:List Lf}{ds:List Dt}(h:ff ls ds)(hl:ls≠[]):ds≠[]:=by
 cases h<;>simp_all
theorem dp{α:Type}{es:List Lf}(enc:α->List Dt)(p:α->Prop)(dec:∀e,ff es e->∃a,p a/\e=enc a):∀{elems:List (List Dt)},(∀e,e∈elems->ff es e)->∃l:List α,(∀a,a∈l->p a)/\elems=l.map enc
 | [],_=>⟨[],aG,rfl⟩
 |e::r,h=>by
  obtain⟨a,ha,rfl⟩:=dec e (h e aG);obtain⟨l,hl,rfl⟩:=dp enc p dec (elems:=r) fun x hx=>h x (by simp[hx])
  exact⟨a::l,by simpa using⟨ha,hl⟩,rfl⟩
section
variable {P:Program}
def CC.gS:CC->Bool
 | .aa (.val _)=>true
 |_=>false
def zY:List CC->Bool
 | []=>true
 |c::r=>c.gS&&zY r
def RV.gS:RV->Bool
 | .one c=>c.gS
 | .agg cs=>zY cs
def uR:List RV->Bool
 | []=>true
 |c::r=>c.gS&&uR r
def CV.gS:CV->Bool
 | .rv r=>r.gS
 | .bF rs=>uR rs
 |_=>false
theorem vL:∀{l:List CC},zY l=true->∀c,c∈l->c.gS=true
 | [],_,c,h=>by simp at h
 |x::r,h,c,hc=>by
  simp only[zY,aap]at h;rcases aaJ.1 hc with rfl|hc
  .exact h.1
  .exact vL h.2 c hc
theorem tZ:∀{l:List RV},uR l=true->∀c,c∈l->c.gS=true
 | [],_,c,h=>by simp at h
 |x::r,h,c,hc=>by
  simp only[uR,aap]at h;rcases aaJ.1 hc with rfl|hc
  .exact h.1
  .exact tZ h.2 c hc
theorem CC.i4{ρ ρ':bL}{w:World}{c:CC}{v:Value}(h:c.gS=true)(hd:bz ρ w .none c v):bz ρ' w .none c v:=by
 cases c with
 |aa d=>
  cases d with
  |val x=>
   cases hd with
   |val v hp=>exact .val _ hp
   |no a=>exact .no a
  |sl=>simp[CC.gS]at h
 |_=>simp[CC.gS]at h
theorem RV.i4{ρ ρ':bL}{w:World}{c:RV}{v:Value}(h:c.gS=true)(hd:dW ρ w c v):dW ρ' w c v:=by
 cases c with
 |one c=>exact CC.i4 h hd
 |agg cs=>
  obtain⟨vs,rfl,h1,h2⟩:=hd;exact⟨vs,rfl,h1,fun i c hi=>let⟨u,hu,hd⟩:=h2 i c hi;⟨u,hu,CC.i4 (vL h c (aag hi)) hd⟩⟩
theorem CV.i4{ρ ρ':bL}{w:World}{c:CV}{v:Value}(h:c.gS=true)(hd:b8 ρ w c v):b8 ρ' w c v:=by
 cases c with
 |rv r=>exact RV.i4 h hd
 |bF rs=>
  obtain⟨vs,rfl,h1,h2⟩:=hd;exact⟨vs,rfl,h1,fun i c hi=>let⟨u,hu,hd⟩:=h2 i c hi;⟨u,hu,RV.i4 (tZ h c (aag hi)) hd⟩⟩
 |_=>simp[CV.gS]at h
theorem Ly{f:Nat}{args args0:List CV}{m:Mem}{K0 K:CV->Mem->Prop}(F:List Nat)(h:ar P f args0 [] K0)(eY:iO (sg [] m.length) m (fun k=>bq F k=true) args args0)(hK:∀r m1,K0 r m1->r.gS=true/\K r m):ar P f args m K:=by
 refine⟨h.1,fun ρ w vs hM xS Yu=>?_⟩
 have gF:∀i,sg [] m.length i<m.length->i<0:=fun i h=>by simp[sg,df]at h;omega
 obtain⟨lH,hC0,_⟩:=zW (n0:=0) (σ:=sg [] m.length) (Z:=fun k=>bq F k=true) (m':=[]) hM (fun i h=>absurd h (aaL i)) (fun i j h _ _=>absurd h (aaL i)) gF (fun i b' h=>by simp at h)
 refine(h.2 _ w vs lH (xS.trans eY.len.symm) fun i c hi=>?_).mono fun e w'⟨v,r,m1,ρ1,he,hk,uQ,xP,hx⟩=>?_
 .obtain⟨c0,Ke,hv⟩:=eY.get i c hi;obtain⟨v,zF,hd⟩:=Yu i c0 Ke;exact⟨v,zF,hv.lg hM gF hd⟩
 .obtain⟨hp,Kf⟩:=hK r m1 hk;have kM:∀k,¬Live (ρ.vw (sg [] m.length) (fun k=>bq F k=true) m 0) [] k:=fun k h=>by have:=h.gB;simp at this
  have OP:eG w w':=⟨fun b hb=>hx.frame b hb fun k hk=>absurd hk (kM k),hx.size,hx.os,hx.tape,hx.output⟩
  obtain⟨h1,h2⟩:=hM.Lq OP;exact⟨v,r,m,ρ,he,Kf,h1,CV.i4 hp xP,h2⟩
end
section
variable {P:Program}
theorem CC.rc{σ:Nat->Nat}{c:CC}(h:c.dx=true):c.aQ σ=c:=by
 cases c
 case fn f ew=>
  cases ew with
  |nil=>rfl
  |cons c r=>simp[CC.dx]at h
 all_goals first|rfl|simp[CC.dx]at h
theorem RV.rc{σ:Nat->Nat}{r:RV}(h:r.dx=true):r.aQ σ=r:=by
 cases r with
 |one c=>exact congrArg RV.one (CC.rc h)
 |agg cs=>
  refine congrArg RV.agg ?_
  conv=>rhs;rw[<-List.map_id cs]
  exact abA fun c hc=>CC.rc (aaW.1 h c hc)
theorem CV.Ca{σ:Nat->Nat}{v:CV}(h:v.B6=true):v.aQ σ=v:=by
 cases v with
 |rv r=>exact congrArg CV.rv (RV.rc h)
 |bF rs=>
  refine congrArg CV.bF ?_
  conv=>rhs;rw[<-List.map_id rs]
  exact abA fun c hc=>RV.rc (aaW.1 h c hc)
 |_=>rfl
theorem Bk.Lz{σ:Nat->Nat}(ds:List Dt):(Bk.var (ds.map .aa)).aQ σ= .var (ds.map .aa):=by simp[Bk.aQ,CC.aQ,abU]
theorem EF{m:Mem}{id:Nat}{b:Bk}(h:df m id=some b):dn m [id] [b]=m:=by
 rw[aX]at h;simp only[dn,cr,abI,bn];exact aa7 fun i=>by
  rw[aaQ];split
  .rename_i hi;subst hi;have:=(aac.1 h).1;rw[if_pos this,h]
  .rfl
theorem fb{f:Nat}{args args0:List CV}{m:Mem}{cs:List Dt}{r0:CV}{K:CV->Mem->Prop}(id:Nat)(hb:df m id=some (.var (cs.map .aa)))(eY:args=args0.map (CV.aQ (sg [id] m.length)))(hr:r0.B6=true)(h:∀K:CV->Mem->Prop,K r0 [.var (cs.map .aa)]->ar P f args0 [.var (cs.map .aa)] K)(hK:K r0 m):ar P f args m K:=by
 have hid:id<m.length:=by rw[aX]at hb;exact(aac.1 hb).1
 refine bC (K0:=fun r m1=>r=r0/\m1=[.var (cs.map .aa)]) [id] m.length rfl rfl rfl ?_ eY (fun i b' hi=>?_) (h _ ⟨rfl,rfl⟩) (fun r m1 Bp=>?_)
 .simp[fm,hid]
 .cases i with
  |zero=>
   simp at hi;subst hi;refine .inr ⟨fun h=>h,.var (cs.map .aa),?_,.fK rfl⟩
   rw[aX]at hb;exact hb
  |succ i=>simp at hi
 .obtain⟨rfl,rfl⟩:=Bp;refine⟨aaj _,?_⟩;rw[CV.Ca hr];have:dn m [id] (rb (sg [id] m.length) [.var (cs.map .aa)])=m:=by show dn m [id] [Bk.aQ _ _]=m;rw[Bk.Lz];exact EF hb
  rw[this];exact hK
theorem eJ{f:Nat}{args:List CV}{cs:List Dt}{r0:CV}{K:CV->Mem->Prop}(hr:r0.B6=true)(h:ar P f args [.var (cs.map .aa)] fun r m=>r=r0/\∃ex,m= .var (cs.map .aa)::ex)(hK:K r0 [.var (cs.map .aa)]):ar P f args [.var (cs.map .aa)] K:=by
 refine bN h fun r m1⟨h1,ex,h2⟩=>⟨r0,[.var (cs.map .aa)],?_,hK⟩
 subst h1;subst h2;refine View.of (ex.length+1) [0] [] aG rfl rfl rfl rfl (by simp[fm]) ?_ ?_
 .exact .eq (CV.Ca hr) .nil
 .exact .put (by simp[bq]) rfl (.fK rfl) (.nil _)
theorem mZ.EG{σ:Nat->Nat}{m:Mem}{Z:Nat->Prop}{id s:Nat}{R R':List (List CC)}{x y:List CC}(hR:R'.map (fun cs=>cs.map (CC.aQ σ))=R)(hx:x.length=y.length)(La:∀(j:Nat)c c',x[j]? =some c->y[j]? =some c'->qt σ m Z (some id) c c'):mZ σ m Z id (.row s (R++ [x])) (.row s (R'++ [y])):=by
 subst hR;refine .row s aG (fun i cs eu h1 h2=>?_) (fun i cs eu j c c' h1 h2 h3 h4=>?_)
 .rcases aaq i R'.length with h|h
  .rw[aar (by simpa using h),aaf]at h1
   rw[aar h]at h2;rw[h2]at h1;cases h1;simp
  .rw[aan (by simpa using h),aad]at h1
   rw[aan h]at h2;cases hi:i-R'.length with
   |zero=>
    rw[hi]at h1 h2;cases h1;cases h2;exact hx
   |succ n=>rw[hi]at h1;simp at h1
 .rcases aaq i R'.length with h|h
  .rw[aar (by simpa using h),aaf]at h1
   rw[aar h]at h2;rw[h2]at h1;cases h1;rw[aaf,h4]at h3;cases h3;exact .aQ c'
  .rw[aan (by simpa using h),aad]at h1
   rw[aan h]at h2;cases hi:i-R'.length with
   |zero=>
    rw[hi]at h1 h2;cases h1;cases h2;exact La j c c' h3 h4
   |succ n=>rw[hi]at h1;simp at h1
theorem fo.yQ{σ:Nat->Nat}{m:Mem}{Z:Nat->Prop}{k:Nat}{b:Bk}{r:Mem}(hz:¬Z (σ k))(hb:df m (σ k)=some b)(hr:b.aQ σ=b)(h:fo σ m Z (k+1) r):fo σ m Z k (b::r):=by
 cases b with
 |bh=>exact .bh h
 |_=>exact .put hz hb (.eq hr aG) h
inductive Cb:CC->CC->Prop
 |dK (c:CC):Cb c c
 |aI (s:Nat):Cb .aI (.aa (.sl s []))
 |no:Cb .aI (.aa (.val (.slice none 0 0)))
theorem Cb.lg{c c':CC}(h:Cb c c'){ρ:bL}{w:World}{v:Value}(hd:bz ρ w none c v):bz ρ w none c' v:=by
 cases h with
 |dK=>exact hd
 |aI s=>
  obtain⟨a,rfl⟩:=hd;exact .nil s a 0 (aao _)
 |no=>
  obtain⟨a,rfl⟩:=hd;exact .no a
inductive Cc:List CC->List CC->Prop
 |nil:Cc [] []
 |cons {c c':CC} {r r':List CC} (h:Cb c c') (t:Cc r r'):Cc (c::r) (c'::r')
theorem Cc.len{a b:List CC}(h:Cc a b):a.length=b.length:=by
 induction h<;>simp[*]
theorem Cc.get{a b:List CC}(h:Cc a b):∀(i:Nat)c',b[i]? =some c'->∃c,a[i]? =some c/\Cb c c':=by
 induction h with
 |nil=>intro i c' h;simp at h
 |cons h t ih=>
  intro i c' hi;cases i with
  |zero=>simp at hi;subst hi;exact⟨_,rfl,h⟩
  |succ i=>simpa using ih i c' (by simpa using hi)
inductive kO:List CV->List CV->Prop
 |nil:kO [] []
 |dK (c:CV) {r r':List CV} (t:kO r r'):kO (c::r) (c::r')
 |one {c c':CC} {r r':List CV} (h:Cb c c') (t:kO r r'):kO (.rv (.one c)::r) (.rv (.one c')::r')
 |agg {cs eu:List CC} {r r':List CV} (h:Cc cs eu) (t:kO r r'):kO (.rv (.agg cs)::r) (.rv (.agg eu)::r')
theorem kO.len{a b:List CV}(h:kO a b):a.length=b.length:=by
 induction h<;>simp[*]
theorem kO.get{a b:List CV}(h:kO a b):∀(i:Nat)c',b[i]? =some c'->∃c,a[i]? =some c/\∀ρ w v,b8 ρ w c v->b8 ρ w c' v:=by
 induction h with
 |nil=>intro i c' h;simp at h
 |dK c t ih=>
  intro i c' hi;cases i with
  |zero=>simp at hi;subst hi;exact⟨_,rfl,fun _ _ _ h=>h⟩
  |succ i=>simpa using ih i c' (by simpa using hi)
 |one h t ih=>
  intro i c' hi;cases i with
  |zero=>simp at hi;subst hi;exact⟨_,rfl,fun _ _ _ hd=>h.lg hd⟩
  |succ i=>simpa using ih i c' (by simpa using hi)
 |agg h t ih=>
  intro i c' hi;cases i with
  |zero=>
   simp at hi;subst hi;refine⟨_,rfl,fun ρ w v hd=>?_⟩
   obtain⟨vs,hv,hl,hc⟩:=hd;exact⟨vs,hv,hl.trans h.len,fun i c' hi=>let⟨c,qG,hle⟩:=h.get i c' hi;let⟨u,hu,cn⟩:=hc i c qG;⟨u,hu,hle.lg cn⟩⟩
  |succ i=>simpa using ih i c' (by simpa using hi)
theorem mz{f:Nat}{args lK:List CV}{m:Mem}{K:CV->Mem->Prop}(ha:kO args lK)(h:ar P f lK m K):ar P f args m K:=by
 refine⟨h.1,fun ρ w vs hM hl hd=>h.2 ρ w vs hM (hl.trans ha.len) fun i c' hi=>?_⟩
 obtain⟨c,hc,It⟩:=ha.get i c' hi;obtain⟨v,hv,uP⟩:=hd i c hc;exact⟨v,hv,It _ _ _ uP⟩
theorem mA{f:Nat}{args lK:List CV}{m m':Mem}{K:CV->Mem->Prop}(hv:View m.length ⟨args,m⟩ ⟨lK,m'⟩)(h:ar P f lK m' K):ar P f args m K:=by
 refine⟨h.1,fun ρ w vs hM hl hd=>?_⟩
 obtain⟨ρ',lV,hc,uP⟩:=hv.go ρ w hM;have hlen:lK.length=args.length:=hv.len;refine(h.2 ρ' w vs lV (hl.trans hlen.symm) fun i c' hi=>?_).mono fun e w'⟨v,r,m1,ρ1,he,hk,uQ,xP,hx⟩=>?_
 .obtain⟨c,Ke,zK⟩:=uP i c' hi;obtain⟨v,hv,cj⟩:=hd i c Ke;exact⟨v,hv,zK v cj⟩
 .have Ui:Ext ρ m w ρ' m' w:=⟨by rw[hM.n,lV.n];exact hv.hn,fun id hid=>hc.aR id (by rw[<-hM.n];exact hid),hc.S,fun b hb=>(hc.S' b hb).elim .inl fun h=>.inr (.inr h),fun k hk=>.inr (hc.aV k hk),fun _ _ _=>rfl,aaj _,rfl,rfl,rfl⟩
  exact⟨v,r,m1,ρ1,he,hk,uQ,xP,Ui.trans hx⟩
end
end Go.AM
