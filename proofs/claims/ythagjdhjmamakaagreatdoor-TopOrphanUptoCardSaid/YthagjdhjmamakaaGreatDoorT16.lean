/- Part 16 of 41: what the law stands on. -/
import Derived.Test.YthagjdhjmamakaaGreatDoorT15
set_option linter.unusedVariables false
set_option linter.unusedSimpArgs false
set_option linter.unnecessarySimpa false
set_option maxRecDepth 100000
set_option maxHeartbeats 64000000
namespace Go.AM
section
variable {P:Program}
theorem Db{l:List Nat}{n i:Nat}(hi:sg l n i<n):i<l.length:=by
 rcases XN i l.length with h|h
 .exact h
 .rw[sP h]at hi;omega
theorem bv{f:Nat}{args args0:List CV}{m m0:Mem}{K0 K:CV->Mem->Prop}(l:List Nat)(n:Nat)(hn:m.length=n)(hl:m0.length=l.length)(hd:fQ l=true)(ha:eX n l=true)(eC:args=args0.map (CV.aP (sg l n)))(hm:∀(i:Nat)b',m0[i]? =some b'->b'= .aZ\/(¬False/\∃b,m[sg l n i]? =some b/\lU (sg l n) m (fun _=>False) (sg l n i) b b'))(h:ar P f args0 m0 K0)(hK:∀r m1,K0 r m1->l.length<=m1.length/\K (r.aP (sg l n)) (cV m l (pT (sg l n) m1))):ar P f args m K:=by
 subst hn;refine⟨h.1,fun ρ w vs hM wi W4=>?_⟩
 have qW:∀i j,sg l m.length i=sg l m.length j->i=j:=fun i j h=>JL hd ha h
 obtain⟨kG,hC0,Qa⟩:=yv (n0:=0) (σ:=sg l m.length) (Z:=fun _=>False) (m':=m0) hM (fun i h=>absurd h (aal i)) (fun i j _ _ h=>qW i j h) (fun i h=>by rw[hl];exact Db h) hm
 have Vu:∀b,(ρ.vw (sg l m.length) (fun _=>False) m m0.length).S b↔ρ.S b:=fun b=>⟨fun h=>h.elim id fun⟨k,_,hf,_⟩=>hf.elim,.inl⟩
 have j8:ρ.n=m.length:=hM.n;refine(h.2 _ w vs kG (by rw[wi,eC];simp) fun i c hi=>?_).mono fun e w'⟨v,r,m1,ρ1,he,hk,tF,wd,hx⟩=>?_
 .obtain⟨v,hv,vW⟩:=W4 i (c.aP (sg l m.length)) (by rw[eC,O6,hi];rfl)
  exact⟨v,hv,pS.j7 hM (fun i h=>by rw[hl];exact Db h) (.G8 c) vW⟩
 .obtain⟨hle,gC⟩:=hK r m1 hk;have oO:ρ1.n=m1.length:=tF.n;let back:Nat->Option Nat:=fun j=>(List.range m1.length).find? fun i=>sg l m.length i==j
  have jA:∀{j i},back j=some i->i<m1.length/\sg l m.length i=j:=by
   intro j i hb;have h1:=List.mem_of_find?_eq_some hb;have h2:=List.find?_some hb;exact⟨by simpa using h1,by simpa using h2⟩
  have Fx:∀{i},i<m1.length->back (sg l m.length i)=some i:=by
   intro i hi;cases hb:back (sg l m.length i)with
   |none=>
    have:=ace.1 hb i (by simpa using hi)
    simp at this
   |some j=>rw[qW _ _ (jA hb).2]
  have n8:∀{j},j<m.length+(m1.length-l.length)->back j=none->j<m.length/\j∉l:=by
   intro j hj hb;have iV:=ace.1 hb;refine⟨?_,fun l4=>?_⟩
   .rcases XN j m.length with h|h
    .exact h
    .have:=iV (l.length+(j-m.length)) (by simp;omega)
     rw[sP om]at this;simp at this;omega
   .obtain⟨i,hi⟩:=Xz l4;obtain⟨aF,rfl⟩:=Hy.1 hi;have:=iV i (by simp;omega)
    rw[sO aF]at this;simp at this
  let ρ':bH:={n:=m.length+(m1.length-l.length),aO:=fun k=>match back k.id with
   |some i=>(match k with| .ap _=>ρ1.aO (.ap i)| .sub _ a b=>ρ1.aO (.sub i a b))
   |none=>ρ.aO k,S:=ρ1.S}
  have MW:∀i,i<ρ1.n->ρ'.aO (.ap (sg l m.length i))=ρ1.aO (.ap i):=by intro i hi;rw[oO]at hi;simp only[ρ',kW.id,Fx hi]
  have Qb:∀i a b,i<ρ1.n->ρ'.aO (.sub (sg l m.length i) a b)=ρ1.aO (.sub i a b):=by intro i a b hi;rw[oO]at hi;simp only[ρ',kW.id,Fx hi]
  have Ha:∀k:kW,back k.id=none->ρ'.aO k=ρ.aO k:=by intro k hb;simp only[ρ',hb]
  have JM:∀id,id<ρ.n->ρ'.aO (.ap id)=ρ.aO (.ap id):=by
   intro id hid;cases hb:back id with
   |none=>exact Ha (.ap id) hb
   |some i=>
    obtain⟨h1,h2⟩:=jA hb;have hi:i<l.length:=Db (by rw[h2,<-j8];exact hid)
    rw[<-h2,MW i (by rw[oO];exact h1),hx.aO i (by show i<m0.length;omega)]
    rfl
  have yf:∀i,i<ρ1.n->sg l m.length i<ρ'.n:=by
   intro i hi;rw[oO]at hi;show _<m.length+(m1.length-l.length);rcases XN i l.length with h|h
   .rw[sO h];have:=nW ha _ (XP h);omega
   .rw[sP h];omega
  have Fy:(pT (sg l m.length) m1).length=m1.length:=by rw[yw];simp
  have Vv:(cV m l (pT (sg l m.length) m1)).length=m.length+(m1.length-l.length):=by
   rw[xi l m _ (by rw[Fy];exact hle),Fy]
  have Vw:∀i,i<m1.length->(cV m l (pT (sg l m.length) m1))[sg l m.length i]? =(m1[i]?).map (Bk.aP (sg l m.length)):=by
   intro i hi;rw[xj l m _ hd ha (by rw[Fy];exact hle) i (by rw[Fy];exact hi),yw,O6]
  have W5:∀j,back j=none->j<m.length+(m1.length-l.length)->(cV m l (pT (sg l m.length) m1))[j]? =m[j]? :=by intro j hb hj;obtain⟨h1,h2⟩:=n8 hj hb;exact rf l m _ j h1 h2
  have vY:∀k,Live ρ m k->(k.id<m.length->k.id∉l)->(∀k0,Live (ρ.vw (sg l m.length) (fun _=>False) m m0.length) m0 k0->((ρ.vw (sg l m.length) (fun _=>False) m m0.length).aO k0).b≠(ρ.aO k).b):=by
   intro k hk JN k0 IG he;have h1:=Qa k0 IG;have h2:=hM.inj _ _ h1 hk he;have h3:=IG.fX;rw[hl]at h3;apply JN hk.fX;rw[<-h2];cases k0<;>simp only[kW.aP,kW.id]at h3⊢<;>rw[sO h3]<;>exact XP h3
  have ku:∀k,Live ρ m k->(k.id<m.length->k.id∉l)->w'.heap[(ρ.aO k).b]? =w.heap[(ρ.aO k).b]? :=fun k hk JN=>hx.frame _ (hM.a8 k hk).1 (vY k hk JN)
  have uf:∀b,ρ.S b->w'.heap[b]? =w.heap[b]? :=fun b hb=>hx.frame b (hM.S b hb) fun k hk he=>(kG.a8 k hk).2 (he▸(Vu b).2 hb)
  have Vx:∀b,ρ.S b->ρ1.S b:=fun b hb=>hx.S b ((Vu b).2 hb)
  have Tp:∀k,Live ρ m k->(k.id<m.length->k.id∉l)->¬ρ1.S (ρ.aO k).b:=by
   intro k hk JN hs;rcases hx.S' _ hs with h|h|⟨k0,IG,he⟩
   .exact(hM.a8 k hk).2 ((Vu _).1 h)
   .have:=(hM.a8 k hk).1;omega
   .exact vY k hk JN k0 IG he
  have mS:∀k,Live ρ' (cV m l (pT (sg l m.length) m1)) k->(∃k1,k1.id<m1.length/\k=k1.aP (sg l m.length)/\Live ρ1 m1 k1/\ρ'.aO k=ρ1.aO k1)\/(back k.id=none/\k.id<m.length/\k.id∉l/\Live ρ m k/\ρ'.aO k=ρ.aO k):=by
   intro k hk;have aF:=hk.fX;rw[Vv]at aF;cases hb:back k.id with
   |none=>
    obtain⟨h1,h2⟩:=n8 aF hb;have Qc:=W5 k.id hb aF;refine .inr ⟨rfl,h1,h2,?_,Ha k hb⟩;have cy:=Ha k hb;cases k with
    |ap id=>
     obtain⟨bk,eT,qJ,bl⟩:=hk;simp only[kW.id]at Qc;rw[Qc]at eT;rw[cy]at bl;exact⟨bk,eT,qJ,bl⟩
    |sub id a b=>
     obtain⟨⟨s,e,es,rows,cs,eT,hi,hj⟩,bl⟩:=hk;simp only[kW.id]at Qc;rw[Qc]at eT;rw[cy]at bl;exact⟨⟨s,e,es,rows,cs,eT,hi,hj⟩,bl⟩
   |some i=>
    obtain⟨h1,h2⟩:=jA hb;have Qc:=Vw i h1;cases k with
    |ap id=>
     simp only[kW.id]at h2;subst h2;have cy:=MW i (by rw[oO];exact h1)
     refine .inl ⟨.ap i,h1,rfl,?_,cy⟩;obtain⟨bk,eT,qJ,bl⟩:=hk;rw[Qc]at eT;obtain⟨b0,h0,rfl⟩:=Z2.1 eT;rw[cy]at bl;refine⟨b0,h0,?_,?_⟩
     .rintro rfl;exact qJ rfl
     .rintro⟨s,es,rfl⟩;exact bl ⟨_,_,rfl⟩
    |sub id a b=>
     simp only[kW.id]at h2;subst h2;have cy:=Qb i a b (by rw[oO];exact h1)
     refine .inl ⟨.sub i a b,h1,rfl,?_,cy⟩;obtain⟨⟨s,e,es,rows,cs,eT,hi,hj⟩,bl⟩:=hk;rw[Qc]at eT;obtain⟨b0,h0,wb⟩:=Z2.1 eT;rw[cy]at bl;cases b0 with
     |row s0 YZ=>
      simp only[Bk.aP,Bk.row.injEq]at wb;obtain⟨rfl,rfl⟩:=wb;rw[O6]at hi;obtain⟨zN,tC,rfl⟩:=Z2.1 hi;rw[O6]at hj;obtain⟨c0,W6,ID⟩:=Z2.1 hj;have:c0= .gp s e:=by cases c0<;>simp[CC.aP]at ID⊢;exact ID
      subst this;exact⟨⟨s,e,_,_,_,h0,tC,W6⟩,bl⟩
     |_=>simp[Bk.aP]at wb
  have W7:∀{j i},back j=some i->i<ρ1.n/\sg l m.length i=j:=fun hb=>by rw[oO];exact jA hb
  refine⟨v,r.aP (sg l m.length),cV m l (pT (sg l m.length) m1),ρ',he,gC,⟨Vv.symm,fun b hb=>tF.S b hb,fun k hk=>?_,fun k k' hk oP mZ=>?_,fun id b hb=>?_,fun id i j esz e ho bl=>?_⟩,bW.aP yf MW (fun _ h=>h) wd,
   ⟨by show ρ.n<=_;rw[j8];exact acp _ _,JM,Vx,fun b hb=>?_,fun k hk=>?_,fun b hb hnk=>hx.frame b hb fun k hk he=>hnk _ (Qa k hk) he,hx.size,hx.os,hx.tape,hx.output⟩⟩
  .rcases mS k hk with⟨k1,_,_,i4,cy⟩|⟨_,h1,h2,i4,cy⟩
   .rw[cy];exact tF.a8 k1 i4
   .rw[cy];exact⟨aaf (hM.a8 k i4).1 hx.size,Tp k i4 fun _=>h2⟩
  .have mixed:∀k1 k2,Live ρ1 m1 k1->Live ρ m k2->k2.id∉l->(ρ1.aO k1).b≠(ρ.aO k2).b:=by
    intro k1 k2 i4 oP W8 qH;rcases hx.a8 k1 i4 with h|⟨k0,IG,e0⟩
    .have:=(hM.a8 k2 oP).1;omega
    .exact vY k2 oP (fun _=>W8) k0 IG (e0.trans qH)
   rcases mS k hk with⟨k1,_,rfl,i4,cy⟩|⟨_,h1,h2,i4,cy⟩<;>rcases mS k' oP with⟨Zp,_,rfl,JO,np⟩|⟨_,MX,OL,JO,np⟩
   .rw[cy,np]at mZ;rw[tF.inj k1 Zp i4 JO mZ]
   .rw[cy,np]at mZ;exact absurd mZ (mixed k1 k' i4 JO OL)
   .rw[cy,np]at mZ;exact absurd mZ.symm (mixed Zp k JO i4 h2)
   .rw[cy,np]at mZ;exact hM.inj k k' i4 JO mZ
  .have aF:id<m.length+(m1.length-l.length):=by rw[<-Vv];exact(Hy.1 hb).1
   cases eT:back id with
   |some i=>
    obtain⟨h1,rfl⟩:=jA eT;rw[Vw i h1]at hb;obtain⟨b0,h0,rfl⟩:=Z2.1 hb;exact dZ.aP yf MW (fun _ h=>h) (by rw[oO];exact h1) (fun a b=>Qb i a b (by rw[oO];exact h1)) (tF.bk i b0 h0)
   |none=>
    obtain⟨h1,h2⟩:=n8 aF eT;rw[W5 id eT aF]at hb;have pF:=hM.bk id b hb;have cy:ρ'.aO (.ap id)=ρ.aO (.ap id):=Ha (.ap id) eT;have ef:ρ.n<=ρ'.n:=by rw[j8];exact acp _ _
    have iJ:∀{p c u},(∀a i j,p=some (a,i,j)->a=id)->br ρ w p c u->br ρ' w' p c u:=fun{p c u}hp hd=>br.W0 ef JM (fun a i j Ad=>by rw[hp a i j Ad];exact Ha (.sub id i j) eT) Vx uf hd
    have fK:∀{c u},dy ρ w c u->dy ρ' w' c u:=by
     intro c u hd;cases c with
     |one c=>exact iJ (fun _ _ _ h=>by cases h) hd
     |agg cs=>
      obtain⟨vs,hv,GM,hc⟩:=hd;exact⟨vs,hv,GM,fun i c hi=>let⟨u,hu,hd⟩:=hc i c hi;⟨u,hu,iJ (fun _ _ _ h=>by cases h) hd⟩⟩
    have hh:b≠.aZ->((∃esz elems,b= .row esz elems)->0<(ρ.aO (.ap id)).cap)->w'.heap[(ρ.aO (.ap id)).b]? =w.heap[(ρ.aO (.ap id)).b]? :=fun qJ bl=>ku (.ap id) ⟨b,hb,qJ,bl⟩ fun _=>h2
    cases b with
    |aZ=>trivial
    |var cs=>
     obtain⟨cur,hc,yk⟩:=pF;simp only[dZ,cy];refine⟨cur,hc.dz (hh aK (by rintro⟨_,_,h⟩;cases h)),fun j c hj=>?_⟩
     obtain⟨u,hu,b9⟩:=yk j c hj;exact⟨u,hu,iJ (fun _ _ _ h=>by cases h) b9⟩
    |row esz elems=>
     obtain⟨g2,g3,g4,g5,bU⟩:=pF;simp only[dZ,cy];refine⟨g2,g3,g4,g5,fun de=>?_⟩
     obtain⟨cur,hc,q1,q6⟩:=bU de;refine⟨cur,hc.dz (hh aK (fun _=>de)),q1,fun i cs j c hi hj=>?_⟩
     obtain⟨u,hu,b9⟩:=q6 i cs j c hi hj;exact⟨u,hu,iJ (fun _ _ _ h=>by cases h;rfl) b9⟩
    |mp es=>
     obtain⟨ae,clock,hc,q1,q2⟩:=pF;simp only[dZ,cy];refine⟨ae,clock,⟨(hh aK (by rintro⟨_,_,h⟩;cases h)).trans hc.1,hc.2⟩,q1,fun i e hi=>?_⟩
     obtain⟨Tn,To,Cf,vW⟩:=q2 i e hi;exact⟨Tn,To,Cf,fK vW⟩
    |it cur left=>
     obtain⟨mb,seen,ck,cJ,q2,q3,q4,q5,q6⟩:=pF;simp only[dZ,cy];exact⟨mb,seen,ck,cJ,(hh aK (by rintro⟨_,_,h⟩;cases h)).trans q2,q3,Vx _ q4,(uf mb q4).trans q5,q6⟩
  .have hk:Live ρ' (cV m l (pT (sg l m.length) m1)) (.sub id i j):=⟨⟨_,_,ho⟩,bl⟩;obtain⟨es,rows,cs,hb,hi,hj⟩:=ho;have aF:id<m.length+(m1.length-l.length):=by rw[<-Vv];exact(Hy.1 hb).1
   cases eT:back id with
   |some i0=>
    obtain⟨h1,rfl⟩:=jA eT;have cy:=Qb i0 i j (by rw[oO];exact h1)
    rw[cy]at bl⊢;rw[Vw i0 h1]at hb;obtain⟨b0,h0,wb⟩:=Z2.1 hb;cases b0 with
    |row s0 YZ=>
     simp only[Bk.aP,Bk.row.injEq]at wb;obtain⟨rfl,rfl⟩:=wb;rw[O6]at hi;obtain⟨zN,tC,rfl⟩:=Z2.1 hi;rw[O6]at hj;obtain⟨c0,W6,ID⟩:=Z2.1 hj;have:c0= .gp esz e:=by cases c0<;>simp[CC.aP]at ID⊢;exact ID
     subst this;exact tF.gp i0 i j esz e ⟨_,_,_,h0,tC,W6⟩ bl
    |_=>simp[Bk.aP]at wb
   |none=>
    obtain⟨h1,h2⟩:=n8 aF eT;have cy:=Ha (.sub id i j) eT;rw[cy]at bl⊢;rw[W5 id eT aF]at hb;have lD:fp m id i j esz e:=⟨_,_,_,hb,hi,hj⟩;obtain⟨cur,hc,q1,q2,q3⟩:=hM.gp id i j esz e lD bl;refine⟨cur,hc.dz (ku (.sub id i j) ⟨⟨_,_,lD⟩,bl⟩ fun _=>h2),q1,q2,fun i2 I8 j2 d d8 jy=>?_⟩
    obtain⟨u,hu,b9⟩:=q3 i2 I8 j2 d d8 jy;exact⟨u,hu,b9.mono Vx uf⟩
  .rcases hx.S' b hb with h|h|⟨k0,IG,he⟩
   .exact .inl ((Vu b).1 h)
   .exact .inr (.inl h)
   .exact .inr (.inr ⟨_,Qa k0 IG,he⟩)
  .rcases mS k hk with⟨k1,_,_,i4,cy⟩|⟨_,h1,h2,i4,cy⟩
   .rw[cy];rcases hx.a8 k1 i4 with h|⟨k0,IG,e0⟩
    .exact .inl h
    .exact .inr ⟨_,Qa k0 IG,e0⟩
   .rw[cy];exact .inr ⟨k,i4,rfl⟩
end
section
variable {P:Program}
theorem View.aB{n0:Nat}{e:List CV}{m:Mem}(t esz n:Nat)(hn:m.length=n)(he:jd e t= .rv (.one .aB))(h0:Nat.ble n0 n=true):
  View n0 ⟨e,m⟩ ⟨a7 e t (.rv (.one (.row n esz 0 none))),gX m [.row esz []]⟩:=by
 subst hn;have h0:=T3 h0;rw[bg,cg];refine⟨by simp;omega,aK,fun ρ w hM=>?_⟩
 have hn:ρ.n=m.length:=hM.n;let ρ':bH:={n:=m.length+1,aO:=fun k=>if k.id=m.length then⟨0,0,0,0⟩else ρ.aO k,S:=ρ.S}
 have cy:∀k:kW,k.id<ρ.n->ρ'.aO k=ρ.aO k:=fun k hk=>by simp only[ρ'];rw[if_neg om]
 have g:ij ρ w ρ' w:=⟨by show ρ.n<=m.length+1;omega,cy,fun _ h=>h,fun _ _=>rfl⟩
 have cQ:∀k,Live ρ' (m++ [.row esz []]) k->Live ρ m k:=by
  intro k hk;have aF:=hk.fX;simp at aF;cases k with
  |ap id=>
   obtain⟨bk,hb,qJ,bl⟩:=hk;simp only[kW.id]at aF;rcases XN id m.length with h|h
   .rw[VO h]at hb;rw[cy (.ap id) (by simp only[kW.id];omega)]at bl
    exact⟨bk,hb,qJ,bl⟩
   .have:id=m.length:=om;subst this;simp at hb;subst hb;have:=bl ⟨_,_,rfl⟩;simp[ρ',kW.id]at this
  |sub id i j=>
   obtain⟨⟨s,el,es,rows,cs,hb,hi,hj⟩,bl⟩:=hk;simp only[kW.id]at aF;rcases XN id m.length with h|h
   .rw[VO h]at hb;rw[cy (.sub id i j) (by simp only[kW.id];omega)]at bl
    exact⟨⟨s,el,es,rows,cs,hb,hi,hj⟩,bl⟩
   .have:id=m.length:=om;subst this;simp at hb;obtain⟨_,rfl⟩:=hb;simp at hi
 have np:∀k,Live ρ m k->ρ'.aO k=ρ.aO k:=fun k hk=>cy k (by rw[hn];exact hk.fX)
 refine⟨ρ',⟨by simp[ρ'],hM.S,fun k hk=>?_,fun k k' hk gC mZ=>?_,fun id b hb=>?_,fun id i j s el ho bl=>?_⟩,⟨fun id hid=>cy (.ap id) (by simp only[kW.id];omega),fun _ h=>h,fun _ h=>.inl h,fun k hk=>⟨k,cQ k hk,(by rw[np k (cQ k hk)])⟩⟩,fun i c' hi=>?_⟩
 .rw[np k (cQ k hk)];exact hM.a8 k (cQ k hk)
 .rw[np k (cQ k hk),np k' (cQ k' gC)]at mZ;exact hM.inj k k' (cQ k hk) (cQ k' gC) mZ
 .rcases XN id m.length with h|h
  .rw[VO h]at hb;exact(hM.bk id b hb).cF g om fun _ _=>rfl
  .have aF:=(Hy.1 hb).1;simp at aF;have:id=m.length:=om;subst this;simp at hb;subst hb;simp[dZ,ρ',kW.id]
 .have hk:Live ρ m (.sub id i j):=cQ (.sub id i j) ⟨⟨_,_,ho⟩,bl⟩;have hid:=hk.fX;simp only[kW.id]at hid;rw[np _ hk]at bl⊢;obtain⟨es,rows,cs,hb,hi,hj⟩:=ho;rw[VO hid]at hb;obtain⟨cur,hc,q1,q2,q3⟩:=hM.gp id i j s el ⟨es,rows,cs,hb,hi,hj⟩ bl;exact⟨cur,hc,q1,q2,q3⟩
 .simp only at hi;have aF:=(Hy.1 hi).1;simp at aF;rw[aaq]at hi;split at hi
  .rename_i JP;subst JP;rw[if_pos aF]at hi;cases hi;refine⟨.rv (.one .aB),?_,fun v hd=>?_⟩
   .rw[kn,tq aF]at he;rw[tq aF];simpa using he
   .obtain⟨a,rfl⟩:=hd;simp[bW,dy,br,ρ',kW.id]
  .exact⟨c',hi,fun v hd=>bW.cF g hd⟩
theorem nq{n0:Nat}{b:LC}{K:Ex->St->Prop}{s:St}{α:Type}(J:α->Prop)(f:α->List (Nat×CV))(M:α->Mem)(μ:α->Nat)(a0:α)(h0:J a0)(start:View n0 s ⟨Ay s.aU (f a0),M a0⟩)(round:∀a,J a->aw P n0 b (Fe n0 J (fun a=>⟨Ay s.aU (f a),M a⟩) μ (μ a) K) ⟨Ay s.aU (f a),M a⟩):aw P n0 (.loop b) K s:=
 ⟨α,J,fun a=>⟨Ay s.aU (f a),M a⟩,μ,⟨a0,h0,start⟩,round⟩
theorem rh:∀{cs:List CC}{k:Nat}{c:CC},cs[k]? =some c->gH cs k 1=some [c]
 | [],k,c,h=>by simp at h
 |x::r,0,c,h=>by simp at h;subst h;cases r<;>rfl
 |x::r,k+1,c,h=>by
  show gH r k 1=_;exact rh (by simpa using h)
theorem uB:∀{cs:List CC}{k:Nat}{c:CC},k<cs.length->fj cs k [c]=some (cs.set k c)
 | [],k,c,h=>by simp at h
 |x::r,0,c,h=>by cases r<;>rfl
 |x::r,k+1,c,h=>by
  simp only[fj,uB (cs:=r) (k:=k) (c:=c) (by simpa using h)]
  rfl
theorem lU.bR{σ:Nat->Nat}{m:Mem}{Z:Nat->Prop}{id s:Nat}{es:List (List CC)}{ds:List (List Dt)}(h:es=af ds):lU σ m Z id (.row s es) (.row s (af ds)):=by subst h;have:=lU.G8 (σ:=σ) (m:=m) (Z:=Z) (id:=id) (.row s (af ds)) aK;rwa [Bk.jz]at this
theorem eD{F:List Nat}{k:Nat}(h:bs F k=false):¬bs F k=true:=by rw[h];simp
theorem lU.eq{σ:Nat->Nat}{m:Mem}{Z:Nat->Prop}{id:Nat}{b b':Bk}(h:b'.aP σ=b)(hd:b'≠.aZ):lU σ m Z id b b':=h▸ .G8 b' hd
theorem lU.fz{σ:Nat->Nat}{m:Mem}{Z:Nat->Prop}{id:Nat}{cs:List CC}{ds:List Dt}(h:cs=ds.map .aa):lU σ m Z id (.var cs) (.var (ds.map .aa)):=by subst h;have:=lU.G8 (σ:=σ) (m:=m) (Z:=Z) (id:=id) (.var (ds.map .aa)) aK;simpa[Bk.aP,CC.aP,abR]using this
theorem pS.hi{σ:Nat->Nat}{m:Mem}{Z:Nat->Prop}{i3 id e lo n esz:Nat}{elems:List (List CC)}(hσ:σ id=i3)(hb:cR m i3=some (.row esz elems))(hn:elems.length=n):
  pS σ m Z (.rv (.one (.row i3 e lo none))) (.rv (.one (.row id e lo (some n)))):=by
 subst hσ;subst hn;exact .rv (.one (.hi id e lo (by rw[<-aT];exact hb)))
theorem aJ{p:Prop}{i:Decidable p}{A B:Prop}(ha:p->A)(hb:¬p->B): @Bool.rec (fun _=>Prop) B A (@decide p i):=by
 cases hd: @decide p i
 .exact hb (of_decide_eq_false hd)
 .exact ha (of_decide_eq_true hd)
theorem bz{a b:Int}{A B:Prop}(ha:a=b->A)(hb:a≠b->B): @Bool.rec (fun _=>Prop) B A (a==b):=by
 cases hd:(a==b)
 .exact hb (by simpa using hd)
 .exact ha (by simpa using hd)
theorem bu{a b:Int}{A B:Prop}(ha:a≠b->A)(hb:a=b->B): @Bool.rec (fun _=>Prop) B A (a !=b):=by
 cases hd:(a !=b)
 .exact hb (by simpa using hd)
 .exact ha (by simpa using hd)
theorem pS.eu{σ:Nat->Nat}{m:Mem}{F:List Nat}(id:Nat)(ds:List (List Dt)){esz:Nat}(hz:bs F id=true)(hb:cR m id=some (.row esz (af ds))):
  pS σ m (fun k=>bs F k=true) (.rv (.one (.row id esz 0 none))) (.rv (.one (.aa (.sl esz ds)))):=
 .rv (.one (.eu (dm.d6 (Z:=fun k=>bs F k=true) hz (by rw[<-aT];exact hb) 0 none)))
def OM(i:Nat):List (Nat×CV)->Option CV
 | []=>none
 |(j,x)::r=>match Nat.beq i j with|true=>some x|false=>OM i r
def kpV(eV:List Nat)(f:List (Nat×CV))(i:Nat)(v:CV):CV:=
 match OM i f with
 |some x=>x
 |none=>match bs eV i with|true=>v|false=>.aq
def Tq(eV:List Nat)(f:List (Nat×CV)):Nat->List CV->(List CV->List CV)->List CV
 |_,[],k=>k []
 |i,v::r,k=>fV (kpV eV f i v) fun v'=>Tq eV f (i+1) r fun r'=>k (v'::r')
def RH(eV:List Nat)(e:List CV)(f:List (Nat×CV)):List CV:=Tq eV f 0 e fun e=>e
theorem aX{n0:Nat}{b:LC}{K:Ex->St->Prop}{s:St}{α:Type}(J:α->Prop)(eV:List Nat)(f:α->List (Nat×CV))(M:α->Mem)(μ:α->Nat)(a0:α)(h0:J a0)(start:View n0 s ⟨RH eV s.aU (f a0),M a0⟩)(round:∀a,J a->aw P n0 b (Fe n0 J (fun a=>⟨RH eV s.aU (f a),M a⟩) μ (μ a) K) ⟨RH eV s.aU (f a),M a⟩):aw P n0 (.loop b) K s:=
 ⟨α,J,fun a=>⟨RH eV s.aU (f a),M a⟩,μ,⟨a0,h0,start⟩,round⟩
theorem fC{n0:Nat}{b:LC}{K:Ex->St->Prop}{s:St}(eV:List Nat)(f:List (Nat×CV))(M:Mem)(hv:View n0 s ⟨RH eV s.aU f,M⟩)(h:aw P n0 b K ⟨RH eV s.aU f,M⟩):aw P n0 (.cL b) K s:=⟨_,hv,h⟩
end
theorem View.o{n0:Nat}{e e':List CV}{m m':Mem}(n:Nat)(l F:List Nat)(AF:ia (sg l n) m (fun k=>bs F k=true) e e')(mT:eN (sg l n) m (fun k=>bs F k=true) 0 m')(hn:m.length=n:=by exact rfl)(hl:m'.length=l.length:=by exact rfl)(h0:Nat.ble n0 l.length=true:=by exact rfl)(hi:G7 l n0=true:=by exact rfl)(hd:fQ l=true:=by exact rfl)(ha:eX n l=true:=by exact rfl):View n0 ⟨e,m⟩ ⟨e',m'⟩:=View.of n l F hn hl h0 hi hd ha AF mT
theorem View.o1{n0:Nat}{e e':List CV}{m m':Mem}(n:Nat)(l F:List Nat)(mT:eN (sg l n) m (fun k=>bs F k=true) 0 m')(hn:m.length=n:=by exact rfl)(hl:m'.length=l.length:=by exact rfl)(h0:Nat.ble n0 l.length=true:=by exact rfl)(hi:G7 l n0=true:=by exact rfl)(hd:fQ l=true:=by exact rfl)(ha:eX n l=true:=by exact rfl)(AF:ia (sg l n) m (fun k=>bs F k=true) e e':=by repeat(first|exact .nil|refine .aq ?_|refine .eq rfl ?_)):View n0 ⟨e,m⟩ ⟨e',m'⟩:=View.of n l F hn hl h0 hi hd ha AF mT
theorem eN.pt{σ:Nat->Nat}{m:Mem}{F:List Nat}{k:Nat}{b b':Bk}{r:Mem}(hz:bs F (σ k)=false)(hb:cR m (σ k)=some b)(hv:lU σ m (fun k=>bs F k=true) (σ k) b b')(h:eN σ m (fun k=>bs F k=true) (k+1) r):eN σ m (fun k=>bs F k=true) k (b' ::r):=.put (eD hz) hb hv h
theorem eN.pe{σ:Nat->Nat}{m:Mem}{F:List Nat}{k:Nat}{b b':Bk}{r:Mem}(hz:bs F (σ k)=false)(hb:cR m (σ k)=some b)(hv:b'.aP σ=b)(h:eN σ m (fun k=>bs F k=true) (k+1) r)(hd:b'≠.aZ:=by simp):eN σ m (fun k=>bs F k=true) k (b' ::r):=.put (eD hz) hb (.eq hv hd) h
theorem eN.pm{σ:Nat->Nat}{m:Mem}{F:List Nat}{k:Nat}{b b':Bk}(hz:bs F (σ k)=false)(hb:cR m (σ k)=some b)(hv:b'.aP σ=b)(hd:b'≠.aZ:=by simp):eN σ m (fun k=>bs F k=true) k [b']:=.put (eD hz) hb (.eq hv hd) (.nil _)
theorem eN.pr{σ:Nat->Nat}{m:Mem}{F:List Nat}{k:Nat}{esz:Nat}{es:List (List CC)}{ds:List (List Dt)}{r:Mem}(hz:bs F (σ k)=false)(hb:cR m (σ k)=some (.row esz es))(he:es=af ds)(h:eN σ m (fun k=>bs F k=true) (k+1) r):eN σ m (fun k=>bs F k=true) k (.row esz (af ds) ::r):=.put (eD hz) hb (.bR he) h
theorem eN.pn{σ:Nat->Nat}{m:Mem}{F:List Nat}{k:Nat}{esz:Nat}{es:List (List CC)}{ds:List (List Dt)}(hz:bs F (σ k)=false)(hb:cR m (σ k)=some (.row esz es))(he:es=af ds):eN σ m (fun k=>bs F k=true) k [.row esz (af ds)]:=.put (eD hz) hb (.bR he) (.nil _)
theorem aW{P:Program}{f:Nat}{fn:Func}{lf:LF}{args:List CV}{m:Mem}{K:CV->Mem->Prop}(hf:P.funcs[f]? =some fn)(hl:bq P fn=some lf)(h:body P lf args m K)(hn:(fn.name== "runtime.NumGoroutine")=false:=by exact rfl)(hle:Nat.ble args.length lf.n=true:=by exact rfl):ar P f args m K:=l7 hf hl hn (T3 hle) h
theorem cf{P:Program}{f:Nat}{fn:Func}{lf:LF}{args:List CV}{m:Mem}{K:CV->Mem->Prop}(hf:P.funcs[f]? =some fn)(hl:bq P fn=some lf.er)(h:body P lf args m K)(hn:(fn.name== "runtime.NumGoroutine")=false:=by exact rfl)(hle:Nat.ble args.length lf.n=true:=by exact rfl):ar P f args m K:=fL hf hl hn (T3 hle) h
theorem jl.ne{ls:List Lf}{ds:List Dt}(h:jl ls ds)(hl:ls≠[]):ds≠[]:=by
 cases h<;>simp_all
section
variable {P:Program}
def CC.gk:CC->Bool
 | .aa (.val _)=>true
 |_=>false
def yx:List CC->Bool
 | []=>true
 |c::r=>c.gk&&yx r
def RV.gk:RV->Bool
 | .one c=>c.gk
 | .agg cs=>yx cs
def tG:List RV->Bool
 | []=>true
 |c::r=>c.gk&&tG r
def CV.gk:CV->Bool
 | .rv r=>r.gk
 | .bG rs=>tG rs
 |_=>false
theorem uC:∀{l:List CC},yx l=true->∀c,c∈l->c.gk=true
 | [],_,c,h=>by simp at h
 |x::r,h,c,hc=>by
  simp only[yx,T6]at h;rcases aad.1 hc with rfl|hc
  .exact h.1
  .exact uC h.2 c hc
theorem sS:∀{l:List RV},tG l=true->∀c,c∈l->c.gk=true
 | [],_,c,h=>by simp at h
 |x::r,h,c,hc=>by
  simp only[tG,T6]at h;rcases aad.1 hc with rfl|hc
  .exact h.1
  .exact sS h.2 c hc
theorem CC.iq{ρ ρ':bH}{w:World}{c:CC}{v:Value}(h:c.gk=true)(hd:br ρ w .none c v):br ρ' w .none c v:=by
 cases c with
 |aa d=>
  cases d with
  |val x=>
   cases hd with
   |val v hp=>exact .val _ hp
   |no a=>exact .no a
  |sl=>simp[CC.gk]at h
 |_=>simp[CC.gk]at h
theorem RV.iq{ρ ρ':bH}{w:World}{c:RV}{v:Value}(h:c.gk=true)(hd:dy ρ w c v):dy ρ' w c v:=by
 cases c with
 |one c=>exact CC.iq h hd
 |agg cs=>
  obtain⟨vs,rfl,h1,h2⟩:=hd;exact⟨vs,rfl,h1,fun i c hi=>let⟨u,hu,hd⟩:=h2 i c hi;⟨u,hu,CC.iq (uC h c (O9 hi)) hd⟩⟩
theorem CV.iq{ρ ρ':bH}{w:World}{c:CV}{v:Value}(h:c.gk=true)(hd:bW ρ w c v):bW ρ' w c v:=by
 cases c with
 |rv r=>exact RV.iq h hd
 |bG rs=>
  obtain⟨vs,rfl,h1,h2⟩:=hd;exact⟨vs,rfl,h1,fun i c hi=>let⟨u,hu,hd⟩:=h2 i c hi;⟨u,hu,RV.iq (sS h c (O9 hi)) hd⟩⟩
 |_=>simp[CV.gk]at h
theorem JQ{f:Nat}{args args0:List CV}{m:Mem}{K0 K:CV->Mem->Prop}(F:List Nat)(h:ar P f args0 [] K0)(eC:ia (sg [] m.length) m (fun k=>bs F k=true) args args0)(hK:∀r m1,K0 r m1->r.gk=true/\K r m):ar P f args m K:=by
 refine⟨h.1,fun ρ w vs hM wi W4=>?_⟩
 have gd:∀i,sg [] m.length i<m.length->i<0:=fun i h=>by simp[sg,cR]at h;omega
 obtain⟨kG,hC0,_⟩:=yv (n0:=0) (σ:=sg [] m.length) (Z:=fun k=>bs F k=true) (m':=[]) hM (fun i h=>absurd h (aal i)) (fun i j h _ _=>absurd h (aal i)) gd (fun i b' h=>by simp at h)
 refine(h.2 _ w vs kG (wi.trans eC.len.symm) fun i c hi=>?_).mono fun e w'⟨v,r,m1,ρ1,he,hk,tF,wd,hx⟩=>?_
 .obtain⟨c0,ID,hv⟩:=eC.get i c hi;obtain⟨v,ye,hd⟩:=W4 i c0 ID;exact⟨v,ye,hv.j7 hM gd hd⟩
 .obtain⟨hp,IE⟩:=hK r m1 hk;have j8:∀k,¬Live (ρ.vw (sg [] m.length) (fun k=>bs F k=true) m 0) [] k:=fun k h=>by have:=h.fX;simp at this
  have MU:d5 w w':=⟨fun b hb=>hx.frame b hb fun k hk=>absurd hk (j8 k),hx.size,hx.os,hx.tape,hx.output⟩
  obtain⟨h1,h2⟩:=hM.JJ MU;exact⟨v,r,m,ρ,he,IE,h1,CV.iq hp wd,h2⟩
end
section
variable {P:Program}
theorem CC.pU{σ:Nat->Nat}{c:CC}(h:c.c7=true):c.aP σ=c:=by
 cases c
 case fn f dN=>
  cases dN with
  |nil=>rfl
  |cons c r=>simp[CC.c7]at h
 all_goals first|rfl|simp[CC.c7]at h
theorem RV.pU{σ:Nat->Nat}{r:RV}(h:r.c7=true):r.aP σ=r:=by
 cases r with
 |one c=>exact congrArg RV.one (CC.pU h)
 |agg cs=>
  refine congrArg RV.agg ?_
  conv=>rhs;rw[<-List.map_id cs]
  exact abd fun c hc=>CC.pU (aas.1 h c hc)
theorem CV.AH{σ:Nat->Nat}{v:CV}(h:v.AA=true):v.aP σ=v:=by
 cases v with
 |rv r=>exact congrArg CV.rv (RV.pU h)
 |bG rs=>
  refine congrArg CV.bG ?_
  conv=>rhs;rw[<-List.map_id rs]
  exact abd fun c hc=>RV.pU (aas.1 h c hc)
 |_=>rfl
theorem Bk.JR{σ:Nat->Nat}(ds:List Dt):(Bk.var (ds.map .aa)).aP σ= .var (ds.map .aa):=by simp[Bk.aP,CC.aP,abR]
theorem Dc{m:Mem}{id:Nat}{b:Bk}(h:cR m id=some b):cV m [id] [b]=m:=by
 rw[aT]at h;simp only[cV,cg,aa6,bg];exact aaI fun i=>by
  rw[aaq];split
  .rename_i hi;subst hi;have:=(Hy.1 h).1;rw[if_pos this,h]
  .rfl
theorem fl{f:Nat}{args args0:List CV}{m:Mem}{cs:List Dt}{r0:CV}{K:CV->Mem->Prop}(id:Nat)(hb:cR m id=some (.var (cs.map .aa)))(eC:args=args0.map (CV.aP (sg [id] m.length)))(hr:r0.AA=true)(h:∀K:CV->Mem->Prop,K r0 [.var (cs.map .aa)]->ar P f args0 [.var (cs.map .aa)] K)(hK:K r0 m):ar P f args m K:=by
 have hid:id<m.length:=by rw[aT]at hb;exact(Hy.1 hb).1
 refine bv (K0:=fun r m1=>r=r0/\m1=[.var (cs.map .aa)]) [id] m.length rfl rfl rfl ?_ eC (fun i b' hi=>?_) (h _ ⟨rfl,rfl⟩) (fun r m1 zO=>?_)
 .simp[eX,hid]
 .cases i with
  |zero=>
   simp at hi;subst hi;refine .inr ⟨fun h=>h,.var (cs.map .aa),?_,.fz rfl⟩
   rw[aT]at hb;exact hb
  |succ i=>simp at hi
 .obtain⟨rfl,rfl⟩:=zO;refine⟨QN _,?_⟩;rw[CV.AH hr];have:cV m [id] (pT (sg [id] m.length) [.var (cs.map .aa)])=m:=by show cV m [id] [Bk.aP _ _]=m;rw[Bk.JR];exact Dc hb
  rw[this];exact hK
theorem eM{f:Nat}{args:List CV}{cs:List Dt}{r0:CV}{K:CV->Mem->Prop}(hr:r0.AA=true)(h:ar P f args [.var (cs.map .aa)] fun r m=>r=r0/\∃ex,m= .var (cs.map .aa)::ex)(hK:K r0 [.var (cs.map .aa)]):ar P f args [.var (cs.map .aa)] K:=by
 refine bK h fun r m1⟨h1,ex,h2⟩=>⟨r0,[.var (cs.map .aa)],?_,hK⟩
 subst h1;subst h2;refine View.of (ex.length+1) [0] [] aK rfl rfl rfl rfl (by simp[eX]) ?_ ?_
 .exact .eq (CV.AH hr) .nil
 .exact .put (by simp[bs]) rfl (.fz rfl) (.nil _)
theorem lU.Dd{σ:Nat->Nat}{m:Mem}{Z:Nat->Prop}{id s:Nat}{R R':List (List CC)}{x y:List CC}(hR:R'.map (fun cs=>cs.map (CC.aP σ))=R)(hx:x.length=y.length)(PY:∀(j:Nat)c c',x[j]? =some c->y[j]? =some c'->pj σ m Z (some id) c c'):lU σ m Z id (.row s (R++ [x])) (.row s (R'++ [y])):=by
 subst hR;refine .row s aK (fun i cs ek h1 h2=>?_) (fun i cs ek j c c' h1 h2 h3 h4=>?_)
 .rcases XN i R'.length with h|h
  .rw[VO (by simpa using h),O6]at h1
   rw[VO h]at h2;rw[h2]at h1;cases h1;simp
  .rw[UX (by simpa using h),LW]at h1
   rw[UX h]at h2;cases hi:i-R'.length with
   |zero=>
    rw[hi]at h1 h2;cases h1;cases h2;exact hx
   |succ n=>rw[hi]at h1;simp at h1
 .rcases XN i R'.length with h|h
  .rw[VO (by simpa using h),O6]at h1
   rw[VO h]at h2;rw[h2]at h1;cases h1;rw[O6,h4]at h3;cases h3;exact .aP c'
  .rw[UX (by simpa using h),LW]at h1
   rw[UX h]at h2;cases hi:i-R'.length with
   |zero=>
    rw[hi]at h1 h2;cases h1;cases h2;exact PY j c c' h3 h4
   |succ n=>rw[hi]at h1;simp at h1
theorem eN.xk{σ:Nat->Nat}{m:Mem}{Z:Nat->Prop}{k:Nat}{b:Bk}{r:Mem}(hz:¬Z (σ k))(hb:cR m (σ k)=some b)(hr:b.aP σ=b)(h:eN σ m Z (k+1) r):eN σ m Z k (b::r):=by
 cases b with
 |aZ=>exact .aZ h
 |_=>exact .put hz hb (.eq hr aK) h
inductive AI:CC->CC->Prop
 |dz (c:CC):AI c c
 |aB (s:Nat):AI .aB (.aa (.sl s []))
 |no:AI .aB (.aa (.val (.slice none 0 0)))
theorem AI.j7{c c':CC}(h:AI c c'){ρ:bH}{w:World}{v:Value}(hd:br ρ w none c v):br ρ w none c' v:=by
 cases h with
 |dz=>exact hd
 |aB s=>
  obtain⟨a,rfl⟩:=hd;exact .nil s a 0 (XL _)
 |no=>
  obtain⟨a,rfl⟩:=hd;exact .no a
inductive AJ:List CC->List CC->Prop
 |nil:AJ [] []
 |cons {c c':CC} {r r':List CC} (h:AI c c') (t:AJ r r'):AJ (c::r) (c'::r')
theorem AJ.len{a b:List CC}(h:AJ a b):a.length=b.length:=by
 induction h<;>simp[*]
theorem AJ.get{a b:List CC}(h:AJ a b):∀(i:Nat)c',b[i]? =some c'->∃c,a[i]? =some c/\AI c c':=by
 induction h with
 |nil=>intro i c' h;simp at h
 |cons h t ih=>
  intro i c' hi;cases i with
  |zero=>simp at hi;subst hi;exact⟨_,rfl,h⟩
  |succ i=>simpa using ih i c' (by simpa using hi)
inductive jL:List CV->List CV->Prop
 |nil:jL [] []
 |dz (c:CV) {r r':List CV} (t:jL r r'):jL (c::r) (c::r')
 |one {c c':CC} {r r':List CV} (h:AI c c') (t:jL r r'):jL (.rv (.one c)::r) (.rv (.one c')::r')
 |agg {cs ek:List CC} {r r':List CV} (h:AJ cs ek) (t:jL r r'):jL (.rv (.agg cs)::r) (.rv (.agg ek)::r')
theorem jL.len{a b:List CV}(h:jL a b):a.length=b.length:=by
 induction h<;>simp[*]
theorem jL.get{a b:List CV}(h:jL a b):∀(i:Nat)c',b[i]? =some c'->∃c,a[i]? =some c/\∀ρ w v,bW ρ w c v->bW ρ w c' v:=by
 induction h with
 |nil=>intro i c' h;simp at h
 |dz c t ih=>
  intro i c' hi;cases i with
  |zero=>simp at hi;subst hi;exact⟨_,rfl,fun _ _ _ h=>h⟩
  |succ i=>simpa using ih i c' (by simpa using hi)
 |one h t ih=>
  intro i c' hi;cases i with
  |zero=>simp at hi;subst hi;exact⟨_,rfl,fun _ _ _ hd=>h.j7 hd⟩
  |succ i=>simpa using ih i c' (by simpa using hi)
 |agg h t ih=>
  intro i c' hi;cases i with
  |zero=>
   simp at hi;subst hi;refine⟨_,rfl,fun ρ w v hd=>?_⟩
   obtain⟨vs,hv,hl,hc⟩:=hd;exact⟨vs,hv,hl.trans h.len,fun i c' hi=>let⟨c,px,hle⟩:=h.get i c' hi;let⟨u,hu,b9⟩:=hc i c px;⟨u,hu,hle.j7 b9⟩⟩
  |succ i=>simpa using ih i c' (by simpa using hi)
theorem lI{f:Nat}{args lJ:List CV}{m:Mem}{K:CV->Mem->Prop}(ha:jL args lJ)(h:ar P f lJ m K):ar P f args m K:=by
 refine⟨h.1,fun ρ w vs hM hl hd=>h.2 ρ w vs hM (hl.trans ha.len) fun i c' hi=>?_⟩
 obtain⟨c,hc,Jp⟩:=ha.get i c' hi;obtain⟨v,hv,vW⟩:=hd i c hc;exact⟨v,hv,Jp _ _ _ vW⟩
theorem ir{f:Nat}{args lJ:List CV}{m m':Mem}{K:CV->Mem->Prop}(hv:View m.length ⟨args,m⟩ ⟨lJ,m'⟩)(h:ar P f lJ m' K):ar P f args m K:=by
 refine⟨h.1,fun ρ w vs hM hl hd=>?_⟩
 obtain⟨ρ',kY,hc,vW⟩:=hv.go ρ w hM;have hlen:lJ.length=args.length:=hv.len;refine(h.2 ρ' w vs kY (hl.trans hlen.symm) fun i c' hi=>?_).mono fun e w'⟨v,r,m1,ρ1,he,hk,tF,wd,hx⟩=>?_
 .obtain⟨c,ID,yk⟩:=vW i c' hi;obtain⟨v,hv,bY⟩:=hd i c ID;exact⟨v,hv,yk v bY⟩
 .have SC:Ext ρ m w ρ' m' w:=⟨by rw[hM.n,kY.n];exact hv.hn,fun id hid=>hc.aO id (by rw[<-hM.n];exact hid),hc.S,fun b hb=>(hc.S' b hb).elim .inl fun h=>.inr (.inr h),fun k hk=>.inr (hc.a8 k hk),fun _ _ _=>rfl,QN _,rfl,rfl,rfl⟩
  exact⟨v,r,m1,ρ1,he,hk,tF,wd,SC.trans hx⟩
end
end Go.AM
