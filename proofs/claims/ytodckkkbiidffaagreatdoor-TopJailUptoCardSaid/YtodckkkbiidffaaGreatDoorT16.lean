/- Part 16 of 39: what the law stands on. -/
import Derived.Test.YtodckkkbiidffaaGreatDoorT15
set_option linter.unusedVariables false
set_option linter.unusedSimpArgs false
set_option linter.unnecessarySimpa false
set_option maxRecDepth 100000
set_option maxHeartbeats 64000000
namespace Go.AM
section
variable {P:Program}
theorem B4{l:List Nat}{n i:Nat}(hi:sg l n i<n):i<l.length:=by
 rcases Wj i l.length with h|h
 .exact h
 .rw[rT h]at hi;omega
theorem bw{f:Nat}{args args0:List CV}{m m0:Mem}{K0 K:CV->Mem->Prop}(l:List Nat)(n:Nat)(hn:m.length=n)(hl:m0.length=l.length)(hd:fI l=true)(ha:eR n l=true)(ew:args=args0.map (CV.aQ (sg l n)))(hm:∀(i:Nat)b',m0[i]? =some b'->b'= .aO\/(¬False/\∃b,m[sg l n i]? =some b/\lA (sg l n) m (fun _=>False) (sg l n i) b b'))(h:aq P f args0 m0 K0)(hK:∀r m1,K0 r m1->l.length<=m1.length/\K (r.aQ (sg l n)) (cU m l (pq (sg l n) m1))):aq P f args m K:=by
 subst hn;refine⟨h.1,fun ρ w vs hM vg VA=>?_⟩
 have qj:∀i j,sg l m.length i=sg l m.length j->i=j:=fun i j h=>It hd ha h
 obtain⟨kh,Zy,OP⟩:=xD (n0:=0) (σ:=sg l m.length) (Z:=fun _=>False) (m':=m0) hM (fun i h=>absurd h (aah i)) (fun i j _ _ h=>qj i j h) (fun i h=>by rw[hl];exact B4 h) hm
 have T2:∀b,(ρ.vw (sg l m.length) (fun _=>False) m m0.length).S b↔ρ.S b:=fun b=>⟨fun h=>h.elim id fun⟨k,_,hf,_⟩=>hf.elim,.inl⟩
 have jQ:ρ.n=m.length:=hM.n;refine(h.2 _ w vs kh (by rw[vg,ew];simp) fun i c hi=>?_).mono fun e w'⟨v,r,m1,ρ1,he,hk,sJ,vd,hx⟩=>?_
 .obtain⟨v,hv,uY⟩:=VA i (c.aQ (sg l m.length)) (by rw[ew,NO,hi];rfl)
  exact⟨v,hv,po.jP hM (fun i h=>by rw[hl];exact B4 h) (.FN c) uY⟩
 .obtain⟨hle,gv⟩:=hK r m1 hk;have og:ρ1.n=m1.length:=sJ.n;let back:Nat->Option Nat:=fun j=>(List.range m1.length).find? fun i=>sg l m.length i==j
  have jo:∀{j i},back j=some i->i<m1.length/\sg l m.length i=j:=by
   intro j i hb;have h1:=List.mem_of_find?_eq_some hb;have h2:=List.find?_some hb;exact⟨by simpa using h1,by simpa using h2⟩
  have Ee:∀{i},i<m1.length->back (sg l m.length i)=some i:=by
   intro i hi;cases hb:back (sg l m.length i)with
   |none=>
    have:=abZ.1 hb i (by simpa using hi)
    simp at this
   |some j=>rw[qj _ _ (jo hb).2]
  have nt:∀{j},j<m.length+(m1.length-l.length)->back j=none->j<m.length/\j∉l:=by
   intro j hj hb;have iH:=abZ.1 hb;refine⟨?_,fun lG=>?_⟩
   .rcases Wj j m.length with h|h
    .exact h
    .have:=iH (l.length+(j-m.length)) (by simp;omega)
     rw[rT om]at this;simp at this;omega
   .obtain⟨i,hi⟩:=Un lG;obtain⟨aE,rfl⟩:=Gf.1 hi;have:=iH i (by simp;omega)
    rw[rS aE]at this;simp at this
  let ρ':bG:={n:=m.length+(m1.length-l.length),aP:=fun k=>match back k.id with
   |some i=>(match k with| .ap _=>ρ1.aP (.ap i)| .sub _ a b=>ρ1.aP (.sub i a b))
   |none=>ρ.aP k,S:=ρ1.S}
  have LA:∀i,i<ρ1.n->ρ'.aP (.ap (sg l m.length i))=ρ1.aP (.ap i):=by intro i hi;rw[og]at hi;simp only[ρ',kH.id,Ee hi]
  have OQ:∀i a b,i<ρ1.n->ρ'.aP (.sub (sg l m.length i) a b)=ρ1.aP (.sub i a b):=by intro i a b hi;rw[og]at hi;simp only[ρ',kH.id,Ee hi]
  have FO:∀k:kH,back k.id=none->ρ'.aP k=ρ.aP k:=by intro k hb;simp only[ρ',hb]
  have Iu:∀id,id<ρ.n->ρ'.aP (.ap id)=ρ.aP (.ap id):=by
   intro id hid;cases hb:back id with
   |none=>exact FO (.ap id) hb
   |some i=>
    obtain⟨h1,h2⟩:=jo hb;have hi:i<l.length:=B4 (by rw[h2,<-jQ];exact hid)
    rw[<-h2,LA i (by rw[og];exact h1),hx.aP i (by show i<m0.length;omega)]
    rfl
  have xk:∀i,i<ρ1.n->sg l m.length i<ρ'.n:=by
   intro i hi;rw[og]at hi;show _<m.length+(m1.length-l.length);rcases Wj i l.length with h|h
   .rw[rS h];have:=ns ha _ (Wl h);omega
   .rw[rT h];omega
  have Ef:(pq (sg l m.length) m1).length=m1.length:=by rw[xE];simp
  have T3:(cU m l (pq (sg l m.length) m1)).length=m.length+(m1.length-l.length):=by
   rw[wd l m _ (by rw[Ef];exact hle),Ef]
  have T5:∀i,i<m1.length->(cU m l (pq (sg l m.length) m1))[sg l m.length i]? =(m1[i]?).map (Bk.aQ (sg l m.length)):=by
   intro i hi;rw[we l m _ hd ha (by rw[Ef];exact hle) i (by rw[Ef];exact hi),xE,NO]
  have VB:∀j,back j=none->j<m.length+(m1.length-l.length)->(cU m l (pq (sg l m.length) m1))[j]? =m[j]? :=by intro j hb hj;obtain⟨h1,h2⟩:=nt hj hb;exact qB l m _ j h1 h2
  have u0:∀k,Live ρ m k->(k.id<m.length->k.id∉l)->(∀k0,Live (ρ.vw (sg l m.length) (fun _=>False) m m0.length) m0 k0->((ρ.vw (sg l m.length) (fun _=>False) m m0.length).aP k0).b≠(ρ.aP k).b):=by
   intro k hk Iv k0 Ba he;have h1:=OP k0 Ba;have h2:=hM.inj _ _ h1 hk he;have h3:=Ba.fN;rw[hl]at h3;apply Iv hk.fN;rw[<-h2];cases k0<;>simp only[kH.aQ,kH.id]at h3⊢<;>rw[rS h3]<;>exact Wl h3
  have j8:∀k,Live ρ m k->(k.id<m.length->k.id∉l)->w'.heap[(ρ.aP k).b]? =w.heap[(ρ.aP k).b]? :=fun k hk Iv=>hx.frame _ (hM.a7 k hk).1 (u0 k hk Iv)
  have tn:∀b,ρ.S b->w'.heap[b]? =w.heap[b]? :=fun b hb=>hx.frame b (hM.S b hb) fun k hk he=>(kh.a7 k hk).2 (he▸(T2 b).2 hb)
  have T6:∀b,ρ.S b->ρ1.S b:=fun b hb=>hx.S b ((T2 b).2 hb)
  have RX:∀k,Live ρ m k->(k.id<m.length->k.id∉l)->¬ρ1.S (ρ.aP k).b:=by
   intro k hk Iv hs;rcases hx.S' _ hs with h|h|⟨k0,Ba,he⟩
   .exact(hM.a7 k hk).2 ((T2 _).1 h)
   .have:=(hM.a7 k hk).1;omega
   .exact u0 k hk Iv k0 Ba he
  have mw:∀k,Live ρ' (cU m l (pq (sg l m.length) m1)) k->(∃k1,k1.id<m1.length/\k=k1.aQ (sg l m.length)/\Live ρ1 m1 k1/\ρ'.aP k=ρ1.aP k1)\/(back k.id=none/\k.id<m.length/\k.id∉l/\Live ρ m k/\ρ'.aP k=ρ.aP k):=by
   intro k hk;have aE:=hk.fN;rw[T3]at aE;cases hb:back k.id with
   |none=>
    obtain⟨h1,h2⟩:=nt aE hb;have OR:=VB k.id hb aE;refine .inr ⟨rfl,h1,h2,?_,FO k hb⟩;have cz:=FO k hb;cases k with
    |ap id=>
     obtain⟨bk,eO,pZ,bl⟩:=hk;simp only[kH.id]at OR;rw[OR]at eO;rw[cz]at bl;exact⟨bk,eO,pZ,bl⟩
    |sub id a b=>
     obtain⟨⟨s,e,es,rows,cs,eO,hi,hj⟩,bl⟩:=hk;simp only[kH.id]at OR;rw[OR]at eO;rw[cz]at bl;exact⟨⟨s,e,es,rows,cs,eO,hi,hj⟩,bl⟩
   |some i=>
    obtain⟨h1,h2⟩:=jo hb;have OR:=T5 i h1;cases k with
    |ap id=>
     simp only[kH.id]at h2;subst h2;have cz:=LA i (by rw[og];exact h1)
     refine .inl ⟨.ap i,h1,rfl,?_,cz⟩;obtain⟨bk,eO,pZ,bl⟩:=hk;rw[OR]at eO;obtain⟨b0,h0,rfl⟩:=Yx.1 eO;rw[cz]at bl;refine⟨b0,h0,?_,?_⟩
     .rintro rfl;exact pZ rfl
     .rintro⟨s,es,rfl⟩;exact bl ⟨_,_,rfl⟩
    |sub id a b=>
     simp only[kH.id]at h2;subst h2;have cz:=OQ i a b (by rw[og];exact h1)
     refine .inl ⟨.sub i a b,h1,rfl,?_,cz⟩;obtain⟨⟨s,e,es,rows,cs,eO,hi,hj⟩,bl⟩:=hk;rw[OR]at eO;obtain⟨b0,h0,va⟩:=Yx.1 eO;rw[cz]at bl;cases b0 with
     |row s0 Xu=>
      simp only[Bk.aQ,Bk.row.injEq]at va;obtain⟨rfl,rfl⟩:=va;rw[NO]at hi;obtain⟨yP,sH,rfl⟩:=Yx.1 hi;rw[NO]at hj;obtain⟨c0,VC,Hj⟩:=Yx.1 hj;have:c0= .gh s e:=by cases c0<;>simp[CC.aQ]at Hj⊢;exact Hj
      subst this;exact⟨⟨s,e,_,_,_,h0,sH,VC⟩,bl⟩
     |_=>simp[Bk.aQ]at va
  have VD:∀{j i},back j=some i->i<ρ1.n/\sg l m.length i=j:=fun hb=>by rw[og];exact jo hb
  refine⟨v,r.aQ (sg l m.length),cU m l (pq (sg l m.length) m1),ρ',he,gv,⟨T3.symm,fun b hb=>sJ.S b hb,fun k hk=>?_,fun k k' hk oh mC=>?_,fun id b hb=>?_,fun id i j esz e ho bl=>?_⟩,bV.aQ xk LA (fun _ h=>h) vd,
   ⟨by show ρ.n<=_;rw[jQ];exact Nat.le_add_right _ _,Iu,T6,fun b hb=>?_,fun k hk=>?_,fun b hb Zz=>hx.frame b hb fun k hk he=>Zz _ (OP k hk) he,hx.size,hx.os,hx.tape,hx.output⟩⟩
  .rcases mw k hk with⟨k1,_,_,iP,cz⟩|⟨_,h1,h2,iP,cz⟩
   .rw[cz];exact sJ.a7 k1 iP
   .rw[cz];exact⟨aad (hM.a7 k iP).1 hx.size,RX k iP fun _=>h2⟩
  .have mixed:∀k1 k2,Live ρ1 m1 k1->Live ρ m k2->k2.id∉l->(ρ1.aP k1).b≠(ρ.aP k2).b:=by
    intro k1 k2 iP oh VE pX;rcases hx.a7 k1 iP with h|⟨k0,Ba,e0⟩
    .have:=(hM.a7 k2 oh).1;omega
    .exact u0 k2 oh (fun _=>VE) k0 Ba (e0.trans pX)
   rcases mw k hk with⟨k1,_,rfl,iP,cz⟩|⟨_,h1,h2,iP,cz⟩<;>rcases mw k' oh with⟨XU,_,rfl,Iw,mS⟩|⟨_,LB,Ns,Iw,mS⟩
   .rw[cz,mS]at mC;rw[sJ.inj k1 XU iP Iw mC]
   .rw[cz,mS]at mC;exact absurd mC (mixed k1 k' iP Iw Ns)
   .rw[cz,mS]at mC;exact absurd mC.symm (mixed XU k Iw iP h2)
   .rw[cz,mS]at mC;exact hM.inj k k' iP Iw mC
  .have aE:id<m.length+(m1.length-l.length):=by rw[<-T3];exact(Gf.1 hb).1
   cases eO:back id with
   |some i=>
    obtain⟨h1,rfl⟩:=jo eO;rw[T5 i h1]at hb;obtain⟨b0,h0,rfl⟩:=Yx.1 hb;exact dV.aQ xk LA (fun _ h=>h) (by rw[og];exact h1) (fun a b=>OQ i a b (by rw[og];exact h1)) (sJ.bk i b0 h0)
   |none=>
    obtain⟨h1,h2⟩:=nt aE eO;rw[VB id eO aE]at hb;have o7:=hM.bk id b hb;have cz:ρ'.aP (.ap id)=ρ.aP (.ap id):=FO (.ap id) eO;have eu:ρ.n<=ρ'.n:=by rw[jQ];exact Nat.le_add_right _ _
    have iy:∀{p c u},(∀a i j,p=some (a,i,j)->a=id)->bq ρ w p c u->bq ρ' w' p c u:=fun{p c u}hp hd=>bq.Vz eu Iu (fun a i j y9=>by rw[hp a i j y9];exact FO (.sub id i j) eO) T6 tn hd
    have iz:∀{c u},du ρ w c u->du ρ' w' c u:=by
     intro c u hd;cases c with
     |one c=>exact iy (fun _ _ _ h=>by cases h) hd
     |agg cs=>
      obtain⟨vs,hv,Fs,hc⟩:=hd;exact⟨vs,hv,Fs,fun i c hi=>let⟨u,hu,hd⟩:=hc i c hi;⟨u,hu,iy (fun _ _ _ h=>by cases h) hd⟩⟩
    have hh:b≠.aO->((∃esz elems,b= .row esz elems)->0<(ρ.aP (.ap id)).cap)->w'.heap[(ρ.aP (.ap id)).b]? =w.heap[(ρ.aP (.ap id)).b]? :=fun pZ bl=>j8 (.ap id) ⟨b,hb,pZ,bl⟩ fun _=>h2
    cases b with
    |aO=>trivial
    |var cs=>
     obtain⟨cur,hc,xq⟩:=o7;simp only[dV,cz];refine⟨cur,hc.dv (hh aI (by rintro⟨_,_,h⟩;cases h)),fun j c hj=>?_⟩
     obtain⟨u,hu,b8⟩:=xq j c hj;exact⟨u,hu,iy (fun _ _ _ h=>by cases h) b8⟩
    |row esz elems=>
     obtain⟨g2,g3,g4,g5,bS⟩:=o7;simp only[dV,cz];refine⟨g2,g3,g4,g5,fun dd=>?_⟩
     obtain⟨cur,hc,q1,q6⟩:=bS dd;refine⟨cur,hc.dv (hh aI (fun _=>dd)),q1,fun i cs j c hi hj=>?_⟩
     obtain⟨u,hu,b8⟩:=q6 i cs j c hi hj;exact⟨u,hu,iy (fun _ _ _ h=>by cases h;rfl) b8⟩
    |mp es=>
     obtain⟨ae,clock,hc,q1,q2⟩:=o7;simp only[dV,cz];refine⟨ae,clock,⟨(hh aI (by rintro⟨_,_,h⟩;cases h)).trans hc.1,hc.2⟩,q1,fun i e hi=>?_⟩
     obtain⟨RU,RW,A9,uY⟩:=q2 i e hi;exact⟨RU,RW,A9,iz uY⟩
    |it cur left=>
     obtain⟨mb,seen,ck,cH,q2,q3,q4,q5,q6⟩:=o7;simp only[dV,cz];exact⟨mb,seen,ck,cH,(hh aI (by rintro⟨_,_,h⟩;cases h)).trans q2,q3,T6 _ q4,(tn mb q4).trans q5,q6⟩
  .have hk:Live ρ' (cU m l (pq (sg l m.length) m1)) (.sub id i j):=⟨⟨_,_,ho⟩,bl⟩;obtain⟨es,rows,cs,hb,hi,hj⟩:=ho;have aE:id<m.length+(m1.length-l.length):=by rw[<-T3];exact(Gf.1 hb).1
   cases eO:back id with
   |some i0=>
    obtain⟨h1,rfl⟩:=jo eO;have cz:=OQ i0 i j (by rw[og];exact h1)
    rw[cz]at bl⊢;rw[T5 i0 h1]at hb;obtain⟨b0,h0,va⟩:=Yx.1 hb;cases b0 with
    |row s0 Xu=>
     simp only[Bk.aQ,Bk.row.injEq]at va;obtain⟨rfl,rfl⟩:=va;rw[NO]at hi;obtain⟨yP,sH,rfl⟩:=Yx.1 hi;rw[NO]at hj;obtain⟨c0,VC,Hj⟩:=Yx.1 hj;have:c0= .gh esz e:=by cases c0<;>simp[CC.aQ]at Hj⊢;exact Hj
     subst this;exact sJ.gh i0 i j esz e ⟨_,_,_,h0,sH,VC⟩ bl
    |_=>simp[Bk.aQ]at va
   |none=>
    obtain⟨h1,h2⟩:=nt aE eO;have cz:=FO (.sub id i j) eO;rw[cz]at bl⊢;rw[VB id eO aE]at hb;have kY:fg m id i j esz e:=⟨_,_,_,hb,hi,hj⟩;obtain⟨cur,hc,q1,q2,q3⟩:=hM.gh id i j esz e kY bl;refine⟨cur,hc.dv (j8 (.sub id i j) ⟨⟨_,_,kY⟩,bl⟩ fun _=>h2),q1,q2,fun i2 HP j2 d d5 jm=>?_⟩
    obtain⟨u,hu,b8⟩:=q3 i2 HP j2 d d5 jm;exact⟨u,hu,b8.mono T6 tn⟩
  .rcases hx.S' b hb with h|h|⟨k0,Ba,he⟩
   .exact .inl ((T2 b).1 h)
   .exact .inr (.inl h)
   .exact .inr (.inr ⟨_,OP k0 Ba,he⟩)
  .rcases mw k hk with⟨k1,_,_,iP,cz⟩|⟨_,h1,h2,iP,cz⟩
   .rw[cz];rcases hx.a7 k1 iP with h|⟨k0,Ba,e0⟩
    .exact .inl h
    .exact .inr ⟨_,OP k0 Ba,e0⟩
   .rw[cz];exact .inr ⟨k,iP,rfl⟩
end
section
variable {P:Program}
theorem View.aB{n0:Nat}{e:List CV}{m:Mem}(t esz n:Nat)(hn:m.length=n)(he:iV e t= .rv (.one .aB))(h0:Nat.ble n0 n=true):
  View n0 ⟨e,m⟩ ⟨aZ e t (.rv (.one (.row n esz 0 none))),gL m [.row esz []]⟩:=by
 subst hn;have h0:=V5 h0;rw[bg,cf];refine⟨by simp;omega,aI,fun ρ w hM=>?_⟩
 have hn:ρ.n=m.length:=hM.n;let ρ':bG:={n:=m.length+1,aP:=fun k=>if k.id=m.length then⟨0,0,0,0⟩else ρ.aP k,S:=ρ.S}
 have cz:∀k:kH,k.id<ρ.n->ρ'.aP k=ρ.aP k:=fun k hk=>by simp only[ρ'];rw[if_neg om]
 have g:hB ρ w ρ' w:=⟨by show ρ.n<=m.length+1;omega,cz,fun _ h=>h,fun _ _=>rfl⟩
 have cP:∀k,Live ρ' (m++ [.row esz []]) k->Live ρ m k:=by
  intro k hk;have aE:=hk.fN;simp at aE;cases k with
  |ap id=>
   obtain⟨bk,hb,pZ,bl⟩:=hk;simp only[kH.id]at aE;rcases Wj id m.length with h|h
   .rw[Tz h]at hb;rw[cz (.ap id) (by simp only[kH.id];omega)]at bl
    exact⟨bk,hb,pZ,bl⟩
   .have:id=m.length:=om;subst this;simp at hb;subst hb;have:=bl ⟨_,_,rfl⟩;simp[ρ',kH.id]at this
  |sub id i j=>
   obtain⟨⟨s,el,es,rows,cs,hb,hi,hj⟩,bl⟩:=hk;simp only[kH.id]at aE;rcases Wj id m.length with h|h
   .rw[Tz h]at hb;rw[cz (.sub id i j) (by simp only[kH.id];omega)]at bl
    exact⟨⟨s,el,es,rows,cs,hb,hi,hj⟩,bl⟩
   .have:id=m.length:=om;subst this;simp at hb;obtain⟨_,rfl⟩:=hb;simp at hi
 have mS:∀k,Live ρ m k->ρ'.aP k=ρ.aP k:=fun k hk=>cz k (by rw[hn];exact hk.fN)
 refine⟨ρ',⟨by simp[ρ'],hM.S,fun k hk=>?_,fun k k' hk gv mC=>?_,fun id b hb=>?_,fun id i j s el ho bl=>?_⟩,⟨fun id hid=>cz (.ap id) (by simp only[kH.id];omega),fun _ h=>h,fun _ h=>.inl h,fun k hk=>⟨k,cP k hk,(by rw[mS k (cP k hk)])⟩⟩,fun i c' hi=>?_⟩
 .rw[mS k (cP k hk)];exact hM.a7 k (cP k hk)
 .rw[mS k (cP k hk),mS k' (cP k' gv)]at mC;exact hM.inj k k' (cP k hk) (cP k' gv) mC
 .rcases Wj id m.length with h|h
  .rw[Tz h]at hb;exact(hM.bk id b hb).cE g om fun _ _=>rfl
  .have aE:=(Gf.1 hb).1;simp at aE;have:id=m.length:=om;subst this;simp at hb;subst hb;simp[dV,ρ',kH.id]
 .have hk:Live ρ m (.sub id i j):=cP (.sub id i j) ⟨⟨_,_,ho⟩,bl⟩;have hid:=hk.fN;simp only[kH.id]at hid;rw[mS _ hk]at bl⊢;obtain⟨es,rows,cs,hb,hi,hj⟩:=ho;rw[Tz hid]at hb;obtain⟨cur,hc,q1,q2,q3⟩:=hM.gh id i j s el ⟨es,rows,cs,hb,hi,hj⟩ bl;exact⟨cur,hc,q1,q2,q3⟩
 .simp only at hi;have aE:=(Gf.1 hi).1;simp at aE;rw[aan]at hi;split at hi
  .rename_i Ix;subst Ix;rw[if_pos aE]at hi;cases hi;refine⟨.rv (.one .aB),?_,fun v hd=>?_⟩
   .rw[jZ,sA aE]at he;rw[sA aE];simpa using he
   .obtain⟨a,rfl⟩:=hd;simp[bV,du,bq,ρ',kH.id]
  .exact⟨c',hi,fun v hd=>bV.cE g hd⟩
theorem tN{n0:Nat}{b:LC}{K:Ex->St->Prop}{s:St}{α:Type}(J:α->Prop)(f:α->List (Nat×CV))(M:α->Mem)(μ:α->Nat)(a0:α)(h0:J a0)(start:View n0 s ⟨zu s.aV (f a0),M a0⟩)(round:∀a,J a->aw P n0 b (DW n0 J (fun a=>⟨zu s.aV (f a),M a⟩) μ (μ a) K) ⟨zu s.aV (f a),M a⟩):aw P n0 (.loop b) K s:=
 ⟨α,J,fun a=>⟨zu s.aV (f a),M a⟩,μ,⟨a0,h0,start⟩,round⟩
theorem wg:∀{cs:List CC}{k:Nat}{c:CC},cs[k]? =some c->gR cs k 1=some [c]
 | [],k,c,h=>by simp at h
 |x::r,0,c,h=>by simp at h;subst h;cases r<;>rfl
 |x::r,k+1,c,h=>by
  show gR r k 1=_;exact wg (by simpa using h)
theorem lA.bP{σ:Nat->Nat}{m:Mem}{Z:Nat->Prop}{id s:Nat}{es:List (List CC)}{ds:List (List Dt)}(h:es=af ds):lA σ m Z id (.row s es) (.row s (af ds)):=by subst h;have:=lA.FN (σ:=σ) (m:=m) (Z:=Z) (id:=id) (.row s (af ds)) aI;rwa [Bk.jn]at this
theorem ez{F:List Nat}{k:Nat}(h:bz F k=false):¬bz F k=true:=by rw[h];simp
theorem lA.eq{σ:Nat->Nat}{m:Mem}{Z:Nat->Prop}{id:Nat}{b b':Bk}(h:b'.aQ σ=b)(hd:b'≠.aO):lA σ m Z id b b':=h▸ .FN b' hd
theorem lA.km{σ:Nat->Nat}{m:Mem}{Z:Nat->Prop}{id:Nat}{cs:List CC}{ds:List Dt}(h:cs=ds.map .aa):lA σ m Z id (.var cs) (.var (ds.map .aa)):=by subst h;have:=lA.FN (σ:=σ) (m:=m) (Z:=Z) (id:=id) (.var (ds.map .aa)) aI;simpa[Bk.aQ,CC.aQ,abJ]using this
theorem po.hi{σ:Nat->Nat}{m:Mem}{Z:Nat->Prop}{iO id e lo n esz:Nat}{elems:List (List CC)}(hσ:σ id=iO)(hb:cR m iO=some (.row esz elems))(hn:elems.length=n):
  po σ m Z (.rv (.one (.row iO e lo none))) (.rv (.one (.row id e lo (some n)))):=by
 subst hσ;subst hn;exact .rv (.one (.hi id e lo (by rw[<-aU];exact hb)))
theorem aJ{p:Prop}{i:Decidable p}{A B:Prop}(ha:p->A)(hb:¬p->B): @Bool.rec (fun _=>Prop) B A (@decide p i):=by
 cases hd: @decide p i
 .exact hb (of_decide_eq_false hd)
 .exact ha (of_decide_eq_true hd)
theorem bA{a b:Int}{A B:Prop}(ha:a=b->A)(hb:a≠b->B): @Bool.rec (fun _=>Prop) B A (a==b):=by
 cases hd:(a==b)
 .exact hb (by simpa using hd)
 .exact ha (by simpa using hd)
theorem bt{a b:Int}{A B:Prop}(ha:a≠b->A)(hb:a=b->B): @Bool.rec (fun _=>Prop) B A (a !=b):=by
 cases hd:(a !=b)
 .exact hb (by simpa using hd)
 .exact ha (by simpa using hd)
theorem po.eZ{σ:Nat->Nat}{m:Mem}{F:List Nat}(id:Nat)(ds:List (List Dt)){esz:Nat}(hz:bz F id=true)(hb:cR m id=some (.row esz (af ds))):
  po σ m (fun k=>bz F k=true) (.rv (.one (.row id esz 0 none))) (.rv (.one (.aa (.sl esz ds)))):=
 .rv (.one (.eZ (dj.dX (Z:=fun k=>bz F k=true) hz (by rw[<-aU];exact hb) 0 none)))
def Nt(i:Nat):List (Nat×CV)->Option CV
 | []=>none
 |(j,x)::r=>match Nat.beq i j with|true=>some x|false=>Nt i r
def ZA(eQ:List Nat)(f:List (Nat×CV))(i:Nat)(v:CV):CV:=
 match Nt i f with
 |some x=>x
 |none=>match bz eQ i with|true=>v|false=>.ar
def RY(eQ:List Nat)(f:List (Nat×CV)):Nat->List CV->(List CV->List CV)->List CV
 |_,[],k=>k []
 |i,v::r,k=>fV (ZA eQ f i v) fun v'=>RY eQ f (i+1) r fun r'=>k (v'::r')
def Qf(eQ:List Nat)(e:List CV)(f:List (Nat×CV)):List CV:=RY eQ f 0 e fun e=>e
theorem ba{n0:Nat}{b:LC}{K:Ex->St->Prop}{s:St}{α:Type}(J:α->Prop)(eQ:List Nat)(f:α->List (Nat×CV))(M:α->Mem)(μ:α->Nat)(a0:α)(h0:J a0)(start:View n0 s ⟨Qf eQ s.aV (f a0),M a0⟩)(round:∀a,J a->aw P n0 b (DW n0 J (fun a=>⟨Qf eQ s.aV (f a),M a⟩) μ (μ a) K) ⟨Qf eQ s.aV (f a),M a⟩):aw P n0 (.loop b) K s:=
 ⟨α,J,fun a=>⟨Qf eQ s.aV (f a),M a⟩,μ,⟨a0,h0,start⟩,round⟩
theorem fv{n0:Nat}{b:LC}{K:Ex->St->Prop}{s:St}(eQ:List Nat)(f:List (Nat×CV))(M:Mem)(hv:View n0 s ⟨Qf eQ s.aV f,M⟩)(h:aw P n0 b K ⟨Qf eQ s.aV f,M⟩):aw P n0 (.cI b) K s:=⟨_,hv,h⟩
end
theorem View.o{n0:Nat}{e e':List CV}{m m':Mem}(n:Nat)(l F:List Nat)(zB:gU (sg l n) m (fun k=>bz F k=true) e e')(my:eS (sg l n) m (fun k=>bz F k=true) 0 m')(hn:m.length=n:=by exact rfl)(hl:m'.length=l.length:=by exact rfl)(h0:Nat.ble n0 l.length=true:=by exact rfl)(hi:FM l n0=true:=by exact rfl)(hd:fI l=true:=by exact rfl)(ha:eR n l=true:=by exact rfl):View n0 ⟨e,m⟩ ⟨e',m'⟩:=View.of n l F hn hl h0 hi hd ha zB my
theorem View.o1{n0:Nat}{e e':List CV}{m m':Mem}(n:Nat)(l F:List Nat)(my:eS (sg l n) m (fun k=>bz F k=true) 0 m')(hn:m.length=n:=by exact rfl)(hl:m'.length=l.length:=by exact rfl)(h0:Nat.ble n0 l.length=true:=by exact rfl)(hi:FM l n0=true:=by exact rfl)(hd:fI l=true:=by exact rfl)(ha:eR n l=true:=by exact rfl)(zB:gU (sg l n) m (fun k=>bz F k=true) e e':=by repeat(first|exact .nil|refine .ar ?_|refine .eq rfl ?_)):View n0 ⟨e,m⟩ ⟨e',m'⟩:=View.of n l F hn hl h0 hi hd ha zB my
theorem eS.pt{σ:Nat->Nat}{m:Mem}{F:List Nat}{k:Nat}{b b':Bk}{r:Mem}(hz:bz F (σ k)=false)(hb:cR m (σ k)=some b)(hv:lA σ m (fun k=>bz F k=true) (σ k) b b')(h:eS σ m (fun k=>bz F k=true) (k+1) r):eS σ m (fun k=>bz F k=true) k (b' ::r):=.put (ez hz) hb hv h
theorem eS.pe{σ:Nat->Nat}{m:Mem}{F:List Nat}{k:Nat}{b b':Bk}{r:Mem}(hz:bz F (σ k)=false)(hb:cR m (σ k)=some b)(hv:b'.aQ σ=b)(h:eS σ m (fun k=>bz F k=true) (k+1) r)(hd:b'≠.aO:=by simp):eS σ m (fun k=>bz F k=true) k (b' ::r):=.put (ez hz) hb (.eq hv hd) h
theorem eS.pm{σ:Nat->Nat}{m:Mem}{F:List Nat}{k:Nat}{b b':Bk}(hz:bz F (σ k)=false)(hb:cR m (σ k)=some b)(hv:b'.aQ σ=b)(hd:b'≠.aO:=by simp):eS σ m (fun k=>bz F k=true) k [b']:=.put (ez hz) hb (.eq hv hd) (.nil _)
theorem eS.pr{σ:Nat->Nat}{m:Mem}{F:List Nat}{k:Nat}{esz:Nat}{es:List (List CC)}{ds:List (List Dt)}{r:Mem}(hz:bz F (σ k)=false)(hb:cR m (σ k)=some (.row esz es))(he:es=af ds)(h:eS σ m (fun k=>bz F k=true) (k+1) r):eS σ m (fun k=>bz F k=true) k (.row esz (af ds) ::r):=.put (ez hz) hb (.bP he) h
theorem eS.pn{σ:Nat->Nat}{m:Mem}{F:List Nat}{k:Nat}{esz:Nat}{es:List (List CC)}{ds:List (List Dt)}(hz:bz F (σ k)=false)(hb:cR m (σ k)=some (.row esz es))(he:es=af ds):eS σ m (fun k=>bz F k=true) k [.row esz (af ds)]:=.put (ez hz) hb (.bP he) (.nil _)
theorem aX{P:Program}{f:Nat}{fn:Func}{lf:LF}{args:List CV}{m:Mem}{K:CV->Mem->Prop}(hf:P.funcs[f]? =some fn)(hl:bs P fn=some lf)(h:body P lf args m K)(hn:(fn.name== "runtime.NumGoroutine")=false:=by exact rfl)(hle:Nat.ble args.length lf.n=true:=by exact rfl):aq P f args m K:=lJ hf hl hn (V5 hle) h
theorem ce{P:Program}{f:Nat}{fn:Func}{lf:LF}{args:List CV}{m:Mem}{K:CV->Mem->Prop}(hf:P.funcs[f]? =some fn)(hl:bs P fn=some lf.er)(h:body P lf args m K)(hn:(fn.name== "runtime.NumGoroutine")=false:=by exact rfl)(hle:Nat.ble args.length lf.n=true:=by exact rfl):aq P f args m K:=i5 hf hl hn (V5 hle) h
theorem i7.ne{ls:List Lf}{ds:List Dt}(h:i7 ls ds)(hl:ls≠[]):ds≠[]:=by
 cases h<;>simp_all
section
variable {P:Program}
def CC.fY:CC->Bool
 | .aa (.val _)=>true
 |_=>false
def xF:List CC->Bool
 | []=>true
 |c::r=>c.fY&&xF r
def RV.fY:RV->Bool
 | .one c=>c.fY
 | .agg cs=>xF cs
def sK:List RV->Bool
 | []=>true
 |c::r=>c.fY&&sK r
def CV.fY:CV->Bool
 | .rv r=>r.fY
 | .bF rs=>sK rs
 |_=>false
theorem tO:∀{l:List CC},xF l=true->∀c,c∈l->c.fY=true
 | [],_,c,h=>by simp at h
 |x::r,h,c,hc=>by
  simp only[xF,SD]at h;rcases aaf.1 hc with rfl|hc
  .exact h.1
  .exact tO h.2 c hc
theorem rU:∀{l:List RV},sK l=true->∀c,c∈l->c.fY=true
 | [],_,c,h=>by simp at h
 |x::r,h,c,hc=>by
  simp only[sK,SD]at h;rcases aaf.1 hc with rfl|hc
  .exact h.1
  .exact rU h.2 c hc
theorem CC.ii{ρ ρ':bG}{w:World}{c:CC}{v:Value}(h:c.fY=true)(hd:bq ρ w .none c v):bq ρ' w .none c v:=by
 cases c with
 |aa d=>
  cases d with
  |val x=>
   cases hd with
   |val v hp=>exact .val _ hp
   |no a=>exact .no a
  |sl=>simp[CC.fY]at h
 |_=>simp[CC.fY]at h
theorem RV.ii{ρ ρ':bG}{w:World}{c:RV}{v:Value}(h:c.fY=true)(hd:du ρ w c v):du ρ' w c v:=by
 cases c with
 |one c=>exact CC.ii h hd
 |agg cs=>
  obtain⟨vs,rfl,h1,h2⟩:=hd;exact⟨vs,rfl,h1,fun i c hi=>let⟨u,hu,hd⟩:=h2 i c hi;⟨u,hu,CC.ii (tO h c (NQ hi)) hd⟩⟩
theorem CV.ii{ρ ρ':bG}{w:World}{c:CV}{v:Value}(h:c.fY=true)(hd:bV ρ w c v):bV ρ' w c v:=by
 cases c with
 |rv r=>exact RV.ii h hd
 |bF rs=>
  obtain⟨vs,rfl,h1,h2⟩:=hd;exact⟨vs,rfl,h1,fun i c hi=>let⟨u,hu,hd⟩:=h2 i c hi;⟨u,hu,RV.ii (rU h c (NQ hi)) hd⟩⟩
 |_=>simp[CV.fY]at h
theorem Iy{f:Nat}{args args0:List CV}{m:Mem}{K0 K:CV->Mem->Prop}(F:List Nat)(h:aq P f args0 [] K0)(ew:gU (sg [] m.length) m (fun k=>bz F k=true) args args0)(hK:∀r m1,K0 r m1->r.fY=true/\K r m):aq P f args m K:=by
 refine⟨h.1,fun ρ w vs hM vg VA=>?_⟩
 have fR:∀i,sg [] m.length i<m.length->i<0:=fun i h=>by simp[sg,cR]at h;omega
 obtain⟨kh,Zy,_⟩:=xD (n0:=0) (σ:=sg [] m.length) (Z:=fun k=>bz F k=true) (m':=[]) hM (fun i h=>absurd h (aah i)) (fun i j h _ _=>absurd h (aah i)) fR (fun i b' h=>by simp at h)
 refine(h.2 _ w vs kh (vg.trans ew.len.symm) fun i c hi=>?_).mono fun e w'⟨v,r,m1,ρ1,he,hk,sJ,vd,hx⟩=>?_
 .obtain⟨c0,Hj,hv⟩:=ew.get i c hi;obtain⟨v,xj,hd⟩:=VA i c0 Hj;exact⟨v,xj,hv.jP hM fR hd⟩
 .obtain⟨hp,Hk⟩:=hK r m1 hk;have jQ:∀k,¬Live (ρ.vw (sg [] m.length) (fun k=>bz F k=true) m 0) [] k:=fun k h=>by have:=h.fN;simp at this
  have Ly:dW w w':=⟨fun b hb=>hx.frame b hb fun k hk=>absurd hk (jQ k),hx.size,hx.os,hx.tape,hx.output⟩
  obtain⟨h1,h2⟩:=hM.Ir Ly;exact⟨v,r,m,ρ,he,Hk,h1,CV.ii hp vd,h2⟩
end
section
variable {P:Program}
theorem CC.pu{σ:Nat->Nat}{c:CC}(h:c.c6=true):c.aQ σ=c:=by
 cases c
 case fn f dJ=>
  cases dJ with
  |nil=>rfl
  |cons c r=>simp[CC.c6]at h
 all_goals first|rfl|simp[CC.c6]at h
theorem RV.pu{σ:Nat->Nat}{r:RV}(h:r.c6=true):r.aQ σ=r:=by
 cases r with
 |one c=>exact congrArg RV.one (CC.pu h)
 |agg cs=>
  refine congrArg RV.agg ?_
  conv=>rhs;rw[<-List.map_id cs]
  exact abe fun c hc=>CC.pu (aau.1 h c hc)
theorem CV.zD{σ:Nat->Nat}{v:CV}(h:v.zx=true):v.aQ σ=v:=by
 cases v with
 |rv r=>exact congrArg CV.rv (RV.pu h)
 |bF rs=>
  refine congrArg CV.bF ?_
  conv=>rhs;rw[<-List.map_id rs]
  exact abe fun c hc=>RV.pu (aau.1 h c hc)
 |_=>rfl
theorem Bk.Iz{σ:Nat->Nat}(ds:List Dt):(Bk.var (ds.map .aa)).aQ σ= .var (ds.map .aa):=by simp[Bk.aQ,CC.aQ,abJ]
theorem B5{m:Mem}{id:Nat}{b:Bk}(h:cR m id=some b):cU m [id] [b]=m:=by
 rw[aU]at h;simp only[cU,cf,abi,bg];exact aaL fun i=>by
  rw[aan];split
  .rename_i hi;subst hi;have:=(Gf.1 h).1;rw[if_pos this,h]
  .rfl
theorem fc{f:Nat}{args args0:List CV}{m:Mem}{cs:List Dt}{r0:CV}{K:CV->Mem->Prop}(id:Nat)(hb:cR m id=some (.var (cs.map .aa)))(ew:args=args0.map (CV.aQ (sg [id] m.length)))(hr:r0.zx=true)(h:∀K:CV->Mem->Prop,K r0 [.var (cs.map .aa)]->aq P f args0 [.var (cs.map .aa)] K)(hK:K r0 m):aq P f args m K:=by
 have hid:id<m.length:=by rw[aU]at hb;exact(Gf.1 hb).1
 refine bw (K0:=fun r m1=>r=r0/\m1=[.var (cs.map .aa)]) [id] m.length rfl rfl rfl ?_ ew (fun i b' hi=>?_) (h _ ⟨rfl,rfl⟩) (fun r m1 yQ=>?_)
 .simp[eR,hid]
 .cases i with
  |zero=>
   simp at hi;subst hi;refine .inr ⟨fun h=>h,.var (cs.map .aa),?_,.km rfl⟩
   rw[aU]at hb;exact hb
  |succ i=>simp at hi
 .obtain⟨rfl,rfl⟩:=yQ;refine⟨Pq _,?_⟩;rw[CV.zD hr];have:cU m [id] (pq (sg [id] m.length) [.var (cs.map .aa)])=m:=by show cU m [id] [Bk.aQ _ _]=m;rw[Bk.Iz];exact B5 hb
  rw[this];exact hK
theorem eH{f:Nat}{args:List CV}{cs:List Dt}{r0:CV}{K:CV->Mem->Prop}(hr:r0.zx=true)(h:aq P f args [.var (cs.map .aa)] fun r m=>r=r0/\∃ex,m= .var (cs.map .aa)::ex)(hK:K r0 [.var (cs.map .aa)]):aq P f args [.var (cs.map .aa)] K:=by
 refine bK h fun r m1⟨h1,ex,h2⟩=>⟨r0,[.var (cs.map .aa)],?_,hK⟩
 subst h1;subst h2;refine View.of (ex.length+1) [0] [] aI rfl rfl rfl rfl (by simp[eR]) ?_ ?_
 .exact .eq (CV.zD hr) .nil
 .exact .put (by simp[bz]) rfl (.km rfl) (.nil _)
theorem lA.B6{σ:Nat->Nat}{m:Mem}{Z:Nat->Prop}{id s:Nat}{R R':List (List CC)}{x y:List CC}(hR:R'.map (fun cs=>cs.map (CC.aQ σ))=R)(hx:x.length=y.length)(OE:∀(j:Nat)c c',x[j]? =some c->y[j]? =some c'->oQ σ m Z (some id) c c'):lA σ m Z id (.row s (R++ [x])) (.row s (R'++ [y])):=by
 subst hR;refine .row s aI (fun i cs ef h1 h2=>?_) (fun i cs ef j c c' h1 h2 h3 h4=>?_)
 .rcases Wj i R'.length with h|h
  .rw[Tz (by simpa using h),NO]at h1
   rw[Tz h]at h2;rw[h2]at h1;cases h1;simp
  .rw[SF (by simpa using h),KB]at h1
   rw[SF h]at h2;cases hi:i-R'.length with
   |zero=>
    rw[hi]at h1 h2;cases h1;cases h2;exact hx
   |succ n=>rw[hi]at h1;simp at h1
 .rcases Wj i R'.length with h|h
  .rw[Tz (by simpa using h),NO]at h1
   rw[Tz h]at h2;rw[h2]at h1;cases h1;rw[NO,h4]at h3;cases h3;exact .aQ c'
  .rw[SF (by simpa using h),KB]at h1
   rw[SF h]at h2;cases hi:i-R'.length with
   |zero=>
    rw[hi]at h1 h2;cases h1;cases h2;exact OE j c c' h3 h4
   |succ n=>rw[hi]at h1;simp at h1
theorem eS.wh{σ:Nat->Nat}{m:Mem}{Z:Nat->Prop}{k:Nat}{b:Bk}{r:Mem}(hz:¬Z (σ k))(hb:cR m (σ k)=some b)(hr:b.aQ σ=b)(h:eS σ m Z (k+1) r):eS σ m Z k (b::r):=by
 cases b with
 |aO=>exact .aO h
 |_=>exact .put hz hb (.eq hr aI) h
inductive zE:CC->CC->Prop
 |dv (c:CC):zE c c
 |aB (s:Nat):zE .aB (.aa (.sl s []))
 |no:zE .aB (.aa (.val (.slice none 0 0)))
theorem zE.jP{c c':CC}(h:zE c c'){ρ:bG}{w:World}{v:Value}(hd:bq ρ w none c v):bq ρ w none c' v:=by
 cases h with
 |dv=>exact hd
 |aB s=>
  obtain⟨a,rfl⟩:=hd;exact .nil s a 0 (Wi _)
 |no=>
  obtain⟨a,rfl⟩:=hd;exact .no a
inductive zF:List CC->List CC->Prop
 |nil:zF [] []
 |cons {c c':CC} {r r':List CC} (h:zE c c') (t:zF r r'):zF (c::r) (c'::r')
theorem zF.len{a b:List CC}(h:zF a b):a.length=b.length:=by
 induction h<;>simp[*]
theorem zF.get{a b:List CC}(h:zF a b):∀(i:Nat)c',b[i]? =some c'->∃c,a[i]? =some c/\zE c c':=by
 induction h with
 |nil=>intro i c' h;simp at h
 |cons h t ih=>
  intro i c' hi;cases i with
  |zero=>simp at hi;subst hi;exact⟨_,rfl,h⟩
  |succ i=>simpa using ih i c' (by simpa using hi)
inductive jA:List CV->List CV->Prop
 |nil:jA [] []
 |dv (c:CV) {r r':List CV} (t:jA r r'):jA (c::r) (c::r')
 |one {c c':CC} {r r':List CV} (h:zE c c') (t:jA r r'):jA (.rv (.one c)::r) (.rv (.one c')::r')
 |agg {cs ef:List CC} {r r':List CV} (h:zF cs ef) (t:jA r r'):jA (.rv (.agg cs)::r) (.rv (.agg ef)::r')
theorem jA.len{a b:List CV}(h:jA a b):a.length=b.length:=by
 induction h<;>simp[*]
theorem jA.get{a b:List CV}(h:jA a b):∀(i:Nat)c',b[i]? =some c'->∃c,a[i]? =some c/\∀ρ w v,bV ρ w c v->bV ρ w c' v:=by
 induction h with
 |nil=>intro i c' h;simp at h
 |dv c t ih=>
  intro i c' hi;cases i with
  |zero=>simp at hi;subst hi;exact⟨_,rfl,fun _ _ _ h=>h⟩
  |succ i=>simpa using ih i c' (by simpa using hi)
 |one h t ih=>
  intro i c' hi;cases i with
  |zero=>simp at hi;subst hi;exact⟨_,rfl,fun _ _ _ hd=>h.jP hd⟩
  |succ i=>simpa using ih i c' (by simpa using hi)
 |agg h t ih=>
  intro i c' hi;cases i with
  |zero=>
   simp at hi;subst hi;refine⟨_,rfl,fun ρ w v hd=>?_⟩
   obtain⟨vs,hv,hl,hc⟩:=hd;exact⟨vs,hv,hl.trans h.len,fun i c' hi=>let⟨c,oX,hle⟩:=h.get i c' hi;let⟨u,hu,b8⟩:=hc i c oX;⟨u,hu,hle.jP b8⟩⟩
  |succ i=>simpa using ih i c' (by simpa using hi)
theorem ld{f:Nat}{args nS:List CV}{m:Mem}{K:CV->Mem->Prop}(ha:jA args nS)(h:aq P f nS m K):aq P f args m K:=by
 refine⟨h.1,fun ρ w vs hM hl hd=>h.2 ρ w vs hM (hl.trans ha.len) fun i c' hi=>?_⟩
 obtain⟨c,hc,H7⟩:=ha.get i c' hi;obtain⟨v,hv,uY⟩:=hd i c hc;exact⟨v,hv,H7 _ _ _ uY⟩
theorem nu{f:Nat}{args nS:List CV}{m m':Mem}{K:CV->Mem->Prop}(hv:View m.length ⟨args,m⟩ ⟨nS,m'⟩)(h:aq P f nS m' K):aq P f args m K:=by
 refine⟨h.1,fun ρ w vs hM hl hd=>?_⟩
 obtain⟨ρ',kJ,hc,uY⟩:=hv.go ρ w hM;have hlen:nS.length=args.length:=hv.len;refine(h.2 ρ' w vs kJ (hl.trans hlen.symm) fun i c' hi=>?_).mono fun e w'⟨v,r,m1,ρ1,he,hk,sJ,vd,hx⟩=>?_
 .obtain⟨c,Hj,xq⟩:=uY i c' hi;obtain⟨v,hv,bY⟩:=hd i c Hj;exact⟨v,hv,xq v bY⟩
 .have Q8:Ext ρ m w ρ' m' w:=⟨by rw[hM.n,kJ.n];exact hv.hn,fun id hid=>hc.aP id (by rw[<-hM.n];exact hid),hc.S,fun b hb=>(hc.S' b hb).elim .inl fun h=>.inr (.inr h),fun k hk=>.inr (hc.a7 k hk),fun _ _ _=>rfl,Pq _,rfl,rfl,rfl⟩
  exact⟨v,r,m1,ρ1,he,hk,sJ,vd,Q8.trans hx⟩
end
end Go.AM
