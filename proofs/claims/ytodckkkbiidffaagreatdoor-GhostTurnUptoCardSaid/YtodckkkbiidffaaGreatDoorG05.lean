/- Part 5 of 16. -/
import Derived.Test.YtodckkkbiidffaaGreatDoorG02
import Derived.Test.YtodckkkbiidffaaGreatDoorG03
import Derived.Laws.MakeOwn
import Derived.MapKept
import Derived.Maps.RangeRun
set_option linter.unusedVariables false
set_option linter.unusedSimpArgs false
set_option maxRecDepth 100000
set_option maxHeartbeats 0
namespace Go.AM
section
variable {P:Program} {U U':bF} {m m':Mem} {w w':World}
theorem bh.O3{pos pos':Option (Nat×Nat×Nat)}{c:CC}{v:Value}(hc:∀s e,c≠.dV s e)(h:bh U w pos c v):bh U w pos' c v:=by
 cases c<;>simp only[bh]at h|-
 case dV=>exact absurd rfl (hc _ _)
 all_goals exact h
theorem bh.mF{pos:Option (Nat×Nat×Nat)}(hn:U.n<=U'.n)(bM:∀id,id<U.n->U'.aH (.al id)=U.aH (.al id))(iq:∀id i j,pos=some (id,i,j)->U'.aH (.sub id i j)=U.aH (.sub id i j))(hS:∀b,U.S b->U'.S b)(d6:∀b,U.S b->w'.heap[b]? =w.heap[b]?){c:CC}{v:Value}(h:bh U w pos c v):bh U' w' pos c v:=by
 let ρ1:bF:={n:=U'.n,aH:=λk=>match k with| .al id=>U'.aH (.al id)|k=>U.aH k,S:=U'.S}
 have g:iz U w ρ1 w':=⟨hn,λk hk=>by
  cases k with
  |al id=>exact bM id hk
  |sub id i j=>rfl,hS,d6⟩
 by_cases hc:∃s e,c= .dV s e
 .obtain⟨esz,elems,rfl⟩:=hc;obtain⟨id,i,j,cH,hr⟩:=h;refine⟨id,i,j,cH,?_⟩;rw[iq id i j cH];exact hr
 .have hc:∀s e,c≠.dV s e:=λs e h=>hc ⟨s,e,h⟩
  have h1:=bh.O3 (pos':=pos) hc (bh.cm g aC (bh.O3 (pos':=none) hc h));cases c<;>simp only[bh]at h1|-
  case dV=>exact absurd rfl (hc _ _)
  all_goals exact h1
theorem dq.mF(hn:U.n<=U'.n)(bM:∀id,id<U.n->U'.aH (.al id)=U.aH (.al id))(hS:∀b,U.S b->U'.S b)(d6:∀b,U.S b->w'.heap[b]? =w.heap[b]?){r:RV}{v:Value}(h:dq U w r v):dq U' w' r v:=by
 cases r with
 |one c=>exact bh.mF hn bM aC hS d6 h
 |agg cs=>
  obtain⟨vs,hv,hl,hc⟩:=h;exact⟨vs,hv,hl,λi c hi=>let⟨u,hu,hd⟩:=hc i c hi;⟨u,hu,hd.mF hn bM aC hS d6⟩⟩
theorem cI.mF{id:Nat}{bk:Bk}(hid:id<U.n)(hn:U.n<=U'.n)(bM:∀id,id<U.n->U'.aH (.al id)=U.aH (.al id))(iq:∀i j,U'.aH (.sub id i j)=U.aH (.sub id i j))(hS:∀b,U.S b->U'.S b)(d6:∀b,U.S b->w'.heap[b]? =w.heap[b]?)(hb:bk≠.aS->((∃esz elems,bk= .row esz elems)->0<(U.aH (.al id)).cap)->w'.heap[(U.aH (.al id)).b]? =w.heap[(U.aH (.al id)).b]?)(h:cI U w id bk):cI U' w' id bk:=by
 have hl:U'.aH (.al id)=U.aH (.al id):=bM id hid;have K4:∀{c v},bh U w none c v->bh U' w' none c v:=λh=>bh.mF hn bM aC hS d6 h
 have BD:∀{i j c v},bh U w (some (id,i,j)) c v->bh U' w' (some (id,i,j)) c v:=λh=>bh.mF hn bM (λ_ _ _ e=>by cases e;exact iq _ _) hS d6 h
 cases bk with
 |aS=>trivial
 |var cs=>
  obtain⟨cur,hc,hd⟩:=h;refine⟨cur,by rw[hl];exact hc.dv (hb aC (by rintro⟨_,_,e⟩;cases e)),λj c hj=>?_⟩
  obtain⟨u,hu,ct⟩:=hd j c hj;exact⟨u,by rw[hl];exact hu,K4 ct⟩
 |row esz elems=>
  obtain⟨h2,h3,h4,h5,bT⟩:=h;refine⟨by rw[hl];exact h2,by rw[hl];exact h3,by rw[hl];exact h4,h5,λcH=>?_⟩
  rw[hl]at cH;obtain⟨cur,hc,h1,h6⟩:=bT cH;refine⟨cur,by rw[hl];exact hc.dv (hb aC λ_=>cH),by rw[hl];exact h1,λi cs j c hi hj=>?_⟩
  obtain⟨u,hu,ct⟩:=h6 i cs j c hi hj;exact⟨u,by rw[hl];exact hu,BD ct⟩
 |mp es=>
  obtain⟨bx,clock,hc,h1,h2⟩:=h;refine⟨bx,clock,⟨by rw[hl,hb aC (by rintro⟨_,_,e⟩;cases e)];exact hc.1,hc.2⟩,h1,λi e hi=>?_⟩
  obtain⟨e',mr,hk,hd⟩:=h2 i e hi;exact⟨e',mr,hk,hd.mF hn bM hS d6⟩
 |it cur left=>
  obtain⟨mb,seen,ck,bx,h2,h3,h4,h5,h6⟩:=h;exact⟨mb,seen,ck,bx,by rw[hl,hb aC (by rintro⟨_,_,e⟩;cases e)];exact h2,by rw[hl];exact h3,hS _ h4,by rw[d6 mb h4];exact h5,h6⟩
 |mo esz es so=>
  obtain⟨bx,clock,hc,⟨h1,h2⟩,h3⟩:=h;refine⟨bx,clock,⟨by rw[hl,hb aC (by rintro⟨_,_,e⟩;cases e)];exact hc.1,hc.2⟩,⟨h1,λi e hi=>?_⟩,h3⟩
  obtain⟨e',mr,hk,hp,hd⟩:=h2 i e hi;exact⟨e',mr,hk,hp,BD hd⟩
 |iw mid gU seen=>
  obtain⟨h1,h2,s,h3,h4⟩:=h;exact⟨aa0 h1 hn,by rw[hl];exact h2,s,by rw[hl,hb aC (by rintro⟨_,_,e⟩;cases e),bM mid h1];exact h3,h4⟩
theorem eS.refl(w:World)(g:Nat):eS w w g:=⟨λ_ _=>rfl,rfl,rfl,rfl,rfl⟩
theorem au.K5(hM:au U m w){g:Nat}(hg:Live U m (.al g))(hT:eS w w' (U.aH (.al g)).b)(hn:U'.n=m'.length)(hle:U.n<=U'.n)(bM:∀id,id<U.n->U'.aH (.al id)=U.aH (.al id))(hS:U'.S=U.S)(src:fY->fY)(x6:∀k,Live U' m' k->Live U m (src k)/\(U'.aH k).b=(U.aH (src k)).b)(oi:∀k k',Live U' m' k->Live U' m' k'->src k=src k'->k=k')(de:(∀b,U.S b->w'.heap[b]? =w.heap[b]?)->∀id b,m'[id]? =some b->cI U' w' id b)(jQ:(∀b,U.S b->w'.heap[b]? =w.heap[b]?)->∀id i j s e,dM m' id i j s e->0<(U'.aH (.sub id i j)).cap->pX U' w' (U'.aH (.sub id i j)) s e):
  au U' m' w'/\Ext U m w U' m' w':=by
 have Ep:∀b,U.S b->w'.heap[b]? =w.heap[b]? :=λb hb=>hT.heap b λe=>(hM.aQ _ hg).2 (e▸hb)
 refine⟨⟨hn,λb hb=>by rw[hT.size];exact hM.S b (hS▸hb),λk hk=>?_,λk k' hk fU he=>?_,de Ep,jQ Ep⟩,
  ⟨hle,bM,λb hb=>by rw[hS];exact hb,λb hb=>.inl (hS▸hb),λk hk=>.inr ⟨src k,(x6 k hk).1,(x6 k hk).2.symm⟩,λb _ hk=>hT.heap b λe=>hk _ hg e.symm,by rw[hT.size];exact Ts _,hT.os,hT.tape,hT.output⟩⟩
 .rw[(x6 k hk).2,hT.size,hS];exact hM.aQ _ (x6 k hk).1
 .rw[(x6 k hk).2,(x6 k' fU).2]at he;exact oi k k' hk fU (hM.inj _ _ (x6 k hk).1 (x6 k' fU).1 he)
theorem au.YM(hM:au U m w){id esz:Nat}{es:List MO}{so:Option (List Nat×Nat)}{i:Nat}{k:Value}{l:List (List Dt)}(hb:m[id]? =some (.mo esz es so))(hi:es[i]? =some ⟨k,.dV l⟩):
  ∃U',au U' (m.set id (.mo esz (es.set i ⟨k,.row m.length⟩) so)++ [.row esz (l.map λds=>ds.map .aa)]) w/\Ext U m w U' (m.set id (.mo esz (es.set i ⟨k,.row m.length⟩) so)++ [.row esz (l.map λds=>ds.map .aa)]) w/\
   ∀v,bh U w (some (id,i,0)) (.dV esz l) v->bh U' w none (.row m.length esz 0 none) v:=by
 have pw:id<m.length:=(I4.1 hb).1;have x4:i<es.length:=(I4.1 hi).1;have hn:=hM.n;have B4:Live U m (.al id):=⟨_,hb,aC,by rintro⟨_,_,e⟩;cases e⟩
 let L:=U.aH (.sub id i 0);let U':bF:={n:=m.length+1,aH:=λk=>match k with| .al a=>if a=m.length then⟨L.b,L.ar,l.length,L.cap⟩else U.aH (.al a)|k=>U.aH k,S:=U.S}
 have dB:∀a,a<m.length->U'.aH (.al a)=U.aH (.al a):=λa ha=>by simp only[U'];rw[if_neg om]
 have mE:U'.aH (.al m.length)=⟨L.b,L.ar,l.length,L.cap⟩:=by simp[U']
 have iq:∀a x y,U'.aH (.sub a x y)=U.aH (.sub a x y):=λ_ _ _=>rfl
 have jQ:dM m id i 0 esz l:=⟨_,hb,.mo hi⟩;obtain⟨bx,clock,d6,⟨dn,fe⟩,lw⟩:=hM.bk id _ hb;obtain⟨e',mr,fU,Kb,x7⟩:=fe i _ hi;obtain⟨i0,i1,i2,cH,oh,On,ad,hv,Sl⟩:=x7;simp only[aam,acz]at cH;obtain⟨rfl,rfl,rfl⟩:=cH;have oh:l.length<=L.cap:=oh;have On:L.cap<=maxLen:=On;have get:∀{a:Nat}{b:Bk},(m.set id (.mo esz (es.set i ⟨k,.row m.length⟩) so)++ [Bk.row esz (l.map λds=>ds.map .aa)])[a]? =some b->
   (a=id/\b= .mo esz (es.set i ⟨k,.row m.length⟩) so)\/(a≠id/\a<m.length/\m[a]? =some b)\/(a=m.length/\b= .row esz (l.map λds=>ds.map .aa)):=by
  intro a b h;rcases aad a m.length with aD|d7
  .rw[Yf (by simpa using aD)]at h
   by_cases K6:a=id
   .subst K6;rw[Tr aD]at h;exact .inl ⟨rfl,by simpa using h.symm⟩
   .rw[WE (λe=>K6 e.symm)]at h
    exact .inr (.inl ⟨K6,aD,h⟩)
  .have aD:=(I4.1 h).1;simp at aD;have:a=m.length:=om;subst this;rw[WH aC]at h;simp at h;exact .inr (.inr ⟨rfl,h.symm⟩)
 have dY:∀{a x y s e},dM (m.set id (.mo esz (es.set i ⟨k,.row m.length⟩) so)++ [Bk.row esz (l.map λds=>ds.map .aa)]) a x y s e->dM m a x y s e/\¬(a=id/\x=i):=by
  rintro a x y s e ⟨b,fx,ho⟩;rcases get fx with⟨rfl,rfl⟩|⟨h1,h2,h3⟩|⟨rfl,rfl⟩
  .obtain⟨k2,hx,rfl,rfl⟩:=ho.QL;by_cases K7:i=x
   .subst K7;rw[Tr x4]at hx;cases hx
   .rw[WE K7]at hx;exact⟨⟨_,hb,.mo hx⟩,λh=>K7 h.2.symm⟩
  .exact⟨⟨b,h3,ho⟩,λh=>h1 h.1⟩
  .obtain⟨cs,hx,hy⟩:=ho.xV;rw[RA]at hx;obtain⟨ds,_,rfl⟩:=aao.1 hx;rw[RA]at hy;obtain⟨d,_,hd⟩:=aao.1 hy;cases hd
 let src:fY->fY:=λk=>match k with| .al a=>if a=m.length then .sub id i 0 else .al a|k=>k
 have QY:∀a,a<m.length->src (.al a)= .al a:=λa ha=>by simp only[src];rw[if_neg om]
 have Er:src (.al m.length)= .sub id i 0:=by simp[src]
 have main:=hM.K5 (U':=U') (m':=m.set id (.mo esz (es.set i ⟨k,.row m.length⟩) so)++ [.row esz (l.map λds=>ds.map .aa)]) B4 (eS.refl w _) (by simp[U']) (by show U.n<=m.length+1;omega) (λa ha=>dB a om) rfl src
  (λq hq=>by
   cases q with
   |al a=>
    obtain⟨b,fx,lB,bc⟩:=hq;rcases get fx with⟨rfl,rfl⟩|⟨h1,h2,h3⟩|⟨rfl,rfl⟩
    .rw[QY _ pw,dB _ pw];exact⟨B4,rfl⟩
    .rw[QY _ h2,dB _ h2];rw[dB _ h2]at bc;exact⟨⟨b,h3,lB,bc⟩,rfl⟩
    .rw[Er,mE];have:=bc ⟨_,_,rfl⟩;rw[mE]at this;exact⟨⟨⟨_,_,jQ⟩,this⟩,rfl⟩
   |sub a x y=>
    obtain⟨⟨s,e,ho⟩,bc⟩:=hq;exact⟨⟨⟨s,e,(dY ho).1⟩,bc⟩,rfl⟩)
  (λq q' hq Sm he=>by
   cases q with
   |al a=>
    cases q' with
    |al a'=>
     by_cases h1:a=m.length<;>by_cases h2:a'=m.length
     .rw[h1,h2]
     .have Kc:a'<m.length:=by have:=Sm.eC;simp[fY.id]at this;omega
      rw[h1,Er,QY _ Kc]at he;cases he
     .have B5:a<m.length:=by have:=hq.eC;simp[fY.id]at this;omega
      rw[h2,Er,QY _ B5]at he;cases he
     .have B5:a<m.length:=by have:=hq.eC;simp[fY.id]at this;omega
      have Kc:a'<m.length:=by have:=Sm.eC;simp[fY.id]at this;omega
      rw[QY _ B5,QY _ Kc]at he;exact he
    |sub a' x y=>
     by_cases h1:a=m.length
     .rw[h1,Er]at he;have he:fY.sub id i 0= .sub a' x y:=he;cases he;obtain⟨⟨s,e,ho⟩,_⟩:=Sm;exact absurd ⟨rfl,rfl⟩ (dY ho).2
     .have B5:a<m.length:=by have:=hq.eC;simp[fY.id]at this;omega
      rw[QY _ B5]at he;cases he
   |sub a x y=>
    cases q' with
    |al a'=>
     by_cases h1:a'=m.length
     .rw[h1,Er]at he;have he:fY.sub a x y= .sub id i 0:=he;cases he;obtain⟨⟨s,e,ho⟩,_⟩:=hq;exact absurd ⟨rfl,rfl⟩ (dY ho).2
     .have B5:a'<m.length:=by have:=Sm.eC;simp[fY.id]at this;omega
      rw[QY _ B5]at he;cases he
    |sub a' x' y'=>exact he)
  (λEp a b fx=>by
   rcases get fx with⟨rfl,rfl⟩|⟨h1,h2,h3⟩|⟨rfl,rfl⟩
   .refine⟨bx,clock,⟨by rw[dB _ pw];exact d6.1,d6.2⟩,⟨by simpa using dn,λx e hx=>?_⟩,lw⟩
    rw[abl]at hx;by_cases K7:i=x
    .subst K7;rw[if_pos rfl,if_pos x4]at hx;cases hx;refine⟨e',mr,fU,Kb,?_⟩;rw[hv];simp only[MO.cc,bh];rw[mE];exact⟨by show m.length<m.length+1;omega,aC,aC,by simpa using oh,On,ad,by simp[L],λhc=>by have:=Sl hc;simp only[acV,acm];exact this⟩
    .rw[if_neg K7]at hx;obtain⟨e2,g1,g2,g3,g4⟩:=fe x e hx;exact⟨e2,g1,g2,g3,g4.mF (by show U.n<=m.length+1;omega) (λa ha=>dB a om) (λa x y h=>by cases h;rfl) (λ_ h=>h) (λ_ _=>rfl)⟩
   .exact(hM.bk a b h3).mF om (by show U.n<=m.length+1;omega) (λa ha=>dB a om) (λ_ _=>rfl) (λ_ h=>h) (λ_ _=>rfl) (λ_ _=>rfl)
   .simp only[cI,mE];have dD:∀(hc:0<L.cap),pX U w L esz l:=λhc=>hM.dV id i 0 esz l jQ hc
    refine⟨aC,oh,On,λcs eB=>?_,λhc=>?_⟩
    .obtain⟨ds,yG,rfl⟩:=aak.1 eB;obtain⟨cur,h1,h2,h3,h4⟩:=dD (aa0 (List.length_pos_of_mem yG) oh);rw[ML];exact h3 ds yG
    .obtain⟨cur,h1,h2,h3,h4⟩:=dD hc;refine⟨cur,h1,h2,λx cs y c hx hy=>?_⟩
     rw[RA]at hx;obtain⟨ds,yG,rfl⟩:=aao.1 hx;rw[RA]at hy;obtain⟨d,hd,rfl⟩:=aao.1 hy;exact h4 x ds y d yG hd)
  (λEp a x y s e ho hc=>by
   exact(hM.dV a x y s e (dY ho).1 hc).cm (U:=U) (U':=U') ⟨by show U.n<=m.length+1;omega,λq hq=>by
    cases q with
    |al a=>exact dB a (by simp only[fY.id]at hq;omega)
    |sub a x y=>rfl,λ_ h=>h,λ_ _=>rfl⟩ rfl)
 refine⟨U',main.1,main.2,λv uR=>?_⟩
 obtain⟨j0,j1,j2,cH,q1,q2,a2,uR,YN⟩:=uR;simp only[aam,acz]at cH;obtain⟨rfl,rfl,rfl⟩:=cH;simp only[bh];rw[mE];exact⟨by show m.length<m.length+1;omega,aC,aC,by simpa using oh,On,a2,by rw[uR];simp[L],λhc=>by have:=YN hc;simp only[acV,acm];exact this⟩
theorem yJ{α:Type}(l:List α)(lo:Nat)(hi:Option Nat)(i:Nat)(x:α)(h:(bV l lo hi)[i]? =some x):l[lo+i]? =some x:=by
 rw[jv]at h;rw[abp]at h;cases hi with
 |none=>exact h
 |some k=>
  simp only at h;rw[aa8]at h;split at h
  .exact h
  .cases h
theorem Ib{α:Type}(l:List α)(lo:Nat)(hi:Option Nat)(h1:lo<=hi.getD l.length)(h2:hi.getD l.length<=l.length):(bV l lo hi).length=hi.getD l.length-lo:=by
 rw[jv];cases hi with
 |none=>simp
 |some k=>simp at h1 h2|-;omega
theorem au.rest(hM:au U m w){id esz:Nat}{es bx:List MO}(hb:m[id]? =some (.mo esz es none)){n lo:Nat}{hi:Option Nat}{ds:List (List Dt)}(QZ:m[n]? =some (.row esz (ds.map λd=>d.map .aa))){j:Nat}{k v:Value}(hj:bx[j]? =some ⟨k,.dV (bV ds lo hi)⟩)(Ic:cE k=true)(dt:∀x,x≠j->bx[x]? =es[x]?)(hv:bh U w none (.row n esz lo hi) v){Ug sI:Array MapEntry}{c1 c2:Nat}(Uh:w.heap[(U.aH (.al id)).b]? =some (.map Ug c1))(hT:eS w w' (U.aH (.al id)).b)(YO:w'.heap[(U.aH (.al id)).b]? =some (.map sI c2))(re:iV sI c2)(dn:sI.size=bx.length)(uO:∀x,x≠j->sI[x]? =Ug[x]?)(hej:∃e,sI[j]? =some e/\e.key=k/\e.val=v):
  ∃U',au U' ((m.set n .aS).set id (.mo esz bx none)) w'/\Ext U m w U' ((m.set n .aS).set id (.mo esz bx none)) w':=by
 have pw:id<m.length:=(I4.1 hb).1;have jT:n<m.length:=(I4.1 QZ).1;have Vi:n≠id:=λe=>by rw[e,hb]at QZ;cases QZ
 have hn:=hM.n;have B4:Live U m (.al id):=⟨_,hb,aC,by rintro⟨_,_,e⟩;cases e⟩
 let R:=U.aH (.al n);let U':bF:={n:=U.n,aH:=λq=>match q with| .al a=>U.aH (.al a)| .sub a x y=>if a=id/\x=j/\y=0 then⟨R.b,R.ar+lo*esz,0,R.cap-lo⟩else U.aH (.sub a x y),S:=U.S}
 have dB:∀a,U'.aH (.al a)=U.aH (.al a):=λ_=>rfl
 have mE:U'.aH (.sub id j 0)=⟨R.b,R.ar+lo*esz,0,R.cap-lo⟩:=by simp[U']
 have iq:∀a x y,¬(a=id/\x=j/\y=0)->U'.aH (.sub a x y)=U.aH (.sub a x y):=λa x y h=>by simp only[U'];rw[if_neg h]
 obtain⟨YP,clock,⟨d6,_⟩,⟨K8,fe⟩,_⟩:=hM.bk id _ hb;rw[Uh]at d6;cases d6;obtain⟨acR,d1,d2,d3,d4,ad,hvv,Sl⟩:=hv;obtain⟨r2,r3,r4,r5,bT⟩:=hM.bk n _ QZ;have yG:ds.length=R.len:=by have:(ds.map λd=>d.map CC.aa).length=R.len:=r2;simpa using this
 have yK:(bV ds lo hi).length=hi.getD R.len-lo:=by rw[<-yG];exact Ib ds lo hi (by rw[yG];exact d1) (by rw[yG];exact d2)
 have get:∀{a:Nat}{b:Bk},((m.set n .aS).set id (.mo esz bx none))[a]? =some b->(a=id/\b= .mo esz bx none)\/(a=n/\b= .aS)\/(a≠id/\a≠n/\m[a]? =some b):=by
  intro a b h;by_cases K6:a=id
  .subst K6;rw[Tr (by simpa using pw)]at h
   exact .inl ⟨rfl,by simpa using h.symm⟩
  .rw[WE (λe=>K6 e.symm)]at h
   by_cases DR:a=n
   .subst DR;rw[Tr jT]at h;exact .inr (.inl ⟨rfl,by simpa using h.symm⟩)
   .rw[WE (λe=>DR e.symm)]at h
    exact .inr (.inr ⟨K6,DR,h⟩)
 have dY:∀{a x y s e},dM ((m.set n .aS).set id (.mo esz bx none)) a x y s e->(a=id/\x=j/\y=0/\s=esz/\e=bV ds lo hi)\/(¬(a=id/\x=j/\y=0)/\dM m a x y s e):=by
  rintro a x y s e ⟨b,fx,ho⟩;rcases get fx with⟨rfl,rfl⟩|⟨_,rfl⟩|⟨h1,h2,h3⟩
  .obtain⟨k2,hx,rfl,rfl⟩:=ho.QL;by_cases Q0:x=j
   .subst Q0;rw[hj]at hx;simp only[aam,MO.mk.injEq,MV.dV.injEq]at hx;exact .inl ⟨rfl,rfl,rfl,rfl,hx.2.symm⟩
   .rw[dt x Q0]at hx;exact .inr ⟨λh=>Q0 h.2.1,_,hb,.mo hx⟩
  .cases ho
  .exact .inr ⟨λh=>h1 h.1,b,h3,ho⟩
 let src:fY->fY:=λq=>match q with| .al a=>.al a| .sub a x y=>if a=id/\x=j/\y=0 then .al n else .sub a x y
 have Er:src (.sub id j 0)= .al n:=by simp[src]
 have Ui:∀a x y,¬(a=id/\x=j/\y=0)->src (.sub a x y)= .sub a x y:=λa x y h=>by simp only[src];rw[if_neg h]
 have Sn:∀q,Live U' ((m.set n .aS).set id (.mo esz bx none)) q->q≠.al n:=by
  rintro q hq rfl;obtain⟨b,fx,lB,_⟩:=hq;rcases get fx with⟨h,_⟩|⟨_,rfl⟩|⟨_,h,_⟩
  .exact Vi h
  .exact lB rfl
  .exact h rfl
 have main:=hM.K5 (U':=U') (m':=(m.set n .aS).set id (.mo esz bx none)) B4 hT (by simp[U',hn]) (Ts _) (λa _=>rfl) rfl src
  (λq hq=>by
   cases q with
   |al a=>
    obtain⟨b,fx,lB,bc⟩:=hq;rcases get fx with⟨rfl,rfl⟩|⟨_,rfl⟩|⟨h1,h2,h3⟩
    .exact⟨B4,rfl⟩
    .exact absurd rfl lB
    .exact⟨⟨b,h3,lB,bc⟩,rfl⟩
   |sub a x y=>
    obtain⟨⟨s,e,ho⟩,bc⟩:=hq;rcases dY ho with⟨rfl,rfl,rfl,rfl,rfl⟩|⟨h1,h2⟩
    .rw[mE]at bc;rw[Er,mE];have bc:0<R.cap-lo:=bc;exact⟨⟨_,QZ,aC,λ_=>by show 0<R.cap;omega⟩,rfl⟩
    .rw[iq _ _ _ h1]at bc;rw[Ui _ _ _ h1,iq _ _ _ h1];exact⟨⟨⟨s,e,h2⟩,bc⟩,rfl⟩)
  (λq q' hq Sm he=>by
   have sub:∀a x y a',Live U' ((m.set n .aS).set id (.mo esz bx none)) (.al a')->src (.sub a x y)= .al a'->False:=by
    intro a x y a' ha he;by_cases h:a=id/\x=j/\y=0
    .obtain⟨rfl,rfl,rfl⟩:=h;rw[Er]at he;cases he;exact Sn _ ha rfl
    .rw[Ui _ _ _ h]at he;cases he
   cases q with
   |al a=>
    cases q' with
    |al a'=>exact he
    |sub a' x y=>exact(sub _ _ _ _ hq he.symm).elim
   |sub a x y=>
    cases q' with
    |al a'=>exact(sub _ _ _ _ Sm he).elim
    |sub a' x' y'=>
     by_cases h:a=id/\x=j/\y=0<;>by_cases h':a'=id/\x'=j/\y'=0
     .obtain⟨rfl,rfl,rfl⟩:=h;obtain⟨rfl,rfl,rfl⟩:=h';rfl
     .obtain⟨rfl,rfl,rfl⟩:=h;rw[Er,Ui _ _ _ h']at he;cases he
     .obtain⟨rfl,rfl,rfl⟩:=h';rw[Er,Ui _ _ _ h]at he;cases he
     .rw[Ui _ _ _ h,Ui _ _ _ h']at he;exact he)
  (λEp a b fx=>by
   rcases get fx with⟨rfl,rfl⟩|⟨_,rfl⟩|⟨h1,h2,h3⟩
   .refine⟨sI,c2,⟨YO,re⟩,⟨dn,λx e hx=>?_⟩,aC⟩
    by_cases Q0:x=j
    .subst Q0;rw[hj]at hx;cases hx;obtain⟨e2,jY,oo,uR⟩:=hej;refine⟨e2,jY,oo,Ic,a,x,0,rfl,?_⟩;rw[mE,uR];exact⟨by show _<=R.cap-lo;have:hi.getD R.len<=R.len:=d2;have:R.len<=R.cap:=d3;omega,by show R.cap-lo<=maxLen;have:R.cap<=maxLen:=d4;omega,ad,by rw[hvv,yK],λhc=>Sl (by show lo<R.cap;have hc:0<R.cap-lo:=hc;omega)⟩
    .rw[dt x Q0]at hx;obtain⟨e2,g1,g2,g3,g4⟩:=fe x e hx;exact⟨e2,by rw[uO x Q0];exact g1,g2,g3,g4.mF (U:=U) (U':=U') (show U.n<=U.n from Ts _) (λ_ _=>rfl) (λa x' y h=>by cases h;exact iq _ _ _ λh=>Q0 h.2.1) (λ_ h=>h) Ep⟩
   .trivial
   .refine(hM.bk a b h3).mF (hM.eC h3) (Ts _) (λ_ _=>rfl) (λx y=>iq _ _ _ λh=>h1 h.1) (λ_ h=>h) Ep λlB bc=>hT.heap _ λe=>?_
    have:=hM.inj (.al a) (.al id) ⟨b,h3,lB,bc⟩ B4 e;cases this;exact h1 rfl)
  (λEp a x y s e ho hc=>by
   rcases dY ho with⟨rfl,rfl,rfl,rfl,rfl⟩|⟨h1,h2⟩
   .rw[mE]at hc|-;have hc:0<R.cap-lo:=hc;have uP:0<R.cap:=om;obtain⟨cur,q1,q2,q3⟩:=bT uP;have So:Live U m (.al n):=⟨_,QZ,aC,λ_=>uP⟩
    refine⟨cur,q1.dv (hT.heap _ λe=>?_),?_,λcs eB=>?_,λx2 cs y2 d hx hy=>?_⟩
    .have:=hM.inj _ _ So B4 e;cases this;exact Vi rfl
    .have e1:R.cap*s=lo*s+(R.cap-lo)*s:=by rw[<-abr];congr 1;omega
     have q2:R.ar+R.cap*s<=cur.size:=q2;show R.ar+lo*s+(R.cap-lo)*s<=cur.size;omega
    .obtain⟨x2,Uj⟩:=Xt eB;have hg:=yJ ds lo hi x2 cs Uj;have:=r5 (cs.map .aa) (aak.2 ⟨cs,RD hg,rfl⟩);simpa using this
    .have hg:=yJ ds lo hi x2 cs hx;obtain⟨u,hu,hd⟩:=q3 (lo+x2) (cs.map .aa) y2 (.aa d) (by rw[RA,hg];rfl) (by rw[RA,hy];rfl)
     refine⟨u,?_,c7.mono (S:=U.S) (λ_ h=>h) Ep hd⟩
     rw[<-hu];congr 1;show R.ar+lo*s+x2*s+y2=R.ar+(lo+x2)*s+y2;rw[abr];omega
   .rw[iq _ _ _ h1]at hc|-;obtain⟨cur,q1,q2,q3,q4⟩:=hM.dV a x y s e h2 hc;refine⟨cur,q1.dv (hT.heap _ λe=>?_),q2,q3,λx2 cs y2 d hx hy=>?_⟩
    .have:=hM.inj (.sub a x y) _ ⟨⟨_,_,h2⟩,hc⟩ B4 e;cases this
    .obtain⟨u,hu,hd⟩:=q4 x2 cs y2 d hx hy;exact⟨u,hu,c7.mono (S:=U.S) (λ_ h=>h) Ep hd⟩)
 exact⟨U',main.1,main.2⟩
theorem au.YQ(hM:au U m w){id esz:Nat}{es:List MO}{so Q1:Option (List Nat×Nat)}(hb:m[id]? =some (.mo esz es so)){i:Nat}(x4:i<es.length){Ug sI:Array MapEntry}{c1 c2:Nat}(Uh:w.heap[(U.aH (.al id)).b]? =some (.map Ug c1))(hT:eS w w' (U.aH (.al id)).b)(YO:w'.heap[(U.aH (.al id)).b]? =some (.map sI c2))(re:iV sI c2)(uO:sI.toList=Ug.toList.eraseIdx i)(hso:∀st gU,Q1=some (st,gU)->c2=gU/\sI.toList.map (·.born)=st):
  ∃U',au U' (m.set id (.mo esz (es.eraseIdx i) Q1)) w'/\Ext U m w U' (m.set id (.mo esz (es.eraseIdx i) Q1)) w':=by
 have pw:id<m.length:=(I4.1 hb).1;have hn:=hM.n;have B4:Live U m (.al id):=⟨_,hb,aC,by rintro⟨_,_,e⟩;cases e⟩
 let up:Nat->Nat:=λx=>if x<i then x else x+1
 have Ke:∀x,(es.eraseIdx i)[x]? =es[up x]? :=λx=>by rw[List.getElem?_eraseIdx];simp only[up];split<;>rfl
 have YR:∀x y,up x=up y->x=y:=λx y h=>by simp only[up]at h;split at h<;>split at h<;>omega
 let U':bF:={n:=U.n,aH:=λq=>match q with| .al a=>U.aH (.al a)| .sub a x y=>if a=id then U.aH (.sub id (up x) y)else U.aH (.sub a x y),S:=U.S}
 have GK:∀x y,U'.aH (.sub id x y)=U.aH (.sub id (up x) y):=λx y=>by simp[U']
 have iq:∀a x y,a≠id->U'.aH (.sub a x y)=U.aH (.sub a x y):=λa x y h=>by simp only[U'];rw[if_neg h]
 obtain⟨YP,clock,⟨d6,_⟩,⟨K8,fe⟩,_⟩:=hM.bk id _ hb;rw[Uh]at d6;cases d6;have get:∀{a:Nat}{b:Bk},(m.set id (.mo esz (es.eraseIdx i) Q1))[a]? =some b->(a=id/\b= .mo esz (es.eraseIdx i) Q1)\/(a≠id/\m[a]? =some b):=by
  intro a b h;by_cases K6:a=id
  .subst K6;rw[Tr pw]at h;exact .inl ⟨rfl,by simpa using h.symm⟩
  .rw[WE (λe=>K6 e.symm)]at h
   exact .inr ⟨K6,h⟩
 let src:fY->fY:=λq=>match q with| .al a=>.al a| .sub a x y=>if a=id then .sub id (up x) y else .sub a x y
 have Kf:∀x y,src (.sub id x y)= .sub id (up x) y:=λx y=>by simp[src]
 have DT:∀a x y,a≠id->src (.sub a x y)= .sub a x y:=λa x y h=>by simp only[src];rw[if_neg h]
 have dY:∀{a x y s e},dM (m.set id (.mo esz (es.eraseIdx i) Q1)) a x y s e->(a=id/\dM m id (up x) y s e)\/(a≠id/\dM m a x y s e):=by
  rintro a x y s e ⟨b,fx,ho⟩;rcases get fx with⟨rfl,rfl⟩|⟨h1,h3⟩
  .obtain⟨k2,hx,rfl,rfl⟩:=ho.QL;rw[Ke]at hx;exact .inl ⟨rfl,_,hb,.mo hx⟩
  .exact .inr ⟨h1,b,h3,ho⟩
 have main:=hM.K5 (U':=U') (m':=m.set id (.mo esz (es.eraseIdx i) Q1)) B4 hT (by simp[U',hn]) (Ts _) (λa _=>rfl) rfl src
  (λq hq=>by
   cases q with
   |al a=>
    obtain⟨b,fx,lB,bc⟩:=hq;rcases get fx with⟨rfl,rfl⟩|⟨h1,h3⟩
    .exact⟨B4,rfl⟩
    .exact⟨⟨b,h3,lB,bc⟩,rfl⟩
   |sub a x y=>
    obtain⟨⟨s,e,ho⟩,bc⟩:=hq;rcases dY ho with⟨rfl,h2⟩|⟨h1,h2⟩
    .rw[GK]at bc;rw[Kf,GK];exact⟨⟨⟨s,e,h2⟩,bc⟩,rfl⟩
    .rw[iq _ _ _ h1]at bc;rw[DT _ _ _ h1,iq _ _ _ h1];exact⟨⟨⟨s,e,h2⟩,bc⟩,rfl⟩)
  (λq q' hq Sm he=>by
   cases q with
   |al a=>
    cases q' with
    |al a'=>exact he
    |sub a' x y=>
     by_cases h:a'=id
     .subst h;rw[Kf]at he;cases he
     .rw[DT _ _ _ h]at he;cases he
   |sub a x y=>
    cases q' with
    |al a'=>
     by_cases h:a=id
     .subst h;rw[Kf]at he;cases he
     .rw[DT _ _ _ h]at he;cases he
    |sub a' x' y'=>
     by_cases h:a=id<;>by_cases h':a'=id
     .subst h;subst h';rw[Kf,Kf]at he;simp only[fY.sub.injEq,true_and]at he;rw[YR _ _ he.1,he.2]
     .subst h;rw[Kf,DT _ _ _ h']at he;simp only[fY.sub.injEq]at he;exact absurd he.1.symm h'
     .subst h';rw[Kf,DT _ _ _ h]at he;simp only[fY.sub.injEq]at he;exact absurd he.1 h
     .rw[DT _ _ _ h,DT _ _ _ h']at he;exact he)
  (λEp a b fx=>by
   rcases get fx with⟨rfl,rfl⟩|⟨h1,h3⟩
   .refine⟨sI,c2,⟨YO,re⟩,⟨?_,λx e hx=>?_⟩,hso⟩
    .rw[<-Array.length_toList,uO,List.length_eraseIdx_of_lt (by simpa[K8]using x4),List.length_eraseIdx_of_lt x4,abS,K8]
    .rw[Ke]at hx;obtain⟨e2,g1,g2,g3,g4⟩:=fe _ e hx;refine⟨e2,?_,g2,g3,?_⟩
     .have g1':Ug.toList[up x]? =some e2:=by rw[abB];exact g1
      rw[<-abB,uO,List.getElem?_eraseIdx];by_cases K7:x<i
      .have:up x=x:=by simp[up,K7]
       rw[if_pos K7,<-this];exact g1'
      .have:up x=x+1:=by simp[up,K7]
       rw[if_neg K7,<-this];exact g1'
     .obtain⟨kk,vv⟩:=e;cases vv with
      |dV l=>
       obtain⟨i0,i1,i2,cH,q⟩:=g4;simp only[aam,acz]at cH;obtain⟨rfl,rfl,rfl⟩:=cH;refine⟨a,x,0,rfl,?_⟩;rw[GK];exact q
      |row n=>exact bh.O3 (pos:=none) (by intro s e h;cases h) (bh.mF (U:=U) (U':=U') (pos:=none) (show U.n<=U.n from Ts _) (λ_ _=>rfl) aC (λ_ h=>h) Ep (bh.O3 (pos':=none) (by intro s e h;cases h) g4))
   .refine(hM.bk a b h3).mF (hM.eC h3) (Ts _) (λ_ _=>rfl) (λx y=>iq _ _ _ h1) (λ_ h=>h) Ep λlB bc=>hT.heap _ λe=>?_
    have:=hM.inj (.al a) (.al id) ⟨b,h3,lB,bc⟩ B4 e;cases this;exact h1 rfl)
  (λEp a x y s e ho hc=>by
   have key:∀a x y,dM m a x y s e->0<(U.aH (.sub a x y)).cap->pX U' w' (U.aH (.sub a x y)) s e:=by
    intro a x y h2 hc;obtain⟨cur,q1,q2,q3,q4⟩:=hM.dV a x y s e h2 hc;refine⟨cur,q1.dv (hT.heap _ λe=>?_),q2,q3,λx2 cs y2 d hx hy=>?_⟩
    .have:=hM.inj (.sub a x y) _ ⟨⟨_,_,h2⟩,hc⟩ B4 e;cases this
    .obtain⟨u,hu,hd⟩:=q4 x2 cs y2 d hx hy;exact⟨u,hu,c7.mono (S:=U.S) (λ_ h=>h) Ep hd⟩
   rcases dY ho with⟨rfl,h2⟩|⟨h1,h2⟩
   .rw[GK]at hc|-;exact key _ _ _ h2 hc
   .rw[iq _ _ _ h1]at hc|-;exact key _ _ _ h2 hc)
 exact⟨U',main.1,main.2⟩
end
end Go.AM
