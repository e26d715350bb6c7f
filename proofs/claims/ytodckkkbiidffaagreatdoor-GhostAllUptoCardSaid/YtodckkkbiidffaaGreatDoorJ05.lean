/- Part 5 of 16. -/
import Derived.Test.YtodckkkbiidffaaGreatDoorJ02
import Derived.Test.YtodckkkbiidffaaGreatDoorJ03
import Derived.Laws.MakeOwn
import Derived.MapKept
import Derived.Maps.RangeRun
set_option linter.unusedVariables false
set_option linter.unusedSimpArgs false
set_option maxRecDepth 100000
set_option maxHeartbeats 0
namespace Go.AM
section
variable {P:Program} {ρ U':bJ} {m m':Mem} {w w':World}
theorem bm.Qx{pos pos':Option (Nat×Nat×Nat)}{c:CC}{v:Value}(hc:∀s e,c≠.ei s e)(h:bm ρ w pos c v):bm ρ w pos' c v:=by
 cases c<;>simp only[bm]at h|-
 case ei=>exact absurd rfl (hc _ _)
 all_goals exact h
theorem bm.m7{pos:Option (Nat×Nat×Nat)}(hn:ρ.n<=U'.n)(bQ:∀id,id<ρ.n->U'.aI (.aj id)=ρ.aI (.aj id))(iO:∀id i j,pos=some (id,i,j)->U'.aI (.sub id i j)=ρ.aI (.sub id i j))(hS:∀b,ρ.S b->U'.S b)(eF:∀b,ρ.S b->w'.heap[b]? =w.heap[b]?){c:CC}{v:Value}(h:bm ρ w pos c v):bm U' w' pos c v:=by
 let ρ1:bJ:={n:=U'.n,aI:=λk=>match k with| .aj id=>U'.aI (.aj id)|k=>ρ.aI k,S:=U'.S}
 have g:iM ρ w ρ1 w':=⟨hn,λk hk=>by
  cases k with
  |aj id=>exact bQ id hk
  |sub id i j=>rfl,hS,eF⟩
 by_cases hc:∃s e,c= .ei s e
 .obtain⟨esz,elems,rfl⟩:=hc;obtain⟨id,i,j,cJ,hr⟩:=h;refine⟨id,i,j,cJ,?_⟩;rw[iO id i j cJ];exact hr
 .have hc:∀s e,c≠.ei s e:=λs e h=>hc ⟨s,e,h⟩
  have h1:=bm.Qx (pos':=pos) hc (bm.cn g aC (bm.Qx (pos':=none) hc h));cases c<;>simp only[bm]at h1|-
  case ei=>exact absurd rfl (hc _ _)
  all_goals exact h1
theorem dk.m7(hn:ρ.n<=U'.n)(bQ:∀id,id<ρ.n->U'.aI (.aj id)=ρ.aI (.aj id))(hS:∀b,ρ.S b->U'.S b)(eF:∀b,ρ.S b->w'.heap[b]? =w.heap[b]?){r:RV}{v:Value}(h:dk ρ w r v):dk U' w' r v:=by
 cases r with
 |one c=>exact bm.m7 hn bQ aC hS eF h
 |agg cs=>
  obtain⟨vs,hv,hl,hc⟩:=h;exact⟨vs,hv,hl,λi c hi=>let⟨u,hu,hd⟩:=hc i c hi;⟨u,hu,hd.m7 hn bQ aC hS eF⟩⟩
theorem cK.m7{id:Nat}{bk:Bk}(hid:id<ρ.n)(hn:ρ.n<=U'.n)(bQ:∀id,id<ρ.n->U'.aI (.aj id)=ρ.aI (.aj id))(iO:∀i j,U'.aI (.sub id i j)=ρ.aI (.sub id i j))(hS:∀b,ρ.S b->U'.S b)(eF:∀b,ρ.S b->w'.heap[b]? =w.heap[b]?)(hb:bk≠.aU->((∃esz elems,bk= .row esz elems)->0<(ρ.aI (.aj id)).cap)->w'.heap[(ρ.aI (.aj id)).b]? =w.heap[(ρ.aI (.aj id)).b]?)(h:cK ρ w id bk):cK U' w' id bk:=by
 have hl:U'.aI (.aj id)=ρ.aI (.aj id):=bQ id hid;have Mu:∀{c v},bm ρ w none c v->bm U' w' none c v:=λh=>bm.m7 hn bQ aC hS eF h
 have Cq:∀{i j c v},bm ρ w (some (id,i,j)) c v->bm U' w' (some (id,i,j)) c v:=λh=>bm.m7 hn bQ (λ_ _ _ e=>by cases e;exact iO _ _) hS eF h
 cases bk with
 |aU=>trivial
 |var cs=>
  obtain⟨cur,hc,hd⟩:=h;refine⟨cur,by rw[hl];exact hc.dH (hb aC (by rintro⟨_,_,e⟩;cases e)),λj c hj=>?_⟩
  obtain⟨u,hu,cz⟩:=hd j c hj;exact⟨u,by rw[hl];exact hu,Mu cz⟩
 |row esz elems=>
  obtain⟨h2,h3,h4,h5,b8⟩:=h;refine⟨by rw[hl];exact h2,by rw[hl];exact h3,by rw[hl];exact h4,h5,λcJ=>?_⟩
  rw[hl]at cJ;obtain⟨cur,hc,h1,h6⟩:=b8 cJ;refine⟨cur,by rw[hl];exact hc.dH (hb aC λ_=>cJ),by rw[hl];exact h1,λi cs j c hi hj=>?_⟩
  obtain⟨u,hu,cz⟩:=h6 i cs j c hi hj;exact⟨u,by rw[hl];exact hu,Cq cz⟩
 |mp es=>
  obtain⟨bt,clock,hc,h1,h2⟩:=h;refine⟨bt,clock,⟨by rw[hl,hb aC (by rintro⟨_,_,e⟩;cases e)];exact hc.1,hc.2⟩,h1,λi e hi=>?_⟩
  obtain⟨e',mT,hk,hd⟩:=h2 i e hi;exact⟨e',mT,hk,hd.m7 hn bQ hS eF⟩
 |it cur left=>
  obtain⟨mb,seen,ck,bt,h2,h3,h4,h5,h6⟩:=h;exact⟨mb,seen,ck,bt,by rw[hl,hb aC (by rintro⟨_,_,e⟩;cases e)];exact h2,by rw[hl];exact h3,hS _ h4,by rw[eF mb h4];exact h5,h6⟩
 |mo esz es so=>
  obtain⟨bt,clock,hc,⟨h1,h2⟩,h3⟩:=h;refine⟨bt,clock,⟨by rw[hl,hb aC (by rintro⟨_,_,e⟩;cases e)];exact hc.1,hc.2⟩,⟨h1,λi e hi=>?_⟩,h3⟩
  obtain⟨e',mT,hk,hp,hd⟩:=h2 i e hi;exact⟨e',mT,hk,hp,Cq hd⟩
 |iw mid ip seen=>
  obtain⟨h1,h2,s,h3,h4⟩:=h;exact⟨aaJ h1 hn,by rw[hl];exact h2,s,by rw[hl,hb aC (by rintro⟨_,_,e⟩;cases e),bQ mid h1];exact h3,h4⟩
theorem eV.refl(w:World)(g:Nat):eV w w g:=⟨λ_ _=>rfl,rfl,rfl,rfl,rfl⟩
theorem aA.Mv(hM:aA ρ m w){g:Nat}(hg:Live ρ m (.aj g))(hT:eV w w' (ρ.aI (.aj g)).b)(hn:U'.n=m'.length)(hle:ρ.n<=U'.n)(bQ:∀id,id<ρ.n->U'.aI (.aj id)=ρ.aI (.aj id))(hS:U'.S=ρ.S)(src:gv->gv)(yS:∀k,Live U' m' k->Live ρ m (src k)/\(U'.aI k).b=(ρ.aI (src k)).b)(oX:∀k k',Live U' m' k->Live U' m' k'->src k=src k'->k=k')(df:(∀b,ρ.S b->w'.heap[b]? =w.heap[b]?)->∀id b,m'[id]? =some b->cK U' w' id b)(kq:(∀b,ρ.S b->w'.heap[b]? =w.heap[b]?)->∀id i j s e,dZ m' id i j s e->0<(U'.aI (.sub id i j)).cap->qK U' w' (U'.aI (.sub id i j)) s e):
  aA U' m' w'/\Ext ρ m w U' m' w':=by
 have Fu:∀b,ρ.S b->w'.heap[b]? =w.heap[b]? :=λb hb=>hT.heap b λe=>(hM.aO _ hg).2 (e▸hb)
 refine⟨⟨hn,λb hb=>by rw[hT.size];exact hM.S b (hS▸hb),λk hk=>?_,λk k' hk gh he=>?_,df Fu,kq Fu⟩,
  ⟨hle,bQ,λb hb=>by rw[hS];exact hb,λb hb=>.inl (hS▸hb),λk hk=>.inr ⟨src k,(yS k hk).1,(yS k hk).2.symm⟩,λb _ hk=>hT.heap b λe=>hk _ hg e.symm,by rw[hT.size];exact Yj _,hT.os,hT.tape,hT.output⟩⟩
 .rw[(yS k hk).2,hT.size,hS];exact hM.aO _ (yS k hk).1
 .rw[(yS k hk).2,(yS k' gh).2]at he;exact oX k k' hk gh (hM.inj _ _ (yS k hk).1 (yS k' gh).1 he)
theorem aA.aas(hM:aA ρ m w){id esz:Nat}{es:List MO}{so:Option (List Nat×Nat)}{i:Nat}{k:Value}{l:List (List Dt)}(hb:m[id]? =some (.mo esz es so))(hi:es[i]? =some ⟨k,.ei l⟩):
  ∃U',aA U' (m.set id (.mo esz (es.set i ⟨k,.row m.length⟩) so)++ [.row esz (l.map λds=>ds.map .ah)]) w/\Ext ρ m w U' (m.set id (.mo esz (es.set i ⟨k,.row m.length⟩) so)++ [.row esz (l.map λds=>ds.map .ah)]) w/\
   ∀v,bm ρ w (some (id,i,0)) (.ei esz l) v->bm U' w none (.row m.length esz 0 none) v:=by
 have p4:id<m.length:=(Ki.1 hb).1;have vI:i<es.length:=(Ki.1 hi).1;have hn:=hM.n;have CR:Live ρ m (.aj id):=⟨_,hb,aC,by rintro⟨_,_,e⟩;cases e⟩
 let L:=ρ.aI (.sub id i 0);let U':bJ:={n:=m.length+1,aI:=λk=>match k with| .aj a=>if a=m.length then⟨L.b,L.ar,l.length,L.cap⟩else ρ.aI (.aj a)|k=>ρ.aI k,S:=ρ.S}
 have dK:∀a,a<m.length->U'.aI (.aj a)=ρ.aI (.aj a):=λa ha=>by simp only[U'];rw[if_neg om]
 have m6:U'.aI (.aj m.length)=⟨L.b,L.ar,l.length,L.cap⟩:=by simp[U']
 have iO:∀a x y,U'.aI (.sub a x y)=ρ.aI (.sub a x y):=λ_ _ _=>rfl
 have kq:dZ m id i 0 esz l:=⟨_,hb,.mo hi⟩;obtain⟨bt,clock,eF,⟨dq,eH⟩,lZ⟩:=hM.bk id _ hb;obtain⟨e',mT,gh,HP,yT⟩:=eH i _ hi;obtain⟨i0,i1,i2,cJ,oW,P4,ad,hv,T9⟩:=yT;simp only[aaA,adp]at cJ;obtain⟨rfl,rfl,rfl⟩:=cJ;have oW:l.length<=L.cap:=oW;have P4:L.cap<=maxLen:=P4;have get:∀{a:Nat}{b:Bk},(m.set id (.mo esz (es.set i ⟨k,.row m.length⟩) so)++ [Bk.row esz (l.map λds=>ds.map .ah)])[a]? =some b->
   (a=id/\b= .mo esz (es.set i ⟨k,.row m.length⟩) so)\/(a≠id/\a<m.length/\m[a]? =some b)\/(a=m.length/\b= .row esz (l.map λds=>ds.map .ah)):=by
  intro a b h;rcases aag a m.length with aD|eG
  .rw[aad (by simpa using aD)]at h
   by_cases Mw:a=id
   .subst Mw;rw[TK aD]at h;exact .inl ⟨rfl,by simpa using h.symm⟩
   .rw[U9 (λe=>Mw e.symm)]at h
    exact .inr (.inl ⟨Mw,aD,h⟩)
  .have aD:=(Ki.1 h).1;simp at aD;have:a=m.length:=om;subst this;rw[Y5 aC]at h;simp at h;exact .inr (.inr ⟨rfl,h.symm⟩)
 have ew:∀{a x y s e},dZ (m.set id (.mo esz (es.set i ⟨k,.row m.length⟩) so)++ [Bk.row esz (l.map λds=>ds.map .ah)]) a x y s e->dZ m a x y s e/\¬(a=id/\x=i):=by
  rintro a x y s e ⟨b,fK,ho⟩;rcases get fK with⟨rfl,rfl⟩|⟨h1,h2,h3⟩|⟨rfl,rfl⟩
  .obtain⟨k2,hx,rfl,rfl⟩:=ho.Sz;by_cases Mx:i=x
   .subst Mx;rw[TK vI]at hx;cases hx
   .rw[U9 Mx]at hx;exact⟨⟨_,hb,.mo hx⟩,λh=>Mx h.2.symm⟩
  .exact⟨⟨b,h3,ho⟩,λh=>h1 h.1⟩
  .obtain⟨cs,hx,hy⟩:=ho.yL;rw[Tr]at hx;obtain⟨ds,_,rfl⟩:=aaB.1 hx;rw[Tr]at hy;obtain⟨d,_,hd⟩:=aaB.1 hy;cases hd
 let src:gv->gv:=λk=>match k with| .aj a=>if a=m.length then .sub id i 0 else .aj a|k=>k
 have SK:∀a,a<m.length->src (.aj a)= .aj a:=λa ha=>by simp only[src];rw[if_neg om]
 have Fv:src (.aj m.length)= .sub id i 0:=by simp[src]
 have main:=hM.Mv (U':=U') (m':=m.set id (.mo esz (es.set i ⟨k,.row m.length⟩) so)++ [.row esz (l.map λds=>ds.map .ah)]) CR (eV.refl w _) (by simp[U']) (by show ρ.n<=m.length+1;omega) (λa ha=>dK a om) rfl src
  (λq hq=>by
   cases q with
   |aj a=>
    obtain⟨b,fK,l5,bg⟩:=hq;rcases get fK with⟨rfl,rfl⟩|⟨h1,h2,h3⟩|⟨rfl,rfl⟩
    .rw[SK _ p4,dK _ p4];exact⟨CR,rfl⟩
    .rw[SK _ h2,dK _ h2];rw[dK _ h2]at bg;exact⟨⟨b,h3,l5,bg⟩,rfl⟩
    .rw[Fv,m6];have:=bg ⟨_,_,rfl⟩;rw[m6]at this;exact⟨⟨⟨_,_,kq⟩,this⟩,rfl⟩
   |sub a x y=>
    obtain⟨⟨s,e,ho⟩,bg⟩:=hq;exact⟨⟨⟨s,e,(ew ho).1⟩,bg⟩,rfl⟩)
  (λq q' hq Ua he=>by
   cases q with
   |aj a=>
    cases q' with
    |aj a'=>
     by_cases h1:a=m.length<;>by_cases h2:a'=m.length
     .rw[h1,h2]
     .have LD:a'<m.length:=by have:=Ua.eT;simp[gv.id]at this;omega
      rw[h1,Fv,SK _ LD]at he;cases he
     .have CS:a<m.length:=by have:=hq.eT;simp[gv.id]at this;omega
      rw[h2,Fv,SK _ CS]at he;cases he
     .have CS:a<m.length:=by have:=hq.eT;simp[gv.id]at this;omega
      have LD:a'<m.length:=by have:=Ua.eT;simp[gv.id]at this;omega
      rw[SK _ CS,SK _ LD]at he;exact he
    |sub a' x y=>
     by_cases h1:a=m.length
     .rw[h1,Fv]at he;have he:gv.sub id i 0= .sub a' x y:=he;cases he;obtain⟨⟨s,e,ho⟩,_⟩:=Ua;exact absurd ⟨rfl,rfl⟩ (ew ho).2
     .have CS:a<m.length:=by have:=hq.eT;simp[gv.id]at this;omega
      rw[SK _ CS]at he;cases he
   |sub a x y=>
    cases q' with
    |aj a'=>
     by_cases h1:a'=m.length
     .rw[h1,Fv]at he;have he:gv.sub a x y= .sub id i 0:=he;cases he;obtain⟨⟨s,e,ho⟩,_⟩:=hq;exact absurd ⟨rfl,rfl⟩ (ew ho).2
     .have CS:a'<m.length:=by have:=Ua.eT;simp[gv.id]at this;omega
      rw[SK _ CS]at he;cases he
    |sub a' x' y'=>exact he)
  (λFu a b fK=>by
   rcases get fK with⟨rfl,rfl⟩|⟨h1,h2,h3⟩|⟨rfl,rfl⟩
   .refine⟨bt,clock,⟨by rw[dK _ p4];exact eF.1,eF.2⟩,⟨by simpa using dq,λx e hx=>?_⟩,lZ⟩
    rw[abb]at hx;by_cases Mx:i=x
    .subst Mx;rw[if_pos rfl,if_pos vI]at hx;cases hx;refine⟨e',mT,gh,HP,?_⟩;rw[hv];simp only[MO.cc,bm];rw[m6];exact⟨by show m.length<m.length+1;omega,aC,aC,by simpa using oW,P4,ad,by simp[L],λhc=>by have:=T9 hc;simp only[adI,ac8];exact this⟩
    .rw[if_neg Mx]at hx;obtain⟨e2,g1,g2,g3,g4⟩:=eH x e hx;exact⟨e2,g1,g2,g3,g4.m7 (by show ρ.n<=m.length+1;omega) (λa ha=>dK a om) (λa x y h=>by cases h;rfl) (λ_ h=>h) (λ_ _=>rfl)⟩
   .exact(hM.bk a b h3).m7 om (by show ρ.n<=m.length+1;omega) (λa ha=>dK a om) (λ_ _=>rfl) (λ_ h=>h) (λ_ _=>rfl) (λ_ _=>rfl)
   .simp only[cK,m6];have dN:∀(hc:0<L.cap),qK ρ w L esz l:=λhc=>hM.ei id i 0 esz l kq hc
    refine⟨aC,oW,P4,λcs eL=>?_,λhc=>?_⟩
    .obtain⟨ds,zy,rfl⟩:=aaz.1 eL;obtain⟨cur,h1,h2,h3,h4⟩:=dN (aaJ (List.length_pos_of_mem zy) oW);rw[N7];exact h3 ds zy
    .obtain⟨cur,h1,h2,h3,h4⟩:=dN hc;refine⟨cur,h1,h2,λx cs y c hx hy=>?_⟩
     rw[Tr]at hx;obtain⟨ds,zy,rfl⟩:=aaB.1 hx;rw[Tr]at hy;obtain⟨d,hd,rfl⟩:=aaB.1 hy;exact h4 x ds y d zy hd)
  (λFu a x y s e ho hc=>by
   exact(hM.ei a x y s e (ew ho).1 hc).cn (ρ:=ρ) (U':=U') ⟨by show ρ.n<=m.length+1;omega,λq hq=>by
    cases q with
    |aj a=>exact dK a (by simp only[gv.id]at hq;omega)
    |sub a x y=>rfl,λ_ h=>h,λ_ _=>rfl⟩ rfl)
 refine⟨U',main.1,main.2,λv vJ=>?_⟩
 obtain⟨j0,j1,j2,cJ,q1,q2,a2,vJ,aat⟩:=vJ;simp only[aaA,adp]at cJ;obtain⟨rfl,rfl,rfl⟩:=cJ;simp only[bm];rw[m6];exact⟨by show m.length<m.length+1;omega,aC,aC,by simpa using oW,P4,a2,by rw[vJ];simp[L],λhc=>by have:=aat hc;simp only[adI,ac8];exact this⟩
theorem zC{α:Type}(l:List α)(lo:Nat)(hi:Option Nat)(i:Nat)(x:α)(h:(b7 l lo hi)[i]? =some x):l[lo+i]? =some x:=by
 rw[jS]at h;rw[abi]at h;cases hi with
 |none=>exact h
 |some k=>
  simp only at h;rw[aaS]at h;split at h
  .exact h
  .cases h
theorem Jn{α:Type}(l:List α)(lo:Nat)(hi:Option Nat)(h1:lo<=hi.getD l.length)(h2:hi.getD l.length<=l.length):(b7 l lo hi).length=hi.getD l.length-lo:=by
 rw[jS];cases hi with
 |none=>simp
 |some k=>simp at h1 h2|-;omega
theorem aA.rest(hM:aA ρ m w){id esz:Nat}{es bt:List MO}(hb:m[id]? =some (.mo esz es none)){n lo:Nat}{hi:Option Nat}{ds:List (List Dt)}(SL:m[n]? =some (.row esz (ds.map λd=>d.map .ah))){j:Nat}{k v:Value}(hj:bt[j]? =some ⟨k,.ei (b7 ds lo hi)⟩)(EP:cu k=true)(dy:∀x,x≠j->bt[x]? =es[x]?)(hv:bm ρ w none (.row n esz lo hi) v){VT oK:Array MapEntry}{c1 c2:Nat}(VU:w.heap[(ρ.aI (.aj id)).b]? =some (.map VT c1))(hT:eV w w' (ρ.aI (.aj id)).b)(hh2:w'.heap[(ρ.aI (.aj id)).b]? =some (.map oK c2))(qq:ic oK c2)(dq:oK.size=bt.length)(vF:∀x,x≠j->oK[x]? =VT[x]?)(hej:∃e,oK[j]? =some e/\e.key=k/\e.val=v):
  ∃U',aA U' ((m.set n .aU).set id (.mo esz bt none)) w'/\Ext ρ m w U' ((m.set n .aU).set id (.mo esz bt none)) w':=by
 have p4:id<m.length:=(Ki.1 hb).1;have jT:n<m.length:=(Ki.1 SL).1;have WX:n≠id:=λe=>by rw[e,hb]at SL;cases SL
 have hn:=hM.n;have CR:Live ρ m (.aj id):=⟨_,hb,aC,by rintro⟨_,_,e⟩;cases e⟩
 let R:=ρ.aI (.aj n);let U':bJ:={n:=ρ.n,aI:=λq=>match q with| .aj a=>ρ.aI (.aj a)| .sub a x y=>if a=id/\x=j/\y=0 then⟨R.b,R.ar+lo*esz,0,R.cap-lo⟩else ρ.aI (.sub a x y),S:=ρ.S}
 have dK:∀a,U'.aI (.aj a)=ρ.aI (.aj a):=λ_=>rfl
 have m6:U'.aI (.sub id j 0)=⟨R.b,R.ar+lo*esz,0,R.cap-lo⟩:=by simp[U']
 have iO:∀a x y,¬(a=id/\x=j/\y=0)->U'.aI (.sub a x y)=ρ.aI (.sub a x y):=λa x y h=>by simp only[U'];rw[if_neg h]
 obtain⟨es0,clock,⟨eF,_⟩,⟨My,eH⟩,_⟩:=hM.bk id _ hb;rw[VU]at eF;cases eF;obtain⟨aeG,d1,d2,d3,d4,ad,hvv,T9⟩:=hv;obtain⟨r2,r3,r4,r5,b8⟩:=hM.bk n _ SL;have zy:ds.length=R.len:=by have:(ds.map λd=>d.map CC.ah).length=R.len:=r2;simpa using this
 have yU:(b7 ds lo hi).length=hi.getD R.len-lo:=by rw[<-zy];exact Jn ds lo hi (by rw[zy];exact d1) (by rw[zy];exact d2)
 have get:∀{a:Nat}{b:Bk},((m.set n .aU).set id (.mo esz bt none))[a]? =some b->(a=id/\b= .mo esz bt none)\/(a=n/\b= .aU)\/(a≠id/\a≠n/\m[a]? =some b):=by
  intro a b h;by_cases Mw:a=id
  .subst Mw;rw[TK (by simpa using p4)]at h
   exact .inl ⟨rfl,by simpa using h.symm⟩
  .rw[U9 (λe=>Mw e.symm)]at h
   by_cases EQ:a=n
   .subst EQ;rw[TK jT]at h;exact .inr (.inl ⟨rfl,by simpa using h.symm⟩)
   .rw[U9 (λe=>EQ e.symm)]at h
    exact .inr (.inr ⟨Mw,EQ,h⟩)
 have ew:∀{a x y s e},dZ ((m.set n .aU).set id (.mo esz bt none)) a x y s e->(a=id/\x=j/\y=0/\s=esz/\e=b7 ds lo hi)\/(¬(a=id/\x=j/\y=0)/\dZ m a x y s e):=by
  rintro a x y s e ⟨b,fK,ho⟩;rcases get fK with⟨rfl,rfl⟩|⟨_,rfl⟩|⟨h1,h2,h3⟩
  .obtain⟨k2,hx,rfl,rfl⟩:=ho.Sz;by_cases SM:x=j
   .subst SM;rw[hj]at hx;simp only[aaA,MO.mk.injEq,MV.ei.injEq]at hx;exact .inl ⟨rfl,rfl,rfl,rfl,hx.2.symm⟩
   .rw[dy x SM]at hx;exact .inr ⟨λh=>SM h.2.1,_,hb,.mo hx⟩
  .cases ho
  .exact .inr ⟨λh=>h1 h.1,b,h3,ho⟩
 let src:gv->gv:=λq=>match q with| .aj a=>.aj a| .sub a x y=>if a=id/\x=j/\y=0 then .aj n else .sub a x y
 have Fv:src (.sub id j 0)= .aj n:=by simp[src]
 have VV:∀a x y,¬(a=id/\x=j/\y=0)->src (.sub a x y)= .sub a x y:=λa x y h=>by simp only[src];rw[if_neg h]
 have Ub:∀q,Live U' ((m.set n .aU).set id (.mo esz bt none)) q->q≠.aj n:=by
  rintro q hq rfl;obtain⟨b,fK,l5,_⟩:=hq;rcases get fK with⟨h,_⟩|⟨_,rfl⟩|⟨_,h,_⟩
  .exact WX h
  .exact l5 rfl
  .exact h rfl
 have main:=hM.Mv (U':=U') (m':=(m.set n .aU).set id (.mo esz bt none)) CR hT (by simp[U',hn]) (Yj _) (λa _=>rfl) rfl src
  (λq hq=>by
   cases q with
   |aj a=>
    obtain⟨b,fK,l5,bg⟩:=hq;rcases get fK with⟨rfl,rfl⟩|⟨_,rfl⟩|⟨h1,h2,h3⟩
    .exact⟨CR,rfl⟩
    .exact absurd rfl l5
    .exact⟨⟨b,h3,l5,bg⟩,rfl⟩
   |sub a x y=>
    obtain⟨⟨s,e,ho⟩,bg⟩:=hq;rcases ew ho with⟨rfl,rfl,rfl,rfl,rfl⟩|⟨h1,h2⟩
    .rw[m6]at bg;rw[Fv,m6];have bg:0<R.cap-lo:=bg;exact⟨⟨_,SL,aC,λ_=>by show 0<R.cap;omega⟩,rfl⟩
    .rw[iO _ _ _ h1]at bg;rw[VV _ _ _ h1,iO _ _ _ h1];exact⟨⟨⟨s,e,h2⟩,bg⟩,rfl⟩)
  (λq q' hq Ua he=>by
   have sub:∀a x y a',Live U' ((m.set n .aU).set id (.mo esz bt none)) (.aj a')->src (.sub a x y)= .aj a'->False:=by
    intro a x y a' ha he;by_cases h:a=id/\x=j/\y=0
    .obtain⟨rfl,rfl,rfl⟩:=h;rw[Fv]at he;cases he;exact Ub _ ha rfl
    .rw[VV _ _ _ h]at he;cases he
   cases q with
   |aj a=>
    cases q' with
    |aj a'=>exact he
    |sub a' x y=>exact(sub _ _ _ _ hq he.symm).elim
   |sub a x y=>
    cases q' with
    |aj a'=>exact(sub _ _ _ _ Ua he).elim
    |sub a' x' y'=>
     by_cases h:a=id/\x=j/\y=0<;>by_cases h':a'=id/\x'=j/\y'=0
     .obtain⟨rfl,rfl,rfl⟩:=h;obtain⟨rfl,rfl,rfl⟩:=h';rfl
     .obtain⟨rfl,rfl,rfl⟩:=h;rw[Fv,VV _ _ _ h']at he;cases he
     .obtain⟨rfl,rfl,rfl⟩:=h';rw[Fv,VV _ _ _ h]at he;cases he
     .rw[VV _ _ _ h,VV _ _ _ h']at he;exact he)
  (λFu a b fK=>by
   rcases get fK with⟨rfl,rfl⟩|⟨_,rfl⟩|⟨h1,h2,h3⟩
   .refine⟨oK,c2,⟨hh2,qq⟩,⟨dq,λx e hx=>?_⟩,aC⟩
    by_cases SM:x=j
    .subst SM;rw[hj]at hx;cases hx;obtain⟨e2,kK,oZ,vJ⟩:=hej;refine⟨e2,kK,oZ,EP,a,x,0,rfl,?_⟩;rw[m6,vJ];exact⟨by show _<=R.cap-lo;have:hi.getD R.len<=R.len:=d2;have:R.len<=R.cap:=d3;omega,by show R.cap-lo<=maxLen;have:R.cap<=maxLen:=d4;omega,ad,by rw[hvv,yU],λhc=>T9 (by show lo<R.cap;have hc:0<R.cap-lo:=hc;omega)⟩
    .rw[dy x SM]at hx;obtain⟨e2,g1,g2,g3,g4⟩:=eH x e hx;exact⟨e2,by rw[vF x SM];exact g1,g2,g3,g4.m7 (ρ:=ρ) (U':=U') (show ρ.n<=ρ.n from Yj _) (λ_ _=>rfl) (λa x' y h=>by cases h;exact iO _ _ _ λh=>SM h.2.1) (λ_ h=>h) Fu⟩
   .trivial
   .refine(hM.bk a b h3).m7 (hM.eT h3) (Yj _) (λ_ _=>rfl) (λx y=>iO _ _ _ λh=>h1 h.1) (λ_ h=>h) Fu λl5 bg=>hT.heap _ λe=>?_
    have:=hM.inj (.aj a) (.aj id) ⟨b,h3,l5,bg⟩ CR e;cases this;exact h1 rfl)
  (λFu a x y s e ho hc=>by
   rcases ew ho with⟨rfl,rfl,rfl,rfl,rfl⟩|⟨h1,h2⟩
   .rw[m6]at hc|-;have hc:0<R.cap-lo:=hc;have vG:0<R.cap:=om;obtain⟨cur,q1,q2,q3⟩:=b8 vG;have Uc:Live ρ m (.aj n):=⟨_,SL,aC,λ_=>vG⟩
    refine⟨cur,q1.dH (hT.heap _ λe=>?_),?_,λcs eL=>?_,λx2 cs y2 d hx hy=>?_⟩
    .have:=hM.inj _ _ Uc CR e;cases this;exact WX rfl
    .have e1:R.cap*s=lo*s+(R.cap-lo)*s:=by rw[<-abk];congr 1;omega
     have q2:R.ar+R.cap*s<=cur.size:=q2;show R.ar+lo*s+(R.cap-lo)*s<=cur.size;omega
    .obtain⟨x2,VW⟩:=aab eL;have hg:=zC ds lo hi x2 cs VW;have:=r5 (cs.map .ah) (aaz.2 ⟨cs,Tu hg,rfl⟩);simpa using this
    .have hg:=zC ds lo hi x2 cs hx;obtain⟨u,hu,hd⟩:=q3 (lo+x2) (cs.map .ah) y2 (.ah d) (by rw[Tr,hg];rfl) (by rw[Tr,hy];rfl)
     refine⟨u,?_,dj.mono (S:=ρ.S) (λ_ h=>h) Fu hd⟩
     rw[<-hu];congr 1;show R.ar+lo*s+x2*s+y2=R.ar+(lo+x2)*s+y2;rw[abk];omega
   .rw[iO _ _ _ h1]at hc|-;obtain⟨cur,q1,q2,q3,q4⟩:=hM.ei a x y s e h2 hc;refine⟨cur,q1.dH (hT.heap _ λe=>?_),q2,q3,λx2 cs y2 d hx hy=>?_⟩
    .have:=hM.inj (.sub a x y) _ ⟨⟨_,_,h2⟩,hc⟩ CR e;cases this
    .obtain⟨u,hu,hd⟩:=q4 x2 cs y2 d hx hy;exact⟨u,hu,dj.mono (S:=ρ.S) (λ_ h=>h) Fu hd⟩)
 exact⟨U',main.1,main.2⟩
theorem aA.aaw(hM:aA ρ m w){id esz:Nat}{es:List MO}{so SN:Option (List Nat×Nat)}(hb:m[id]? =some (.mo esz es so)){i:Nat}(vI:i<es.length){VT oK:Array MapEntry}{c1 c2:Nat}(VU:w.heap[(ρ.aI (.aj id)).b]? =some (.map VT c1))(hT:eV w w' (ρ.aI (.aj id)).b)(hh2:w'.heap[(ρ.aI (.aj id)).b]? =some (.map oK c2))(qq:ic oK c2)(vF:oK.toList=VT.toList.eraseIdx i)(hso:∀st ip,SN=some (st,ip)->c2=ip/\oK.toList.map (·.born)=st):
  ∃U',aA U' (m.set id (.mo esz (es.eraseIdx i) SN)) w'/\Ext ρ m w U' (m.set id (.mo esz (es.eraseIdx i) SN)) w':=by
 have p4:id<m.length:=(Ki.1 hb).1;have hn:=hM.n;have CR:Live ρ m (.aj id):=⟨_,hb,aC,by rintro⟨_,_,e⟩;cases e⟩
 let up:Nat->Nat:=λx=>if x<i then x else x+1
 have LG:∀x,(es.eraseIdx i)[x]? =es[up x]? :=λx=>by rw[List.getElem?_eraseIdx];simp only[up];split<;>rfl
 have aax:∀x y,up x=up y->x=y:=λx y h=>by simp only[up]at h;split at h<;>split at h<;>omega
 let U':bJ:={n:=ρ.n,aI:=λq=>match q with| .aj a=>ρ.aI (.aj a)| .sub a x y=>if a=id then ρ.aI (.sub id (up x) y)else ρ.aI (.sub a x y),S:=ρ.S}
 have HQ:∀x y,U'.aI (.sub id x y)=ρ.aI (.sub id (up x) y):=λx y=>by simp[U']
 have iO:∀a x y,a≠id->U'.aI (.sub a x y)=ρ.aI (.sub a x y):=λa x y h=>by simp only[U'];rw[if_neg h]
 obtain⟨es0,clock,⟨eF,_⟩,⟨My,eH⟩,_⟩:=hM.bk id _ hb;rw[VU]at eF;cases eF;have get:∀{a:Nat}{b:Bk},(m.set id (.mo esz (es.eraseIdx i) SN))[a]? =some b->(a=id/\b= .mo esz (es.eraseIdx i) SN)\/(a≠id/\m[a]? =some b):=by
  intro a b h;by_cases Mw:a=id
  .subst Mw;rw[TK p4]at h;exact .inl ⟨rfl,by simpa using h.symm⟩
  .rw[U9 (λe=>Mw e.symm)]at h
   exact .inr ⟨Mw,h⟩
 let src:gv->gv:=λq=>match q with| .aj a=>.aj a| .sub a x y=>if a=id then .sub id (up x) y else .sub a x y
 have LH:∀x y,src (.sub id x y)= .sub id (up x) y:=λx y=>by simp[src]
 have ER:∀a x y,a≠id->src (.sub a x y)= .sub a x y:=λa x y h=>by simp only[src];rw[if_neg h]
 have ew:∀{a x y s e},dZ (m.set id (.mo esz (es.eraseIdx i) SN)) a x y s e->(a=id/\dZ m id (up x) y s e)\/(a≠id/\dZ m a x y s e):=by
  rintro a x y s e ⟨b,fK,ho⟩;rcases get fK with⟨rfl,rfl⟩|⟨h1,h3⟩
  .obtain⟨k2,hx,rfl,rfl⟩:=ho.Sz;rw[LG]at hx;exact .inl ⟨rfl,_,hb,.mo hx⟩
  .exact .inr ⟨h1,b,h3,ho⟩
 have main:=hM.Mv (U':=U') (m':=m.set id (.mo esz (es.eraseIdx i) SN)) CR hT (by simp[U',hn]) (Yj _) (λa _=>rfl) rfl src
  (λq hq=>by
   cases q with
   |aj a=>
    obtain⟨b,fK,l5,bg⟩:=hq;rcases get fK with⟨rfl,rfl⟩|⟨h1,h3⟩
    .exact⟨CR,rfl⟩
    .exact⟨⟨b,h3,l5,bg⟩,rfl⟩
   |sub a x y=>
    obtain⟨⟨s,e,ho⟩,bg⟩:=hq;rcases ew ho with⟨rfl,h2⟩|⟨h1,h2⟩
    .rw[HQ]at bg;rw[LH,HQ];exact⟨⟨⟨s,e,h2⟩,bg⟩,rfl⟩
    .rw[iO _ _ _ h1]at bg;rw[ER _ _ _ h1,iO _ _ _ h1];exact⟨⟨⟨s,e,h2⟩,bg⟩,rfl⟩)
  (λq q' hq Ua he=>by
   cases q with
   |aj a=>
    cases q' with
    |aj a'=>exact he
    |sub a' x y=>
     by_cases h:a'=id
     .subst h;rw[LH]at he;cases he
     .rw[ER _ _ _ h]at he;cases he
   |sub a x y=>
    cases q' with
    |aj a'=>
     by_cases h:a=id
     .subst h;rw[LH]at he;cases he
     .rw[ER _ _ _ h]at he;cases he
    |sub a' x' y'=>
     by_cases h:a=id<;>by_cases h':a'=id
     .subst h;subst h';rw[LH,LH]at he;simp only[gv.sub.injEq,true_and]at he;rw[aax _ _ he.1,he.2]
     .subst h;rw[LH,ER _ _ _ h']at he;simp only[gv.sub.injEq]at he;exact absurd he.1.symm h'
     .subst h';rw[LH,ER _ _ _ h]at he;simp only[gv.sub.injEq]at he;exact absurd he.1 h
     .rw[ER _ _ _ h,ER _ _ _ h']at he;exact he)
  (λFu a b fK=>by
   rcases get fK with⟨rfl,rfl⟩|⟨h1,h3⟩
   .refine⟨oK,c2,⟨hh2,qq⟩,⟨?_,λx e hx=>?_⟩,hso⟩
    .rw[<-Array.length_toList,vF,List.length_eraseIdx_of_lt (by simpa[My]using vI),List.length_eraseIdx_of_lt vI,abY,My]
    .rw[LG]at hx;obtain⟨e2,g1,g2,g3,g4⟩:=eH _ e hx;refine⟨e2,?_,g2,g3,?_⟩
     .have g1':VT.toList[up x]? =some e2:=by rw[abz];exact g1
      rw[<-abz,vF,List.getElem?_eraseIdx];by_cases Mx:x<i
      .have:up x=x:=by simp[up,Mx]
       rw[if_pos Mx,<-this];exact g1'
      .have:up x=x+1:=by simp[up,Mx]
       rw[if_neg Mx,<-this];exact g1'
     .obtain⟨kk,vv⟩:=e;cases vv with
      |ei l=>
       obtain⟨i0,i1,i2,cJ,q⟩:=g4;simp only[aaA,adp]at cJ;obtain⟨rfl,rfl,rfl⟩:=cJ;refine⟨a,x,0,rfl,?_⟩;rw[HQ];exact q
      |row n=>exact bm.Qx (pos:=none) (by intro s e h;cases h) (bm.m7 (ρ:=ρ) (U':=U') (pos:=none) (show ρ.n<=ρ.n from Yj _) (λ_ _=>rfl) aC (λ_ h=>h) Fu (bm.Qx (pos':=none) (by intro s e h;cases h) g4))
   .refine(hM.bk a b h3).m7 (hM.eT h3) (Yj _) (λ_ _=>rfl) (λx y=>iO _ _ _ h1) (λ_ h=>h) Fu λl5 bg=>hT.heap _ λe=>?_
    have:=hM.inj (.aj a) (.aj id) ⟨b,h3,l5,bg⟩ CR e;cases this;exact h1 rfl)
  (λFu a x y s e ho hc=>by
   have key:∀a x y,dZ m a x y s e->0<(ρ.aI (.sub a x y)).cap->qK U' w' (ρ.aI (.sub a x y)) s e:=by
    intro a x y h2 hc;obtain⟨cur,q1,q2,q3,q4⟩:=hM.ei a x y s e h2 hc;refine⟨cur,q1.dH (hT.heap _ λe=>?_),q2,q3,λx2 cs y2 d hx hy=>?_⟩
    .have:=hM.inj (.sub a x y) _ ⟨⟨_,_,h2⟩,hc⟩ CR e;cases this
    .obtain⟨u,hu,hd⟩:=q4 x2 cs y2 d hx hy;exact⟨u,hu,dj.mono (S:=ρ.S) (λ_ h=>h) Fu hd⟩
   rcases ew ho with⟨rfl,h2⟩|⟨h1,h2⟩
   .rw[HQ]at hc|-;exact key _ _ _ h2 hc
   .rw[iO _ _ _ h1]at hc|-;exact key _ _ _ h2 hc)
 exact⟨U',main.1,main.2⟩
end
end Go.AM
