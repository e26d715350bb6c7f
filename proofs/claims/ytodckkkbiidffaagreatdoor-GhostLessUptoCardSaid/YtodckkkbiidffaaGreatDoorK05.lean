/- Part 5 of 16. -/
import Derived.Test.YtodckkkbiidffaaGreatDoorK02
import Derived.Test.YtodckkkbiidffaaGreatDoorK03
import Derived.Laws.MakeOwn
import Derived.MapKept
import Derived.Maps.RangeRun
set_option linter.unusedVariables false
set_option linter.unusedSimpArgs false
set_option maxRecDepth 100000
set_option maxHeartbeats 0
namespace Go.AM
section
variable {P:Program} {ρ U':bI} {m m':Mem} {w w':World}
theorem bj.Qn{pos pos':Option (Nat×Nat×Nat)}{c:CC}{v:Value}(hc:∀s e,c≠.ei s e)(h:bj ρ w pos c v):bj ρ w pos' c v:=by
 cases c<;>simp only[bj]at h|-
 case ei=>exact absurd rfl (hc _ _)
 all_goals exact h
theorem bj.m7{pos:Option (Nat×Nat×Nat)}(hn:ρ.n<=U'.n)(bO:∀id,id<ρ.n->U'.aI (.aj id)=ρ.aI (.aj id))(iN:∀id i j,pos=some (id,i,j)->U'.aI (.sub id i j)=ρ.aI (.sub id i j))(hS:∀b,ρ.S b->U'.S b)(eF:∀b,ρ.S b->w'.heap[b]? =w.heap[b]?){c:CC}{v:Value}(h:bj ρ w pos c v):bj U' w' pos c v:=by
 let ρ1:bI:={n:=U'.n,aI:=λk=>match k with| .aj id=>U'.aI (.aj id)|k=>ρ.aI k,S:=U'.S}
 have g:iL ρ w ρ1 w':=⟨hn,λk hk=>by
  cases k with
  |aj id=>exact bO id hk
  |sub id i j=>rfl,hS,eF⟩
 by_cases hc:∃s e,c= .ei s e
 .obtain⟨esz,elems,rfl⟩:=hc;obtain⟨id,i,j,cI,hr⟩:=h;refine⟨id,i,j,cI,?_⟩;rw[iN id i j cI];exact hr
 .have hc:∀s e,c≠.ei s e:=λs e h=>hc ⟨s,e,h⟩
  have h1:=bj.Qn (pos':=pos) hc (bj.cm g aE (bj.Qn (pos':=none) hc h));cases c<;>simp only[bj]at h1|-
  case ei=>exact absurd rfl (hc _ _)
  all_goals exact h1
theorem df.m7(hn:ρ.n<=U'.n)(bO:∀id,id<ρ.n->U'.aI (.aj id)=ρ.aI (.aj id))(hS:∀b,ρ.S b->U'.S b)(eF:∀b,ρ.S b->w'.heap[b]? =w.heap[b]?){r:RV}{v:Value}(h:df ρ w r v):df U' w' r v:=by
 cases r with
 |one c=>exact bj.m7 hn bO aE hS eF h
 |agg cs=>
  obtain⟨vs,hv,hl,hc⟩:=h;exact⟨vs,hv,hl,λi c hi=>let⟨u,hu,hd⟩:=hc i c hi;⟨u,hu,hd.m7 hn bO aE hS eF⟩⟩
theorem cJ.m7{id:Nat}{bk:Bk}(hid:id<ρ.n)(hn:ρ.n<=U'.n)(bO:∀id,id<ρ.n->U'.aI (.aj id)=ρ.aI (.aj id))(iN:∀i j,U'.aI (.sub id i j)=ρ.aI (.sub id i j))(hS:∀b,ρ.S b->U'.S b)(eF:∀b,ρ.S b->w'.heap[b]? =w.heap[b]?)(hb:bk≠.aS->((∃esz elems,bk= .row esz elems)->0<(ρ.aI (.aj id)).cap)->w'.heap[(ρ.aI (.aj id)).b]? =w.heap[(ρ.aI (.aj id)).b]?)(h:cJ ρ w id bk):cJ U' w' id bk:=by
 have hl:U'.aI (.aj id)=ρ.aI (.aj id):=bO id hid;have Mt:∀{c v},bj ρ w none c v->bj U' w' none c v:=λh=>bj.m7 hn bO aE hS eF h
 have CA:∀{i j c v},bj ρ w (some (id,i,j)) c v->bj U' w' (some (id,i,j)) c v:=λh=>bj.m7 hn bO (λ_ _ _ e=>by cases e;exact iN _ _) hS eF h
 cases bk with
 |aS=>trivial
 |var cs=>
  obtain⟨cur,hc,hd⟩:=h;refine⟨cur,by rw[hl];exact hc.dC (hb aE (by rintro⟨_,_,e⟩;cases e)),λj c hj=>?_⟩
  obtain⟨u,hu,cy⟩:=hd j c hj;exact⟨u,by rw[hl];exact hu,Mt cy⟩
 |row esz elems=>
  obtain⟨h2,h3,h4,h5,bX⟩:=h;refine⟨by rw[hl];exact h2,by rw[hl];exact h3,by rw[hl];exact h4,h5,λcI=>?_⟩
  rw[hl]at cI;obtain⟨cur,hc,h1,h6⟩:=bX cI;refine⟨cur,by rw[hl];exact hc.dC (hb aE λ_=>cI),by rw[hl];exact h1,λi cs j c hi hj=>?_⟩
  obtain⟨u,hu,cy⟩:=h6 i cs j c hi hj;exact⟨u,by rw[hl];exact hu,CA cy⟩
 |mp es=>
  obtain⟨bq,clock,hc,h1,h2⟩:=h;refine⟨bq,clock,⟨by rw[hl,hb aE (by rintro⟨_,_,e⟩;cases e)];exact hc.1,hc.2⟩,h1,λi e hi=>?_⟩
  obtain⟨e',mT,hk,hd⟩:=h2 i e hi;exact⟨e',mT,hk,hd.m7 hn bO hS eF⟩
 |it cur left=>
  obtain⟨mb,seen,ck,bq,h2,h3,h4,h5,h6⟩:=h;exact⟨mb,seen,ck,bq,by rw[hl,hb aE (by rintro⟨_,_,e⟩;cases e)];exact h2,by rw[hl];exact h3,hS _ h4,by rw[eF mb h4];exact h5,h6⟩
 |mo esz es so=>
  obtain⟨bq,clock,hc,⟨h1,h2⟩,h3⟩:=h;refine⟨bq,clock,⟨by rw[hl,hb aE (by rintro⟨_,_,e⟩;cases e)];exact hc.1,hc.2⟩,⟨h1,λi e hi=>?_⟩,h3⟩
  obtain⟨e',mT,hk,hp,hd⟩:=h2 i e hi;exact⟨e',mT,hk,hp,CA hd⟩
 |iw mid ip seen=>
  obtain⟨h1,h2,s,h3,h4⟩:=h;exact⟨aaI h1 hn,by rw[hl];exact h2,s,by rw[hl,hb aE (by rintro⟨_,_,e⟩;cases e),bO mid h1];exact h3,h4⟩
theorem eV.refl(w:World)(g:Nat):eV w w g:=⟨λ_ _=>rfl,rfl,rfl,rfl,rfl⟩
theorem ay.Mu(hM:ay ρ m w){g:Nat}(hg:Live ρ m (.aj g))(hT:eV w w' (ρ.aI (.aj g)).b)(hn:U'.n=m'.length)(hle:ρ.n<=U'.n)(bO:∀id,id<ρ.n->U'.aI (.aj id)=ρ.aI (.aj id))(hS:U'.S=ρ.S)(src:gw->gw)(yW:∀k,Live U' m' k->Live ρ m (src k)/\(U'.aI k).b=(ρ.aI (src k)).b)(oU:∀k k',Live U' m' k->Live U' m' k'->src k=src k'->k=k')(db:(∀b,ρ.S b->w'.heap[b]? =w.heap[b]?)->∀id b,m'[id]? =some b->cJ U' w' id b)(kz:(∀b,ρ.S b->w'.heap[b]? =w.heap[b]?)->∀id i j s e,dY m' id i j s e->0<(U'.aI (.sub id i j)).cap->qQ U' w' (U'.aI (.sub id i j)) s e):
  ay U' m' w'/\Ext ρ m w U' m' w':=by
 have Fs:∀b,ρ.S b->w'.heap[b]? =w.heap[b]? :=λb hb=>hT.heap b λe=>(hM.aL _ hg).2 (e▸hb)
 refine⟨⟨hn,λb hb=>by rw[hT.size];exact hM.S b (hS▸hb),λk hk=>?_,λk k' hk fZ he=>?_,db Fs,kz Fs⟩,
  ⟨hle,bO,λb hb=>by rw[hS];exact hb,λb hb=>.inl (hS▸hb),λk hk=>.inr ⟨src k,(yW k hk).1,(yW k hk).2.symm⟩,λb _ hk=>hT.heap b λe=>hk _ hg e.symm,by rw[hT.size];exact Ym _,hT.os,hT.tape,hT.output⟩⟩
 .rw[(yW k hk).2,hT.size,hS];exact hM.aL _ (yW k hk).1
 .rw[(yW k hk).2,(yW k' fZ).2]at he;exact oU k k' hk fZ (hM.inj _ _ (yW k hk).1 (yW k' fZ).1 he)
theorem ay.aax(hM:ay ρ m w){id esz:Nat}{es:List MO}{so:Option (List Nat×Nat)}{i:Nat}{k:Value}{l:List (List Dt)}(hb:m[id]? =some (.mo esz es so))(hi:es[i]? =some ⟨k,.ei l⟩):
  ∃U',ay U' (m.set id (.mo esz (es.set i ⟨k,.row m.length⟩) so)++ [.row esz (l.map λds=>ds.map .ah)]) w/\Ext ρ m w U' (m.set id (.mo esz (es.set i ⟨k,.row m.length⟩) so)++ [.row esz (l.map λds=>ds.map .ah)]) w/\
   ∀v,bj ρ w (some (id,i,0)) (.ei esz l) v->bj U' w none (.row m.length esz 0 none) v:=by
 have p8:id<m.length:=(Km.1 hb).1;have yU:i<es.length:=(Km.1 hi).1;have hn:=hM.n;have C1:Live ρ m (.aj id):=⟨_,hb,aE,by rintro⟨_,_,e⟩;cases e⟩
 let L:=ρ.aI (.sub id i 0);let U':bI:={n:=m.length+1,aI:=λk=>match k with| .aj a=>if a=m.length then⟨L.b,L.aq,l.length,L.cap⟩else ρ.aI (.aj a)|k=>ρ.aI k,S:=ρ.S}
 have dI:∀a,a<m.length->U'.aI (.aj a)=ρ.aI (.aj a):=λa ha=>by simp only[U'];rw[if_neg om]
 have m6:U'.aI (.aj m.length)=⟨L.b,L.aq,l.length,L.cap⟩:=by simp[U']
 have iN:∀a x y,U'.aI (.sub a x y)=ρ.aI (.sub a x y):=λ_ _ _=>rfl
 have kz:dY m id i 0 esz l:=⟨_,hb,.mo hi⟩;obtain⟨bq,clock,eF,⟨dk,eG⟩,lV⟩:=hM.bk id _ hb;obtain⟨e',mT,fZ,HP,yX⟩:=eG i _ hi;obtain⟨i0,i1,i2,cI,oT,PV,ad,hv,T8⟩:=yX;simp only[aav,adq]at cI;obtain⟨rfl,rfl,rfl⟩:=cI;have oT:l.length<=L.cap:=oT;have PV:L.cap<=maxLen:=PV;have get:∀{a:Nat}{b:Bk},(m.set id (.mo esz (es.set i ⟨k,.row m.length⟩) so)++ [Bk.row esz (l.map λds=>ds.map .ah)])[a]? =some b->
   (a=id/\b= .mo esz (es.set i ⟨k,.row m.length⟩) so)\/(a≠id/\a<m.length/\m[a]? =some b)\/(a=m.length/\b= .row esz (l.map λds=>ds.map .ah)):=by
  intro a b h;rcases aaf a m.length with aC|d8
  .rw[aac (by simpa using aC)]at h
   by_cases Mv:a=id
   .subst Mv;rw[TH aC]at h;exact .inl ⟨rfl,by simpa using h.symm⟩
   .rw[U7 (λe=>Mv e.symm)]at h
    exact .inr (.inl ⟨Mv,aC,h⟩)
  .have aC:=(Km.1 h).1;simp at aC;have:a=m.length:=om;subst this;rw[ZZ aE]at h;simp at h;exact .inr (.inr ⟨rfl,h.symm⟩)
 have ew:∀{a x y s e},dY (m.set id (.mo esz (es.set i ⟨k,.row m.length⟩) so)++ [Bk.row esz (l.map λds=>ds.map .ah)]) a x y s e->dY m a x y s e/\¬(a=id/\x=i):=by
  rintro a x y s e ⟨b,fI,ho⟩;rcases get fI with⟨rfl,rfl⟩|⟨h1,h2,h3⟩|⟨rfl,rfl⟩
  .obtain⟨k2,hx,rfl,rfl⟩:=ho.Su;by_cases Mw:i=x
   .subst Mw;rw[TH yU]at hx;cases hx
   .rw[U7 Mw]at hx;exact⟨⟨_,hb,.mo hx⟩,λh=>Mw h.2.symm⟩
  .exact⟨⟨b,h3,ho⟩,λh=>h1 h.1⟩
  .obtain⟨cs,hx,hy⟩:=ho.yO;rw[Tm]at hx;obtain⟨ds,_,rfl⟩:=aaz.1 hx;rw[Tm]at hy;obtain⟨d,_,hd⟩:=aaz.1 hy;cases hd
 let src:gw->gw:=λk=>match k with| .aj a=>if a=m.length then .sub id i 0 else .aj a|k=>k
 have SF:∀a,a<m.length->src (.aj a)= .aj a:=λa ha=>by simp only[src];rw[if_neg om]
 have Ft:src (.aj m.length)= .sub id i 0:=by simp[src]
 have main:=hM.Mu (U':=U') (m':=m.set id (.mo esz (es.set i ⟨k,.row m.length⟩) so)++ [.row esz (l.map λds=>ds.map .ah)]) C1 (eV.refl w _) (by simp[U']) (by show ρ.n<=m.length+1;omega) (λa ha=>dI a om) rfl src
  (λq hq=>by
   cases q with
   |aj a=>
    obtain⟨b,fI,lX,be⟩:=hq;rcases get fI with⟨rfl,rfl⟩|⟨h1,h2,h3⟩|⟨rfl,rfl⟩
    .rw[SF _ p8,dI _ p8];exact⟨C1,rfl⟩
    .rw[SF _ h2,dI _ h2];rw[dI _ h2]at be;exact⟨⟨b,h3,lX,be⟩,rfl⟩
    .rw[Ft,m6];have:=be ⟨_,_,rfl⟩;rw[m6]at this;exact⟨⟨⟨_,_,kz⟩,this⟩,rfl⟩
   |sub a x y=>
    obtain⟨⟨s,e,ho⟩,be⟩:=hq;exact⟨⟨⟨s,e,(ew ho).1⟩,be⟩,rfl⟩)
  (λq q' hq T9 he=>by
   cases q with
   |aj a=>
    cases q' with
    |aj a'=>
     by_cases h1:a=m.length<;>by_cases h2:a'=m.length
     .rw[h1,h2]
     .have LA:a'<m.length:=by have:=T9.eT;simp[gw.id]at this;omega
      rw[h1,Ft,SF _ LA]at he;cases he
     .have C2:a<m.length:=by have:=hq.eT;simp[gw.id]at this;omega
      rw[h2,Ft,SF _ C2]at he;cases he
     .have C2:a<m.length:=by have:=hq.eT;simp[gw.id]at this;omega
      have LA:a'<m.length:=by have:=T9.eT;simp[gw.id]at this;omega
      rw[SF _ C2,SF _ LA]at he;exact he
    |sub a' x y=>
     by_cases h1:a=m.length
     .rw[h1,Ft]at he;have he:gw.sub id i 0= .sub a' x y:=he;cases he;obtain⟨⟨s,e,ho⟩,_⟩:=T9;exact absurd ⟨rfl,rfl⟩ (ew ho).2
     .have C2:a<m.length:=by have:=hq.eT;simp[gw.id]at this;omega
      rw[SF _ C2]at he;cases he
   |sub a x y=>
    cases q' with
    |aj a'=>
     by_cases h1:a'=m.length
     .rw[h1,Ft]at he;have he:gw.sub a x y= .sub id i 0:=he;cases he;obtain⟨⟨s,e,ho⟩,_⟩:=hq;exact absurd ⟨rfl,rfl⟩ (ew ho).2
     .have C2:a'<m.length:=by have:=T9.eT;simp[gw.id]at this;omega
      rw[SF _ C2]at he;cases he
    |sub a' x' y'=>exact he)
  (λFs a b fI=>by
   rcases get fI with⟨rfl,rfl⟩|⟨h1,h2,h3⟩|⟨rfl,rfl⟩
   .refine⟨bq,clock,⟨by rw[dI _ p8];exact eF.1,eF.2⟩,⟨by simpa using dk,λx e hx=>?_⟩,lV⟩
    rw[aaW]at hx;by_cases Mw:i=x
    .subst Mw;rw[if_pos rfl,if_pos yU]at hx;cases hx;refine⟨e',mT,fZ,HP,?_⟩;rw[hv];simp only[MO.cc,bj];rw[m6];exact⟨by show m.length<m.length+1;omega,aE,aE,by simpa using oT,PV,ad,by simp[L],λhc=>by have:=T8 hc;simp only[adJ,ac6];exact this⟩
    .rw[if_neg Mw]at hx;obtain⟨e2,g1,g2,g3,g4⟩:=eG x e hx;exact⟨e2,g1,g2,g3,g4.m7 (by show ρ.n<=m.length+1;omega) (λa ha=>dI a om) (λa x y h=>by cases h;rfl) (λ_ h=>h) (λ_ _=>rfl)⟩
   .exact(hM.bk a b h3).m7 om (by show ρ.n<=m.length+1;omega) (λa ha=>dI a om) (λ_ _=>rfl) (λ_ h=>h) (λ_ _=>rfl) (λ_ _=>rfl)
   .simp only[cJ,m6];have dL:∀(hc:0<L.cap),qQ ρ w L esz l:=λhc=>hM.ei id i 0 esz l kz hc
    refine⟨aE,oT,PV,λcs fe=>?_,λhc=>?_⟩
    .obtain⟨ds,zG,rfl⟩:=aal.1 fe;obtain⟨cur,h1,h2,h3,h4⟩:=dL (aaI (List.length_pos_of_mem zG) oT);rw[Pj];exact h3 ds zG
    .obtain⟨cur,h1,h2,h3,h4⟩:=dL hc;refine⟨cur,h1,h2,λx cs y c hx hy=>?_⟩
     rw[Tm]at hx;obtain⟨ds,zG,rfl⟩:=aaz.1 hx;rw[Tm]at hy;obtain⟨d,hd,rfl⟩:=aaz.1 hy;exact h4 x ds y d zG hd)
  (λFs a x y s e ho hc=>by
   exact(hM.ei a x y s e (ew ho).1 hc).cm (ρ:=ρ) (U':=U') ⟨by show ρ.n<=m.length+1;omega,λq hq=>by
    cases q with
    |aj a=>exact dI a (by simp only[gw.id]at hq;omega)
    |sub a x y=>rfl,λ_ h=>h,λ_ _=>rfl⟩ rfl)
 refine⟨U',main.1,main.2,λv vL=>?_⟩
 obtain⟨j0,j1,j2,cI,q1,q2,a2,vL,aay⟩:=vL;simp only[aav,adq]at cI;obtain⟨rfl,rfl,rfl⟩:=cI;simp only[bj];rw[m6];exact⟨by show m.length<m.length+1;omega,aE,aE,by simpa using oT,PV,a2,by rw[vL];simp[L],λhc=>by have:=aay hc;simp only[adJ,ac6];exact this⟩
theorem zJ{α:Type}(l:List α)(lo:Nat)(hi:Option Nat)(i:Nat)(x:α)(h:(b9 l lo hi)[i]? =some x):l[lo+i]? =some x:=by
 rw[jT]at h;rw[abj]at h;cases hi with
 |none=>exact h
 |some k=>
  simp only at h;rw[aaM]at h;split at h
  .exact h
  .cases h
theorem Js{α:Type}(l:List α)(lo:Nat)(hi:Option Nat)(h1:lo<=hi.getD l.length)(h2:hi.getD l.length<=l.length):(b9 l lo hi).length=hi.getD l.length-lo:=by
 rw[jT];cases hi with
 |none=>simp
 |some k=>simp at h1 h2|-;omega
theorem ay.rest(hM:ay ρ m w){id esz:Nat}{es bq:List MO}(hb:m[id]? =some (.mo esz es none)){n lo:Nat}{hi:Option Nat}{ds:List (List Dt)}(SG:m[n]? =some (.row esz (ds.map λd=>d.map .ah))){j:Nat}{k v:Value}(hj:bq[j]? =some ⟨k,.ei (b9 ds lo hi)⟩)(EQ:cw k=true)(dh:∀x,x≠j->bq[x]? =es[x]?)(hv:bj ρ w none (.row n esz lo hi) v){VW oI:Array MapEntry}{c1 c2:Nat}(VX:w.heap[(ρ.aI (.aj id)).b]? =some (.map VW c1))(hT:eV w w' (ρ.aI (.aj id)).b)(hh2:w'.heap[(ρ.aI (.aj id)).b]? =some (.map oI c2))(qy:ib oI c2)(dk:oI.size=bq.length)(vI:∀x,x≠j->oI[x]? =VW[x]?)(hej:∃e,oI[j]? =some e/\e.key=k/\e.val=v):
  ∃U',ay U' ((m.set n .aS).set id (.mo esz bq none)) w'/\Ext ρ m w U' ((m.set n .aS).set id (.mo esz bq none)) w':=by
 have p8:id<m.length:=(Km.1 hb).1;have kG:n<m.length:=(Km.1 SG).1;have WZ:n≠id:=λe=>by rw[e,hb]at SG;cases SG
 have hn:=hM.n;have C1:Live ρ m (.aj id):=⟨_,hb,aE,by rintro⟨_,_,e⟩;cases e⟩
 let R:=ρ.aI (.aj n);let U':bI:={n:=ρ.n,aI:=λq=>match q with| .aj a=>ρ.aI (.aj a)| .sub a x y=>if a=id/\x=j/\y=0 then⟨R.b,R.aq+lo*esz,0,R.cap-lo⟩else ρ.aI (.sub a x y),S:=ρ.S}
 have dI:∀a,U'.aI (.aj a)=ρ.aI (.aj a):=λ_=>rfl
 have m6:U'.aI (.sub id j 0)=⟨R.b,R.aq+lo*esz,0,R.cap-lo⟩:=by simp[U']
 have iN:∀a x y,¬(a=id/\x=j/\y=0)->U'.aI (.sub a x y)=ρ.aI (.sub a x y):=λa x y h=>by simp only[U'];rw[if_neg h]
 obtain⟨es0,clock,⟨eF,_⟩,⟨Mx,eG⟩,_⟩:=hM.bk id _ hb;rw[VX]at eF;cases eF;obtain⟨aeO,d1,d2,d3,d4,ad,hvv,T8⟩:=hv;obtain⟨r2,r3,r4,r5,bX⟩:=hM.bk n _ SG;have zG:ds.length=R.len:=by have:(ds.map λd=>d.map CC.ah).length=R.len:=r2;simpa using this
 have zK:(b9 ds lo hi).length=hi.getD R.len-lo:=by rw[<-zG];exact Js ds lo hi (by rw[zG];exact d1) (by rw[zG];exact d2)
 have get:∀{a:Nat}{b:Bk},((m.set n .aS).set id (.mo esz bq none))[a]? =some b->(a=id/\b= .mo esz bq none)\/(a=n/\b= .aS)\/(a≠id/\a≠n/\m[a]? =some b):=by
  intro a b h;by_cases Mv:a=id
  .subst Mv;rw[TH (by simpa using p8)]at h
   exact .inl ⟨rfl,by simpa using h.symm⟩
  .rw[U7 (λe=>Mv e.symm)]at h
   by_cases ER:a=n
   .subst ER;rw[TH kG]at h;exact .inr (.inl ⟨rfl,by simpa using h.symm⟩)
   .rw[U7 (λe=>ER e.symm)]at h
    exact .inr (.inr ⟨Mv,ER,h⟩)
 have ew:∀{a x y s e},dY ((m.set n .aS).set id (.mo esz bq none)) a x y s e->(a=id/\x=j/\y=0/\s=esz/\e=b9 ds lo hi)\/(¬(a=id/\x=j/\y=0)/\dY m a x y s e):=by
  rintro a x y s e ⟨b,fI,ho⟩;rcases get fI with⟨rfl,rfl⟩|⟨_,rfl⟩|⟨h1,h2,h3⟩
  .obtain⟨k2,hx,rfl,rfl⟩:=ho.Su;by_cases SH:x=j
   .subst SH;rw[hj]at hx;simp only[aav,MO.mk.injEq,MV.ei.injEq]at hx;exact .inl ⟨rfl,rfl,rfl,rfl,hx.2.symm⟩
   .rw[dh x SH]at hx;exact .inr ⟨λh=>SH h.2.1,_,hb,.mo hx⟩
  .cases ho
  .exact .inr ⟨λh=>h1 h.1,b,h3,ho⟩
 let src:gw->gw:=λq=>match q with| .aj a=>.aj a| .sub a x y=>if a=id/\x=j/\y=0 then .aj n else .sub a x y
 have Ft:src (.sub id j 0)= .aj n:=by simp[src]
 have VY:∀a x y,¬(a=id/\x=j/\y=0)->src (.sub a x y)= .sub a x y:=λa x y h=>by simp only[src];rw[if_neg h]
 have Ua:∀q,Live U' ((m.set n .aS).set id (.mo esz bq none)) q->q≠.aj n:=by
  rintro q hq rfl;obtain⟨b,fI,lX,_⟩:=hq;rcases get fI with⟨h,_⟩|⟨_,rfl⟩|⟨_,h,_⟩
  .exact WZ h
  .exact lX rfl
  .exact h rfl
 have main:=hM.Mu (U':=U') (m':=(m.set n .aS).set id (.mo esz bq none)) C1 hT (by simp[U',hn]) (Ym _) (λa _=>rfl) rfl src
  (λq hq=>by
   cases q with
   |aj a=>
    obtain⟨b,fI,lX,be⟩:=hq;rcases get fI with⟨rfl,rfl⟩|⟨_,rfl⟩|⟨h1,h2,h3⟩
    .exact⟨C1,rfl⟩
    .exact absurd rfl lX
    .exact⟨⟨b,h3,lX,be⟩,rfl⟩
   |sub a x y=>
    obtain⟨⟨s,e,ho⟩,be⟩:=hq;rcases ew ho with⟨rfl,rfl,rfl,rfl,rfl⟩|⟨h1,h2⟩
    .rw[m6]at be;rw[Ft,m6];have be:0<R.cap-lo:=be;exact⟨⟨_,SG,aE,λ_=>by show 0<R.cap;omega⟩,rfl⟩
    .rw[iN _ _ _ h1]at be;rw[VY _ _ _ h1,iN _ _ _ h1];exact⟨⟨⟨s,e,h2⟩,be⟩,rfl⟩)
  (λq q' hq T9 he=>by
   have sub:∀a x y a',Live U' ((m.set n .aS).set id (.mo esz bq none)) (.aj a')->src (.sub a x y)= .aj a'->False:=by
    intro a x y a' ha he;by_cases h:a=id/\x=j/\y=0
    .obtain⟨rfl,rfl,rfl⟩:=h;rw[Ft]at he;cases he;exact Ua _ ha rfl
    .rw[VY _ _ _ h]at he;cases he
   cases q with
   |aj a=>
    cases q' with
    |aj a'=>exact he
    |sub a' x y=>exact(sub _ _ _ _ hq he.symm).elim
   |sub a x y=>
    cases q' with
    |aj a'=>exact(sub _ _ _ _ T9 he).elim
    |sub a' x' y'=>
     by_cases h:a=id/\x=j/\y=0<;>by_cases h':a'=id/\x'=j/\y'=0
     .obtain⟨rfl,rfl,rfl⟩:=h;obtain⟨rfl,rfl,rfl⟩:=h';rfl
     .obtain⟨rfl,rfl,rfl⟩:=h;rw[Ft,VY _ _ _ h']at he;cases he
     .obtain⟨rfl,rfl,rfl⟩:=h';rw[Ft,VY _ _ _ h]at he;cases he
     .rw[VY _ _ _ h,VY _ _ _ h']at he;exact he)
  (λFs a b fI=>by
   rcases get fI with⟨rfl,rfl⟩|⟨_,rfl⟩|⟨h1,h2,h3⟩
   .refine⟨oI,c2,⟨hh2,qy⟩,⟨dk,λx e hx=>?_⟩,aE⟩
    by_cases SH:x=j
    .subst SH;rw[hj]at hx;cases hx;obtain⟨e2,kL,oW,vL⟩:=hej;refine⟨e2,kL,oW,EQ,a,x,0,rfl,?_⟩;rw[m6,vL];exact⟨by show _<=R.cap-lo;have:hi.getD R.len<=R.len:=d2;have:R.len<=R.cap:=d3;omega,by show R.cap-lo<=maxLen;have:R.cap<=maxLen:=d4;omega,ad,by rw[hvv,zK],λhc=>T8 (by show lo<R.cap;have hc:0<R.cap-lo:=hc;omega)⟩
    .rw[dh x SH]at hx;obtain⟨e2,g1,g2,g3,g4⟩:=eG x e hx;exact⟨e2,by rw[vI x SH];exact g1,g2,g3,g4.m7 (ρ:=ρ) (U':=U') (show ρ.n<=ρ.n from Ym _) (λ_ _=>rfl) (λa x' y h=>by cases h;exact iN _ _ _ λh=>SH h.2.1) (λ_ h=>h) Fs⟩
   .trivial
   .refine(hM.bk a b h3).m7 (hM.eT h3) (Ym _) (λ_ _=>rfl) (λx y=>iN _ _ _ λh=>h1 h.1) (λ_ h=>h) Fs λlX be=>hT.heap _ λe=>?_
    have:=hM.inj (.aj a) (.aj id) ⟨b,h3,lX,be⟩ C1 e;cases this;exact h1 rfl)
  (λFs a x y s e ho hc=>by
   rcases ew ho with⟨rfl,rfl,rfl,rfl,rfl⟩|⟨h1,h2⟩
   .rw[m6]at hc|-;have hc:0<R.cap-lo:=hc;have vJ:0<R.cap:=om;obtain⟨cur,q1,q2,q3⟩:=bX vJ;have Ub:Live ρ m (.aj n):=⟨_,SG,aE,λ_=>vJ⟩
    refine⟨cur,q1.dC (hT.heap _ λe=>?_),?_,λcs fe=>?_,λx2 cs y2 d hx hy=>?_⟩
    .have:=hM.inj _ _ Ub C1 e;cases this;exact WZ rfl
    .have e1:R.cap*s=lo*s+(R.cap-lo)*s:=by rw[<-abf];congr 1;omega
     have q2:R.aq+R.cap*s<=cur.size:=q2;show R.aq+lo*s+(R.cap-lo)*s<=cur.size;omega
    .obtain⟨x2,VZ⟩:=aaa fe;have hg:=zJ ds lo hi x2 cs VZ;have:=r5 (cs.map .ah) (aal.2 ⟨cs,Tp hg,rfl⟩);simpa using this
    .have hg:=zJ ds lo hi x2 cs hx;obtain⟨u,hu,hd⟩:=q3 (lo+x2) (cs.map .ah) y2 (.ah d) (by rw[Tm,hg];rfl) (by rw[Tm,hy];rfl)
     refine⟨u,?_,de.mono (S:=ρ.S) (λ_ h=>h) Fs hd⟩
     rw[<-hu];congr 1;show R.aq+lo*s+x2*s+y2=R.aq+(lo+x2)*s+y2;rw[abf];omega
   .rw[iN _ _ _ h1]at hc|-;obtain⟨cur,q1,q2,q3,q4⟩:=hM.ei a x y s e h2 hc;refine⟨cur,q1.dC (hT.heap _ λe=>?_),q2,q3,λx2 cs y2 d hx hy=>?_⟩
    .have:=hM.inj (.sub a x y) _ ⟨⟨_,_,h2⟩,hc⟩ C1 e;cases this
    .obtain⟨u,hu,hd⟩:=q4 x2 cs y2 d hx hy;exact⟨u,hu,de.mono (S:=ρ.S) (λ_ h=>h) Fs hd⟩)
 exact⟨U',main.1,main.2⟩
theorem ay.Qo(hM:ay ρ m w){id esz:Nat}{es:List MO}{so SI:Option (List Nat×Nat)}(hb:m[id]? =some (.mo esz es so)){i:Nat}(yU:i<es.length){VW oI:Array MapEntry}{c1 c2:Nat}(VX:w.heap[(ρ.aI (.aj id)).b]? =some (.map VW c1))(hT:eV w w' (ρ.aI (.aj id)).b)(hh2:w'.heap[(ρ.aI (.aj id)).b]? =some (.map oI c2))(qy:ib oI c2)(vI:oI.toList=VW.toList.eraseIdx i)(hso:∀st ip,SI=some (st,ip)->c2=ip/\oI.toList.map (·.born)=st):
  ∃U',ay U' (m.set id (.mo esz (es.eraseIdx i) SI)) w'/\Ext ρ m w U' (m.set id (.mo esz (es.eraseIdx i) SI)) w':=by
 have p8:id<m.length:=(Km.1 hb).1;have hn:=hM.n;have C1:Live ρ m (.aj id):=⟨_,hb,aE,by rintro⟨_,_,e⟩;cases e⟩
 let up:Nat->Nat:=λx=>if x<i then x else x+1
 have LB:∀x,(es.eraseIdx i)[x]? =es[up x]? :=λx=>by rw[List.getElem?_eraseIdx];simp only[up];split<;>rfl
 have aaB:∀x y,up x=up y->x=y:=λx y h=>by simp only[up]at h;split at h<;>split at h<;>omega
 let U':bI:={n:=ρ.n,aI:=λq=>match q with| .aj a=>ρ.aI (.aj a)| .sub a x y=>if a=id then ρ.aI (.sub id (up x) y)else ρ.aI (.sub a x y),S:=ρ.S}
 have HQ:∀x y,U'.aI (.sub id x y)=ρ.aI (.sub id (up x) y):=λx y=>by simp[U']
 have iN:∀a x y,a≠id->U'.aI (.sub a x y)=ρ.aI (.sub a x y):=λa x y h=>by simp only[U'];rw[if_neg h]
 obtain⟨es0,clock,⟨eF,_⟩,⟨Mx,eG⟩,_⟩:=hM.bk id _ hb;rw[VX]at eF;cases eF;have get:∀{a:Nat}{b:Bk},(m.set id (.mo esz (es.eraseIdx i) SI))[a]? =some b->(a=id/\b= .mo esz (es.eraseIdx i) SI)\/(a≠id/\m[a]? =some b):=by
  intro a b h;by_cases Mv:a=id
  .subst Mv;rw[TH p8]at h;exact .inl ⟨rfl,by simpa using h.symm⟩
  .rw[U7 (λe=>Mv e.symm)]at h
   exact .inr ⟨Mv,h⟩
 let src:gw->gw:=λq=>match q with| .aj a=>.aj a| .sub a x y=>if a=id then .sub id (up x) y else .sub a x y
 have LD:∀x y,src (.sub id x y)= .sub id (up x) y:=λx y=>by simp[src]
 have ES:∀a x y,a≠id->src (.sub a x y)= .sub a x y:=λa x y h=>by simp only[src];rw[if_neg h]
 have ew:∀{a x y s e},dY (m.set id (.mo esz (es.eraseIdx i) SI)) a x y s e->(a=id/\dY m id (up x) y s e)\/(a≠id/\dY m a x y s e):=by
  rintro a x y s e ⟨b,fI,ho⟩;rcases get fI with⟨rfl,rfl⟩|⟨h1,h3⟩
  .obtain⟨k2,hx,rfl,rfl⟩:=ho.Su;rw[LB]at hx;exact .inl ⟨rfl,_,hb,.mo hx⟩
  .exact .inr ⟨h1,b,h3,ho⟩
 have main:=hM.Mu (U':=U') (m':=m.set id (.mo esz (es.eraseIdx i) SI)) C1 hT (by simp[U',hn]) (Ym _) (λa _=>rfl) rfl src
  (λq hq=>by
   cases q with
   |aj a=>
    obtain⟨b,fI,lX,be⟩:=hq;rcases get fI with⟨rfl,rfl⟩|⟨h1,h3⟩
    .exact⟨C1,rfl⟩
    .exact⟨⟨b,h3,lX,be⟩,rfl⟩
   |sub a x y=>
    obtain⟨⟨s,e,ho⟩,be⟩:=hq;rcases ew ho with⟨rfl,h2⟩|⟨h1,h2⟩
    .rw[HQ]at be;rw[LD,HQ];exact⟨⟨⟨s,e,h2⟩,be⟩,rfl⟩
    .rw[iN _ _ _ h1]at be;rw[ES _ _ _ h1,iN _ _ _ h1];exact⟨⟨⟨s,e,h2⟩,be⟩,rfl⟩)
  (λq q' hq T9 he=>by
   cases q with
   |aj a=>
    cases q' with
    |aj a'=>exact he
    |sub a' x y=>
     by_cases h:a'=id
     .subst h;rw[LD]at he;cases he
     .rw[ES _ _ _ h]at he;cases he
   |sub a x y=>
    cases q' with
    |aj a'=>
     by_cases h:a=id
     .subst h;rw[LD]at he;cases he
     .rw[ES _ _ _ h]at he;cases he
    |sub a' x' y'=>
     by_cases h:a=id<;>by_cases h':a'=id
     .subst h;subst h';rw[LD,LD]at he;simp only[gw.sub.injEq,true_and]at he;rw[aaB _ _ he.1,he.2]
     .subst h;rw[LD,ES _ _ _ h']at he;simp only[gw.sub.injEq]at he;exact absurd he.1.symm h'
     .subst h';rw[LD,ES _ _ _ h]at he;simp only[gw.sub.injEq]at he;exact absurd he.1 h
     .rw[ES _ _ _ h,ES _ _ _ h']at he;exact he)
  (λFs a b fI=>by
   rcases get fI with⟨rfl,rfl⟩|⟨h1,h3⟩
   .refine⟨oI,c2,⟨hh2,qy⟩,⟨?_,λx e hx=>?_⟩,hso⟩
    .rw[<-Array.length_toList,vI,List.length_eraseIdx_of_lt (by simpa[Mx]using yU),List.length_eraseIdx_of_lt yU,abR,Mx]
    .rw[LB]at hx;obtain⟨e2,g1,g2,g3,g4⟩:=eG _ e hx;refine⟨e2,?_,g2,g3,?_⟩
     .have g1':VW.toList[up x]? =some e2:=by rw[abq];exact g1
      rw[<-abq,vI,List.getElem?_eraseIdx];by_cases Mw:x<i
      .have:up x=x:=by simp[up,Mw]
       rw[if_pos Mw,<-this];exact g1'
      .have:up x=x+1:=by simp[up,Mw]
       rw[if_neg Mw,<-this];exact g1'
     .obtain⟨kk,vv⟩:=e;cases vv with
      |ei l=>
       obtain⟨i0,i1,i2,cI,q⟩:=g4;simp only[aav,adq]at cI;obtain⟨rfl,rfl,rfl⟩:=cI;refine⟨a,x,0,rfl,?_⟩;rw[HQ];exact q
      |row n=>exact bj.Qn (pos:=none) (by intro s e h;cases h) (bj.m7 (ρ:=ρ) (U':=U') (pos:=none) (show ρ.n<=ρ.n from Ym _) (λ_ _=>rfl) aE (λ_ h=>h) Fs (bj.Qn (pos':=none) (by intro s e h;cases h) g4))
   .refine(hM.bk a b h3).m7 (hM.eT h3) (Ym _) (λ_ _=>rfl) (λx y=>iN _ _ _ h1) (λ_ h=>h) Fs λlX be=>hT.heap _ λe=>?_
    have:=hM.inj (.aj a) (.aj id) ⟨b,h3,lX,be⟩ C1 e;cases this;exact h1 rfl)
  (λFs a x y s e ho hc=>by
   have key:∀a x y,dY m a x y s e->0<(ρ.aI (.sub a x y)).cap->qQ U' w' (ρ.aI (.sub a x y)) s e:=by
    intro a x y h2 hc;obtain⟨cur,q1,q2,q3,q4⟩:=hM.ei a x y s e h2 hc;refine⟨cur,q1.dC (hT.heap _ λe=>?_),q2,q3,λx2 cs y2 d hx hy=>?_⟩
    .have:=hM.inj (.sub a x y) _ ⟨⟨_,_,h2⟩,hc⟩ C1 e;cases this
    .obtain⟨u,hu,hd⟩:=q4 x2 cs y2 d hx hy;exact⟨u,hu,de.mono (S:=ρ.S) (λ_ h=>h) Fs hd⟩
   rcases ew ho with⟨rfl,h2⟩|⟨h1,h2⟩
   .rw[HQ]at hc|-;exact key _ _ _ h2 hc
   .rw[iN _ _ _ h1]at hc|-;exact key _ _ _ h2 hc)
 exact⟨U',main.1,main.2⟩
end
end Go.AM
