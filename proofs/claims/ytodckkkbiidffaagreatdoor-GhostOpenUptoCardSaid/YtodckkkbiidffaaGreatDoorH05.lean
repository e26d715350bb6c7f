/- Part 5 of 16. -/
import Derived.Test.YtodckkkbiidffaaGreatDoorH02
import Derived.Test.YtodckkkbiidffaaGreatDoorH03
import Derived.Laws.MakeOwn
import Derived.MapKept
import Derived.Maps.RangeRun
set_option linter.unusedVariables false
set_option linter.unusedSimpArgs false
set_option maxRecDepth 100000
set_option maxHeartbeats 0
namespace Go.AM
section
variable {P:Program} {ρ U':bG} {m m':Mem} {w w':World}
theorem bi.PG{pos pos':Option (Nat×Nat×Nat)}{c:CC}{v:Value}(hc:∀s e,c≠.d5 s e)(h:bi ρ w pos c v):bi ρ w pos' c v:=by
 cases c<;>simp only[bi]at h|-
 case d5=>exact absurd rfl (hc _ _)
 all_goals exact h
theorem bi.mN{pos:Option (Nat×Nat×Nat)}(hn:ρ.n<=U'.n)(bM:∀id,id<ρ.n->U'.aH (.aj id)=ρ.aH (.aj id))(iC:∀id i j,pos=some (id,i,j)->U'.aH (.sub id i j)=ρ.aH (.sub id i j))(hS:∀b,ρ.S b->U'.S b)(ei:∀b,ρ.S b->w'.heap[b]? =w.heap[b]?){c:CC}{v:Value}(h:bi ρ w pos c v):bi U' w' pos c v:=by
 let ρ1:bG:={n:=U'.n,aH:=λk=>match k with| .aj id=>U'.aH (.aj id)|k=>ρ.aH k,S:=U'.S}
 have g:iA ρ w ρ1 w':=⟨hn,λk hk=>by
  cases k with
  |aj id=>exact bM id hk
  |sub id i j=>rfl,hS,ei⟩
 by_cases hc:∃s e,c= .d5 s e
 .obtain⟨esz,elems,rfl⟩:=hc;obtain⟨id,i,j,cH,hr⟩:=h;refine⟨id,i,j,cH,?_⟩;rw[iC id i j cH];exact hr
 .have hc:∀s e,c≠.d5 s e:=λs e h=>hc ⟨s,e,h⟩
  have h1:=bi.PG (pos':=pos) hc (bi.ce g aC (bi.PG (pos':=none) hc h));cases c<;>simp only[bi]at h1|-
  case d5=>exact absurd rfl (hc _ _)
  all_goals exact h1
theorem df.mN(hn:ρ.n<=U'.n)(bM:∀id,id<ρ.n->U'.aH (.aj id)=ρ.aH (.aj id))(hS:∀b,ρ.S b->U'.S b)(ei:∀b,ρ.S b->w'.heap[b]? =w.heap[b]?){r:RV}{v:Value}(h:df ρ w r v):df U' w' r v:=by
 cases r with
 |one c=>exact bi.mN hn bM aC hS ei h
 |agg cs=>
  obtain⟨vs,hv,hl,hc⟩:=h;exact⟨vs,hv,hl,λi c hi=>let⟨u,hu,hd⟩:=hc i c hi;⟨u,hu,hd.mN hn bM aC hS ei⟩⟩
theorem cI.mN{id:Nat}{bk:Bk}(hid:id<ρ.n)(hn:ρ.n<=U'.n)(bM:∀id,id<ρ.n->U'.aH (.aj id)=ρ.aH (.aj id))(iC:∀i j,U'.aH (.sub id i j)=ρ.aH (.sub id i j))(hS:∀b,ρ.S b->U'.S b)(ei:∀b,ρ.S b->w'.heap[b]? =w.heap[b]?)(hb:bk≠.aR->((∃esz elems,bk= .row esz elems)->0<(ρ.aH (.aj id)).cap)->w'.heap[(ρ.aH (.aj id)).b]? =w.heap[(ρ.aH (.aj id)).b]?)(h:cI ρ w id bk):cI U' w' id bk:=by
 have hl:U'.aH (.aj id)=ρ.aH (.aj id):=bM id hid;have LJ:∀{c v},bi ρ w none c v->bi U' w' none c v:=λh=>bi.mN hn bM aC hS ei h
 have BW:∀{i j c v},bi ρ w (some (id,i,j)) c v->bi U' w' (some (id,i,j)) c v:=λh=>bi.mN hn bM (λ_ _ _ e=>by cases e;exact iC _ _) hS ei h
 cases bk with
 |aR=>trivial
 |var cs=>
  obtain⟨cur,hc,hd⟩:=h;refine⟨cur,by rw[hl];exact hc.dB (hb aC (by rintro⟨_,_,e⟩;cases e)),λj c hj=>?_⟩
  obtain⟨u,hu,cu⟩:=hd j c hj;exact⟨u,by rw[hl];exact hu,LJ cu⟩
 |row esz elems=>
  obtain⟨h2,h3,h4,h5,bW⟩:=h;refine⟨by rw[hl];exact h2,by rw[hl];exact h3,by rw[hl];exact h4,h5,λcH=>?_⟩
  rw[hl]at cH;obtain⟨cur,hc,h1,h6⟩:=bW cH;refine⟨cur,by rw[hl];exact hc.dB (hb aC λ_=>cH),by rw[hl];exact h1,λi cs j c hi hj=>?_⟩
  obtain⟨u,hu,cu⟩:=h6 i cs j c hi hj;exact⟨u,by rw[hl];exact hu,BW cu⟩
 |mp es=>
  obtain⟨br,clock,hc,h1,h2⟩:=h;refine⟨br,clock,⟨by rw[hl,hb aC (by rintro⟨_,_,e⟩;cases e)];exact hc.1,hc.2⟩,h1,λi e hi=>?_⟩
  obtain⟨e',mD,hk,hd⟩:=h2 i e hi;exact⟨e',mD,hk,hd.mN hn bM hS ei⟩
 |it cur left=>
  obtain⟨mb,seen,ck,br,h2,h3,h4,h5,h6⟩:=h;exact⟨mb,seen,ck,br,by rw[hl,hb aC (by rintro⟨_,_,e⟩;cases e)];exact h2,by rw[hl];exact h3,hS _ h4,by rw[ei mb h4];exact h5,h6⟩
 |mo esz es so=>
  obtain⟨br,clock,hc,⟨h1,h2⟩,h3⟩:=h;refine⟨br,clock,⟨by rw[hl,hb aC (by rintro⟨_,_,e⟩;cases e)];exact hc.1,hc.2⟩,⟨h1,λi e hi=>?_⟩,h3⟩
  obtain⟨e',mD,hk,hp,hd⟩:=h2 i e hi;exact⟨e',mD,hk,hp,BW hd⟩
 |iw mid gZ seen=>
  obtain⟨h1,h2,s,h3,h4⟩:=h;exact⟨aaA h1 hn,by rw[hl];exact h2,s,by rw[hl,hb aC (by rintro⟨_,_,e⟩;cases e),bM mid h1];exact h3,h4⟩
theorem eM.refl(w:World)(g:Nat):eM w w g:=⟨λ_ _=>rfl,rfl,rfl,rfl,rfl⟩
theorem ax.LK(hM:ax ρ m w){g:Nat}(hg:Live ρ m (.aj g))(hT:eM w w' (ρ.aH (.aj g)).b)(hn:U'.n=m'.length)(hle:ρ.n<=U'.n)(bM:∀id,id<ρ.n->U'.aH (.aj id)=ρ.aH (.aj id))(hS:U'.S=ρ.S)(src:gd->gd)(yo:∀k,Live U' m' k->Live ρ m (src k)/\(U'.aH k).b=(ρ.aH (src k)).b)(oJ:∀k k',Live U' m' k->Live U' m' k'->src k=src k'->k=k')(c9:(∀b,ρ.S b->w'.heap[b]? =w.heap[b]?)->∀id b,m'[id]? =some b->cI U' w' id b)(jW:(∀b,ρ.S b->w'.heap[b]? =w.heap[b]?)->∀id i j s e,dP m' id i j s e->0<(U'.aH (.sub id i j)).cap->qv U' w' (U'.aH (.sub id i j)) s e):
  ax U' m' w'/\Ext ρ m w U' m' w':=by
 have EO:∀b,ρ.S b->w'.heap[b]? =w.heap[b]? :=λb hb=>hT.heap b λe=>(hM.aP _ hg).2 (e▸hb)
 refine⟨⟨hn,λb hb=>by rw[hT.size];exact hM.S b (hS▸hb),λk hk=>?_,λk k' hk fS he=>?_,c9 EO,jW EO⟩,
  ⟨hle,bM,λb hb=>by rw[hS];exact hb,λb hb=>.inl (hS▸hb),λk hk=>.inr ⟨src k,(yo k hk).1,(yo k hk).2.symm⟩,λb _ hk=>hT.heap b λe=>hk _ hg e.symm,by rw[hT.size];exact T5 _,hT.os,hT.tape,hT.output⟩⟩
 .rw[(yo k hk).2,hT.size,hS];exact hM.aP _ (yo k hk).1
 .rw[(yo k hk).2,(yo k' fS).2]at he;exact oJ k k' hk fS (hM.inj _ _ (yo k hk).1 (yo k' fS).1 he)
theorem ax.Zk(hM:ax ρ m w){id esz:Nat}{es:List MO}{so:Option (List Nat×Nat)}{i:Nat}{k:Value}{l:List (List Dt)}(hb:m[id]? =some (.mo esz es so))(hi:es[i]? =some ⟨k,.d5 l⟩):
  ∃U',ax U' (m.set id (.mo esz (es.set i ⟨k,.row m.length⟩) so)++ [.row esz (l.map λds=>ds.map .ah)]) w/\Ext ρ m w U' (m.set id (.mo esz (es.set i ⟨k,.row m.length⟩) so)++ [.row esz (l.map λds=>ds.map .ah)]) w/\
   ∀v,bi ρ w (some (id,i,0)) (.d5 esz l) v->bi U' w none (.row m.length esz 0 none) v:=by
 have pM:id<m.length:=(JJ.1 hb).1;have ym:i<es.length:=(JJ.1 hi).1;have hn:=hM.n;have Co:Live ρ m (.aj id):=⟨_,hb,aC,by rintro⟨_,_,e⟩;cases e⟩
 let L:=ρ.aH (.sub id i 0);let U':bG:={n:=m.length+1,aH:=λk=>match k with| .aj a=>if a=m.length then⟨L.b,L.ar,l.length,L.cap⟩else ρ.aH (.aj a)|k=>ρ.aH k,S:=ρ.S}
 have dE:∀a,a<m.length->U'.aH (.aj a)=ρ.aH (.aj a):=λa ha=>by simp only[U'];rw[if_neg om]
 have mM:U'.aH (.aj m.length)=⟨L.b,L.ar,l.length,L.cap⟩:=by simp[U']
 have iC:∀a x y,U'.aH (.sub a x y)=ρ.aH (.sub a x y):=λ_ _ _=>rfl
 have jW:dP m id i 0 esz l:=⟨_,hb,.mo hi⟩;obtain⟨br,clock,ei,⟨dj,eu⟩,lF⟩:=hM.bk id _ hb;obtain⟨e',mD,fS,KV,yp⟩:=eu i _ hi;obtain⟨i0,i1,i2,cH,oI,O9,ad,hv,SZ⟩:=yp;simp only[aat,acM]at cH;obtain⟨rfl,rfl,rfl⟩:=cH;have oI:l.length<=L.cap:=oI;have O9:L.cap<=maxLen:=O9;have get:∀{a:Nat}{b:Bk},(m.set id (.mo esz (es.set i ⟨k,.row m.length⟩) so)++ [Bk.row esz (l.map λds=>ds.map .ah)])[a]? =some b->
   (a=id/\b= .mo esz (es.set i ⟨k,.row m.length⟩) so)\/(a≠id/\a<m.length/\m[a]? =some b)\/(a=m.length/\b= .row esz (l.map λds=>ds.map .ah)):=by
  intro a b h;rcases aaf a m.length with aD|ek
  .rw[YN (by simpa using aD)]at h
   by_cases LL:a=id
   .subst LL;rw[SC aD]at h;exact .inl ⟨rfl,by simpa using h.symm⟩
   .rw[Xg (λe=>LL e.symm)]at h
    exact .inr (.inl ⟨LL,aD,h⟩)
  .have aD:=(JJ.1 h).1;simp at aD;have:a=m.length:=om;subst this;rw[Xi aC]at h;simp at h;exact .inr (.inr ⟨rfl,h.symm⟩)
 have d8:∀{a x y s e},dP (m.set id (.mo esz (es.set i ⟨k,.row m.length⟩) so)++ [Bk.row esz (l.map λds=>ds.map .ah)]) a x y s e->dP m a x y s e/\¬(a=id/\x=i):=by
  rintro a x y s e ⟨b,fx,ho⟩;rcases get fx with⟨rfl,rfl⟩|⟨h1,h2,h3⟩|⟨rfl,rfl⟩
  .obtain⟨k2,hx,rfl,rfl⟩:=ho.Rm;by_cases LM:i=x
   .subst LM;rw[SC ym]at hx;cases hx
   .rw[Xg LM]at hx;exact⟨⟨_,hb,.mo hx⟩,λh=>LM h.2.symm⟩
  .exact⟨⟨b,h3,ho⟩,λh=>h1 h.1⟩
  .obtain⟨cs,hx,hy⟩:=ho.yi;rw[Sf]at hx;obtain⟨ds,_,rfl⟩:=aau.1 hx;rw[Sf]at hy;obtain⟨d,_,hd⟩:=aau.1 hy;cases hd
 let src:gd->gd:=λk=>match k with| .aj a=>if a=m.length then .sub id i 0 else .aj a|k=>k
 have Ry:∀a,a<m.length->src (.aj a)= .aj a:=λa ha=>by simp only[src];rw[if_neg om]
 have EP:src (.aj m.length)= .sub id i 0:=by simp[src]
 have main:=hM.LK (U':=U') (m':=m.set id (.mo esz (es.set i ⟨k,.row m.length⟩) so)++ [.row esz (l.map λds=>ds.map .ah)]) Co (eM.refl w _) (by simp[U']) (by show ρ.n<=m.length+1;omega) (λa ha=>dE a om) rfl src
  (λq hq=>by
   cases q with
   |aj a=>
    obtain⟨b,fx,lH,bc⟩:=hq;rcases get fx with⟨rfl,rfl⟩|⟨h1,h2,h3⟩|⟨rfl,rfl⟩
    .rw[Ry _ pM,dE _ pM];exact⟨Co,rfl⟩
    .rw[Ry _ h2,dE _ h2];rw[dE _ h2]at bc;exact⟨⟨b,h3,lH,bc⟩,rfl⟩
    .rw[EP,mM];have:=bc ⟨_,_,rfl⟩;rw[mM]at this;exact⟨⟨⟨_,_,jW⟩,this⟩,rfl⟩
   |sub a x y=>
    obtain⟨⟨s,e,ho⟩,bc⟩:=hq;exact⟨⟨⟨s,e,(d8 ho).1⟩,bc⟩,rfl⟩)
  (λq q' hq S0 he=>by
   cases q with
   |aj a=>
    cases q' with
    |aj a'=>
     by_cases h1:a=m.length<;>by_cases h2:a'=m.length
     .rw[h1,h2]
     .have KX:a'<m.length:=by have:=S0.eK;simp[gd.id]at this;omega
      rw[h1,EP,Ry _ KX]at he;cases he
     .have Cp:a<m.length:=by have:=hq.eK;simp[gd.id]at this;omega
      rw[h2,EP,Ry _ Cp]at he;cases he
     .have Cp:a<m.length:=by have:=hq.eK;simp[gd.id]at this;omega
      have KX:a'<m.length:=by have:=S0.eK;simp[gd.id]at this;omega
      rw[Ry _ Cp,Ry _ KX]at he;exact he
    |sub a' x y=>
     by_cases h1:a=m.length
     .rw[h1,EP]at he;have he:gd.sub id i 0= .sub a' x y:=he;cases he;obtain⟨⟨s,e,ho⟩,_⟩:=S0;exact absurd ⟨rfl,rfl⟩ (d8 ho).2
     .have Cp:a<m.length:=by have:=hq.eK;simp[gd.id]at this;omega
      rw[Ry _ Cp]at he;cases he
   |sub a x y=>
    cases q' with
    |aj a'=>
     by_cases h1:a'=m.length
     .rw[h1,EP]at he;have he:gd.sub a x y= .sub id i 0:=he;cases he;obtain⟨⟨s,e,ho⟩,_⟩:=hq;exact absurd ⟨rfl,rfl⟩ (d8 ho).2
     .have Cp:a'<m.length:=by have:=S0.eK;simp[gd.id]at this;omega
      rw[Ry _ Cp]at he;cases he
    |sub a' x' y'=>exact he)
  (λEO a b fx=>by
   rcases get fx with⟨rfl,rfl⟩|⟨h1,h2,h3⟩|⟨rfl,rfl⟩
   .refine⟨br,clock,⟨by rw[dE _ pM];exact ei.1,ei.2⟩,⟨by simpa using dj,λx e hx=>?_⟩,lF⟩
    rw[aaS]at hx;by_cases LM:i=x
    .subst LM;rw[if_pos rfl,if_pos ym]at hx;cases hx;refine⟨e',mD,fS,KV,?_⟩;rw[hv];simp only[MO.cc,bi];rw[mM];exact⟨by show m.length<m.length+1;omega,aC,aC,by simpa using oI,O9,ad,by simp[L],λhc=>by have:=SZ hc;simp only[ac5,acB];exact this⟩
    .rw[if_neg LM]at hx;obtain⟨e2,g1,g2,g3,g4⟩:=eu x e hx;exact⟨e2,g1,g2,g3,g4.mN (by show ρ.n<=m.length+1;omega) (λa ha=>dE a om) (λa x y h=>by cases h;rfl) (λ_ h=>h) (λ_ _=>rfl)⟩
   .exact(hM.bk a b h3).mN om (by show ρ.n<=m.length+1;omega) (λa ha=>dE a om) (λ_ _=>rfl) (λ_ h=>h) (λ_ _=>rfl) (λ_ _=>rfl)
   .simp only[cI,mM];have dG:∀(hc:0<L.cap),qv ρ w L esz l:=λhc=>hM.d5 id i 0 esz l jW hc
    refine⟨aC,oI,O9,λcs eC=>?_,λhc=>?_⟩
    .obtain⟨ds,y4,rfl⟩:=aas.1 eC;obtain⟨cur,h1,h2,h3,h4⟩:=dG (aaA (List.length_pos_of_mem y4) oI);rw[Nr];exact h3 ds y4
    .obtain⟨cur,h1,h2,h3,h4⟩:=dG hc;refine⟨cur,h1,h2,λx cs y c hx hy=>?_⟩
     rw[Sf]at hx;obtain⟨ds,y4,rfl⟩:=aau.1 hx;rw[Sf]at hy;obtain⟨d,hd,rfl⟩:=aau.1 hy;exact h4 x ds y d y4 hd)
  (λEO a x y s e ho hc=>by
   exact(hM.d5 a x y s e (d8 ho).1 hc).ce (ρ:=ρ) (U':=U') ⟨by show ρ.n<=m.length+1;omega,λq hq=>by
    cases q with
    |aj a=>exact dE a (by simp only[gd.id]at hq;omega)
    |sub a x y=>rfl,λ_ h=>h,λ_ _=>rfl⟩ rfl)
 refine⟨U',main.1,main.2,λv vd=>?_⟩
 obtain⟨j0,j1,j2,cH,q1,q2,a2,vd,Zl⟩:=vd;simp only[aat,acM]at cH;obtain⟨rfl,rfl,rfl⟩:=cH;simp only[bi];rw[mM];exact⟨by show m.length<m.length+1;omega,aC,aC,by simpa using oI,O9,a2,by rw[vd];simp[L],λhc=>by have:=Zl hc;simp only[ac5,acB];exact this⟩
theorem y7{α:Type}(l:List α)(lo:Nat)(hi:Option Nat)(i:Nat)(x:α)(h:(bV l lo hi)[i]? =some x):l[lo+i]? =some x:=by
 rw[jE]at h;rw[aaX]at h;cases hi with
 |none=>exact h
 |some k=>
  simp only at h;rw[aaF]at h;split at h
  .exact h
  .cases h
theorem IP{α:Type}(l:List α)(lo:Nat)(hi:Option Nat)(h1:lo<=hi.getD l.length)(h2:hi.getD l.length<=l.length):(bV l lo hi).length=hi.getD l.length-lo:=by
 rw[jE];cases hi with
 |none=>simp
 |some k=>simp at h1 h2|-;omega
theorem ax.rest(hM:ax ρ m w){id esz:Nat}{es br:List MO}(hb:m[id]? =some (.mo esz es none)){n lo:Nat}{hi:Option Nat}{ds:List (List Dt)}(Rz:m[n]? =some (.row esz (ds.map λd=>d.map .ah))){j:Nat}{k v:Value}(hj:br[j]? =some ⟨k,.d5 (bV ds lo hi)⟩)(Ef:cn k=true)(du:∀x,x≠j->br[x]? =es[x]?)(hv:bi ρ w none (.row n esz lo hi) v){UO ou:Array MapEntry}{c1 c2:Nat}(UP:w.heap[(ρ.aH (.aj id)).b]? =some (.map UO c1))(hT:eM w w' (ρ.aH (.aj id)).b)(Zm:w'.heap[(ρ.aH (.aj id)).b]? =some (.map ou c2))(pY:gR ou c2)(dj:ou.size=br.length)(u9:∀x,x≠j->ou[x]? =UO[x]?)(hej:∃e,ou[j]? =some e/\e.key=k/\e.val=v):
  ∃U',ax U' ((m.set n .aR).set id (.mo esz br none)) w'/\Ext ρ m w U' ((m.set n .aR).set id (.mo esz br none)) w':=by
 have pM:id<m.length:=(JJ.1 hb).1;have jY:n<m.length:=(JJ.1 Rz).1;have VQ:n≠id:=λe=>by rw[e,hb]at Rz;cases Rz
 have hn:=hM.n;have Co:Live ρ m (.aj id):=⟨_,hb,aC,by rintro⟨_,_,e⟩;cases e⟩
 let R:=ρ.aH (.aj n);let U':bG:={n:=ρ.n,aH:=λq=>match q with| .aj a=>ρ.aH (.aj a)| .sub a x y=>if a=id/\x=j/\y=0 then⟨R.b,R.ar+lo*esz,0,R.cap-lo⟩else ρ.aH (.sub a x y),S:=ρ.S}
 have dE:∀a,U'.aH (.aj a)=ρ.aH (.aj a):=λ_=>rfl
 have mM:U'.aH (.sub id j 0)=⟨R.b,R.ar+lo*esz,0,R.cap-lo⟩:=by simp[U']
 have iC:∀a x y,¬(a=id/\x=j/\y=0)->U'.aH (.sub a x y)=ρ.aH (.sub a x y):=λa x y h=>by simp only[U'];rw[if_neg h]
 obtain⟨Zn,clock,⟨ei,_⟩,⟨LP,eu⟩,_⟩:=hM.bk id _ hb;rw[UP]at ei;cases ei;obtain⟨adt,d1,d2,d3,d4,ad,hvv,SZ⟩:=hv;obtain⟨r2,r3,r4,r5,bW⟩:=hM.bk n _ Rz;have y4:ds.length=R.len:=by have:(ds.map λd=>d.map CC.ah).length=R.len:=r2;simpa using this
 have y8:(bV ds lo hi).length=hi.getD R.len-lo:=by rw[<-y4];exact IP ds lo hi (by rw[y4];exact d1) (by rw[y4];exact d2)
 have get:∀{a:Nat}{b:Bk},((m.set n .aR).set id (.mo esz br none))[a]? =some b->(a=id/\b= .mo esz br none)\/(a=n/\b= .aR)\/(a≠id/\a≠n/\m[a]? =some b):=by
  intro a b h;by_cases LL:a=id
  .subst LL;rw[SC (by simpa using pM)]at h
   exact .inl ⟨rfl,by simpa using h.symm⟩
  .rw[Xg (λe=>LL e.symm)]at h
   by_cases Eg:a=n
   .subst Eg;rw[SC jY]at h;exact .inr (.inl ⟨rfl,by simpa using h.symm⟩)
   .rw[Xg (λe=>Eg e.symm)]at h
    exact .inr (.inr ⟨LL,Eg,h⟩)
 have d8:∀{a x y s e},dP ((m.set n .aR).set id (.mo esz br none)) a x y s e->(a=id/\x=j/\y=0/\s=esz/\e=bV ds lo hi)\/(¬(a=id/\x=j/\y=0)/\dP m a x y s e):=by
  rintro a x y s e ⟨b,fx,ho⟩;rcases get fx with⟨rfl,rfl⟩|⟨_,rfl⟩|⟨h1,h2,h3⟩
  .obtain⟨k2,hx,rfl,rfl⟩:=ho.Rm;by_cases RA:x=j
   .subst RA;rw[hj]at hx;simp only[aat,MO.mk.injEq,MV.d5.injEq]at hx;exact .inl ⟨rfl,rfl,rfl,rfl,hx.2.symm⟩
   .rw[du x RA]at hx;exact .inr ⟨λh=>RA h.2.1,_,hb,.mo hx⟩
  .cases ho
  .exact .inr ⟨λh=>h1 h.1,b,h3,ho⟩
 let src:gd->gd:=λq=>match q with| .aj a=>.aj a| .sub a x y=>if a=id/\x=j/\y=0 then .aj n else .sub a x y
 have EP:src (.sub id j 0)= .aj n:=by simp[src]
 have UQ:∀a x y,¬(a=id/\x=j/\y=0)->src (.sub a x y)= .sub a x y:=λa x y h=>by simp only[src];rw[if_neg h]
 have S3:∀q,Live U' ((m.set n .aR).set id (.mo esz br none)) q->q≠.aj n:=by
  rintro q hq rfl;obtain⟨b,fx,lH,_⟩:=hq;rcases get fx with⟨h,_⟩|⟨_,rfl⟩|⟨_,h,_⟩
  .exact VQ h
  .exact lH rfl
  .exact h rfl
 have main:=hM.LK (U':=U') (m':=(m.set n .aR).set id (.mo esz br none)) Co hT (by simp[U',hn]) (T5 _) (λa _=>rfl) rfl src
  (λq hq=>by
   cases q with
   |aj a=>
    obtain⟨b,fx,lH,bc⟩:=hq;rcases get fx with⟨rfl,rfl⟩|⟨_,rfl⟩|⟨h1,h2,h3⟩
    .exact⟨Co,rfl⟩
    .exact absurd rfl lH
    .exact⟨⟨b,h3,lH,bc⟩,rfl⟩
   |sub a x y=>
    obtain⟨⟨s,e,ho⟩,bc⟩:=hq;rcases d8 ho with⟨rfl,rfl,rfl,rfl,rfl⟩|⟨h1,h2⟩
    .rw[mM]at bc;rw[EP,mM];have bc:0<R.cap-lo:=bc;exact⟨⟨_,Rz,aC,λ_=>by show 0<R.cap;omega⟩,rfl⟩
    .rw[iC _ _ _ h1]at bc;rw[UQ _ _ _ h1,iC _ _ _ h1];exact⟨⟨⟨s,e,h2⟩,bc⟩,rfl⟩)
  (λq q' hq S0 he=>by
   have sub:∀a x y a',Live U' ((m.set n .aR).set id (.mo esz br none)) (.aj a')->src (.sub a x y)= .aj a'->False:=by
    intro a x y a' ha he;by_cases h:a=id/\x=j/\y=0
    .obtain⟨rfl,rfl,rfl⟩:=h;rw[EP]at he;cases he;exact S3 _ ha rfl
    .rw[UQ _ _ _ h]at he;cases he
   cases q with
   |aj a=>
    cases q' with
    |aj a'=>exact he
    |sub a' x y=>exact(sub _ _ _ _ hq he.symm).elim
   |sub a x y=>
    cases q' with
    |aj a'=>exact(sub _ _ _ _ S0 he).elim
    |sub a' x' y'=>
     by_cases h:a=id/\x=j/\y=0<;>by_cases h':a'=id/\x'=j/\y'=0
     .obtain⟨rfl,rfl,rfl⟩:=h;obtain⟨rfl,rfl,rfl⟩:=h';rfl
     .obtain⟨rfl,rfl,rfl⟩:=h;rw[EP,UQ _ _ _ h']at he;cases he
     .obtain⟨rfl,rfl,rfl⟩:=h';rw[EP,UQ _ _ _ h]at he;cases he
     .rw[UQ _ _ _ h,UQ _ _ _ h']at he;exact he)
  (λEO a b fx=>by
   rcases get fx with⟨rfl,rfl⟩|⟨_,rfl⟩|⟨h1,h2,h3⟩
   .refine⟨ou,c2,⟨Zm,pY⟩,⟨dj,λx e hx=>?_⟩,aC⟩
    by_cases RA:x=j
    .subst RA;rw[hj]at hx;cases hx;obtain⟨e2,ke,oL,vd⟩:=hej;refine⟨e2,ke,oL,Ef,a,x,0,rfl,?_⟩;rw[mM,vd];exact⟨by show _<=R.cap-lo;have:hi.getD R.len<=R.len:=d2;have:R.len<=R.cap:=d3;omega,by show R.cap-lo<=maxLen;have:R.cap<=maxLen:=d4;omega,ad,by rw[hvv,y8],λhc=>SZ (by show lo<R.cap;have hc:0<R.cap-lo:=hc;omega)⟩
    .rw[du x RA]at hx;obtain⟨e2,g1,g2,g3,g4⟩:=eu x e hx;exact⟨e2,by rw[u9 x RA];exact g1,g2,g3,g4.mN (ρ:=ρ) (U':=U') (show ρ.n<=ρ.n from T5 _) (λ_ _=>rfl) (λa x' y h=>by cases h;exact iC _ _ _ λh=>RA h.2.1) (λ_ h=>h) EO⟩
   .trivial
   .refine(hM.bk a b h3).mN (hM.eK h3) (T5 _) (λ_ _=>rfl) (λx y=>iC _ _ _ λh=>h1 h.1) (λ_ h=>h) EO λlH bc=>hT.heap _ λe=>?_
    have:=hM.inj (.aj a) (.aj id) ⟨b,h3,lH,bc⟩ Co e;cases this;exact h1 rfl)
  (λEO a x y s e ho hc=>by
   rcases d8 ho with⟨rfl,rfl,rfl,rfl,rfl⟩|⟨h1,h2⟩
   .rw[mM]at hc|-;have hc:0<R.cap-lo:=hc;have sZ:0<R.cap:=om;obtain⟨cur,q1,q2,q3⟩:=bW sZ;have S4:Live ρ m (.aj n):=⟨_,Rz,aC,λ_=>sZ⟩
    refine⟨cur,q1.dB (hT.heap _ λe=>?_),?_,λcs eC=>?_,λx2 cs y2 d hx hy=>?_⟩
    .have:=hM.inj _ _ S4 Co e;cases this;exact VQ rfl
    .have e1:R.cap*s=lo*s+(R.cap-lo)*s:=by rw[<-aaZ];congr 1;omega
     have q2:R.ar+R.cap*s<=cur.size:=q2;show R.ar+lo*s+(R.cap-lo)*s<=cur.size;omega
    .obtain⟨x2,UR⟩:=X1 eC;have hg:=y7 ds lo hi x2 cs UR;have:=r5 (cs.map .ah) (aas.2 ⟨cs,Sj hg,rfl⟩);simpa using this
    .have hg:=y7 ds lo hi x2 cs hx;obtain⟨u,hu,hd⟩:=q3 (lo+x2) (cs.map .ah) y2 (.ah d) (by rw[Sf,hg];rfl) (by rw[Sf,hy];rfl)
     refine⟨u,?_,de.mono (S:=ρ.S) (λ_ h=>h) EO hd⟩
     rw[<-hu];congr 1;show R.ar+lo*s+x2*s+y2=R.ar+(lo+x2)*s+y2;rw[aaZ];omega
   .rw[iC _ _ _ h1]at hc|-;obtain⟨cur,q1,q2,q3,q4⟩:=hM.d5 a x y s e h2 hc;refine⟨cur,q1.dB (hT.heap _ λe=>?_),q2,q3,λx2 cs y2 d hx hy=>?_⟩
    .have:=hM.inj (.sub a x y) _ ⟨⟨_,_,h2⟩,hc⟩ Co e;cases this
    .obtain⟨u,hu,hd⟩:=q4 x2 cs y2 d hx hy;exact⟨u,hu,de.mono (S:=ρ.S) (λ_ h=>h) EO hd⟩)
 exact⟨U',main.1,main.2⟩
theorem ax.Zo(hM:ax ρ m w){id esz:Nat}{es:List MO}{so RB:Option (List Nat×Nat)}(hb:m[id]? =some (.mo esz es so)){i:Nat}(ym:i<es.length){UO ou:Array MapEntry}{c1 c2:Nat}(UP:w.heap[(ρ.aH (.aj id)).b]? =some (.map UO c1))(hT:eM w w' (ρ.aH (.aj id)).b)(Zm:w'.heap[(ρ.aH (.aj id)).b]? =some (.map ou c2))(pY:gR ou c2)(u9:ou.toList=UO.toList.eraseIdx i)(hso:∀st gZ,RB=some (st,gZ)->c2=gZ/\ou.toList.map (·.born)=st):
  ∃U',ax U' (m.set id (.mo esz (es.eraseIdx i) RB)) w'/\Ext ρ m w U' (m.set id (.mo esz (es.eraseIdx i) RB)) w':=by
 have pM:id<m.length:=(JJ.1 hb).1;have hn:=hM.n;have Co:Live ρ m (.aj id):=⟨_,hb,aC,by rintro⟨_,_,e⟩;cases e⟩
 let up:Nat->Nat:=λx=>if x<i then x else x+1
 have KY:∀x,(es.eraseIdx i)[x]? =es[up x]? :=λx=>by rw[List.getElem?_eraseIdx];simp only[up];split<;>rfl
 have Zp:∀x y,up x=up y->x=y:=λx y h=>by simp only[up]at h;split at h<;>split at h<;>omega
 let U':bG:={n:=ρ.n,aH:=λq=>match q with| .aj a=>ρ.aH (.aj a)| .sub a x y=>if a=id then ρ.aH (.sub id (up x) y)else ρ.aH (.sub a x y),S:=ρ.S}
 have Hf:∀x y,U'.aH (.sub id x y)=ρ.aH (.sub id (up x) y):=λx y=>by simp[U']
 have iC:∀a x y,a≠id->U'.aH (.sub a x y)=ρ.aH (.sub a x y):=λa x y h=>by simp only[U'];rw[if_neg h]
 obtain⟨Zn,clock,⟨ei,_⟩,⟨LP,eu⟩,_⟩:=hM.bk id _ hb;rw[UP]at ei;cases ei;have get:∀{a:Nat}{b:Bk},(m.set id (.mo esz (es.eraseIdx i) RB))[a]? =some b->(a=id/\b= .mo esz (es.eraseIdx i) RB)\/(a≠id/\m[a]? =some b):=by
  intro a b h;by_cases LL:a=id
  .subst LL;rw[SC pM]at h;exact .inl ⟨rfl,by simpa using h.symm⟩
  .rw[Xg (λe=>LL e.symm)]at h
   exact .inr ⟨LL,h⟩
 let src:gd->gd:=λq=>match q with| .aj a=>.aj a| .sub a x y=>if a=id then .sub id (up x) y else .sub a x y
 have KZ:∀x y,src (.sub id x y)= .sub id (up x) y:=λx y=>by simp[src]
 have Eh:∀a x y,a≠id->src (.sub a x y)= .sub a x y:=λa x y h=>by simp only[src];rw[if_neg h]
 have d8:∀{a x y s e},dP (m.set id (.mo esz (es.eraseIdx i) RB)) a x y s e->(a=id/\dP m id (up x) y s e)\/(a≠id/\dP m a x y s e):=by
  rintro a x y s e ⟨b,fx,ho⟩;rcases get fx with⟨rfl,rfl⟩|⟨h1,h3⟩
  .obtain⟨k2,hx,rfl,rfl⟩:=ho.Rm;rw[KY]at hx;exact .inl ⟨rfl,_,hb,.mo hx⟩
  .exact .inr ⟨h1,b,h3,ho⟩
 have main:=hM.LK (U':=U') (m':=m.set id (.mo esz (es.eraseIdx i) RB)) Co hT (by simp[U',hn]) (T5 _) (λa _=>rfl) rfl src
  (λq hq=>by
   cases q with
   |aj a=>
    obtain⟨b,fx,lH,bc⟩:=hq;rcases get fx with⟨rfl,rfl⟩|⟨h1,h3⟩
    .exact⟨Co,rfl⟩
    .exact⟨⟨b,h3,lH,bc⟩,rfl⟩
   |sub a x y=>
    obtain⟨⟨s,e,ho⟩,bc⟩:=hq;rcases d8 ho with⟨rfl,h2⟩|⟨h1,h2⟩
    .rw[Hf]at bc;rw[KZ,Hf];exact⟨⟨⟨s,e,h2⟩,bc⟩,rfl⟩
    .rw[iC _ _ _ h1]at bc;rw[Eh _ _ _ h1,iC _ _ _ h1];exact⟨⟨⟨s,e,h2⟩,bc⟩,rfl⟩)
  (λq q' hq S0 he=>by
   cases q with
   |aj a=>
    cases q' with
    |aj a'=>exact he
    |sub a' x y=>
     by_cases h:a'=id
     .subst h;rw[KZ]at he;cases he
     .rw[Eh _ _ _ h]at he;cases he
   |sub a x y=>
    cases q' with
    |aj a'=>
     by_cases h:a=id
     .subst h;rw[KZ]at he;cases he
     .rw[Eh _ _ _ h]at he;cases he
    |sub a' x' y'=>
     by_cases h:a=id<;>by_cases h':a'=id
     .subst h;subst h';rw[KZ,KZ]at he;simp only[gd.sub.injEq,true_and]at he;rw[Zp _ _ he.1,he.2]
     .subst h;rw[KZ,Eh _ _ _ h']at he;simp only[gd.sub.injEq]at he;exact absurd he.1.symm h'
     .subst h';rw[KZ,Eh _ _ _ h]at he;simp only[gd.sub.injEq]at he;exact absurd he.1 h
     .rw[Eh _ _ _ h,Eh _ _ _ h']at he;exact he)
  (λEO a b fx=>by
   rcases get fx with⟨rfl,rfl⟩|⟨h1,h3⟩
   .refine⟨ou,c2,⟨Zm,pY⟩,⟨?_,λx e hx=>?_⟩,hso⟩
    .rw[<-Array.length_toList,u9,List.length_eraseIdx_of_lt (by simpa[LP]using ym),List.length_eraseIdx_of_lt ym,ab6,LP]
    .rw[KY]at hx;obtain⟨e2,g1,g2,g3,g4⟩:=eu _ e hx;refine⟨e2,?_,g2,g3,?_⟩
     .have g1':UO.toList[up x]? =some e2:=by rw[abD];exact g1
      rw[<-abD,u9,List.getElem?_eraseIdx];by_cases LM:x<i
      .have:up x=x:=by simp[up,LM]
       rw[if_pos LM,<-this];exact g1'
      .have:up x=x+1:=by simp[up,LM]
       rw[if_neg LM,<-this];exact g1'
     .obtain⟨kk,vv⟩:=e;cases vv with
      |d5 l=>
       obtain⟨i0,i1,i2,cH,q⟩:=g4;simp only[aat,acM]at cH;obtain⟨rfl,rfl,rfl⟩:=cH;refine⟨a,x,0,rfl,?_⟩;rw[Hf];exact q
      |row n=>exact bi.PG (pos:=none) (by intro s e h;cases h) (bi.mN (ρ:=ρ) (U':=U') (pos:=none) (show ρ.n<=ρ.n from T5 _) (λ_ _=>rfl) aC (λ_ h=>h) EO (bi.PG (pos':=none) (by intro s e h;cases h) g4))
   .refine(hM.bk a b h3).mN (hM.eK h3) (T5 _) (λ_ _=>rfl) (λx y=>iC _ _ _ h1) (λ_ h=>h) EO λlH bc=>hT.heap _ λe=>?_
    have:=hM.inj (.aj a) (.aj id) ⟨b,h3,lH,bc⟩ Co e;cases this;exact h1 rfl)
  (λEO a x y s e ho hc=>by
   have key:∀a x y,dP m a x y s e->0<(ρ.aH (.sub a x y)).cap->qv U' w' (ρ.aH (.sub a x y)) s e:=by
    intro a x y h2 hc;obtain⟨cur,q1,q2,q3,q4⟩:=hM.d5 a x y s e h2 hc;refine⟨cur,q1.dB (hT.heap _ λe=>?_),q2,q3,λx2 cs y2 d hx hy=>?_⟩
    .have:=hM.inj (.sub a x y) _ ⟨⟨_,_,h2⟩,hc⟩ Co e;cases this
    .obtain⟨u,hu,hd⟩:=q4 x2 cs y2 d hx hy;exact⟨u,hu,de.mono (S:=ρ.S) (λ_ h=>h) EO hd⟩
   rcases d8 ho with⟨rfl,h2⟩|⟨h1,h2⟩
   .rw[Hf]at hc|-;exact key _ _ _ h2 hc
   .rw[iC _ _ _ h1]at hc|-;exact key _ _ _ h2 hc)
 exact⟨U',main.1,main.2⟩
end
end Go.AM
