/- Part 14 of 16. -/
import Derived.Test.YtodckkkbiidffaaGreatDoorG11
import Derived.Test.YtodckkkbiidffaaGreatDoorG12
import Derived.Test.YtodckkkbiidffaaGreatDoorG13
set_option linter.unusedVariables false
set_option linter.unusedSimpArgs false
set_option maxRecDepth 100000
set_option maxHeartbeats 0
namespace Go.Proofs.YtodckkkbiidffaaGreatDoor
open Proofs.Tryz
open Go.AM Go.ChangeShapes Go.WideShapes Go.ChangeAt Go.RowKit
theorem iM{mk:Prop}{b:Nat}:∀(vs:List Value)(o:Nat)(w:World)(cur:Array Value),l6 mk w b cur->o+vs.length<=cur.size->
  ∃gH,l6 mk (w.setCells b o vs) b gH/\eS w (w.setCells b o vs) b/\gH.size=cur.size/\∀k,gH[k]? =if o<=k/\k<o+vs.length then vs[k-o]? else cur[k]?
 | [],o,w,cur,hc,_=>⟨cur,hc,⟨λ_ _=>rfl,rfl,rfl,rfl,rfl⟩,rfl,λk=>by rw[if_neg aC]⟩
 |v::r,o,w,cur,hc,hle=>by
  have BD:l6 mk (w.setCell ⟨b,o,none⟩ v) b (cur.setIfInBounds o v):=by
   obtain⟨ty,fr,hb,hf⟩:=hc;refine⟨ty,fr,?_,by simpa using hf⟩
   simp[World.setCell,abx,hb]
  have zY:eS w (w.setCell ⟨b,o,none⟩ v) b:=⟨λb hb=>by simp[World.setCell,abx,Ne.symm hb],aC,rfl,rfl,rfl⟩
  simp only[aah]at hle;obtain⟨gH,h1,ht,h2,h3⟩:=iM (mk:=mk) r (o+1) _ _ BD (by simp;omega)
  refine⟨gH,h1,⟨λb hb=>(ht.heap b hb).trans (zY.heap b hb),ht.size.trans zY.size,ht.os,ht.tape,ht.output⟩,by rw[h2];simp,λk=>?_⟩
  rw[h3 k];simp only[aah];by_cases hk:k=o
  .subst hk;rw[if_neg om,if_pos om,abY om];simp
  .by_cases oo:o+1<=k/\k<o+1+r.length
   .rw[if_pos oo,if_pos om];obtain⟨j,rfl⟩:∃j,k=o+1+j:=⟨k-(o+1),om⟩;rw[show o+1+j-(o+1)=j by omega,show o+1+j-o=j+1 by omega,abA]
   .rw[if_neg oo,if_neg om,ab8 om]
theorem Fy{S:List (List Dt)}{i:Nat}{cs:List CC}(h:(af S)[i]? =some cs):∃ds,S[i]? =some ds/\cs=ds.map .aa:=by simp only[af,RA]at h;obtain⟨ds,h1,h2⟩:=aao.1 h;exact⟨ds,h1,h2.symm⟩
theorem Hs{S:List (List Dt)}{e:List Dt}{i:Nat}(hi:i<S.length)(k:Nat)(ds:List Dt)(h:(S.take i++e::S.drop i)[k]? =some ds):(k<i/\S[k]? =some ds)\/(k=i/\ds=e)\/(i<k/\S[k-1]? =some ds):=by
 have hl:(S.take i).length=i:=by rw[aan];omega
 rcases acO k i with h1|h1|h1
 .rw[Yf om,aa8,if_pos h1]at h;exact .inl ⟨h1,h⟩
 .subst h1;rw[WH om,hl,ack]at h;exact .inr (.inl ⟨rfl,by simpa using h.symm⟩)
 .rw[WH om,hl,show k-i=(k-1-i)+1 by omega,abA,abp,show i+(k-1-i)=k-1 by omega]at h
  exact .inr (.inr ⟨h1,h⟩)
theorem Je(S:List (List Dt))(e:List Dt)(i:Nat)(hi:i<S.length)(hl:S.length<=4194304):aq prog 140 [.rv (.one (.row 0 2 0 none)),an .i64 (i:Nat),.rv (.one (.row 1 2 0 none))] [.row 2 (af S),.row 2 (af [e])]
  (λr m=>r= .rv (.one (.row 2 2 0 none))/\m=[.aS,.aS,.row 2 (af (S.take i++e::S.drop i))]):=by
 refine⟨⟨f140,func140,rfl,by decide⟩,λU w vs hM x9 hd=>?_⟩
 obtain⟨v0,h0,d0⟩:=hd 0 _ rfl;obtain⟨v1,h1,d1⟩:=hd 1 _ rfl;obtain⟨v2,h2,d2⟩:=hd 2 _ rfl;have DP:vs=[v0,v1,v2]:=by
  match vs,x9 with
  | [a,b,c],_=>simp at h0 h1 h2;rw[h0,h1,h2]
 have Em:v1= .int .i64 (i:Nat):=(bJ d1).1;obtain⟨_,_,_,aeH,Tt,a0,Up,UA⟩:=(show bh U w none (.row 0 2 0 none) v0 from d0);obtain⟨_,_,_,VR,OU,a1,uR,Yg⟩:=(show bh U w none (.row 1 2 0 none) v2 from d2);obtain⟨aaq,_,_,K8,aar⟩:=hM.bk 0 _ rfl;obtain⟨aas,_,_,VK,aat⟩:=hM.bk 1 _ rfl;have WI:(U.aH (.al 0)).len=S.length:=by rw[<-aaq];simp[af]
 have WJ:(U.aH (.al 1)).len=1:=by rw[<-aas];simp[af]
 have M1:0<(U.aH (.al 0)).cap:=om;have GH:0<(U.aH (.al 1)).cap:=om;obtain⟨M2,zm,Cq,PT⟩:=aar M1;obtain⟨M3,M4,VT,PU⟩:=aat GH;have UA:=UA M1;have Yg:=Yg GH;have M5:Live U [.row 2 (af S),.row 2 (af [e])] (.al 0):=⟨_,rfl,aC,λ_=>M1⟩
 have WK:Live U [.row 2 (af S),.row 2 (af [e])] (.al 1):=⟨_,rfl,aC,λ_=>GH⟩
 have Yd:(U.aH (.al 1)).b≠(U.aH (.al 0)).b:=λhe=>by have:=hM.inj _ _ WK M5 he;cases this
 simp only[acw,acb,acV,acm]at Up uR UA Yg;have WL:U.n=2:=hM.n;have Yh:=hM;generalize Ox:U.aH (.al 0)=L0 at*
 generalize hL1:U.aH (.al 1)=L1 at*
 obtain⟨b,ar,len,cap⟩:=L0;obtain⟨vb,zn,aeI,Tu⟩:=L1;simp only at*
 subst WI WJ;have Tv:=zm.lt;have UB:∀(k:Nat)(ds:List Dt),S[k]? =some ds->ds.length=2:=λk ds hk=>by
  have:=K8 (ds.map .aa) (RD (i:=k) (by simp[af,hk]))
  simpa using this
 have jY:e.length=2:=by
  have:=VK (e.map .aa) (by simp[af])
  simpa using this
 obtain⟨cs,WM⟩:∃cs,cs=(M2.toList.drop ar).take (S.length*2):=⟨_,rfl⟩;have ib:cs.length=S.length*2:=by have:=abS (xs:=M2);rw[WM,aan,abz];omega
 have Uq:∀j,j<S.length*2->cs[j]? =M2[ar+j]? :=λj hj=>by rw[WM,aa8,if_pos hj,abp,abB]
 obtain⟨vv,WN⟩:∃vv,vv=(M3.toList.drop zn).take 2:=⟨_,rfl⟩;have A8:vv.length=2:=by have:=abS (xs:=M3);rw[WN,aan,abz];omega
 have hvg:∀j,j<2->vv[j]? =M3[zn+j]? :=λj hj=>by rw[WN,aa8,if_pos hj,abp,abB]
 have M6:∀(k:Nat)(ds:List Dt)(j:Nat)(d:Dt),S[k]? =some ds->ds[j]? =some d->∃u,cs[k*2+j]? =some u/\c7 U.S w d u:=λk ds j d hk hj=>by
  have f8:=(I4.1 hk).1;have na:=(I4.1 hj).1;rw[UB k ds hk]at na;obtain⟨u,hu,ct⟩:=PT k (ds.map .aa) j (.aa d) (by simp[af,hk]) (by simp[hj])
  exact⟨u,by rw[Uq _ om,<-abo];exact hu,ct⟩
 have RE:∀(j:Nat)(d:Dt),e[j]? =some d->∃u,vv[j]? =some u/\c7 U.S w d u:=λj d hj=>by
  have na:=(I4.1 hj).1;rw[jY]at na;obtain⟨u,hu,ct⟩:=PU 0 (e.map .aa) j (.aa d) (by simp[af]) (by simp[hj])
  exact⟨u,by rw[hvg _ na];simpa using hu,ct⟩
 have RF:∀v∈cs,v.oneCell'=true:=λv hv=>by
  obtain⟨j,hj⟩:=Xt hv;have na:=(I4.1 hj).1;have hk:j/2<S.length:=om;have xQ:=UB (j/2) S[j/2] (uX hk);obtain⟨u,hu,ct⟩:=M6 (j/2) S[j/2] (j%2) (S[j/2][j%2]'(by omega)) (uX hk) (uX _)
  rw[show j/2*2+j%2=j by omega,hj]at hu
  cases hu;exact ct.one
 have RG:∀v∈vv,v.oneCell'=true:=λv hv=>by
  obtain⟨j,hj⟩:=Xt hv;have na:=(I4.1 hj).1;obtain⟨u,hu,ct⟩:=RE j (e[j]'(by omega)) (uX _)
  rw[hj]at hu;cases hu;exact ct.one
 have Aq:∀(j:Nat)(v:Value),cs[j]? =some v->w.cell? ⟨b,ar+j,none⟩=some v:=λj v hj=>by
  rw[zm.cell,<-Uq j (by rw[<-ib];exact(I4.1 hj).1)];exact hj
 have Ar:∀(j:Nat)(v:Value),vv[j]? =some v->w.cell? ⟨vb,zn+j,none⟩=some v:=λj v hj=>by
  rw[M4.cell,<-hvg j (by rw[<-A8];exact(I4.1 hj).1)];exact hj
 have eF:vs.toArray= #[.slice (some ⟨b,ar,none⟩) S.length cap,.int .i64 (i:Nat),.slice (some ⟨vb,zn,none⟩) 1 Tu]:=by rw[DP,Up,Em,uR,UA,Yg]
 rw[eF];have C3:∀(w':World)(l:AM.vl)(gH:Array Value),iz U w (U.move l λ_ _=>.sub 0 0 0) w'->(∀k,k<i*2->gH[l.ar+k]? =cs[k]?)->(∀k,k<2->gH[l.ar+(i*2+k)]? =vv[k]?)->(∀k,k<(S.length-i)*2->gH[l.ar+((i+1)*2+k)]? =cs[i*2+k]?)->
   ∀(k:Nat)DX(j:Nat)c,(af (S.take i++e::S.drop i))[k]? =some DX->DX[j]? =some c->∃u,gH[l.ar+k*2+j]? =some u/\bh (U.move l λ_ _=>.sub 0 0 0) w' (some (U.n,k,j)) c u:=by
  intro w' l gH g q1 q2 q3 k DX j c hk hj;obtain⟨ds,yG,rfl⟩:=Fy hk;rw[RA]at hj;obtain⟨d,uM,rfl⟩:=aao.1 hj;have na:=(I4.1 uM).1;rcases Hs hi k ds yG with⟨Oz,hS⟩|⟨rfl,rfl⟩|⟨Oz,hS⟩
  .rw[UB k ds hS]at na;obtain⟨u,hu,ct⟩:=M6 k ds j d hS uM;exact⟨u,by rw[abo,q1 _ om];exact hu,ct.mono g.S g.heap⟩
  .rw[jY]at na;obtain⟨u,hu,ct⟩:=RE j d uM;exact⟨u,by rw[abo,q2 _ na];exact hu,ct.mono g.S g.heap⟩
  .rw[UB _ ds hS]at na;obtain⟨u,hu,ct⟩:=M6 (k-1) ds j d hS uM;have f8:=(I4.1 hS).1;refine⟨u,?_,ct.mono g.S g.heap⟩;rw[abo,show k*2+j=(i+1)*2+((k-1-i)*2+j) by omega,q3 _ om,show i*2+((k-1-i)*2+j)=(k-1)*2+j by omega]
   exact hu
 have G4:(af (S.take i++e::S.drop i)).length=S.length+1:=by simp[af];omega
 have DQ:∀cs,cs∈af (S.take i++e::S.drop i)->cs.length=2:=λDX hm=>by
  obtain⟨k,hk⟩:=Xt hm;obtain⟨ds,yG,rfl⟩:=Fy hk;rw[ML];rcases Hs hi k ds yG with⟨_,hS⟩|⟨_,rfl⟩|⟨_,hS⟩
  .exact UB _ _ hS
  .exact jY
  .exact UB _ _ hS
 have iY:∀(k:Nat)DX(j:Nat)s el,(af (S.take i++e::S.drop i))[k]? =some DX->DX[j]? =some (.dV s el)->False:=λk DX j s el hk hj=>by obtain⟨ds,_,rfl⟩:=Fy hk;rw[RA]at hj;obtain⟨d,_,h⟩:=aao.1 hj;cases h
 have pd:([.aS,.aS]:Mem).length=([.row 2 (af S),.row 2 (af [e])]:Mem).length:=rfl;have i3:∀(id:Nat)bk,([.aS,.aS]:Mem)[id]? =some bk->bk= .aS\/(([.row 2 (af S),.row 2 (af [e])]:Mem)[id]? =some bk/\¬(id=0\/id=1)):=λid bk h=>by
  match id,h with
  |0,h=>cases h;exact .inl rfl
  |1,h=>cases h;exact .inl rfl
  |id+2,h=>simp at h
 have C4:∀k,(cs.drop (i*2))[k]? =cs[i*2+k]? :=λk=>by rw[abp]
 have lT:(cs.drop (i*2)).length=(S.length-i)*2:=by rw[abz,ib,adn]
 by_cases nG:S.length+1<=cap
 ·
  obtain⟨ty0,fr0,hh0,aeL,aeM,aeN⟩:=id zm;obtain⟨ty1,fr1,Uh,aeQ,aeR,WO⟩:=id M4;have WO:fr1.2<=M3.size:=by
   rcases WO with h|h
   .cases h
   .exact h
  have Ap:∀j,j<(S.length+1)*2->(w.cell? ⟨b,ar+j,none⟩).isSome=true:=λj hj=>by rw[zm.cell,abK om];rfl
  have yl:=A7 b ar S.length cap i vb zn Tu cs vv w hi nG (by unfold maxLen at Tt;omega) Yd ib A8 Aq Ap (λj hj=>zm.pW om) Ar RF RG ty1 ty0 M3.size M2.size
   (by simp[World.shape?,Uh]) (by simp[World.shape?,hh0]) om (M4.pW om) (by simp only[World.frozen?,Uh];simp;omega)
  refine yl.mono ?_;rintro e' w' ⟨rfl,rfl⟩;obtain⟨c1,BD,zY,Kf,jZ⟩:=iM (cs.drop (i*2)) (ar+(i+1)*2) w.drew M2 (zm.dv rfl) (by rw[lT];omega)
  obtain⟨c2,vQ,vM,DT,oo⟩:=iM vv (ar+i*2) _ c1 BD (by rw[A8];omega)
  have hT:eS w ((w.drew.setCells b (ar+(i+1)*2) (cs.drop (i*2))).setCells b (ar+i*2) vv) b:=
   ⟨λx hx=>((vM.heap x hx).trans (zY.heap x hx)).trans rfl,(vM.size.trans zY.size).trans rfl,(vM.os.trans zY.os).trans rfl,(vM.tape.trans zY.tape).trans rfl,(vM.output.trans zY.output).trans rfl⟩
  obtain⟨jc,hX⟩:=hM.move (w':=(w.drew.setCells b (ar+(i+1)*2) (cs.drop (i*2))).setCells b (ar+i*2) vv) (m1:=[.aS,.aS]) (D:=λid=>id=0\/id=1) (esz:=2) (E:=af (S.take i++e::S.drop i)) (l:=⟨b,ar,S.length+1,cap⟩) (src:=λ_ _=>.sub 0 0 0)
   pd i3 (by rw[hT.size];exact Ts _) hT.os hT.tape hT.output (λx hx dt=>hT.heap x (λhe=>dt 0 (.inl rfl) M5 (by rw[Ox];exact he.symm)))
   (λ_=>⟨by rw[hT.size];exact Tv,.inr ⟨0,.inl rfl,M5,by rw[Ox]⟩⟩) G4 nG Tt DQ
   (λg _=>⟨c2,vQ,by rw[DT,Kf];exact Cq,C3 _ ⟨b,ar,S.length+1,cap⟩ c2 g (λk hk=>by
    show c2[ar+k]? =_;rw[oo,if_neg (by rw[A8];omega),jZ,if_neg om,Uq _ om]) (λk hk=>by
    show c2[ar+(i*2+k)]? =_;rw[oo,if_pos (by rw[A8];omega),show ar+(i*2+k)-(ar+i*2)=k by omega]) (λk hk=>by
    show c2[ar+((i+1)*2+k)]? =_;rw[oo,if_neg (by rw[A8];omega),jZ,if_pos (by rw[lT];omega),show ar+((i+1)*2+k)-(ar+(i+1)*2)=k by omega,C4])⟩)
   (λk DX j s el hk hj=>(iY k DX j s el hk hj).elim) (λ_ _ _ _ _⟨DX,s,el,hk,hj⟩ _=>(iY _ DX _ s el hk hj).elim)
  refine⟨_,_,_,_,rfl,⟨rfl,rfl⟩,jc,?_,hX⟩;refine⟨by simp[bF.move,WL],?_⟩
  have mE:(U.move ⟨b,ar,S.length+1,cap⟩ λ_ _=>.sub 0 0 0).aH (.al 2)=⟨b,ar,S.length+1,cap⟩:=by simp[bF.move,WL]
  rw[mE];exact⟨aaj _,Ts _,nG,Tt,_,rfl,λ_=>aC⟩
 ·
  have yl:=C2 b ar S.length cap i vb zn Tu cs vv w hi om om om ib A8 Aq Ar RF RG;refine yl.mono ?_;rintro e' w' ⟨rfl,rfl⟩;have hGn:S.length+1<=grownCap w (S.length+1) cap 206:=grownCap_ge w _ _ _;have hGm:grownCap w (S.length+1) cap 206<=maxLen:=grownCap_le_maxLen w (S.length+1) cap 206 (by unfold maxLen;omega)
  generalize grownCap w (S.length+1) cap 206=G at*
  obtain⟨ROW,Fx⟩:∃ROW:Array Value,ROW=(cs.take (i*2)).toArray++Builtin.zeroCells uY.cells (S.length+1-i)++Builtin.zeroCells uY.cells (G-(S.length+1)):=⟨_,rfl⟩;rw[<-Fx];have hRs:ROW.size=G*2:=by rw[Fx];simp[Builtin.zeroCells,Value.cells,uY,aan,ib];omega
  have hRg:∀k,k<i*2->ROW[k]? =cs[k]? :=λk hk=>by
   rw[Fx,Array.append_assoc,acg (by simp[ib];omega)]
   simp[aa8,hk]
  have hA:eu w (w.alloc (.cells ROW 206)).drew:=(eu.alloc w _).trans (eu.drew _);obtain⟨c1,BD,zY,Kf,jZ⟩:=iM (mk:=(2:Nat)=1) vv (i*2) (w.alloc (.cells ROW 206)).drew ROW ((l6.new w ROW 206).dv rfl) (by rw[A8];omega)
  obtain⟨c2,vQ,vM,DT,oo⟩:=iM (mk:=(2:Nat)=1) (cs.drop (i*2)) ((i+1)*2) ((w.alloc (.cells ROW 206)).drew.setCells w.heap.size (i*2) vv).drew c1 (BD.dv rfl) (by rw[lT];omega)
  have dn:w.heap.size<((((w.alloc (.cells ROW 206)).drew.setCells w.heap.size (i*2) vv).drew).setCells w.heap.size ((i+1)*2) (cs.drop (i*2))).heap.size:=by rw[vM.size];show w.heap.size<((w.alloc (.cells ROW 206)).drew.setCells w.heap.size (i*2) vv).heap.size;rw[zY.size];show w.heap.size<(w.alloc (.cells ROW 206)).heap.size;simp
  obtain⟨jc,hX⟩:=hM.move (w':=(((w.alloc (.cells ROW 206)).drew.setCells w.heap.size (i*2) vv).drew).setCells w.heap.size ((i+1)*2) (cs.drop (i*2))) (m1:=[.aS,.aS]) (D:=λid=>id=0\/id=1) (esz:=2) (E:=af (S.take i++e::S.drop i)) (l:=⟨w.heap.size,0,S.length+1,G⟩) (src:=λ_ _=>.sub 0 0 0)
   pd i3 (Nat.le_of_lt dn) ((vM.os.trans zY.os).trans rfl) ((vM.tape.trans zY.tape).trans rfl) ((vM.output.trans zY.output).trans rfl)
   (λx hx _=>((vM.heap x om).trans (zY.heap x om)).trans (hA.heap x hx))
   (λ_=>⟨dn,.inl (Ts _)⟩) G4 hGn hGm DQ
   (λg _=>⟨c2,vQ,by rw[DT,Kf,hRs];show 0+G*2<=G*2;omega,C3 _ ⟨w.heap.size,0,S.length+1,G⟩ c2 g (λk hk=>by
    show c2[0+k]? =_;rw[abb,oo,if_neg om,jZ,if_neg om,hRg _ hk]) (λk hk=>by
    show c2[0+(i*2+k)]? =_;rw[abb,oo,if_neg om,jZ,if_pos (by rw[A8];omega),show i*2+k-i*2=k by omega]) (λk hk=>by
    show c2[0+((i+1)*2+k)]? =_;rw[abb,oo,if_pos (by rw[lT];omega),show(i+1)*2+k-(i+1)*2=k by omega,C4])⟩)
   (λk DX j s el hk hj=>(iY k DX j s el hk hj).elim) (λ_ _ _ _ _⟨DX,s,el,hk,hj⟩ _=>(iY _ DX _ s el hk hj).elim)
  refine⟨_,_,_,_,rfl,⟨rfl,rfl⟩,jc,?_,hX⟩;refine⟨by simp[bF.move,WL],?_⟩
  have mE:(U.move ⟨w.heap.size,0,S.length+1,G⟩ λ_ _=>.sub 0 0 0).aH (.al 2)=⟨w.heap.size,0,S.length+1,G⟩:=by simp[bF.move,WL]
  rw[mE];exact⟨aaj _,Ts _,hGn,hGm,_,rfl,λ_=>aC⟩
def Obj.ob(o:Obj):Ob:=⟨o.ah,o.data,o.ak,o.target,o.aG,.sl 4 (o.aj.map br.enc),o.aA,o.am,o.up⟩
theorem Tw(l:List Obj):db l=Ps (l.map Obj.ob):=by show Dt.sl 9 (l.map Obj.enc)=Dt.sl 9 ((l.map Obj.ob).map Ob.enc);rw[abM];rfl
def jJ(l:List Obj)(n p:Nat)(name:ByteArray):List Obj:=match l[n]? with
 |none=>l
 |some o=>match (l.set n {o with ak:=(iG (name,(p:Int)) (o.ak.map nJ)).map fP})[p]? with
  |none=>l
  |some q=>(l.set n {o with ak:=(iG (name,(p:Int)) (o.ak.map nJ)).map fP}).set p {q with am:=IntKind.i64.wrap (q.am+1),up:=if q.ah=2 then(n:Int)else q.up}
def zo(b:Bool)(o:Obj)(y:List Obj)(name:ByteArray):List Obj×Int:=
 if o.ah≠2 then([],11)else if o.am=0 then([],6)else if b=false then([],7)else if fB (o.ak.map nJ) name>=0 then([],7)else if o.ak.length>=8 then([],15)else(y,0)
def pC(l:List Obj)(k ah:Int):Bool:=oz (l.map Obj.ob) k ah
def cN(b:Bool)(l:List Obj)(cL:Int)(name:ByteArray)(bn:Int):List Obj×Int:=
 if pC l cL 0=true then(if pC l bn 0=true then(match l[cL.toNat]? with
  |none=>([],6)
  |some o=>zo b o (jJ l cL.toNat bn.toNat name) name)else([],6))else([],6)
theorem wV{l:List Obj}{k:Int}(h:k<0):pC l k 0=false:=by
 unfold pC oz;rw[decide_eq_false (by omega:¬k>=0)];rfl
theorem wW{l:List Obj}{k:Int}(h:k>=(l.length:Int)):pC l k 0=false:=by
 unfold pC oz;rw[ML,decide_eq_false (by omega:¬k<(l.length:Int))];simp
theorem wX{l:List Obj}{n:Nat}(hn:n<l.length)(h:l[n].ah=0):pC l n 0=false:=by unfold pC oz;rw[aac,RA,uX hn];have:l[n].ob.ah=0:=h;simp[this]
theorem wY{l:List Obj}{n:Nat}(hn:n<l.length)(h:l[n].ah≠0):pC l n 0=true:=by unfold pC oz;rw[aac,RA,uX hn,ML];have:l[n].ob.ah≠0:=h;simp[this,hn]
theorem iN{l:List Obj}{k:Nat}(h:k<l.length):dx (l.map Obj.enc) (k:Nat)=some [.val (.int .i64 l[k].ah),.sl 1 l[k].data,.sl 2 l[k].ak,.val (.string l[k].target),.val (.int .i64 l[k].aG),.sl 4 (l[k].aj.map br.enc),.val (.int .i64 l[k].aA),.val (.int .i64 l[k].am),.val (.int .i64 l[k].up)]:=by rw[bA,RA,uX h];rfl
theorem WQ{Y:Nat->Nat}{m:Mem}{Z:Nat->Prop}{a a' b b':RV}(h1:xS Y m Z a a')(h2:xS Y m Z b b'):qQ Y m Z (.bz [a,b]) (.bz [a',b']):=by
 refine .bz rfl λi r r' h3 h4=>?_
 match i with
 |0=>cases h3;cases h4;exact h1
 |1=>cases h3;cases h4;exact h2
 |n+2=>simp at h3
theorem WR{Y:Nat->Nat}{m:Mem}{Z:Nat->Prop}{a a' b b' c c':RV}(h1:xS Y m Z a a')(h2:xS Y m Z b b')(h0:xS Y m Z c c'):qQ Y m Z (.bz [a,b,c]) (.bz [a',b',c']):=by
 refine .bz rfl λi r r' h3 h4=>?_
 match i with
 |0=>cases h3;cases h4;exact h1
 |1=>cases h3;cases h4;exact h2
 |2=>cases h3;cases h4;exact h0
 |n+3=>simp at h3
theorem pl{p Q:Nat}{l:List Obj}{k:Nat}{o:Obj}(hk:k<l.length):aW (bO p Q 0 l) k (kz p Q k o)=bO p Q 0 (l.set k o):=by
 rw[a8];apply abF;intro i;rw[fX,abb];by_cases h:k=i
 .subst h;rw[Tr (by rw[fW];exact hk),Tr hk]
  rfl
 .rw[WE h,WE h,fX,abb]
theorem Fz{p Q Q':Nat}{l:List Obj}{o:Obj}(hp:l[p]? =some o):aW (bO p Q 0 l) p (kz p Q' p o)=bO p Q' 0 l:=by
 have jD:=(I4.1 hp).1;rw[a8];apply abF;intro i;rw[fX,abb];by_cases h:p=i
 .subst h;rw[Tr (by rw[fW];exact jD),hp]
  rfl
 .rw[WE h,fX,abb];cases l[i]? with
  |none=>rfl
  |some x=>
   have h2:¬i=p:=λe=>h e.symm
   simp only[aaz,kz,if_neg h2]
theorem Ht{m:Mem}{Z:Nat->Prop}{pp:Option Nat}{id p Q:Nat}{l:List Obj}{o:Obj}{E:List (List Dt)}(hz:Z id)(hm:m[id]? =some (.row 9 (bO p Q 0 l)))(hzq:Z Q)(hq:m[Q]? =some (.row 2 (af E)))(hp:l[p]? =some o):
  dO m Z pp (.row id 9 0 none) (db (l.set p {o with ak:=E})):=by
 have jD:=(I4.1 hp).1;have key:∀(i:Nat)cs es,(bO p Q 0 l)[i]? =some cs->((l.set p {o with ak:=E}).map Obj.enc)[i]? =some es->j7 m Z (some id) cs es:=by
  intro i cs es h1 h2;rw[fX,abb]at h1;rw[RA]at h2;by_cases h:p=i
  .subst h;rw[Tr jD]at h2;rw[hp]at h1;cases h1;cases h2;simp only[kz,if_pos,Obj.enc];exact .cons (.aa _) (.cons (.aa _) (.cons (dO.eU hzq hq 0 none) (.cons (.aa _) (.cons (.aa _) (.cons (.aa _) (.cons (.aa _) (.cons (.aa _) (.cons (.aa _) .nil))))))))
  .rw[WE h]at h2;cases hx:l[i]? with
   |none=>rw[hx]at h1;cases h1
   |some x=>
    rw[hx]at h1 h2;cases h1;cases h2;have h3:¬i=p:=λe=>h e.symm
    simp only[kz,if_neg h3,Obj.enc];exact .cons (.aa _) (.cons (.aa _) (.cons (.aa _) (.cons (.aa _) (.cons (.aa _) (.cons (.aa _) (.cons (.aa _) (.cons (.aa _) (.cons (.aa _) .nil))))))))
 exact dO.row id 9 0 none _ _ hz hm (by rw[fW,ML,aaY]) (λi cs es h1 h2=>(key i cs es h1 h2).len) (λi cs es j c d h1 h2 h3 h4=>(key i cs es h1 h2).get j c d h3 h4)
theorem Jf(S:List (List Dt))(e:List Dt)(i:Nat)(hi:i<=S.length)(hl:S.length<=4194304){m:Mem}{K:CV->Mem->Prop}(a b:Nat)(DV:fJ [a,b]=true)(aD:eG m.length [a,b]=true)(ha:cD m a=some (.row 2 (af S)))(hb:cD m b=some (.row 2 (af [e])))(h:K (.rv (.one (.row m.length 2 0 none))) (cV m [a,b] [.aS,.aS,.row 2 (af (S.take i++e::S.drop i))])):aq prog 140 [.rv (.one (.row a 2 0 none)),an .i64 (i:Nat),.rv (.one (.row b 2 0 none))] m K:=by
 by_cases od:i<S.length
 .refine bq [a,b] m.length rfl rfl DV aD (args0:=[.rv (.one (.row 0 2 0 none)),an .i64 (i:Nat),.rv (.one (.row 1 2 0 none))]) rfl (m0:=[.row 2 (af S),.row 2 (af [e])]) (λi b' hi=>?_) (Je S e i od hl) (λr1 m1 hr=>?_)
  .match i,hi with
   |0,hi=>cases hi;exact .inr ⟨λh=>h,_,by rw[aT]at ha;exact ha,.bI rfl⟩
   |1,hi=>cases hi;exact .inr ⟨λh=>h,_,by rw[aT]at hb;exact hb,.bI rfl⟩
   |n+2,hi=>simp at hi
  .obtain⟨rfl,rfl⟩:=hr;refine⟨aC,?_⟩;show K (.rv (.one (.row (m.length+(2-2)) 2 0 none))) (cV m [a,b] [.aS,.aS,.row 2 ((af (S.take i++e::S.drop i)).map (λcs=>cs.map (CC.aU (sg [a,b] m.length))))])
   rw[hB];exact h
 .have:i=S.length:=om;subst this;refine Tq S e hl a b DV aD ha hb ?_;rw[abe,List.drop_length]at h;exact h
structure wZ(l:List Obj):Prop where
 nT:lG l
 en:∀o,o∈l->∃es:List NE,o.ak=es.map fP/\ER es/\es.length<=4194304/\∀e,e∈es->0<=e.2/\e.2<(l.length:Int)
def M7(R:List Obj×Int)(r:CV)(m:Mem):Prop:=∃r' m',View 0 ⟨[r],m⟩ ⟨[r'],m'⟩/\r'= .bz [mQ R.1,cK R.2]/\m'=[]
theorem gl{R:List Obj×Int}{m:Mem}(e:Int)(h:R=([],e)):M7 R (.bz [.one .aO,cK e]) m:=by subst h;refine⟨_,_,View.of m.length [] [] rfl rfl rfl rfl rfl rfl (.put (WQ (.one (.fy (.aO 9))) (.one (.aU (.aa _)))) .nil) (.nil _),rfl,rfl⟩
theorem sb{l:List Obj}{n p:Nat}(hn:n<l.length)(hp:p<l.length){name:ByteArray}{E:List (List Dt)}(hE:E=(iG (name,(p:Int)) (l[n].ak.map nJ)).map fP){q:Obj}(hq:q={l[p]with am:=IntKind.i64.wrap (l[p].am+1),up:=if l[p].ah=2 then(n:Int)else l[p].up}):
  ∃o2,(l.set p q)[n]? =some o2/\(l.set p q).set n {o2 with ak:=E}=jJ l n p name:=by
 subst hE;unfold jJ;rw[uX hn];simp only[];by_cases h:p=n
 .subst h;rw[Tr hn,Tr hn];refine⟨_,rfl,?_⟩;simp only[aco];subst hq;rfl
 .rw[WE h,uX hn,WE (λe=>h e.symm),uX hp]
  refine⟨_,rfl,?_⟩;simp only[];rw[List.set_comm _ _ h,<-hq]
theorem C5(l:List Obj)(hs:wZ l)(cL bn:Int)(name:ByteArray)(b:Bool)(hN:∀{m:Mem}{K:CV->Mem->Prop},K (aE b) m->aq prog 106 [eL name] m K):
  body prog c112 [cz l,an .i64 cL,eL name,an .i64 bn] [] (M7 (cN b l cL name bn)):=by
 have hE:∀R,R=cN b l cL name bn->body prog c112 [cz l,an .i64 cL,eL name,an .i64 bn] [] (M7 R)->body prog c112 [cz l,an .i64 cL,eL name,an .i64 bn] [] (M7 (cN b l cL name bn)):=λR h h2=>h▸h2
 refine aL (λh1=>?_) (λh1=>?_)
 .exact gl 6 (by unfold cN;rw[wV h1];rfl)
 obtain⟨n,rfl⟩:∃n:Nat,cL=n:=⟨cL.toNat,by have h1:¬cL<0:=h1;omega⟩
 refine aL (λh2=>?_) (λh2=>?_)
 .have h2:(n:Int)>=((l.map Obj.enc).length:Int):=h2;rw[ML]at h2;exact gl 6 (by unfold cN;rw[wW h2];rfl)
 have h2:¬(n:Int)>=((l.map Obj.enc).length:Int):=h2;rw[ML]at h2;have hn:n<l.length:=om;have Ov:=iN hn;refine ag Ov ?_;refine bp (λh3=>?_) (λh3=>?_)
 .exact gl 6 (by unfold cN;rw[wX hn h3];rfl)
 have h3:l[n].ah≠0:=h3;have d1:=wY hn h3;refine aL (λh4=>?_) (λh4=>?_)
 .exact gl 6 (by unfold cN;rw[d1,wV h4];rfl)
 obtain⟨p,rfl⟩:∃p:Nat,bn=p:=⟨bn.toNat,by have h4:¬bn<0:=h4;omega⟩
 refine aL (λh5=>?_) (λh5=>?_)
 .have h5:(p:Int)>=((l.map Obj.enc).length:Int):=h5;rw[ML]at h5;exact gl 6 (by unfold cN;rw[d1,wW h5];rfl)
 have h5:¬(p:Int)>=((l.map Obj.enc).length:Int):=h5;rw[ML]at h5;have hp:p<l.length:=om;have hgp:=iN hp;refine ag hgp ?_;refine bp (λh6=>?_) (λh6=>?_)
 .exact gl 6 (by unfold cN;rw[d1,wX hp h6];rfl)
 have h6:l[p].ah≠0:=h6;have d2:=wY hp h6;have hR:cN b l n name p=zo b l[n] (jJ l n p name) name:=by unfold cN;rw[if_pos d1,if_pos d2,aac,aac,uX hn]
 rw[hR];unfold zo;refine ag Ov ?_;refine bs (λh7=>?_) (λh7=>?_)
 .exact gl 11 (if_pos h7)
 have h7:l[n].ah=2:=by simpa using h7
 rw[if_neg (by rw[h7];simp)]
 refine ag Ov ?_;refine bp (λh8=>?_) (λh8=>?_)
 .exact gl 6 (if_pos h8)
 have h8:l[n].am≠0:=h8;rw[if_neg h8];refine hN ?_;cases b with
 |false=>exact gl 7 (if_pos rfl)
 |true=>
 rw[if_neg aC];obtain⟨es,he,A5,PV,cH⟩:=hs.en _ (aal hn);have RH:l[n].ak.map nJ=es:=by rw[he,nt]
 refine C0 l n hn h7 es he om name ?_;have Yi:wR l es n name=fB es name:=zl A5 name;rw[Yi,RH];refine aL (λh9=>?_) (λh9=>?_)
 .exact gl 7 (if_pos h9)
 rw[if_neg h9];refine ag Ov ?_;refine aL (λTx=>?_) (λTx=>?_)
 .exact gl 15 (if_pos (by have Tx:(l[n].ak.length:Int)>=8:=Tx;omega))
 have Tx:¬(l[n].ak.length:Int)>=8:=Tx;rw[if_neg om];have aau:AS es name=false:=by
  have h9:¬fB es name>=0:=h9;rw[<-Yi]at h9;cases hb:AS es name with
  |false=>rfl
  |true=>
   exfalso;apply h9;unfold wR;rw[if_pos hb];unfold AS at hb;cases hg:es[qy es name]? with
   |none=>rw[hg]at hb;cases hb
   |some e=>exact(cH e (RD hg)).1
 have nS:∀Q,cD (bO n Q 0 l) n=some [.aa (.val (.int .i64 l[n].ah)),.aa (.sl 1 l[n].data),.row Q 2 0 none,.aa (.val (.string l[n].target)),.aa (.val (.int .i64 l[n].aG)),.aa (.sl 4 (l[n].aj.map br.enc)),.aa (.val (.int .i64 l[n].aA)),.aa (.val (.int .i64 l[n].am)),.aa (.val (.int .i64 l[n].up))]:=λQ=>by rw[aT,fX,uX hn,abb,aaz,kz,if_pos rfl]
 have UC:A3 l n l.length= .row 2 (af (es.map cX)):=by
  unfold A3;rw[show Nat.blt n l.length=true by simpa using hn]
  show Bk.row 2 (af (match l[n]? with|some o=>o.ak|none=>[]))=_
  rw[uX hn];show Bk.row 2 (af l[n].ak)=_;rw[he];rfl
 have WS:∀Q,lenOf (bO n Q 0 l).length 0 none=l.length:=λQ=>fW n Q l 0
 have tj:∀Q(k:Nat),k<l.length->dN (k:Nat) (lenOf (bO n Q 0 l).length 0 none)=some k:=λQ k hk=>cr (by rw[WS];exact hk)
 refine A4 l hs.nT n ?_;rw[UC];refine ag (tj 1 n hn) ?_;refine ag (nS 1) ?_;refine Td es om name 139 (λe m K h=>Tl e name h) (id:=1) rfl ?_
 refine ag (tj 1 n hn) ?_;refine ag (nS 1) ?_;have SG:qy es name<=es.length:=(oK A5 name es.length 0 es.length om om om (λk e hk=>absurd hk (abi k)) (λk e hk he=>by have:=(I4.1 he).1;omega)).1
 refine Jf (es.map cX) (cX (name,(p:Int))) (qy es name) (by rw[ML];exact SG) (by rw[ML];exact PV) 1 2 rfl rfl rfl rfl ?_
 refine ag (tj 1 n hn) ?_;refine ag (nS 1) ?_;have l8:aW (bO n 1 0 l) n [.aa (.val (.int .i64 l[n].ah)),.aa (.sl 1 l[n].data),.row 3 2 0 none,.aa (.val (.string l[n].target)),.aa (.val (.int .i64 l[n].aG)),.aa (.sl 4 (l[n].aj.map br.enc)),.aa (.val (.int .i64 l[n].aA)),.aa (.val (.int .i64 l[n].am)),.aa (.val (.int .i64 l[n].up))]=bO n 3 0 l:=by have:=Fz (p:=n) (Q:=1) (Q':=3) (uX hn);rw[<-this,kz,if_pos rfl]
 have Jg:(es.map cX).take (qy es name)++cX (name,(p:Int))::(es.map cX).drop (qy es name)=(iG (name,(p:Int)) (l[n].ak.map nJ)).map fP:=by rw[RH,Tp A5 aau,abw,aa9,aci,ac9];rfl
 have jp:∀L2:List Obj,L2=jJ l n p name->aw prog 0 aaf (oc prog c112.lK (M7 (jJ l n p name,0))) ⟨km 128 [(10,cz L2)],[]⟩:=λL2 h=>by subst h;exact⟨_,_,View.o 0 [] [] (.eq rfl .nil) (.nil _),rfl,rfl⟩
 by_cases Ks:p=n
 .have WT:cD (bO n 3 0 l) p=some [.aa (.val (.int .i64 l[p].ah)),.aa (.sl 1 l[p].data),.row 3 2 0 none,.aa (.val (.string l[p].target)),.aa (.val (.int .i64 l[p].aG)),.aa (.sl 4 (l[p].aj.map br.enc)),.aa (.val (.int .i64 l[p].aA)),.aa (.val (.int .i64 l[p].am)),.aa (.val (.int .i64 l[p].up))]:=by rw[aT,fX,uX hp,abb,aaz,kz,if_pos Ks]
  have ow:aW (aW (bO n 1 0 l) n [.aa (.val (.int .i64 l[n].ah)),.aa (.sl 1 l[n].data),.row 3 2 0 none,.aa (.val (.string l[n].target)),.aa (.val (.int .i64 l[n].aG)),.aa (.sl 4 (l[n].aj.map br.enc)),.aa (.val (.int .i64 l[n].aA)),.aa (.val (.int .i64 l[n].am)),.aa (.val (.int .i64 l[n].up))]) p [.aa (.val (.int .i64 l[p].ah)),.aa (.sl 1 l[p].data),.row 3 2 0 none,.aa (.val (.string l[p].target)),.aa (.val (.int .i64 l[p].aG)),.aa (.sl 4 (l[p].aj.map br.enc)),.aa (.val (.int .i64 l[p].aA)),.aa (.val (.int .i64 (IntKind.i64.wrap (l[p].am+1)))),.aa (.val (.int .i64 l[p].up))]=bO n 3 0 (l.set p {l[p]with am:=IntKind.i64.wrap (l[p].am+1)}):=by
   rw[l8];have:=pl (p:=n) (Q:=3) (o:={l[p]with am:=IntKind.i64.wrap (l[p].am+1)}) hp
   rw[<-this,kz,if_pos Ks]
  have eO:∀l2:List Obj,l2.length=l.length->dN (p:Nat) (lenOf (bO n 3 0 l2).length 0 none)=some p:=λl2 h=>cr (by rw[show lenOf (bO n 3 0 l2).length 0 none=l2.length from fW n 3 l2 0,h];exact hp)
  have qB:cD (aW (aW (bO n 1 0 l) n [.aa (.val (.int .i64 l[n].ah)),.aa (.sl 1 l[n].data),.row 3 2 0 none,.aa (.val (.string l[n].target)),.aa (.val (.int .i64 l[n].aG)),.aa (.sl 4 (l[n].aj.map br.enc)),.aa (.val (.int .i64 l[n].aA)),.aa (.val (.int .i64 l[n].am)),.aa (.val (.int .i64 l[n].up))]) p [.aa (.val (.int .i64 l[p].ah)),.aa (.sl 1 l[p].data),.row 3 2 0 none,.aa (.val (.string l[p].target)),.aa (.val (.int .i64 l[p].aG)),.aa (.sl 4 (l[p].aj.map br.enc)),.aa (.val (.int .i64 l[p].aA)),.aa (.val (.int .i64 (IntKind.i64.wrap (l[p].am+1)))),.aa (.val (.int .i64 l[p].up))]) p=some [.aa (.val (.int .i64 l[p].ah)),.aa (.sl 1 l[p].data),.row 3 2 0 none,.aa (.val (.string l[p].target)),.aa (.val (.int .i64 l[p].aG)),.aa (.sl 4 (l[p].aj.map br.enc)),.aa (.val (.int .i64 l[p].aA)),.aa (.val (.int .i64 (IntKind.i64.wrap (l[p].am+1)))),.aa (.val (.int .i64 l[p].up))]:=by
   rw[a8,aT,Tr (by rw[l8,fW];exact hp)]
  refine ag (by rw[l8];exact eO l rfl:dN (p:Nat) (lenOf (aW (bO n 1 0 l) n [.aa (.val (.int .i64 l[n].ah)),.aa (.sl 1 l[n].data),.row 3 2 0 none,.aa (.val (.string l[n].target)),.aa (.val (.int .i64 l[n].aG)),.aa (.sl 4 (l[n].aj.map br.enc)),.aa (.val (.int .i64 l[n].aA)),.aa (.val (.int .i64 l[n].am)),.aa (.val (.int .i64 l[n].up))]).length 0 none)=some p) ?_
  refine ag (by rw[l8];exact WT:cD (aW (bO n 1 0 l) n [.aa (.val (.int .i64 l[n].ah)),.aa (.sl 1 l[n].data),.row 3 2 0 none,.aa (.val (.string l[n].target)),.aa (.val (.int .i64 l[n].aG)),.aa (.sl 4 (l[n].aj.map br.enc)),.aa (.val (.int .i64 l[n].aA)),.aa (.val (.int .i64 l[n].am)),.aa (.val (.int .i64 l[n].up))]) p=some [.aa (.val (.int .i64 l[p].ah)),.aa (.sl 1 l[p].data),.row 3 2 0 none,.aa (.val (.string l[p].target)),.aa (.val (.int .i64 l[p].aG)),.aa (.sl 4 (l[p].aj.map br.enc)),.aa (.val (.int .i64 l[p].aA)),.aa (.val (.int .i64 l[p].am)),.aa (.val (.int .i64 l[p].up))]) ?_
  refine ag (by rw[l8];exact eO l rfl:dN (p:Nat) (lenOf (aW (bO n 1 0 l) n [.aa (.val (.int .i64 l[n].ah)),.aa (.sl 1 l[n].data),.row 3 2 0 none,.aa (.val (.string l[n].target)),.aa (.val (.int .i64 l[n].aG)),.aa (.sl 4 (l[n].aj.map br.enc)),.aa (.val (.int .i64 l[n].aA)),.aa (.val (.int .i64 l[n].am)),.aa (.val (.int .i64 l[n].up))]).length 0 none)=some p) ?_
  refine ag (by rw[l8];exact WT:cD (aW (bO n 1 0 l) n [.aa (.val (.int .i64 l[n].ah)),.aa (.sl 1 l[n].data),.row 3 2 0 none,.aa (.val (.string l[n].target)),.aa (.val (.int .i64 l[n].aG)),.aa (.sl 4 (l[n].aj.map br.enc)),.aa (.val (.int .i64 l[n].aA)),.aa (.val (.int .i64 l[n].am)),.aa (.val (.int .i64 l[n].up))]) p=some [.aa (.val (.int .i64 l[p].ah)),.aa (.sl 1 l[p].data),.row 3 2 0 none,.aa (.val (.string l[p].target)),.aa (.val (.int .i64 l[p].aG)),.aa (.sl 4 (l[p].aj.map br.enc)),.aa (.val (.int .i64 l[p].aA)),.aa (.val (.int .i64 l[p].am)),.aa (.val (.int .i64 l[p].up))]) ?_
  refine ag (by rw[ow];exact eO _ (aaY ..):dN (p:Nat) (lenOf (aW (aW (bO n 1 0 l) n [.aa (.val (.int .i64 l[n].ah)),.aa (.sl 1 l[n].data),.row 3 2 0 none,.aa (.val (.string l[n].target)),.aa (.val (.int .i64 l[n].aG)),.aa (.sl 4 (l[n].aj.map br.enc)),.aa (.val (.int .i64 l[n].aA)),.aa (.val (.int .i64 l[n].am)),.aa (.val (.int .i64 l[n].up))]) p [.aa (.val (.int .i64 l[p].ah)),.aa (.sl 1 l[p].data),.row 3 2 0 none,.aa (.val (.string l[p].target)),.aa (.val (.int .i64 l[p].aG)),.aa (.sl 4 (l[p].aj.map br.enc)),.aa (.val (.int .i64 l[p].aA)),.aa (.val (.int .i64 (IntKind.i64.wrap (l[p].am+1)))),.aa (.val (.int .i64 l[p].up))]).length 0 none)=some p) ?_
  refine ag qB ?_;refine bp (λhk=>?_) (λhk=>?_)
  .have hk:l[p].ah=2:=hk;have M8:aW (aW (aW (bO n 1 0 l) n [.aa (.val (.int .i64 l[n].ah)),.aa (.sl 1 l[n].data),.row 3 2 0 none,.aa (.val (.string l[n].target)),.aa (.val (.int .i64 l[n].aG)),.aa (.sl 4 (l[n].aj.map br.enc)),.aa (.val (.int .i64 l[n].aA)),.aa (.val (.int .i64 l[n].am)),.aa (.val (.int .i64 l[n].up))]) p [.aa (.val (.int .i64 l[p].ah)),.aa (.sl 1 l[p].data),.row 3 2 0 none,.aa (.val (.string l[p].target)),.aa (.val (.int .i64 l[p].aG)),.aa (.sl 4 (l[p].aj.map br.enc)),.aa (.val (.int .i64 l[p].aA)),.aa (.val (.int .i64 (IntKind.i64.wrap (l[p].am+1)))),.aa (.val (.int .i64 l[p].up))]) p [.aa (.val (.int .i64 l[p].ah)),.aa (.sl 1 l[p].data),.row 3 2 0 none,.aa (.val (.string l[p].target)),.aa (.val (.int .i64 l[p].aG)),.aa (.sl 4 (l[p].aj.map br.enc)),.aa (.val (.int .i64 l[p].aA)),.aa (.val (.int .i64 (IntKind.i64.wrap (l[p].am+1)))),.aa (.val (.int .i64 (n:Nat)))]=bO n 3 0 (l.set p {l[p]with am:=IntKind.i64.wrap (l[p].am+1),up:=(n:Int)}):=by
    rw[ow];have:=pl (p:=n) (Q:=3) (l:=l.set p {l[p]with am:=IntKind.i64.wrap (l[p].am+1)}) (k:=p) (o:={l[p]with am:=IntKind.i64.wrap (l[p].am+1),up:=(n:Int)}) (by rw[aaY];exact hp)
    rw[aco]at this;rw[<-this,kz,if_pos Ks]
   refine ag (by rw[ow];exact eO _ (aaY ..):dN (p:Nat) (lenOf (aW (aW (bO n 1 0 l) n [.aa (.val (.int .i64 l[n].ah)),.aa (.sl 1 l[n].data),.row 3 2 0 none,.aa (.val (.string l[n].target)),.aa (.val (.int .i64 l[n].aG)),.aa (.sl 4 (l[n].aj.map br.enc)),.aa (.val (.int .i64 l[n].aA)),.aa (.val (.int .i64 l[n].am)),.aa (.val (.int .i64 l[n].up))]) p [.aa (.val (.int .i64 l[p].ah)),.aa (.sl 1 l[p].data),.row 3 2 0 none,.aa (.val (.string l[p].target)),.aa (.val (.int .i64 l[p].aG)),.aa (.sl 4 (l[p].aj.map br.enc)),.aa (.val (.int .i64 l[p].aA)),.aa (.val (.int .i64 (IntKind.i64.wrap (l[p].am+1)))),.aa (.val (.int .i64 l[p].up))]).length 0 none)=some p) ?_
   refine ag qB ?_;obtain⟨o2,gV,ei⟩:=sb (name:=name) hn hp Jg (q:={l[p]with am:=IntKind.i64.wrap (l[p].am+1),up:=(n:Int)}) (by rw[if_pos hk])
   refine⟨_,View.o 4 [] [0,3] ?_ (.nil _),jp _ ei⟩
   iterate 10 refine .ap ?_
   refine .put (.rv (.one (.fy (p:=none) (Ht (Z:=λk=>bw [0,3] k=true) rfl (by show some (Bk.row 9 _)=some (Bk.row 9 _);congr 1;exact congrArg _ M8) rfl rfl gV)))) ?_
   repeat(first|exact .nil|refine .ap ?_)
  .have hk:l[p].ah≠2:=hk;obtain⟨o2,gV,ei⟩:=sb (name:=name) hn hp Jg (q:={l[p]with am:=IntKind.i64.wrap (l[p].am+1)}) (by rw[if_neg hk])
   refine⟨_,View.o 4 [] [0,3] ?_ (.nil _),jp _ ei⟩
   iterate 10 refine .ap ?_
   refine .put (.rv (.one (.fy (p:=none) (Ht (Z:=λk=>bw [0,3] k=true) rfl (by show some (Bk.row 9 _)=some (Bk.row 9 _);congr 1;exact congrArg _ ow) rfl rfl gV)))) ?_
   repeat(first|exact .nil|refine .ap ?_)
 .have WT:cD (bO n 3 0 l) p=some [.aa (.val (.int .i64 l[p].ah)),.aa (.sl 1 l[p].data),.aa (.sl 2 l[p].ak),.aa (.val (.string l[p].target)),.aa (.val (.int .i64 l[p].aG)),.aa (.sl 4 (l[p].aj.map br.enc)),.aa (.val (.int .i64 l[p].aA)),.aa (.val (.int .i64 l[p].am)),.aa (.val (.int .i64 l[p].up))]:=by rw[aT,fX,uX hp,abb,aaz,kz,if_neg Ks]
  have ow:aW (aW (bO n 1 0 l) n [.aa (.val (.int .i64 l[n].ah)),.aa (.sl 1 l[n].data),.row 3 2 0 none,.aa (.val (.string l[n].target)),.aa (.val (.int .i64 l[n].aG)),.aa (.sl 4 (l[n].aj.map br.enc)),.aa (.val (.int .i64 l[n].aA)),.aa (.val (.int .i64 l[n].am)),.aa (.val (.int .i64 l[n].up))]) p [.aa (.val (.int .i64 l[p].ah)),.aa (.sl 1 l[p].data),.aa (.sl 2 l[p].ak),.aa (.val (.string l[p].target)),.aa (.val (.int .i64 l[p].aG)),.aa (.sl 4 (l[p].aj.map br.enc)),.aa (.val (.int .i64 l[p].aA)),.aa (.val (.int .i64 (IntKind.i64.wrap (l[p].am+1)))),.aa (.val (.int .i64 l[p].up))]=bO n 3 0 (l.set p {l[p]with am:=IntKind.i64.wrap (l[p].am+1)}):=by
   rw[l8];have:=pl (p:=n) (Q:=3) (o:={l[p]with am:=IntKind.i64.wrap (l[p].am+1)}) hp
   rw[<-this,kz,if_neg Ks]
  have eO:∀l2:List Obj,l2.length=l.length->dN (p:Nat) (lenOf (bO n 3 0 l2).length 0 none)=some p:=λl2 h=>cr (by rw[show lenOf (bO n 3 0 l2).length 0 none=l2.length from fW n 3 l2 0,h];exact hp)
  have qB:cD (aW (aW (bO n 1 0 l) n [.aa (.val (.int .i64 l[n].ah)),.aa (.sl 1 l[n].data),.row 3 2 0 none,.aa (.val (.string l[n].target)),.aa (.val (.int .i64 l[n].aG)),.aa (.sl 4 (l[n].aj.map br.enc)),.aa (.val (.int .i64 l[n].aA)),.aa (.val (.int .i64 l[n].am)),.aa (.val (.int .i64 l[n].up))]) p [.aa (.val (.int .i64 l[p].ah)),.aa (.sl 1 l[p].data),.aa (.sl 2 l[p].ak),.aa (.val (.string l[p].target)),.aa (.val (.int .i64 l[p].aG)),.aa (.sl 4 (l[p].aj.map br.enc)),.aa (.val (.int .i64 l[p].aA)),.aa (.val (.int .i64 (IntKind.i64.wrap (l[p].am+1)))),.aa (.val (.int .i64 l[p].up))]) p=some [.aa (.val (.int .i64 l[p].ah)),.aa (.sl 1 l[p].data),.aa (.sl 2 l[p].ak),.aa (.val (.string l[p].target)),.aa (.val (.int .i64 l[p].aG)),.aa (.sl 4 (l[p].aj.map br.enc)),.aa (.val (.int .i64 l[p].aA)),.aa (.val (.int .i64 (IntKind.i64.wrap (l[p].am+1)))),.aa (.val (.int .i64 l[p].up))]:=by
   rw[a8,aT,Tr (by rw[l8,fW];exact hp)]
  refine ag (by rw[l8];exact eO l rfl:dN (p:Nat) (lenOf (aW (bO n 1 0 l) n [.aa (.val (.int .i64 l[n].ah)),.aa (.sl 1 l[n].data),.row 3 2 0 none,.aa (.val (.string l[n].target)),.aa (.val (.int .i64 l[n].aG)),.aa (.sl 4 (l[n].aj.map br.enc)),.aa (.val (.int .i64 l[n].aA)),.aa (.val (.int .i64 l[n].am)),.aa (.val (.int .i64 l[n].up))]).length 0 none)=some p) ?_
  refine ag (by rw[l8];exact WT:cD (aW (bO n 1 0 l) n [.aa (.val (.int .i64 l[n].ah)),.aa (.sl 1 l[n].data),.row 3 2 0 none,.aa (.val (.string l[n].target)),.aa (.val (.int .i64 l[n].aG)),.aa (.sl 4 (l[n].aj.map br.enc)),.aa (.val (.int .i64 l[n].aA)),.aa (.val (.int .i64 l[n].am)),.aa (.val (.int .i64 l[n].up))]) p=some [.aa (.val (.int .i64 l[p].ah)),.aa (.sl 1 l[p].data),.aa (.sl 2 l[p].ak),.aa (.val (.string l[p].target)),.aa (.val (.int .i64 l[p].aG)),.aa (.sl 4 (l[p].aj.map br.enc)),.aa (.val (.int .i64 l[p].aA)),.aa (.val (.int .i64 l[p].am)),.aa (.val (.int .i64 l[p].up))]) ?_
  refine ag (by rw[l8];exact eO l rfl:dN (p:Nat) (lenOf (aW (bO n 1 0 l) n [.aa (.val (.int .i64 l[n].ah)),.aa (.sl 1 l[n].data),.row 3 2 0 none,.aa (.val (.string l[n].target)),.aa (.val (.int .i64 l[n].aG)),.aa (.sl 4 (l[n].aj.map br.enc)),.aa (.val (.int .i64 l[n].aA)),.aa (.val (.int .i64 l[n].am)),.aa (.val (.int .i64 l[n].up))]).length 0 none)=some p) ?_
  refine ag (by rw[l8];exact WT:cD (aW (bO n 1 0 l) n [.aa (.val (.int .i64 l[n].ah)),.aa (.sl 1 l[n].data),.row 3 2 0 none,.aa (.val (.string l[n].target)),.aa (.val (.int .i64 l[n].aG)),.aa (.sl 4 (l[n].aj.map br.enc)),.aa (.val (.int .i64 l[n].aA)),.aa (.val (.int .i64 l[n].am)),.aa (.val (.int .i64 l[n].up))]) p=some [.aa (.val (.int .i64 l[p].ah)),.aa (.sl 1 l[p].data),.aa (.sl 2 l[p].ak),.aa (.val (.string l[p].target)),.aa (.val (.int .i64 l[p].aG)),.aa (.sl 4 (l[p].aj.map br.enc)),.aa (.val (.int .i64 l[p].aA)),.aa (.val (.int .i64 l[p].am)),.aa (.val (.int .i64 l[p].up))]) ?_
  refine ag (by rw[ow];exact eO _ (aaY ..):dN (p:Nat) (lenOf (aW (aW (bO n 1 0 l) n [.aa (.val (.int .i64 l[n].ah)),.aa (.sl 1 l[n].data),.row 3 2 0 none,.aa (.val (.string l[n].target)),.aa (.val (.int .i64 l[n].aG)),.aa (.sl 4 (l[n].aj.map br.enc)),.aa (.val (.int .i64 l[n].aA)),.aa (.val (.int .i64 l[n].am)),.aa (.val (.int .i64 l[n].up))]) p [.aa (.val (.int .i64 l[p].ah)),.aa (.sl 1 l[p].data),.aa (.sl 2 l[p].ak),.aa (.val (.string l[p].target)),.aa (.val (.int .i64 l[p].aG)),.aa (.sl 4 (l[p].aj.map br.enc)),.aa (.val (.int .i64 l[p].aA)),.aa (.val (.int .i64 (IntKind.i64.wrap (l[p].am+1)))),.aa (.val (.int .i64 l[p].up))]).length 0 none)=some p) ?_
  refine ag qB ?_;refine bp (λhk=>?_) (λhk=>?_)
  .have hk:l[p].ah=2:=hk;have M8:aW (aW (aW (bO n 1 0 l) n [.aa (.val (.int .i64 l[n].ah)),.aa (.sl 1 l[n].data),.row 3 2 0 none,.aa (.val (.string l[n].target)),.aa (.val (.int .i64 l[n].aG)),.aa (.sl 4 (l[n].aj.map br.enc)),.aa (.val (.int .i64 l[n].aA)),.aa (.val (.int .i64 l[n].am)),.aa (.val (.int .i64 l[n].up))]) p [.aa (.val (.int .i64 l[p].ah)),.aa (.sl 1 l[p].data),.aa (.sl 2 l[p].ak),.aa (.val (.string l[p].target)),.aa (.val (.int .i64 l[p].aG)),.aa (.sl 4 (l[p].aj.map br.enc)),.aa (.val (.int .i64 l[p].aA)),.aa (.val (.int .i64 (IntKind.i64.wrap (l[p].am+1)))),.aa (.val (.int .i64 l[p].up))]) p [.aa (.val (.int .i64 l[p].ah)),.aa (.sl 1 l[p].data),.aa (.sl 2 l[p].ak),.aa (.val (.string l[p].target)),.aa (.val (.int .i64 l[p].aG)),.aa (.sl 4 (l[p].aj.map br.enc)),.aa (.val (.int .i64 l[p].aA)),.aa (.val (.int .i64 (IntKind.i64.wrap (l[p].am+1)))),.aa (.val (.int .i64 (n:Nat)))]=bO n 3 0 (l.set p {l[p]with am:=IntKind.i64.wrap (l[p].am+1),up:=(n:Int)}):=by
    rw[ow];have:=pl (p:=n) (Q:=3) (l:=l.set p {l[p]with am:=IntKind.i64.wrap (l[p].am+1)}) (k:=p) (o:={l[p]with am:=IntKind.i64.wrap (l[p].am+1),up:=(n:Int)}) (by rw[aaY];exact hp)
    rw[aco]at this;rw[<-this,kz,if_neg Ks]
   refine ag (by rw[ow];exact eO _ (aaY ..):dN (p:Nat) (lenOf (aW (aW (bO n 1 0 l) n [.aa (.val (.int .i64 l[n].ah)),.aa (.sl 1 l[n].data),.row 3 2 0 none,.aa (.val (.string l[n].target)),.aa (.val (.int .i64 l[n].aG)),.aa (.sl 4 (l[n].aj.map br.enc)),.aa (.val (.int .i64 l[n].aA)),.aa (.val (.int .i64 l[n].am)),.aa (.val (.int .i64 l[n].up))]) p [.aa (.val (.int .i64 l[p].ah)),.aa (.sl 1 l[p].data),.aa (.sl 2 l[p].ak),.aa (.val (.string l[p].target)),.aa (.val (.int .i64 l[p].aG)),.aa (.sl 4 (l[p].aj.map br.enc)),.aa (.val (.int .i64 l[p].aA)),.aa (.val (.int .i64 (IntKind.i64.wrap (l[p].am+1)))),.aa (.val (.int .i64 l[p].up))]).length 0 none)=some p) ?_
   refine ag qB ?_;obtain⟨o2,gV,ei⟩:=sb (name:=name) hn hp Jg (q:={l[p]with am:=IntKind.i64.wrap (l[p].am+1),up:=(n:Int)}) (by rw[if_pos hk])
   refine⟨_,View.o 4 [] [0,3] ?_ (.nil _),jp _ ei⟩
   iterate 10 refine .ap ?_
   refine .put (.rv (.one (.fy (p:=none) (Ht (Z:=λk=>bw [0,3] k=true) rfl (by show some (Bk.row 9 _)=some (Bk.row 9 _);congr 1;exact congrArg _ M8) rfl rfl gV)))) ?_
   repeat(first|exact .nil|refine .ap ?_)
  .have hk:l[p].ah≠2:=hk;obtain⟨o2,gV,ei⟩:=sb (name:=name) hn hp Jg (q:={l[p]with am:=IntKind.i64.wrap (l[p].am+1)}) (by rw[if_neg hk])
   refine⟨_,View.o 4 [] [0,3] ?_ (.nil _),jp _ ei⟩
   iterate 10 refine .ap ?_
   refine .put (.rv (.one (.fy (p:=none) (Ht (Z:=λk=>bw [0,3] k=true) rfl (by show some (Bk.row 9 _)=some (Bk.row 9 _);congr 1;exact congrArg _ ow) rfl rfl gV)))) ?_
   repeat(first|exact .nil|refine .ap ?_)
theorem Jh(l:List Obj)(hs:wZ l)(cL bn:Int)(name:ByteArray)(b:Bool)(hN:∀{m:Mem}{K:CV->Mem->Prop},K (aE b) m->aq prog 106 [eL name] m K){m:Mem}{K:CV->Mem->Prop}(h:K (.bz [mQ (cN b l cL name bn).1,cK (cN b l cL name bn).2]) m):aq prog 112 [cz l,an .i64 cL,eL name,an .i64 bn] m K:=by
 refine bg (K0:=λr m=>r= .bz [mQ (cN b l cL name bn).1,cK (cN b l cL name bn).2]/\m=[]) (bG (b8 func112 l112 (C5 l hs cL bn name b hN)) λr m1⟨r',m',hv,h1,h2⟩=>⟨r',m',hv,h1,h2⟩) (by simp[cz,an,eL,CV.du,CC.du]) λr m1 hr=>?_
 obtain⟨rfl,rfl⟩:=hr;exact⟨_,cQ.self rfl,h⟩
def c28:LF:= ⟨3,[.tmp 0],(.seq (.ai [qu 0 (.aK qe)]) (.seq (.ai [qu 1 (.build [qd 0,.aO,.aO,(.aa (.val (.string ⟨#[]⟩))),qd 0,.aO,qd 0,qd 0,qd 0] [(0,1,qi 2),(7,1,qi 1),(4,1,(qi (-1))),(6,1,(qi (-1)))]),qu 2 (.nC 9 [qd 0,.aO,.aO,(.aa (.val (.string ⟨#[]⟩))),qd 0,.aO,qd 0,qd 0,qd 0] 1 [(0,1)]),qm 0 2]) .ret))⟩
def c68:LF:= ⟨90,[.tmp 6,.tmp 7,.tmp 8],(.seq (.ai [qu 5 (.box 2),qu 6 (.aK qe),qu 7 (.aK (qi 0)),qu 8 (.aK (qi 0))]) (.seq (.seq (.ai [qm 11 1,qu 12 (.aJ .lss 11 (qi 0)),qm 13 12,qg 14 (.aK 1) 13 false,qg 15 (.aK 0) 13 false,qg 16 (.len 1 15) 13 false,qg 17 (.aJ .geq 14 16) 13 false,qu 18 (.pick 13 (qb true) 17),qm 19 18,qg 20 (.aK 0) 19 false,qg 21 (.aK 1) 19 false,qg 22 (.cw 9 20 21) 19 false,qg 23 (.cj 0 22) 19 false,qg 24 (.load false 1 23) 19 false,qg 25 (.aJ .eql 24 (qi 0)) 19 false,qu 26 (.pick 19 (qb true) 25)]) (.cond 26 (.seq (.ai [qu 6 (.aK qe),qu 7 (.aK (qi 0)),qu 8 (.aK (qi 6))]) .ret) .skip)) (.seq (.seq (.ai [qm 27 0,qm 28 1,qu 29 (.cw 9 27 28),qf 30 0 29,ql 31 30,qu 32 (.aJ .neq 31 (qi 2))]) (.cond 32 (.seq (.ai [qu 6 (.aK qe),qu 7 (.aK (qi 0)),qu 8 (.aK (qi 11))]) .ret) .skip)) (.seq (.ai [qm 33 0,qm 34 1,ql 35 5,qu 36 (qc 108 [33,34,35]),qm 9 36]) (.seq (.block 0 (.seq (.ai [qm 38 9,qu 39 (.aJ .lss 38 (qi 0)),qm 37 39]) (.cond 37 (.seq (.ai [qu 6 (.aK qe),qu 7 (.aK (qi 0)),qu 8 (.aK (qi 6))]) .ret) (.seq (.ai [qm 41 0,qm 42 9,qu 43 (.cw 9 41 42),qf 44 0 43,ql 45 44,qu 46 (.aJ .eql 45 (qi 2)),qm 47 46,qg 48 (.aK 0) 47 true,qg 49 (.aK 9) 47 true,qg 50 (.cw 9 48 49) 47 true,qg 51 (.cj 2 50) 47 true,qg 52 (.load false 1 51) 47 true,qg 53 (.len 1 52) 47 true,qg 54 (.aJ .gtr 53 (qi 0)) 47 true,qu 55 (.pick 47 54 (qb false)),qm 40 55]) (.cond 40 (.seq (.ai [qu 6 (.aK qe),qu 7 (.aK (qi 0)),qu 8 (.aK (qi 18))]) .ret) .skip))))) (.seq (.ai [qm 56 0,qu 57 (qc 98 [56]),qm 10 57]) (.seq (.ai [qm 58 10,qm 59 1,qm 60 10,qm 61 1,qu 62 (.cw 9 60 61),qf 63 2 62,ql 64 63,qu 65 (.fn 110 [5]),qu 66 (qc 109 [64,65]),qu 67 (.cw 9 58 59),qf 68 2 67,qw (.store 1 68 66)]) (.seq (.ai [qm 69 10,qm 70 9,qu 71 (.cw 9 69 70),qf 72 7 71,ql 73 72,qu 74 (.aJ .sub 73 (qi 1)),qu 75 (.cw 9 69 70),qf 76 7 75,qw (.store 1 76 74)]) (.seq (.seq (.ai [qm 77 10,qm 78 9,qu 79 (.cw 9 77 78),qf 80 0 79,ql 81 80,qu 82 (.aJ .eql 81 (qi 2))]) (.cond 82 (.ai [qm 83 10,qm 84 9,qm 85 9,qu 86 (.cw 9 83 84),qf 87 8 86,qw (.store 1 87 85)]) .skip)) (.cS (.seq (.ai [qm 88 10,qm 89 9,qm 6 88,qm 7 89,qu 8 (.aK (qi 0))]) .ret)))))))))))⟩
def c109:LF:= ⟨42,[.tmp 4],(.seq (.ai [qu 4 (.aK qe)]) (.seq (.ai [qm 8 0,qm 9 1,qu 10 (qc 137 [8,9]),qm 5 10]) (.seq (.seq (.ai [qm 11 5,qu 12 (.aJ .eql 11 (qi (-1)))]) (.cond 12 (.seq (.ai [qm 13 0,qm 4 13]) .ret) .skip)) (.seq (.seq (.ai [qm 14 5,qu 15 (.aJ .add 14 (qi 1)),qm 6 15]) (.block 0 (.loop (.seq (.seq (.ai [qm 16 6,qm 17 0,qu 18 (.len 1 17),qu 19 (.aJ .lss 16 18)]) (.cond 19 .skip (.exit 0))) (.seq (.block 1 (.seq (.ai [qm 22 0,qm 23 6,qu 24 (.cw 2 22 23),qL 25 2 24,qu 7 (.alloc [(.aa (.val (.string ⟨#[]⟩))),qd 0]),qw (.store 2 7 25)]) (.seq (.ai [qm 26 1,qL 27 2 7,qu 28 (.call 26 [27]),qu 29 (.un .not 28)]) (.cond 29 (.seq (.ai [qm 30 0,qm 31 5,qL 32 2 7,qu 33 (.cw 2 30 31),qw (.store 2 33 32)]) (.ai [qm 34 5,qu 35 (.aJ .add 34 (qi 1)),qm 5 35])) .skip)))) (.ai [qm 20 6,qu 21 (.aJ .add 20 (qi 1)),qm 6 21])))))) (.seq (.ai [qm 36 0,qm 37 5,qu 38 (.nR 2 36 (some 37) none none),qw (.Uc 2 [(.aa (.val (.string ⟨#[]⟩))),qd 0] 38)]) (.seq (.ai [qm 39 0,qm 40 5,qu 41 (.nR 2 39 none (some 40) none),qm 4 41]) .ret))))))⟩
def c110:LF:= ⟨8,[.tmp 3],(.seq (.ai [qu 2 (.box 0),qu 3 (.aK (qb false))]) (.seq (.ai [qf 4 0 2,ql 5 4,ql 6 1,qu 7 (.aJ .eql 5 6),qm 3 7]) .ret))⟩
def c137:LF:= ⟨19,[.tmp 4],(.seq (.ai [qu 4 (.aK (qi 0))]) (.seq (.seq (.ai [qm 6 0,qu 7 (.len 1 6),qu 8 (.aK (qi 0))]) (.block 0 (.loop (.seq (.ai [qu 9 (.aJ .lss 8 7)]) (.seq (.cond 9 .skip (.exit 0)) (.seq (.block 1 (.seq (.ai [qm 10 8,qm 5 10]) (.seq (.ai [qm 11 1,qm 12 0,qm 13 5,qu 14 (.cw 2 12 13),qL 15 2 14,qu 16 (.call 11 [15])]) (.cond 16 (.seq (.ai [qm 17 5,qm 4 17]) .ret) .skip)))) (.ai [qu 18 (.aJ .add 8 (qi 1)),qm 8 18]))))))) (.seq (.ai [qu 4 (.aK (qi (-1)))]) .ret)))⟩
theorem l110:bu prog f110=some c110:=by kernel_rfl
theorem l137:bu prog f137=some c137:=by kernel_rfl
theorem l109:bu prog f109=some c109:=by kernel_rfl
theorem l68:bu prog f68=some c68.er:=by kernel_rfl
theorem l28:bu prog Tryz.f28=some c28:=by kernel_rfl
def G88:LC:=unW (mW (mW (mW (mW (mW (mW (mW (mW (mW c68.code)))))))))
def M9(name:ByteArray):Bk:= .var [.aa (.val (.string name))]
theorem C6(e:NE)(name:ByteArray):body prog c110 [wI e,.rv (.one (.ptr 0 0))] [.var ([Dt.val (.string name)].map .aa)] (λr m=>r=aE (e.1.toList==name.toList)/\∃ex,m= .var ([Dt.val (.string name)].map .aa)::ex):=by exact⟨rfl,_,rfl⟩
theorem Na(e:NE)(name:ByteArray)(K:CV->Mem->Prop)(h:K (aE (e.1.toList==name.toList)) [.var ([Dt.val (.string name)].map .aa)]):aq prog 110 [wI e,.rv (.one (.ptr 0 0))] [.var ([Dt.val (.string name)].map .aa)] K:=
 eH rfl (aY func110 l110 (C6 e name)) h
theorem FA{es:List NE}{k:Nat}(h:k<es.length):cD (af (es.map cX)) k=some [.aa (.val (.string es[k].1)),.aa (.val (.int .i64 es[k].2))]:=by rw[aT];simp[af,h,cX]
theorem Ji(es:List NE):lenOf (af (es.map cX)).length 0 none=es.length:=by show(af (es.map cX)).length=_;simp[af]
theorem C7(es:List NE)(hl:es.length<=4194304)(name:ByteArray)(j:Nat)(hj:j<es.length)(hjn:es[j].1.toList=name.toList)(hb:∀(i:Nat)e,i<j->es[i]? =some e->e.1.toList≠name.toList):
  body prog c137 [.rv (.one (.row 0 2 0 none)),.rv (.one (.fn 110 [1]))] [.row 2 (af (es.map cX)),M9 name] (λr m=>r=an .i64 (j:Nat)/\m=[.row 2 (af (es.map cX)),M9 name]):=by
 refine bb (λk=>k<=j) [0,1] (λk=>[(7,an .i64 (es.length:Nat)),(8,an .i64 (k:Nat))]) (λ_=>[.row 2 (af (es.map cX)),M9 name]) (λk=>j-k) 0 (aaj _) ?_ (λk hk=>?_)
 .refine View.o 2 [0,1] [] ?_ ?_
  .repeat(first|exact .nil|refine .ap ?_|refine .eq rfl ?_|refine .put (.aU (by rw[Ji];rfl)) ?_)
  .exact .pr rfl rfl rfl (.pt rfl rfl (.lU (ds:=[.val (.string name)]) rfl) (.nil _))
 have hk:k<=j:=hk;have f8:k<es.length:=om;refine cA (decide_eq_true (by show(k:Int)<(es.length:Int);omega)) ?_
 refine ag (cr (by rw[Ji];exact f8):dN (k:Nat) (lenOf (af (es.map cX)).length 0 none)=some k) ?_
 refine ag (FA f8) ?_;refine ff (args0:=[wI es[k],.rv (.one (.ptr 0 0))]) (cs:=[.val (.string name)]) 1 rfl rfl (r0:=aE (es[k].1.toList==name.toList)) rfl (λK hK=>Na es[k] name K hK) ?_
 refine aM (λh=>?_) (λh=>?_)
 .have h:es[k].1.toList=name.toList:=by simpa using h
  have:k=j:=by
   rcases aad k j with h2|h2
   .exact absurd h (hb k _ h2 (uX f8))
   .omega
  subst this;exact⟨rfl,rfl⟩
 .have dt:k≠j:=λe=>by subst e;rw[hjn]at h;simp at h
  refine⟨k+1,(by show k+1<=j;omega),(show j-(k+1)<j-k by omega),View.o 2 [0,1] [] ?_ ?_⟩
  .repeat(first|exact .nil|refine .ap ?_|refine .put (.aU (aN om).symm) ?_|refine .eq rfl ?_)
  .exact .pr rfl rfl rfl (.pt rfl rfl (.lU (ds:=[.val (.string name)]) rfl) (.nil _))
structure StD where
 t:Nat
 y:NE
def k7(a b:List NE)(t:Nat)(y:NE):List NE:=a++b.take t++y::b.drop t
theorem Nb{a b:List NE}{t:Nat}(h:t<=b.length)(y:NE):(k7 a b t y).length=a.length+b.length+1:=by simp[k7];omega
theorem Jj{a b:List NE}{t:Nat}(h:t<b.length)(y:NE):(k7 a b t y).set (a.length+t) b[t]=k7 a b (t+1) b[t]/\(k7 a b t y)[a.length+1+t]? =some b[t]:=by
 have h1:(a++b.take t).length=a.length+t:=by simp;omega
 have hd:b.drop t=b[t]::b.drop (t+1):=acC h;constructor
 .unfold k7;rw[acU _ _ om,h1,ack,ac5,List.take_succ_eq_append_getElem h,hd];simp only[aca,List.singleton_append]
 .unfold k7;rw[WH om,h1,show a.length+1+t-(a.length+t)=1 by omega,hd]
  rfl
def PW:NE:=(⟨#[]⟩,0)
theorem Jk(a b:List NE)(x:NE)(hl:a.length+b.length<=4194303)(name:ByteArray)(hx:x.1.toList=name.toList)(ha:∀e,e∈a->e.1.toList≠name.toList)(hb:∀e,e∈b->e.1.toList≠name.toList):
  body prog c109 [.rv (.one (.row 0 2 0 none)),.rv (.one (.fn 110 [1]))] [.row 2 (af ((a++x::b).map cX)),M9 name]
  (λr m=>r= .rv (.one (.row 0 2 0 (some (a.length+b.length))))/\m=[.row 2 (af ((a++b++ [PW]).map cX)),M9 name]):=by
 have hlen:(a++x::b).length=a.length+b.length+1:=by simp;omega
 refine(aY func137 l137 (C7 (a++x::b) om name a.length om (by simp[hx]) (λi e hi he=>?_))).mono λr m⟨hr,hm⟩=>?_
 .rw[Yf hi]at he;exact ha e (RD he)
 subst hr hm;refine bb (λs:StD=>s.t<=b.length) [0,1] (λs=>[(5,an .i64 ((a.length+s.t:Nat):Int)),(6,an .i64 ((a.length+1+s.t:Nat):Int))]) (λs=>[.row 2 (af ((k7 a b s.t s.y).map cX)),M9 name]) (λs=>b.length-s.t) ⟨0,x⟩ (aaj _) ?_ (λs hs=>?_)
 .refine View.o 2 [0,1] [] ?_ ?_
  .repeat(first|exact .nil|refine .ap ?_|refine .eq rfl ?_|refine .put (.aU (aN om).symm) ?_)
  .exact .pt rfl rfl (.bI (by show af _=af _;simp[k7])) (.pt rfl rfl (.lU (ds:=[.val (.string name)]) rfl) (.nil _))
 obtain⟨t,y⟩:=s;have hs:t<=b.length:=hs;have lT:=Nb (a:=a) hs y;refine aL (λh=>?_) (λh=>?_)
 .have h:((a.length+1+t:Nat):Int)<((lenOf (af ((k7 a b t y).map cX)).length 0 none:Nat):Int):=h;rw[Ji,lT]at h;have ht:t<b.length:=om;obtain⟨n1,n2⟩:=Jj (a:=a) ht y;have na:a.length+1+t<(k7 a b t y).length:=om;have lD:(k7 a b t y)[a.length+1+t]=b[t]:=by rw[uX na]at n2;exact acF n2
  have hr:=FA na;rw[lD]at hr;refine ag (cr (by rw[Ji];exact na):dN ((a.length+1+t:Nat):Int) (lenOf (af ((k7 a b t y).map cX)).length 0 none)=some (a.length+1+t)) ?_
  refine ag hr ?_;have dt:=hb b[t] (aal ht);generalize hbt:b[t]=v at n1 dt;refine ff (args0:=[wI v,.rv (.one (.ptr 0 0))]) (cs:=[.val (.string name)]) 1 rfl rfl (r0:=aE (v.1.toList==name.toList)) rfl (λK hK=>Na v name K hK) ?_
  refine cA (by simpa using dt) ?_
  refine ag (cr (by rw[Ji,lT];omega):dN ((a.length+t:Nat):Int) (lenOf (af ((k7 a b t y).map cX)).length 0 none)=some (a.length+t)) ?_
  refine ag (FA (by rw[lT];omega):cD (af ((k7 a b t y).map cX)) (a.length+t)=_) ?_
  have jg:aW (af ((k7 a b t y).map cX)) (a.length+t) [.aa (.val (.string v.1)),.aa (.val (.int .i64 v.2))]=af ((k7 a b (t+1) v).map cX):=by rw[<-n1,a8,abE];simp[af,abE,cX]
  have e1:=aN (k:=a.length+t) om;have e2:=aN (k:=a.length+1+t) om;refine⟨⟨t+1,v⟩,ht,(show b.length-(t+1)<b.length-t by omega),View.o 3 [0,1] [] ?_ ?_⟩
  .repeat(first|exact .nil|refine .ap ?_|refine .put (.aU e1.symm) ?_|refine .put (.aU e2.symm) ?_|refine .eq rfl ?_)
  .exact .pt rfl rfl (.bI jg) (.pt rfl rfl (.lU (ds:=[.val (.string name)]) rfl) (.nil _))
 .have h:¬((a.length+1+t:Nat):Int)<((lenOf (af ((k7 a b t y).map cX)).length 0 none:Nat):Int):=h;rw[Ji,lT]at h;have ht:t=b.length:=om;subst ht;have Yj:(af ((k7 a b b.length y).map cX)).length=a.length+b.length+1:=by rw[<-lT];simp[af]
  have ei:cP (af ((k7 a b b.length y).map cX)) (a.length+b.length) [[.aa (.val (.string ⟨#[]⟩)),.aa (.val (.int .i64 0))]]=af ((a++b++ [PW]).map cX):=by
   have h1:af ((k7 a b b.length y).map cX)=af ((a++b).map cX)++ [[.aa (.val (.string y.1)),.aa (.val (.int .i64 y.2))]]:=by simp[k7,af,cX]
   have h2:(af ((a++b).map cX)).length=a.length+b.length:=by simp[af]
   rw[h1,cP,List.take_left' h2,acQ (by rw[aba,h2];simp)]
   simp[af,cX,PW]
  generalize hX:af ((k7 a b b.length y).map cX)=X at Yj ei;have Yk:lenOf X.length 0 none=a.length+b.length+1:=Yj;refine cA (t:=(Nat.ble (a.length+b.length) (lenOf X.length 0 none)&&Nat.ble (lenOf X.length 0 none) (X.length-0))) (by rw[Yk,Yj];simp[abn]) ?_
  have RI:cP X (a.length+b.length) (gw (lenOf X.length 0 none-(a.length+b.length)) [.aa (.val (.string ⟨#[]⟩)),.aa (.val (.int .i64 0))])=af ((a++b++ [PW]).map cX):=by
   rw[Yk,show a.length+b.length+1-(a.length+b.length)=1 by omega]
   exact ei
  refine cA (t:=Nat.ble (lenOf X.length 0 none) X.length) (by rw[Yk,Yj];simp[abn]) ?_
  refine cA (t:=Nat.blt (a.length+b.length) (lenOf X.length 0 none)) (by rw[Yk,abL];omega) ?_
  refine cA (t:=(Nat.ble 0 (a.length+b.length)&&Nat.ble (a.length+b.length) ((cP X (a.length+b.length) (gw (lenOf X.length 0 none-(a.length+b.length)) [.aa (.val (.string ⟨#[]⟩)),.aa (.val (.int .i64 0))])).length-0))) (by rw[RI];simp[af,abn]) ?_
  exact⟨rfl,congrArg (λz=>[Bk.row 2 z,M9 name]) RI⟩
theorem Hu(a b:List NE)(x:NE)(hl:a.length+b.length<=4194303)(name:ByteArray)(hx:x.1.toList=name.toList)(ha:∀e,e∈a->e.1.toList≠name.toList)(hb:∀e,e∈b->e.1.toList≠name.toList){m:Mem}{K:CV->Mem->Prop}(i j:Nat)(rh:fJ [i,j]=true)(aD:eG m.length [i,j]=true)(hi:cD m i=some (.row 2 (af ((a++x::b).map cX))))(hj:cD m j=some (M9 name))(h:K (.rv (.one (.row i 2 0 (some (a.length+b.length))))) (cV m [i,j] [.row 2 (af ((a++b++ [PW]).map cX)),M9 name])):aq prog 109 [.rv (.one (.row i 2 0 none)),.rv (.one (.fn 110 [j]))] m K:=by
 refine bq [i,j] m.length rfl rfl rh aD (args0:=[.rv (.one (.row 0 2 0 none)),.rv (.one (.fn 110 [1]))]) rfl (m0:=[.row 2 (af ((a++x::b).map cX)),M9 name]) (λk b' hk=>?_) (aY func109 l109 (Jk a b x hl name hx ha hb)) (λr1 m1 hr=>?_)
 .match k,hk with
  |0,hk=>cases hk;exact .inr ⟨λh=>h,_,by rw[aT]at hi;exact hi,.bI rfl⟩
  |1,hk=>cases hk;exact .inr ⟨λh=>h,_,by rw[aT]at hj;exact hj,.lU (ds:=[.val (.string name)]) rfl⟩
  |n+2,hk=>simp at hk
 .obtain⟨rfl,rfl⟩:=hr;refine⟨aC,?_⟩;show K (.rv (.one (.row i 2 0 (some (a.length+b.length))))) (cV m [i,j] [.row 2 ((af ((a++b++ [PW]).map cX)).map (λcs=>cs.map (CC.aU (sg [i,j] m.length)))),M9 name])
  rw[hB];exact h
def mh(p:Nat)(c:CC)(k:Nat)(o:Obj):List CC:=[.aa (.val (.int .i64 o.ah)),.aa (.sl 1 o.data),(if k=p then c else .aa (.sl 2 o.ak)),.aa (.val (.string o.target)),.aa (.val (.int .i64 o.aG)),.aa (.sl 4 (o.aj.map br.enc)),.aa (.val (.int .i64 o.aA)),.aa (.val (.int .i64 o.am)),.aa (.val (.int .i64 o.up))]
def bQ(p:Nat)(c:CC)(l:List Obj):List (List CC):=(l.zipIdx.map λx=>mh p c x.2 x.1)
theorem fu(p:Nat)(c:CC)(l:List Obj)(i:Nat):(bQ p c l)[i]? =(l[i]?).map (mh p c i):=by
 simp only[bQ,RA,List.getElem?_zipIdx,abb];cases l[i]? <;>rfl
theorem ik(p:Nat)(c:CC)(l:List Obj):(bQ p c l).length=l.length:=by simp[bQ]
theorem Hv(p Q:Nat)(l:List Obj):bO p Q 0 l=bQ p (.row Q 2 0 none) l:=by apply abF;intro i;rw[fX,fu,abb];rfl
theorem il{p:Nat}{c:CC}{l:List Obj}{k:Nat}{o:Obj}(hk:k<l.length):aW (bQ p c l) k (mh p c k o)=bQ p c (l.set k o):=by
 rw[a8];apply abF;intro i;rw[fu];by_cases h:k=i
 .subst h;rw[Tr (by rw[ik];exact hk),Tr hk]
  rfl
 .rw[WE h,WE h,fu]
theorem FB{p:Nat}{c c':CC}{l:List Obj}{o:Obj}(hp:l[p]? =some o):aW (bQ p c l) p (mh p c' p o)=bQ p c' l:=by
 have jD:=(I4.1 hp).1;rw[a8];apply abF;intro i;rw[fu];by_cases h:p=i
 .subst h;rw[Tr (by rw[ik];exact jD),hp]
  rfl
 .rw[WE h,fu];cases l[i]? with
  |none=>rfl
  |some x=>
   have h2:¬i=p:=λe=>h e.symm
   simp only[aaz,mh,if_neg h2]
theorem C8{m:Mem}{Z:Nat->Prop}{pp:Option Nat}{id p:Nat}{c:CC}{l:List Obj}{o:Obj}{E:List (List Dt)}(hz:Z id)(hm:m[id]? =some (.row 9 (bQ p c l)))(hq:dO m Z (some id) c (.sl 2 E))(hp:l[p]? =some o):
  dO m Z pp (.row id 9 0 none) (db (l.set p {o with ak:=E})):=by
 have jD:=(I4.1 hp).1;have key:∀(i:Nat)cs es,(bQ p c l)[i]? =some cs->((l.set p {o with ak:=E}).map Obj.enc)[i]? =some es->j7 m Z (some id) cs es:=by
  intro i cs es h1 h2;rw[fu]at h1;rw[RA]at h2;by_cases h:p=i
  .subst h;rw[Tr jD]at h2;rw[hp]at h1;cases h1;cases h2;simp only[mh,if_pos,Obj.enc];exact .cons (.aa _) (.cons (.aa _) (.cons hq (.cons (.aa _) (.cons (.aa _) (.cons (.aa _) (.cons (.aa _) (.cons (.aa _) (.cons (.aa _) .nil))))))))
  .rw[WE h]at h2;cases hx:l[i]? with
   |none=>rw[hx]at h1;cases h1
   |some x=>
    rw[hx]at h1 h2;cases h1;cases h2;have h3:¬i=p:=λe=>h e.symm
    simp only[mh,if_neg h3,Obj.enc];exact .cons (.aa _) (.cons (.aa _) (.cons (.aa _) (.cons (.aa _) (.cons (.aa _) (.cons (.aa _) (.cons (.aa _) (.cons (.aa _) (.cons (.aa _) .nil))))))))
 exact dO.row id 9 0 none _ _ hz hm (by rw[ik,ML,aaY]) (λi cs es h1 h2=>(key i cs es h1 h2).len) (λi cs es j c d h1 h2 h3 h4=>(key i cs es h1 h2).get j c d h3 h4)
def k8(l:List Obj)(n k:Nat)(name:ByteArray):List Obj:=match l[n]? with
 |none=>l
 |some o=>match (l.set n {o with ak:=((o.ak.map nJ).filter λe=>decide (e.1.toList≠name.toList)).map fP})[k]? with
  |none=>l
  |some q=>(l.set n {o with ak:=((o.ak.map nJ).filter λe=>decide (e.1.toList≠name.toList)).map fP}).set k {q with am:=IntKind.i64.wrap (q.am-1),up:=if q.ah=2 then(k:Int)else q.up}
def w8(o:Obj)(l:List Obj)(n:Nat)(name:ByteArray):List Obj×Int×Int:=
 if o.ah≠2 then([],0,11)else if fB (o.ak.map nJ) name<0 then([],0,6)else match l[(fB (o.ak.map nJ) name).toNat]? with
  |none=>([],0,6)
  |some q=>if q.ah=2/\q.ak.length>0 then([],0,18)else(k8 l n (fB (o.ak.map nJ) name).toNat name,fB (o.ak.map nJ) name,0)
def cO(l:List Obj)(cL:Int)(name:ByteArray):List Obj×Int×Int:=
 if pC l cL 0=true then(match l[cL.toNat]? with
  |none=>([],0,6)
  |some o=>w8 o l cL.toNat name)else([],0,6)
theorem jK{l:List Obj}{n k:Nat}(hn:n<l.length)(hk:k<l.length){name:ByteArray}{E:List (List Dt)}(hE:E=((l[n].ak.map nJ).filter λe=>decide (e.1.toList≠name.toList)).map fP){q:Obj}(hq:q={l[k]with am:=IntKind.i64.wrap (l[k].am-1),up:=if l[k].ah=2 then(k:Int)else l[k].up}):
  ∃o2,(l.set k q)[n]? =some o2/\(l.set k q).set n {o2 with ak:=E}=k8 l n k name:=by
 subst hE;unfold k8;rw[uX hn];simp only[];by_cases h:k=n
 .subst h;rw[Tr hn,Tr hn];refine⟨_,rfl,?_⟩;simp only[aco];subst hq;rfl
 .rw[WE h,uX hn,WE (λe=>h e.symm),uX hk]
  refine⟨_,rfl,?_⟩;simp only[];rw[List.set_comm _ _ h,<-hq]
theorem Jl{es:List NE}(hs:ER es){name:ByteArray}(h:¬fB es name<0)(cH:∀e,e∈es->0<=e.2):∃a x b,es=a++x::b/\x.1.toList=name.toList/\x.2=fB es name/\(∀e,e∈a->e.1.toList≠name.toList)/\(∀e,e∈b->e.1.toList≠name.toList)/\es.filter (λe=>decide (e.1.toList≠name.toList))=a++b:=by
 rcases iH es name with⟨x,hx,h1,h2⟩|⟨h2,_⟩
 .obtain⟨a,b,rfl⟩:=List.append_of_mem hx;have hu:∀y,y∈a++x::b->y.1.toList=name.toList->y=x:=λy hy he=>wq hs hy hx (he.trans h1.symm)
  have hp:=hs;unfold ER at hp;rw[List.pairwise_append,acd]at hp;have hna:∀e,e∈a->e.1.toList≠name.toList:=λe he h3=>by have:=hp.2.2 e he x aC;rw[AB,h3,<-h1,oy]at this;cases this
  have hnb:∀e,e∈b->e.1.toList≠name.toList:=λe he h3=>by have:=hp.2.1.1 e he;rw[AB,h3,<-h1,oy]at this;cases this
  refine⟨a,x,b,rfl,h1,h2.symm,hna,hnb,?_⟩;rw[ac4,abW,if_neg (by simpa using h1),acq.2 (λe he=>by simpa using hna e he),acq.2 (λe he=>by simpa using hnb e he)]
 .rw[h2]at h;omega
def Ty(R:List Obj×Int×Int)(r:CV)(m:Mem):Prop:=∃r' m',View 0 ⟨[r],m⟩ ⟨[r'],m'⟩/\r'= .bz [mQ R.1,cK R.2.1,cK R.2.2]/\m'=[]
theorem mY{R:List Obj×Int×Int}{m:Mem}(e:Int)(h:R=([],0,e)):Ty R (.bz [.one .aO,cK 0,cK e]) m:=by subst h;exact⟨_,_,View.of m.length [] [] rfl rfl rfl rfl rfl rfl (.put (WR (.one (.fy (.aO 9))) (.one (.aU (.aa _))) (.one (.aU (.aa _)))) .nil) (.nil _),rfl,rfl⟩
theorem A9(l:List Obj)(hs:wZ l)(cL:Int)(name:ByteArray):body prog c68 [cz l,an .i64 cL,eL name] [] (Ty (cO l cL name)):=by
 refine aL (λh1=>?_) (λh1=>?_)
 .exact mY 6 (by unfold cO;rw[wV h1];rfl)
 obtain⟨n,rfl⟩:∃n:Nat,cL=n:=⟨cL.toNat,by have h1:¬cL<0:=h1;omega⟩
 refine aL (λh2=>?_) (λh2=>?_)
 .have h2:(n:Int)>=((l.map Obj.enc).length:Int):=h2;rw[ML]at h2;exact mY 6 (by unfold cO;rw[wW h2];rfl)
 have h2:¬(n:Int)>=((l.map Obj.enc).length:Int):=h2;rw[ML]at h2;have hn:n<l.length:=om;have Ov:=iN hn;refine ag Ov ?_;refine bp (λh3=>?_) (λh3=>?_)
 .exact mY 6 (by unfold cO;rw[wX hn h3];rfl)
 have h3:l[n].ah≠0:=h3;have hR:cO l n name=w8 l[n] l n name:=by unfold cO;rw[if_pos (wY hn h3),aac,uX hn]
 rw[hR];unfold w8;refine ag Ov ?_;refine bs (λh7=>?_) (λh7=>?_)
 .exact mY 11 (if_pos h7)
 have h7:l[n].ah=2:=by simpa using h7
 rw[if_neg (by rw[h7];simp)]
 obtain⟨es,he,A5,PV,cH⟩:=hs.en _ (aal hn);have RH:l[n].ak.map nJ=es:=by rw[he,nt]
 refine C0 l n hn h7 es he om name ?_;have Yi:wR l es n name=fB es name:=zl A5 name;rw[Yi,RH];refine aL (λh9=>?_) (λh9=>?_)
 .exact mY 6 (if_pos h9)
 have h9:¬fB es name<0:=h9;rw[if_neg h9];obtain⟨a,x,b,DV,hx,Uj,ha,hb,aav⟩:=Jl A5 h9 λe he=>(cH e he).1
 have hxr:=cH x (by rw[DV];simp)
 obtain⟨k,hk⟩:∃k:Nat,fB es name=k:=⟨(fB es name).toNat,om⟩;have f8:k<l.length:=om;have To:=iN f8;rw[hk,aac,uX f8];simp only[];have WU:a.length+b.length<=4194303:=by rw[DV]at PV;simp at PV;omega
 have nS:∀c,cD (bQ n c l) n=some [.aa (.val (.int .i64 l[n].ah)),.aa (.sl 1 l[n].data),c,.aa (.val (.string l[n].target)),.aa (.val (.int .i64 l[n].aG)),.aa (.sl 4 (l[n].aj.map br.enc)),.aa (.val (.int .i64 l[n].aA)),.aa (.val (.int .i64 l[n].am)),.aa (.val (.int .i64 l[n].up))]:=λc=>by rw[aT,fu,uX hn,aaz,mh,if_pos rfl]
 have UC:A3 l n l.length= .row 2 (af ((a++x::b).map cX)):=by
  unfold A3;rw[show Nat.blt n l.length=true by simpa using hn]
  show Bk.row 2 (af (match l[n]? with|some o=>o.ak|none=>[]))=_
  rw[uX hn];show Bk.row 2 (af l[n].ak)=_;rw[he,DV];rfl
 have eO:∀(c:CC)(l2:List Obj)(j:Nat),l2.length=l.length->j<l.length->dN (j:Nat) (lenOf (bQ n c l2).length 0 none)=some j:=λc l2 j h hj=>cr (by rw[show lenOf (bQ n c l2).length 0 none=l2.length from ik n c l2,h];exact hj)
 have Jg:((a++b).map cX)=((l[n].ak.map nJ).filter λe=>decide (e.1.toList≠name.toList)).map fP:=by rw[RH,aav];rfl
 have jp:∀L2:List Obj,L2=k8 l n k name->aw prog 0 G88 (oc prog c68.lK (Ty (k8 l n k name,(k:Int),0))) ⟨km 90 [(9,an .i64 (k:Nat)),(10,cz L2)],[]⟩:=λL2 h=>by subst h;exact⟨_,_,View.o 0 [] [] (.eq rfl .nil) (.nil _),rfl,rfl⟩
 have l8:(aW (bQ n (.row 2 2 0 none) l) n [.aa (.val (.int .i64 l[n].ah)),.aa (.sl 1 l[n].data),.row 2 2 0 (some (a.length+b.length)),.aa (.val (.string l[n].target)),.aa (.val (.int .i64 l[n].aG)),.aa (.sl 4 (l[n].aj.map br.enc)),.aa (.val (.int .i64 l[n].aA)),.aa (.val (.int .i64 l[n].am)),.aa (.val (.int .i64 l[n].up))])=bQ n (.row 2 2 0 (some (a.length+b.length))) l:=by have:=FB (p:=n) (c:= .row 2 2 0 none) (c':= .row 2 2 0 (some (a.length+b.length))) (uX hn);rw[<-this,mh,if_pos rfl]
 have iq:bV ((a++b++ [PW]).map cX) 0 (some (a.length+b.length))=(a++b).map cX:=by show((a++b++ [PW]).map cX).take (a.length+b.length)=_;rw[abw,List.take_left' aC]
 have hq:∀m:Mem,m[2]? =some (.row 2 (af ((a++b++ [PW]).map cX)))->dO m (λk=>bw [1,2] k=true) (some 1) (.row 2 2 0 (some (a.length+b.length))) (.sl 2 ((a++b).map cX)):=λm hm=>by
  have:=dO.eU (Z:=λk=>bw [1,2] k=true) (p:=some 1) rfl hm 0 (some (a.length+b.length))
  rw[iq]at this;exact this
 refine ag To ?_;refine bp (λBE=>?_) (λBE=>?_)
 .refine ag To ?_;refine aL (λpO=>?_) (λpO=>?_)
  .exact mY 18 (if_pos ⟨BE,by have pO:(l[k].ak.length:Int)>0:=pO;omega⟩)
  .rw[if_neg (λh=>pO (by show(l[k].ak.length:Int)>0;omega))]
   refine A4 l hs.nT n ?_;rw[UC,Hv];refine ag (eO (.row 2 2 0 none) l n rfl hn) ?_;refine ag (nS (.row 2 2 0 none)) ?_;refine Hu a b x WU name hx ha hb 2 0 rfl rfl rfl rfl ?_;refine ag (eO (.row 2 2 0 none) l n rfl hn) ?_;refine ag (nS (.row 2 2 0 none)) ?_;by_cases FC:k=n
   .have Nc:cD (bQ n (.row 2 2 0 (some (a.length+b.length))) l) k=some [.aa (.val (.int .i64 l[k].ah)),.aa (.sl 1 l[k].data),.row 2 2 0 (some (a.length+b.length)),.aa (.val (.string l[k].target)),.aa (.val (.int .i64 l[k].aG)),.aa (.sl 4 (l[k].aj.map br.enc)),.aa (.val (.int .i64 l[k].aA)),.aa (.val (.int .i64 l[k].am)),.aa (.val (.int .i64 l[k].up))]:=by rw[aT,fu,uX f8,aaz,mh,if_pos FC]
    have ow:(aW (aW (bQ n (.row 2 2 0 none) l) n [.aa (.val (.int .i64 l[n].ah)),.aa (.sl 1 l[n].data),.row 2 2 0 (some (a.length+b.length)),.aa (.val (.string l[n].target)),.aa (.val (.int .i64 l[n].aG)),.aa (.sl 4 (l[n].aj.map br.enc)),.aa (.val (.int .i64 l[n].aA)),.aa (.val (.int .i64 l[n].am)),.aa (.val (.int .i64 l[n].up))]) k [.aa (.val (.int .i64 l[k].ah)),.aa (.sl 1 l[k].data),.row 2 2 0 (some (a.length+b.length)),.aa (.val (.string l[k].target)),.aa (.val (.int .i64 l[k].aG)),.aa (.sl 4 (l[k].aj.map br.enc)),.aa (.val (.int .i64 l[k].aA)),.aa (.val (.int .i64 (IntKind.i64.wrap (l[k].am-1)))),.aa (.val (.int .i64 l[k].up))])=bQ n (.row 2 2 0 (some (a.length+b.length))) (l.set k {l[k]with am:=(IntKind.i64.wrap (l[k].am-1))}):=by
     rw[l8];have:=il (p:=n) (c:= .row 2 2 0 (some (a.length+b.length))) (o:={l[k]with am:=(IntKind.i64.wrap (l[k].am-1))}) f8
     rw[<-this,mh,if_pos FC]
    have qB:cD (aW (aW (bQ n (.row 2 2 0 none) l) n [.aa (.val (.int .i64 l[n].ah)),.aa (.sl 1 l[n].data),.row 2 2 0 (some (a.length+b.length)),.aa (.val (.string l[n].target)),.aa (.val (.int .i64 l[n].aG)),.aa (.sl 4 (l[n].aj.map br.enc)),.aa (.val (.int .i64 l[n].aA)),.aa (.val (.int .i64 l[n].am)),.aa (.val (.int .i64 l[n].up))]) k [.aa (.val (.int .i64 l[k].ah)),.aa (.sl 1 l[k].data),.row 2 2 0 (some (a.length+b.length)),.aa (.val (.string l[k].target)),.aa (.val (.int .i64 l[k].aG)),.aa (.sl 4 (l[k].aj.map br.enc)),.aa (.val (.int .i64 l[k].aA)),.aa (.val (.int .i64 (IntKind.i64.wrap (l[k].am-1)))),.aa (.val (.int .i64 l[k].up))]) k=some [.aa (.val (.int .i64 l[k].ah)),.aa (.sl 1 l[k].data),.row 2 2 0 (some (a.length+b.length)),.aa (.val (.string l[k].target)),.aa (.val (.int .i64 l[k].aG)),.aa (.sl 4 (l[k].aj.map br.enc)),.aa (.val (.int .i64 l[k].aA)),.aa (.val (.int .i64 (IntKind.i64.wrap (l[k].am-1)))),.aa (.val (.int .i64 l[k].up))]:=by
     rw[a8,aT,Tr (by rw[l8,ik];exact f8)]
    refine ag (by rw[l8];exact eO _ l k rfl f8:dN (k:Nat) (lenOf (aW (bQ n (.row 2 2 0 none) l) n [.aa (.val (.int .i64 l[n].ah)),.aa (.sl 1 l[n].data),.row 2 2 0 (some (a.length+b.length)),.aa (.val (.string l[n].target)),.aa (.val (.int .i64 l[n].aG)),.aa (.sl 4 (l[n].aj.map br.enc)),.aa (.val (.int .i64 l[n].aA)),.aa (.val (.int .i64 l[n].am)),.aa (.val (.int .i64 l[n].up))]).length 0 none)=some k) ?_
    refine ag (by rw[l8];exact Nc:cD (aW (bQ n (.row 2 2 0 none) l) n [.aa (.val (.int .i64 l[n].ah)),.aa (.sl 1 l[n].data),.row 2 2 0 (some (a.length+b.length)),.aa (.val (.string l[n].target)),.aa (.val (.int .i64 l[n].aG)),.aa (.sl 4 (l[n].aj.map br.enc)),.aa (.val (.int .i64 l[n].aA)),.aa (.val (.int .i64 l[n].am)),.aa (.val (.int .i64 l[n].up))]) k=some [.aa (.val (.int .i64 l[k].ah)),.aa (.sl 1 l[k].data),.row 2 2 0 (some (a.length+b.length)),.aa (.val (.string l[k].target)),.aa (.val (.int .i64 l[k].aG)),.aa (.sl 4 (l[k].aj.map br.enc)),.aa (.val (.int .i64 l[k].aA)),.aa (.val (.int .i64 l[k].am)),.aa (.val (.int .i64 l[k].up))]) ?_
    refine ag (by rw[l8];exact eO _ l k rfl f8:dN (k:Nat) (lenOf (aW (bQ n (.row 2 2 0 none) l) n [.aa (.val (.int .i64 l[n].ah)),.aa (.sl 1 l[n].data),.row 2 2 0 (some (a.length+b.length)),.aa (.val (.string l[n].target)),.aa (.val (.int .i64 l[n].aG)),.aa (.sl 4 (l[n].aj.map br.enc)),.aa (.val (.int .i64 l[n].aA)),.aa (.val (.int .i64 l[n].am)),.aa (.val (.int .i64 l[n].up))]).length 0 none)=some k) ?_
    refine ag (by rw[l8];exact Nc:cD (aW (bQ n (.row 2 2 0 none) l) n [.aa (.val (.int .i64 l[n].ah)),.aa (.sl 1 l[n].data),.row 2 2 0 (some (a.length+b.length)),.aa (.val (.string l[n].target)),.aa (.val (.int .i64 l[n].aG)),.aa (.sl 4 (l[n].aj.map br.enc)),.aa (.val (.int .i64 l[n].aA)),.aa (.val (.int .i64 l[n].am)),.aa (.val (.int .i64 l[n].up))]) k=some [.aa (.val (.int .i64 l[k].ah)),.aa (.sl 1 l[k].data),.row 2 2 0 (some (a.length+b.length)),.aa (.val (.string l[k].target)),.aa (.val (.int .i64 l[k].aG)),.aa (.sl 4 (l[k].aj.map br.enc)),.aa (.val (.int .i64 l[k].aA)),.aa (.val (.int .i64 l[k].am)),.aa (.val (.int .i64 l[k].up))]) ?_
    refine ag (by rw[ow];exact eO _ _ k (aaY ..) f8:dN (k:Nat) (lenOf (aW (aW (bQ n (.row 2 2 0 none) l) n [.aa (.val (.int .i64 l[n].ah)),.aa (.sl 1 l[n].data),.row 2 2 0 (some (a.length+b.length)),.aa (.val (.string l[n].target)),.aa (.val (.int .i64 l[n].aG)),.aa (.sl 4 (l[n].aj.map br.enc)),.aa (.val (.int .i64 l[n].aA)),.aa (.val (.int .i64 l[n].am)),.aa (.val (.int .i64 l[n].up))]) k [.aa (.val (.int .i64 l[k].ah)),.aa (.sl 1 l[k].data),.row 2 2 0 (some (a.length+b.length)),.aa (.val (.string l[k].target)),.aa (.val (.int .i64 l[k].aG)),.aa (.sl 4 (l[k].aj.map br.enc)),.aa (.val (.int .i64 l[k].aA)),.aa (.val (.int .i64 (IntKind.i64.wrap (l[k].am-1)))),.aa (.val (.int .i64 l[k].up))]).length 0 none)=some k) ?_
    refine ag qB ?_;refine bp (λqC=>?_) (λqC=>?_)
    .have qC:l[k].ah=2:=qC;have M8:(aW (aW (aW (bQ n (.row 2 2 0 none) l) n [.aa (.val (.int .i64 l[n].ah)),.aa (.sl 1 l[n].data),.row 2 2 0 (some (a.length+b.length)),.aa (.val (.string l[n].target)),.aa (.val (.int .i64 l[n].aG)),.aa (.sl 4 (l[n].aj.map br.enc)),.aa (.val (.int .i64 l[n].aA)),.aa (.val (.int .i64 l[n].am)),.aa (.val (.int .i64 l[n].up))]) k [.aa (.val (.int .i64 l[k].ah)),.aa (.sl 1 l[k].data),.row 2 2 0 (some (a.length+b.length)),.aa (.val (.string l[k].target)),.aa (.val (.int .i64 l[k].aG)),.aa (.sl 4 (l[k].aj.map br.enc)),.aa (.val (.int .i64 l[k].aA)),.aa (.val (.int .i64 (IntKind.i64.wrap (l[k].am-1)))),.aa (.val (.int .i64 l[k].up))]) k [.aa (.val (.int .i64 l[k].ah)),.aa (.sl 1 l[k].data),.row 2 2 0 (some (a.length+b.length)),.aa (.val (.string l[k].target)),.aa (.val (.int .i64 l[k].aG)),.aa (.sl 4 (l[k].aj.map br.enc)),.aa (.val (.int .i64 l[k].aA)),.aa (.val (.int .i64 (IntKind.i64.wrap (l[k].am-1)))),.aa (.val (.int .i64 (k:Nat)))])=bQ n (.row 2 2 0 (some (a.length+b.length))) (l.set k {l[k]with am:=(IntKind.i64.wrap (l[k].am-1)),up:=(k:Int)}):=by
      rw[ow];have:=il (p:=n) (c:= .row 2 2 0 (some (a.length+b.length))) (l:=l.set k {l[k]with am:=(IntKind.i64.wrap (l[k].am-1))}) (k:=k) (o:={l[k]with am:=(IntKind.i64.wrap (l[k].am-1)),up:=(k:Int)}) (by rw[aaY];exact f8)
      rw[aco]at this;rw[<-this,mh,if_pos FC]
     refine ag (by rw[ow];exact eO _ _ k (aaY ..) f8:dN (k:Nat) (lenOf (aW (aW (bQ n (.row 2 2 0 none) l) n [.aa (.val (.int .i64 l[n].ah)),.aa (.sl 1 l[n].data),.row 2 2 0 (some (a.length+b.length)),.aa (.val (.string l[n].target)),.aa (.val (.int .i64 l[n].aG)),.aa (.sl 4 (l[n].aj.map br.enc)),.aa (.val (.int .i64 l[n].aA)),.aa (.val (.int .i64 l[n].am)),.aa (.val (.int .i64 l[n].up))]) k [.aa (.val (.int .i64 l[k].ah)),.aa (.sl 1 l[k].data),.row 2 2 0 (some (a.length+b.length)),.aa (.val (.string l[k].target)),.aa (.val (.int .i64 l[k].aG)),.aa (.sl 4 (l[k].aj.map br.enc)),.aa (.val (.int .i64 l[k].aA)),.aa (.val (.int .i64 (IntKind.i64.wrap (l[k].am-1)))),.aa (.val (.int .i64 l[k].up))]).length 0 none)=some k) ?_
     refine ag qB ?_;obtain⟨o2,gV,ei⟩:=jK (name:=name) hn f8 Jg (q:={l[k]with am:=(IntKind.i64.wrap (l[k].am-1)),up:=(k:Int)}) (by rw[if_pos qC])
     refine⟨_,View.o 3 [] [1,2] ?_ (.nil _),jp _ ei⟩
     iterate 9 refine .ap ?_
     refine .eq rfl ?_;refine .put (.rv (.one (.fy (p:=none) (C8 (Z:=λk=>bw [1,2] k=true) rfl (by show some (Bk.row 9 _)=some (Bk.row 9 _);congr 1;exact congrArg _ M8) (hq _ rfl) gV)))) ?_
     repeat(first|exact .nil|refine .ap ?_)
    .have qC:l[k].ah≠2:=qC;obtain⟨o2,gV,ei⟩:=jK (name:=name) hn f8 Jg (q:={l[k]with am:=(IntKind.i64.wrap (l[k].am-1))}) (by rw[if_neg qC])
     refine⟨_,View.o 3 [] [1,2] ?_ (.nil _),jp _ ei⟩
     iterate 9 refine .ap ?_
     refine .eq rfl ?_;refine .put (.rv (.one (.fy (p:=none) (C8 (Z:=λk=>bw [1,2] k=true) rfl (by show some (Bk.row 9 _)=some (Bk.row 9 _);congr 1;exact congrArg _ ow) (hq _ rfl) gV)))) ?_
     repeat(first|exact .nil|refine .ap ?_)
   .have Nc:cD (bQ n (.row 2 2 0 (some (a.length+b.length))) l) k=some [.aa (.val (.int .i64 l[k].ah)),.aa (.sl 1 l[k].data),.aa (.sl 2 l[k].ak),.aa (.val (.string l[k].target)),.aa (.val (.int .i64 l[k].aG)),.aa (.sl 4 (l[k].aj.map br.enc)),.aa (.val (.int .i64 l[k].aA)),.aa (.val (.int .i64 l[k].am)),.aa (.val (.int .i64 l[k].up))]:=by rw[aT,fu,uX f8,aaz,mh,if_neg FC]
    have ow:(aW (aW (bQ n (.row 2 2 0 none) l) n [.aa (.val (.int .i64 l[n].ah)),.aa (.sl 1 l[n].data),.row 2 2 0 (some (a.length+b.length)),.aa (.val (.string l[n].target)),.aa (.val (.int .i64 l[n].aG)),.aa (.sl 4 (l[n].aj.map br.enc)),.aa (.val (.int .i64 l[n].aA)),.aa (.val (.int .i64 l[n].am)),.aa (.val (.int .i64 l[n].up))]) k [.aa (.val (.int .i64 l[k].ah)),.aa (.sl 1 l[k].data),.aa (.sl 2 l[k].ak),.aa (.val (.string l[k].target)),.aa (.val (.int .i64 l[k].aG)),.aa (.sl 4 (l[k].aj.map br.enc)),.aa (.val (.int .i64 l[k].aA)),.aa (.val (.int .i64 (IntKind.i64.wrap (l[k].am-1)))),.aa (.val (.int .i64 l[k].up))])=bQ n (.row 2 2 0 (some (a.length+b.length))) (l.set k {l[k]with am:=(IntKind.i64.wrap (l[k].am-1))}):=by
     rw[l8];have:=il (p:=n) (c:= .row 2 2 0 (some (a.length+b.length))) (o:={l[k]with am:=(IntKind.i64.wrap (l[k].am-1))}) f8
     rw[<-this,mh,if_neg FC]
    have qB:cD (aW (aW (bQ n (.row 2 2 0 none) l) n [.aa (.val (.int .i64 l[n].ah)),.aa (.sl 1 l[n].data),.row 2 2 0 (some (a.length+b.length)),.aa (.val (.string l[n].target)),.aa (.val (.int .i64 l[n].aG)),.aa (.sl 4 (l[n].aj.map br.enc)),.aa (.val (.int .i64 l[n].aA)),.aa (.val (.int .i64 l[n].am)),.aa (.val (.int .i64 l[n].up))]) k [.aa (.val (.int .i64 l[k].ah)),.aa (.sl 1 l[k].data),.aa (.sl 2 l[k].ak),.aa (.val (.string l[k].target)),.aa (.val (.int .i64 l[k].aG)),.aa (.sl 4 (l[k].aj.map br.enc)),.aa (.val (.int .i64 l[k].aA)),.aa (.val (.int .i64 (IntKind.i64.wrap (l[k].am-1)))),.aa (.val (.int .i64 l[k].up))]) k=some [.aa (.val (.int .i64 l[k].ah)),.aa (.sl 1 l[k].data),.aa (.sl 2 l[k].ak),.aa (.val (.string l[k].target)),.aa (.val (.int .i64 l[k].aG)),.aa (.sl 4 (l[k].aj.map br.enc)),.aa (.val (.int .i64 l[k].aA)),.aa (.val (.int .i64 (IntKind.i64.wrap (l[k].am-1)))),.aa (.val (.int .i64 l[k].up))]:=by
     rw[a8,aT,Tr (by rw[l8,ik];exact f8)]
    refine ag (by rw[l8];exact eO _ l k rfl f8:dN (k:Nat) (lenOf (aW (bQ n (.row 2 2 0 none) l) n [.aa (.val (.int .i64 l[n].ah)),.aa (.sl 1 l[n].data),.row 2 2 0 (some (a.length+b.length)),.aa (.val (.string l[n].target)),.aa (.val (.int .i64 l[n].aG)),.aa (.sl 4 (l[n].aj.map br.enc)),.aa (.val (.int .i64 l[n].aA)),.aa (.val (.int .i64 l[n].am)),.aa (.val (.int .i64 l[n].up))]).length 0 none)=some k) ?_
    refine ag (by rw[l8];exact Nc:cD (aW (bQ n (.row 2 2 0 none) l) n [.aa (.val (.int .i64 l[n].ah)),.aa (.sl 1 l[n].data),.row 2 2 0 (some (a.length+b.length)),.aa (.val (.string l[n].target)),.aa (.val (.int .i64 l[n].aG)),.aa (.sl 4 (l[n].aj.map br.enc)),.aa (.val (.int .i64 l[n].aA)),.aa (.val (.int .i64 l[n].am)),.aa (.val (.int .i64 l[n].up))]) k=some [.aa (.val (.int .i64 l[k].ah)),.aa (.sl 1 l[k].data),.aa (.sl 2 l[k].ak),.aa (.val (.string l[k].target)),.aa (.val (.int .i64 l[k].aG)),.aa (.sl 4 (l[k].aj.map br.enc)),.aa (.val (.int .i64 l[k].aA)),.aa (.val (.int .i64 l[k].am)),.aa (.val (.int .i64 l[k].up))]) ?_
    refine ag (by rw[l8];exact eO _ l k rfl f8:dN (k:Nat) (lenOf (aW (bQ n (.row 2 2 0 none) l) n [.aa (.val (.int .i64 l[n].ah)),.aa (.sl 1 l[n].data),.row 2 2 0 (some (a.length+b.length)),.aa (.val (.string l[n].target)),.aa (.val (.int .i64 l[n].aG)),.aa (.sl 4 (l[n].aj.map br.enc)),.aa (.val (.int .i64 l[n].aA)),.aa (.val (.int .i64 l[n].am)),.aa (.val (.int .i64 l[n].up))]).length 0 none)=some k) ?_
    refine ag (by rw[l8];exact Nc:cD (aW (bQ n (.row 2 2 0 none) l) n [.aa (.val (.int .i64 l[n].ah)),.aa (.sl 1 l[n].data),.row 2 2 0 (some (a.length+b.length)),.aa (.val (.string l[n].target)),.aa (.val (.int .i64 l[n].aG)),.aa (.sl 4 (l[n].aj.map br.enc)),.aa (.val (.int .i64 l[n].aA)),.aa (.val (.int .i64 l[n].am)),.aa (.val (.int .i64 l[n].up))]) k=some [.aa (.val (.int .i64 l[k].ah)),.aa (.sl 1 l[k].data),.aa (.sl 2 l[k].ak),.aa (.val (.string l[k].target)),.aa (.val (.int .i64 l[k].aG)),.aa (.sl 4 (l[k].aj.map br.enc)),.aa (.val (.int .i64 l[k].aA)),.aa (.val (.int .i64 l[k].am)),.aa (.val (.int .i64 l[k].up))]) ?_
    refine ag (by rw[ow];exact eO _ _ k (aaY ..) f8:dN (k:Nat) (lenOf (aW (aW (bQ n (.row 2 2 0 none) l) n [.aa (.val (.int .i64 l[n].ah)),.aa (.sl 1 l[n].data),.row 2 2 0 (some (a.length+b.length)),.aa (.val (.string l[n].target)),.aa (.val (.int .i64 l[n].aG)),.aa (.sl 4 (l[n].aj.map br.enc)),.aa (.val (.int .i64 l[n].aA)),.aa (.val (.int .i64 l[n].am)),.aa (.val (.int .i64 l[n].up))]) k [.aa (.val (.int .i64 l[k].ah)),.aa (.sl 1 l[k].data),.aa (.sl 2 l[k].ak),.aa (.val (.string l[k].target)),.aa (.val (.int .i64 l[k].aG)),.aa (.sl 4 (l[k].aj.map br.enc)),.aa (.val (.int .i64 l[k].aA)),.aa (.val (.int .i64 (IntKind.i64.wrap (l[k].am-1)))),.aa (.val (.int .i64 l[k].up))]).length 0 none)=some k) ?_
    refine ag qB ?_;refine bp (λqC=>?_) (λqC=>?_)
    .have qC:l[k].ah=2:=qC;have M8:(aW (aW (aW (bQ n (.row 2 2 0 none) l) n [.aa (.val (.int .i64 l[n].ah)),.aa (.sl 1 l[n].data),.row 2 2 0 (some (a.length+b.length)),.aa (.val (.string l[n].target)),.aa (.val (.int .i64 l[n].aG)),.aa (.sl 4 (l[n].aj.map br.enc)),.aa (.val (.int .i64 l[n].aA)),.aa (.val (.int .i64 l[n].am)),.aa (.val (.int .i64 l[n].up))]) k [.aa (.val (.int .i64 l[k].ah)),.aa (.sl 1 l[k].data),.aa (.sl 2 l[k].ak),.aa (.val (.string l[k].target)),.aa (.val (.int .i64 l[k].aG)),.aa (.sl 4 (l[k].aj.map br.enc)),.aa (.val (.int .i64 l[k].aA)),.aa (.val (.int .i64 (IntKind.i64.wrap (l[k].am-1)))),.aa (.val (.int .i64 l[k].up))]) k [.aa (.val (.int .i64 l[k].ah)),.aa (.sl 1 l[k].data),.aa (.sl 2 l[k].ak),.aa (.val (.string l[k].target)),.aa (.val (.int .i64 l[k].aG)),.aa (.sl 4 (l[k].aj.map br.enc)),.aa (.val (.int .i64 l[k].aA)),.aa (.val (.int .i64 (IntKind.i64.wrap (l[k].am-1)))),.aa (.val (.int .i64 (k:Nat)))])=bQ n (.row 2 2 0 (some (a.length+b.length))) (l.set k {l[k]with am:=(IntKind.i64.wrap (l[k].am-1)),up:=(k:Int)}):=by
      rw[ow];have:=il (p:=n) (c:= .row 2 2 0 (some (a.length+b.length))) (l:=l.set k {l[k]with am:=(IntKind.i64.wrap (l[k].am-1))}) (k:=k) (o:={l[k]with am:=(IntKind.i64.wrap (l[k].am-1)),up:=(k:Int)}) (by rw[aaY];exact f8)
      rw[aco]at this;rw[<-this,mh,if_neg FC]
     refine ag (by rw[ow];exact eO _ _ k (aaY ..) f8:dN (k:Nat) (lenOf (aW (aW (bQ n (.row 2 2 0 none) l) n [.aa (.val (.int .i64 l[n].ah)),.aa (.sl 1 l[n].data),.row 2 2 0 (some (a.length+b.length)),.aa (.val (.string l[n].target)),.aa (.val (.int .i64 l[n].aG)),.aa (.sl 4 (l[n].aj.map br.enc)),.aa (.val (.int .i64 l[n].aA)),.aa (.val (.int .i64 l[n].am)),.aa (.val (.int .i64 l[n].up))]) k [.aa (.val (.int .i64 l[k].ah)),.aa (.sl 1 l[k].data),.aa (.sl 2 l[k].ak),.aa (.val (.string l[k].target)),.aa (.val (.int .i64 l[k].aG)),.aa (.sl 4 (l[k].aj.map br.enc)),.aa (.val (.int .i64 l[k].aA)),.aa (.val (.int .i64 (IntKind.i64.wrap (l[k].am-1)))),.aa (.val (.int .i64 l[k].up))]).length 0 none)=some k) ?_
     refine ag qB ?_;obtain⟨o2,gV,ei⟩:=jK (name:=name) hn f8 Jg (q:={l[k]with am:=(IntKind.i64.wrap (l[k].am-1)),up:=(k:Int)}) (by rw[if_pos qC])
     refine⟨_,View.o 3 [] [1,2] ?_ (.nil _),jp _ ei⟩
     iterate 9 refine .ap ?_
     refine .eq rfl ?_;refine .put (.rv (.one (.fy (p:=none) (C8 (Z:=λk=>bw [1,2] k=true) rfl (by show some (Bk.row 9 _)=some (Bk.row 9 _);congr 1;exact congrArg _ M8) (hq _ rfl) gV)))) ?_
     repeat(first|exact .nil|refine .ap ?_)
    .have qC:l[k].ah≠2:=qC;obtain⟨o2,gV,ei⟩:=jK (name:=name) hn f8 Jg (q:={l[k]with am:=(IntKind.i64.wrap (l[k].am-1))}) (by rw[if_neg qC])
     refine⟨_,View.o 3 [] [1,2] ?_ (.nil _),jp _ ei⟩
     iterate 9 refine .ap ?_
     refine .eq rfl ?_;refine .put (.rv (.one (.fy (p:=none) (C8 (Z:=λk=>bw [1,2] k=true) rfl (by show some (Bk.row 9 _)=some (Bk.row 9 _);congr 1;exact congrArg _ ow) (hq _ rfl) gV)))) ?_
     repeat(first|exact .nil|refine .ap ?_)
 .rw[if_neg (λh=>BE h.1)]
  refine A4 l hs.nT n ?_;rw[UC,Hv];refine ag (eO (.row 2 2 0 none) l n rfl hn) ?_;refine ag (nS (.row 2 2 0 none)) ?_;refine Hu a b x WU name hx ha hb 2 0 rfl rfl rfl rfl ?_;refine ag (eO (.row 2 2 0 none) l n rfl hn) ?_;refine ag (nS (.row 2 2 0 none)) ?_;by_cases FC:k=n
  .have Nc:cD (bQ n (.row 2 2 0 (some (a.length+b.length))) l) k=some [.aa (.val (.int .i64 l[k].ah)),.aa (.sl 1 l[k].data),.row 2 2 0 (some (a.length+b.length)),.aa (.val (.string l[k].target)),.aa (.val (.int .i64 l[k].aG)),.aa (.sl 4 (l[k].aj.map br.enc)),.aa (.val (.int .i64 l[k].aA)),.aa (.val (.int .i64 l[k].am)),.aa (.val (.int .i64 l[k].up))]:=by rw[aT,fu,uX f8,aaz,mh,if_pos FC]
   have ow:(aW (aW (bQ n (.row 2 2 0 none) l) n [.aa (.val (.int .i64 l[n].ah)),.aa (.sl 1 l[n].data),.row 2 2 0 (some (a.length+b.length)),.aa (.val (.string l[n].target)),.aa (.val (.int .i64 l[n].aG)),.aa (.sl 4 (l[n].aj.map br.enc)),.aa (.val (.int .i64 l[n].aA)),.aa (.val (.int .i64 l[n].am)),.aa (.val (.int .i64 l[n].up))]) k [.aa (.val (.int .i64 l[k].ah)),.aa (.sl 1 l[k].data),.row 2 2 0 (some (a.length+b.length)),.aa (.val (.string l[k].target)),.aa (.val (.int .i64 l[k].aG)),.aa (.sl 4 (l[k].aj.map br.enc)),.aa (.val (.int .i64 l[k].aA)),.aa (.val (.int .i64 (IntKind.i64.wrap (l[k].am-1)))),.aa (.val (.int .i64 l[k].up))])=bQ n (.row 2 2 0 (some (a.length+b.length))) (l.set k {l[k]with am:=(IntKind.i64.wrap (l[k].am-1))}):=by
    rw[l8];have:=il (p:=n) (c:= .row 2 2 0 (some (a.length+b.length))) (o:={l[k]with am:=(IntKind.i64.wrap (l[k].am-1))}) f8
    rw[<-this,mh,if_pos FC]
   have qB:cD (aW (aW (bQ n (.row 2 2 0 none) l) n [.aa (.val (.int .i64 l[n].ah)),.aa (.sl 1 l[n].data),.row 2 2 0 (some (a.length+b.length)),.aa (.val (.string l[n].target)),.aa (.val (.int .i64 l[n].aG)),.aa (.sl 4 (l[n].aj.map br.enc)),.aa (.val (.int .i64 l[n].aA)),.aa (.val (.int .i64 l[n].am)),.aa (.val (.int .i64 l[n].up))]) k [.aa (.val (.int .i64 l[k].ah)),.aa (.sl 1 l[k].data),.row 2 2 0 (some (a.length+b.length)),.aa (.val (.string l[k].target)),.aa (.val (.int .i64 l[k].aG)),.aa (.sl 4 (l[k].aj.map br.enc)),.aa (.val (.int .i64 l[k].aA)),.aa (.val (.int .i64 (IntKind.i64.wrap (l[k].am-1)))),.aa (.val (.int .i64 l[k].up))]) k=some [.aa (.val (.int .i64 l[k].ah)),.aa (.sl 1 l[k].data),.row 2 2 0 (some (a.length+b.length)),.aa (.val (.string l[k].target)),.aa (.val (.int .i64 l[k].aG)),.aa (.sl 4 (l[k].aj.map br.enc)),.aa (.val (.int .i64 l[k].aA)),.aa (.val (.int .i64 (IntKind.i64.wrap (l[k].am-1)))),.aa (.val (.int .i64 l[k].up))]:=by
    rw[a8,aT,Tr (by rw[l8,ik];exact f8)]
   refine ag (by rw[l8];exact eO _ l k rfl f8:dN (k:Nat) (lenOf (aW (bQ n (.row 2 2 0 none) l) n [.aa (.val (.int .i64 l[n].ah)),.aa (.sl 1 l[n].data),.row 2 2 0 (some (a.length+b.length)),.aa (.val (.string l[n].target)),.aa (.val (.int .i64 l[n].aG)),.aa (.sl 4 (l[n].aj.map br.enc)),.aa (.val (.int .i64 l[n].aA)),.aa (.val (.int .i64 l[n].am)),.aa (.val (.int .i64 l[n].up))]).length 0 none)=some k) ?_
   refine ag (by rw[l8];exact Nc:cD (aW (bQ n (.row 2 2 0 none) l) n [.aa (.val (.int .i64 l[n].ah)),.aa (.sl 1 l[n].data),.row 2 2 0 (some (a.length+b.length)),.aa (.val (.string l[n].target)),.aa (.val (.int .i64 l[n].aG)),.aa (.sl 4 (l[n].aj.map br.enc)),.aa (.val (.int .i64 l[n].aA)),.aa (.val (.int .i64 l[n].am)),.aa (.val (.int .i64 l[n].up))]) k=some [.aa (.val (.int .i64 l[k].ah)),.aa (.sl 1 l[k].data),.row 2 2 0 (some (a.length+b.length)),.aa (.val (.string l[k].target)),.aa (.val (.int .i64 l[k].aG)),.aa (.sl 4 (l[k].aj.map br.enc)),.aa (.val (.int .i64 l[k].aA)),.aa (.val (.int .i64 l[k].am)),.aa (.val (.int .i64 l[k].up))]) ?_
   refine ag (by rw[l8];exact eO _ l k rfl f8:dN (k:Nat) (lenOf (aW (bQ n (.row 2 2 0 none) l) n [.aa (.val (.int .i64 l[n].ah)),.aa (.sl 1 l[n].data),.row 2 2 0 (some (a.length+b.length)),.aa (.val (.string l[n].target)),.aa (.val (.int .i64 l[n].aG)),.aa (.sl 4 (l[n].aj.map br.enc)),.aa (.val (.int .i64 l[n].aA)),.aa (.val (.int .i64 l[n].am)),.aa (.val (.int .i64 l[n].up))]).length 0 none)=some k) ?_
   refine ag (by rw[l8];exact Nc:cD (aW (bQ n (.row 2 2 0 none) l) n [.aa (.val (.int .i64 l[n].ah)),.aa (.sl 1 l[n].data),.row 2 2 0 (some (a.length+b.length)),.aa (.val (.string l[n].target)),.aa (.val (.int .i64 l[n].aG)),.aa (.sl 4 (l[n].aj.map br.enc)),.aa (.val (.int .i64 l[n].aA)),.aa (.val (.int .i64 l[n].am)),.aa (.val (.int .i64 l[n].up))]) k=some [.aa (.val (.int .i64 l[k].ah)),.aa (.sl 1 l[k].data),.row 2 2 0 (some (a.length+b.length)),.aa (.val (.string l[k].target)),.aa (.val (.int .i64 l[k].aG)),.aa (.sl 4 (l[k].aj.map br.enc)),.aa (.val (.int .i64 l[k].aA)),.aa (.val (.int .i64 l[k].am)),.aa (.val (.int .i64 l[k].up))]) ?_
   refine ag (by rw[ow];exact eO _ _ k (aaY ..) f8:dN (k:Nat) (lenOf (aW (aW (bQ n (.row 2 2 0 none) l) n [.aa (.val (.int .i64 l[n].ah)),.aa (.sl 1 l[n].data),.row 2 2 0 (some (a.length+b.length)),.aa (.val (.string l[n].target)),.aa (.val (.int .i64 l[n].aG)),.aa (.sl 4 (l[n].aj.map br.enc)),.aa (.val (.int .i64 l[n].aA)),.aa (.val (.int .i64 l[n].am)),.aa (.val (.int .i64 l[n].up))]) k [.aa (.val (.int .i64 l[k].ah)),.aa (.sl 1 l[k].data),.row 2 2 0 (some (a.length+b.length)),.aa (.val (.string l[k].target)),.aa (.val (.int .i64 l[k].aG)),.aa (.sl 4 (l[k].aj.map br.enc)),.aa (.val (.int .i64 l[k].aA)),.aa (.val (.int .i64 (IntKind.i64.wrap (l[k].am-1)))),.aa (.val (.int .i64 l[k].up))]).length 0 none)=some k) ?_
   refine ag qB ?_;refine bp (λqC=>?_) (λqC=>?_)
   .have qC:l[k].ah=2:=qC;have M8:(aW (aW (aW (bQ n (.row 2 2 0 none) l) n [.aa (.val (.int .i64 l[n].ah)),.aa (.sl 1 l[n].data),.row 2 2 0 (some (a.length+b.length)),.aa (.val (.string l[n].target)),.aa (.val (.int .i64 l[n].aG)),.aa (.sl 4 (l[n].aj.map br.enc)),.aa (.val (.int .i64 l[n].aA)),.aa (.val (.int .i64 l[n].am)),.aa (.val (.int .i64 l[n].up))]) k [.aa (.val (.int .i64 l[k].ah)),.aa (.sl 1 l[k].data),.row 2 2 0 (some (a.length+b.length)),.aa (.val (.string l[k].target)),.aa (.val (.int .i64 l[k].aG)),.aa (.sl 4 (l[k].aj.map br.enc)),.aa (.val (.int .i64 l[k].aA)),.aa (.val (.int .i64 (IntKind.i64.wrap (l[k].am-1)))),.aa (.val (.int .i64 l[k].up))]) k [.aa (.val (.int .i64 l[k].ah)),.aa (.sl 1 l[k].data),.row 2 2 0 (some (a.length+b.length)),.aa (.val (.string l[k].target)),.aa (.val (.int .i64 l[k].aG)),.aa (.sl 4 (l[k].aj.map br.enc)),.aa (.val (.int .i64 l[k].aA)),.aa (.val (.int .i64 (IntKind.i64.wrap (l[k].am-1)))),.aa (.val (.int .i64 (k:Nat)))])=bQ n (.row 2 2 0 (some (a.length+b.length))) (l.set k {l[k]with am:=(IntKind.i64.wrap (l[k].am-1)),up:=(k:Int)}):=by
     rw[ow];have:=il (p:=n) (c:= .row 2 2 0 (some (a.length+b.length))) (l:=l.set k {l[k]with am:=(IntKind.i64.wrap (l[k].am-1))}) (k:=k) (o:={l[k]with am:=(IntKind.i64.wrap (l[k].am-1)),up:=(k:Int)}) (by rw[aaY];exact f8)
     rw[aco]at this;rw[<-this,mh,if_pos FC]
    refine ag (by rw[ow];exact eO _ _ k (aaY ..) f8:dN (k:Nat) (lenOf (aW (aW (bQ n (.row 2 2 0 none) l) n [.aa (.val (.int .i64 l[n].ah)),.aa (.sl 1 l[n].data),.row 2 2 0 (some (a.length+b.length)),.aa (.val (.string l[n].target)),.aa (.val (.int .i64 l[n].aG)),.aa (.sl 4 (l[n].aj.map br.enc)),.aa (.val (.int .i64 l[n].aA)),.aa (.val (.int .i64 l[n].am)),.aa (.val (.int .i64 l[n].up))]) k [.aa (.val (.int .i64 l[k].ah)),.aa (.sl 1 l[k].data),.row 2 2 0 (some (a.length+b.length)),.aa (.val (.string l[k].target)),.aa (.val (.int .i64 l[k].aG)),.aa (.sl 4 (l[k].aj.map br.enc)),.aa (.val (.int .i64 l[k].aA)),.aa (.val (.int .i64 (IntKind.i64.wrap (l[k].am-1)))),.aa (.val (.int .i64 l[k].up))]).length 0 none)=some k) ?_
    refine ag qB ?_;obtain⟨o2,gV,ei⟩:=jK (name:=name) hn f8 Jg (q:={l[k]with am:=(IntKind.i64.wrap (l[k].am-1)),up:=(k:Int)}) (by rw[if_pos qC])
    refine⟨_,View.o 3 [] [1,2] ?_ (.nil _),jp _ ei⟩
    iterate 9 refine .ap ?_
    refine .eq rfl ?_;refine .put (.rv (.one (.fy (p:=none) (C8 (Z:=λk=>bw [1,2] k=true) rfl (by show some (Bk.row 9 _)=some (Bk.row 9 _);congr 1;exact congrArg _ M8) (hq _ rfl) gV)))) ?_
    repeat(first|exact .nil|refine .ap ?_)
   .have qC:l[k].ah≠2:=qC;obtain⟨o2,gV,ei⟩:=jK (name:=name) hn f8 Jg (q:={l[k]with am:=(IntKind.i64.wrap (l[k].am-1))}) (by rw[if_neg qC])
    refine⟨_,View.o 3 [] [1,2] ?_ (.nil _),jp _ ei⟩
    iterate 9 refine .ap ?_
    refine .eq rfl ?_;refine .put (.rv (.one (.fy (p:=none) (C8 (Z:=λk=>bw [1,2] k=true) rfl (by show some (Bk.row 9 _)=some (Bk.row 9 _);congr 1;exact congrArg _ ow) (hq _ rfl) gV)))) ?_
    repeat(first|exact .nil|refine .ap ?_)
  .have Nc:cD (bQ n (.row 2 2 0 (some (a.length+b.length))) l) k=some [.aa (.val (.int .i64 l[k].ah)),.aa (.sl 1 l[k].data),.aa (.sl 2 l[k].ak),.aa (.val (.string l[k].target)),.aa (.val (.int .i64 l[k].aG)),.aa (.sl 4 (l[k].aj.map br.enc)),.aa (.val (.int .i64 l[k].aA)),.aa (.val (.int .i64 l[k].am)),.aa (.val (.int .i64 l[k].up))]:=by rw[aT,fu,uX f8,aaz,mh,if_neg FC]
   have ow:(aW (aW (bQ n (.row 2 2 0 none) l) n [.aa (.val (.int .i64 l[n].ah)),.aa (.sl 1 l[n].data),.row 2 2 0 (some (a.length+b.length)),.aa (.val (.string l[n].target)),.aa (.val (.int .i64 l[n].aG)),.aa (.sl 4 (l[n].aj.map br.enc)),.aa (.val (.int .i64 l[n].aA)),.aa (.val (.int .i64 l[n].am)),.aa (.val (.int .i64 l[n].up))]) k [.aa (.val (.int .i64 l[k].ah)),.aa (.sl 1 l[k].data),.aa (.sl 2 l[k].ak),.aa (.val (.string l[k].target)),.aa (.val (.int .i64 l[k].aG)),.aa (.sl 4 (l[k].aj.map br.enc)),.aa (.val (.int .i64 l[k].aA)),.aa (.val (.int .i64 (IntKind.i64.wrap (l[k].am-1)))),.aa (.val (.int .i64 l[k].up))])=bQ n (.row 2 2 0 (some (a.length+b.length))) (l.set k {l[k]with am:=(IntKind.i64.wrap (l[k].am-1))}):=by
    rw[l8];have:=il (p:=n) (c:= .row 2 2 0 (some (a.length+b.length))) (o:={l[k]with am:=(IntKind.i64.wrap (l[k].am-1))}) f8
    rw[<-this,mh,if_neg FC]
   have qB:cD (aW (aW (bQ n (.row 2 2 0 none) l) n [.aa (.val (.int .i64 l[n].ah)),.aa (.sl 1 l[n].data),.row 2 2 0 (some (a.length+b.length)),.aa (.val (.string l[n].target)),.aa (.val (.int .i64 l[n].aG)),.aa (.sl 4 (l[n].aj.map br.enc)),.aa (.val (.int .i64 l[n].aA)),.aa (.val (.int .i64 l[n].am)),.aa (.val (.int .i64 l[n].up))]) k [.aa (.val (.int .i64 l[k].ah)),.aa (.sl 1 l[k].data),.aa (.sl 2 l[k].ak),.aa (.val (.string l[k].target)),.aa (.val (.int .i64 l[k].aG)),.aa (.sl 4 (l[k].aj.map br.enc)),.aa (.val (.int .i64 l[k].aA)),.aa (.val (.int .i64 (IntKind.i64.wrap (l[k].am-1)))),.aa (.val (.int .i64 l[k].up))]) k=some [.aa (.val (.int .i64 l[k].ah)),.aa (.sl 1 l[k].data),.aa (.sl 2 l[k].ak),.aa (.val (.string l[k].target)),.aa (.val (.int .i64 l[k].aG)),.aa (.sl 4 (l[k].aj.map br.enc)),.aa (.val (.int .i64 l[k].aA)),.aa (.val (.int .i64 (IntKind.i64.wrap (l[k].am-1)))),.aa (.val (.int .i64 l[k].up))]:=by
    rw[a8,aT,Tr (by rw[l8,ik];exact f8)]
   refine ag (by rw[l8];exact eO _ l k rfl f8:dN (k:Nat) (lenOf (aW (bQ n (.row 2 2 0 none) l) n [.aa (.val (.int .i64 l[n].ah)),.aa (.sl 1 l[n].data),.row 2 2 0 (some (a.length+b.length)),.aa (.val (.string l[n].target)),.aa (.val (.int .i64 l[n].aG)),.aa (.sl 4 (l[n].aj.map br.enc)),.aa (.val (.int .i64 l[n].aA)),.aa (.val (.int .i64 l[n].am)),.aa (.val (.int .i64 l[n].up))]).length 0 none)=some k) ?_
   refine ag (by rw[l8];exact Nc:cD (aW (bQ n (.row 2 2 0 none) l) n [.aa (.val (.int .i64 l[n].ah)),.aa (.sl 1 l[n].data),.row 2 2 0 (some (a.length+b.length)),.aa (.val (.string l[n].target)),.aa (.val (.int .i64 l[n].aG)),.aa (.sl 4 (l[n].aj.map br.enc)),.aa (.val (.int .i64 l[n].aA)),.aa (.val (.int .i64 l[n].am)),.aa (.val (.int .i64 l[n].up))]) k=some [.aa (.val (.int .i64 l[k].ah)),.aa (.sl 1 l[k].data),.aa (.sl 2 l[k].ak),.aa (.val (.string l[k].target)),.aa (.val (.int .i64 l[k].aG)),.aa (.sl 4 (l[k].aj.map br.enc)),.aa (.val (.int .i64 l[k].aA)),.aa (.val (.int .i64 l[k].am)),.aa (.val (.int .i64 l[k].up))]) ?_
   refine ag (by rw[l8];exact eO _ l k rfl f8:dN (k:Nat) (lenOf (aW (bQ n (.row 2 2 0 none) l) n [.aa (.val (.int .i64 l[n].ah)),.aa (.sl 1 l[n].data),.row 2 2 0 (some (a.length+b.length)),.aa (.val (.string l[n].target)),.aa (.val (.int .i64 l[n].aG)),.aa (.sl 4 (l[n].aj.map br.enc)),.aa (.val (.int .i64 l[n].aA)),.aa (.val (.int .i64 l[n].am)),.aa (.val (.int .i64 l[n].up))]).length 0 none)=some k) ?_
   refine ag (by rw[l8];exact Nc:cD (aW (bQ n (.row 2 2 0 none) l) n [.aa (.val (.int .i64 l[n].ah)),.aa (.sl 1 l[n].data),.row 2 2 0 (some (a.length+b.length)),.aa (.val (.string l[n].target)),.aa (.val (.int .i64 l[n].aG)),.aa (.sl 4 (l[n].aj.map br.enc)),.aa (.val (.int .i64 l[n].aA)),.aa (.val (.int .i64 l[n].am)),.aa (.val (.int .i64 l[n].up))]) k=some [.aa (.val (.int .i64 l[k].ah)),.aa (.sl 1 l[k].data),.aa (.sl 2 l[k].ak),.aa (.val (.string l[k].target)),.aa (.val (.int .i64 l[k].aG)),.aa (.sl 4 (l[k].aj.map br.enc)),.aa (.val (.int .i64 l[k].aA)),.aa (.val (.int .i64 l[k].am)),.aa (.val (.int .i64 l[k].up))]) ?_
   refine ag (by rw[ow];exact eO _ _ k (aaY ..) f8:dN (k:Nat) (lenOf (aW (aW (bQ n (.row 2 2 0 none) l) n [.aa (.val (.int .i64 l[n].ah)),.aa (.sl 1 l[n].data),.row 2 2 0 (some (a.length+b.length)),.aa (.val (.string l[n].target)),.aa (.val (.int .i64 l[n].aG)),.aa (.sl 4 (l[n].aj.map br.enc)),.aa (.val (.int .i64 l[n].aA)),.aa (.val (.int .i64 l[n].am)),.aa (.val (.int .i64 l[n].up))]) k [.aa (.val (.int .i64 l[k].ah)),.aa (.sl 1 l[k].data),.aa (.sl 2 l[k].ak),.aa (.val (.string l[k].target)),.aa (.val (.int .i64 l[k].aG)),.aa (.sl 4 (l[k].aj.map br.enc)),.aa (.val (.int .i64 l[k].aA)),.aa (.val (.int .i64 (IntKind.i64.wrap (l[k].am-1)))),.aa (.val (.int .i64 l[k].up))]).length 0 none)=some k) ?_
   refine ag qB ?_;refine bp (λqC=>?_) (λqC=>?_)
   .have qC:l[k].ah=2:=qC;have M8:(aW (aW (aW (bQ n (.row 2 2 0 none) l) n [.aa (.val (.int .i64 l[n].ah)),.aa (.sl 1 l[n].data),.row 2 2 0 (some (a.length+b.length)),.aa (.val (.string l[n].target)),.aa (.val (.int .i64 l[n].aG)),.aa (.sl 4 (l[n].aj.map br.enc)),.aa (.val (.int .i64 l[n].aA)),.aa (.val (.int .i64 l[n].am)),.aa (.val (.int .i64 l[n].up))]) k [.aa (.val (.int .i64 l[k].ah)),.aa (.sl 1 l[k].data),.aa (.sl 2 l[k].ak),.aa (.val (.string l[k].target)),.aa (.val (.int .i64 l[k].aG)),.aa (.sl 4 (l[k].aj.map br.enc)),.aa (.val (.int .i64 l[k].aA)),.aa (.val (.int .i64 (IntKind.i64.wrap (l[k].am-1)))),.aa (.val (.int .i64 l[k].up))]) k [.aa (.val (.int .i64 l[k].ah)),.aa (.sl 1 l[k].data),.aa (.sl 2 l[k].ak),.aa (.val (.string l[k].target)),.aa (.val (.int .i64 l[k].aG)),.aa (.sl 4 (l[k].aj.map br.enc)),.aa (.val (.int .i64 l[k].aA)),.aa (.val (.int .i64 (IntKind.i64.wrap (l[k].am-1)))),.aa (.val (.int .i64 (k:Nat)))])=bQ n (.row 2 2 0 (some (a.length+b.length))) (l.set k {l[k]with am:=(IntKind.i64.wrap (l[k].am-1)),up:=(k:Int)}):=by
     rw[ow];have:=il (p:=n) (c:= .row 2 2 0 (some (a.length+b.length))) (l:=l.set k {l[k]with am:=(IntKind.i64.wrap (l[k].am-1))}) (k:=k) (o:={l[k]with am:=(IntKind.i64.wrap (l[k].am-1)),up:=(k:Int)}) (by rw[aaY];exact f8)
     rw[aco]at this;rw[<-this,mh,if_neg FC]
    refine ag (by rw[ow];exact eO _ _ k (aaY ..) f8:dN (k:Nat) (lenOf (aW (aW (bQ n (.row 2 2 0 none) l) n [.aa (.val (.int .i64 l[n].ah)),.aa (.sl 1 l[n].data),.row 2 2 0 (some (a.length+b.length)),.aa (.val (.string l[n].target)),.aa (.val (.int .i64 l[n].aG)),.aa (.sl 4 (l[n].aj.map br.enc)),.aa (.val (.int .i64 l[n].aA)),.aa (.val (.int .i64 l[n].am)),.aa (.val (.int .i64 l[n].up))]) k [.aa (.val (.int .i64 l[k].ah)),.aa (.sl 1 l[k].data),.aa (.sl 2 l[k].ak),.aa (.val (.string l[k].target)),.aa (.val (.int .i64 l[k].aG)),.aa (.sl 4 (l[k].aj.map br.enc)),.aa (.val (.int .i64 l[k].aA)),.aa (.val (.int .i64 (IntKind.i64.wrap (l[k].am-1)))),.aa (.val (.int .i64 l[k].up))]).length 0 none)=some k) ?_
    refine ag qB ?_;obtain⟨o2,gV,ei⟩:=jK (name:=name) hn f8 Jg (q:={l[k]with am:=(IntKind.i64.wrap (l[k].am-1)),up:=(k:Int)}) (by rw[if_pos qC])
    refine⟨_,View.o 3 [] [1,2] ?_ (.nil _),jp _ ei⟩
    iterate 9 refine .ap ?_
    refine .eq rfl ?_;refine .put (.rv (.one (.fy (p:=none) (C8 (Z:=λk=>bw [1,2] k=true) rfl (by show some (Bk.row 9 _)=some (Bk.row 9 _);congr 1;exact congrArg _ M8) (hq _ rfl) gV)))) ?_
    repeat(first|exact .nil|refine .ap ?_)
   .have qC:l[k].ah≠2:=qC;obtain⟨o2,gV,ei⟩:=jK (name:=name) hn f8 Jg (q:={l[k]with am:=(IntKind.i64.wrap (l[k].am-1))}) (by rw[if_neg qC])
    refine⟨_,View.o 3 [] [1,2] ?_ (.nil _),jp _ ei⟩
    iterate 9 refine .ap ?_
    refine .eq rfl ?_;refine .put (.rv (.one (.fy (p:=none) (C8 (Z:=λk=>bw [1,2] k=true) rfl (by show some (Bk.row 9 _)=some (Bk.row 9 _);congr 1;exact congrArg _ ow) (hq _ rfl) gV)))) ?_
    repeat(first|exact .nil|refine .ap ?_)
theorem FD(l:List Obj)(hs:wZ l)(cL:Int)(name:ByteArray){m:Mem}{K:CV->Mem->Prop}(h:K (.bz [mQ (cO l cL name).1,cK (cO l cL name).2.1,cK (cO l cL name).2.2]) m):aq prog 68 [cz l,an .i64 cL,eL name] m K:=by
 refine bg (K0:=λr m=>r= .bz [mQ (cO l cL name).1,cK (cO l cL name).2.1,cK (cO l cL name).2.2]/\m=[]) (bG (b8 func68 l68 (A9 l hs cL name)) λr m1⟨r',m',hv,h1,h2⟩=>⟨r',m',hv,h1,h2⟩) (by simp[cz,an,eL,CV.du,CC.du]) λr m1 hr=>?_
 obtain⟨rfl,rfl⟩:=hr;exact⟨_,cQ.self rfl,h⟩
theorem FE(o:Obj)(hf:o.data.length<=4194304)(da n:Int):body prog c57 [o.cv,an .i64 da,an .i64 n] [] (λr m=>cQ m r (.bz [byR (jI o.ah o.data da n).1,cK (jI o.ah o.data da n).2])):=by
 obtain⟨ah,data,ak,target,aG,aj,aA,am,up⟩:=o;have hf:data.length<=4194304:=hf;show body prog c57 _ [] (λr m=>cQ m r (.bz [byR (jI ah data da n).1,cK (jI ah data da n).2]))
 refine bp (λh1=>?_) (λh1=>?_)
 .rw[jI,if_pos h1];exact kq (.one (.aO 1))
 refine bs (λh2=>?_) (λh2=>?_)
 .rw[jI,if_neg h1,if_pos h2];exact kq (.one (.aO 1))
 have hk:ah=1:=by simpa using h2
 refine aL (λh3=>?_) (λh3=>?_)
 .rw[jI,if_neg h1,if_neg (by simpa using hk),if_pos (.inl h3)]
  exact kq (.one (.aO 1))
 refine aL (λh4=>?_) (λh4=>?_)
 .rw[jI,if_neg h1,if_neg (by simpa using hk),if_pos (.inr h4)]
  exact kq (.one (.aO 1))
 rw[jI,if_neg h1,if_neg (by simpa using hk),if_neg (λh=>h.elim h3 h4)]
 have h3:¬da<0:=h3;have h4:¬n<0:=h4;obtain⟨A,rfl⟩:∃A:Nat,da=A:=⟨da.toNat,om⟩;obtain⟨N,rfl⟩:∃N:Nat,n=N:=⟨n.toNat,om⟩;rw[show((A:Nat):Int).toNat=A from rfl,show((N:Nat):Int).toNat=N from rfl];have H8:=ny A data.length;have hm2:=ny N (data.length-fg A data.length);have hL:p4 (an .i64 (if(data.length:Int)<(A:Int)then(data.length:Int)else(A:Int)))=some (fg A data.length):=by rw[r8];rfl
 have hE:IntKind.i64.wrap ((if(data.length:Int)<(A:Int)then(data.length:Int)else(A:Int))+(if IntKind.i64.wrap ((data.length:Int)-(if(data.length:Int)<(A:Int)then(data.length:Int)else(A:Int)))<(N:Int)then IntKind.i64.wrap ((data.length:Int)-(if(data.length:Int)<(A:Int)then(data.length:Int)else(A:Int)))else(N:Int)))
   =((fg A data.length+fg N (data.length-fg A data.length):Nat):Int):=by
  rw[r8,show(data.length:Int)-((fg A data.length:Nat):Int)=((data.length-fg A data.length:Nat):Int) by omega,nI om,r8,
   show((fg A data.length:Nat):Int)+((fg N (data.length-fg A data.length):Nat):Int)=((fg A data.length+fg N (data.length-fg A data.length):Nat):Int) by omega,nI om]
 have hH:p4 (an .i64 (IntKind.i64.wrap ((if(data.length:Int)<(A:Int)then(data.length:Int)else(A:Int))+(if IntKind.i64.wrap ((data.length:Int)-(if(data.length:Int)<(A:Int)then(data.length:Int)else(A:Int)))<(N:Int)then IntKind.i64.wrap ((data.length:Int)-(if(data.length:Int)<(A:Int)then(data.length:Int)else(A:Int)))else(N:Int)))))=some (fg A data.length+fg N (data.length-fg A data.length)):=by rw[hE];rfl
 refine ag hL ?_;refine ag hH ?_;refine cA (by rw[aab,abn,abn];show fg A data.length<=fg A data.length+fg N (data.length-fg A data.length)/\fg A data.length+fg N (data.length-fg A data.length)<=data.length;omega) ?_
 refine ig (I7 data A N) (by simp[I7];omega) ?_
 exact kq (e7.self rfl)
theorem Nd(o:Obj)(hf:o.data.length<=4194304)(da n:Int){m:Mem}{K:CV->Mem->Prop}(h:K (.bz [byR (jI o.ah o.data da n).1,cK (jI o.ah o.data da n).2]) m):aq prog 57 [o.cv,an .i64 da,an .i64 n] m K:=
 bg (aY func57 l57 (FE o hf da n)) (by simp[Obj.cv,Obj.enc,an,CV.du,CC.du,RV.du]) λr m1 hf=>⟨_,hf,h⟩
def c56:LF:= ⟨44,[.cell true 2 6,.tmp 7,.tmp 8],(.seq (.ai [qu 6 (.alloc [qd 0,qd 0]),qu 7 (.aK (qi 0)),qu 8 (.aK (qi 0))]) (.seq (.bR [qm 12 0,qu 13 (.aP 12),qf 14 0 13,qf 15 2 14,ql 16 15,qm 17 0,qu 18 (.aP 17),qf 19 3 18,ql 20 19,qu 21 (.cw 4 16 20),qf 22 3 21,ql 23 22,qm 24 1,qm 25 2,qu 26 (qc 96 [23,24,25]),qm 11 26,qu 27 (.ext 11 0),qu 28 (.ext 11 1),qu 9 (.alloc [qd 0,qd 0]),qw (.store 2 9 27),qm 10 28] [(.cons 0 none (.cons 1 none (.cons 2 none (.cons 3 none (.cons 4 none (.cons 5 none (.cons 6 none (.cons 7 none (.cons 8 none (.cons 9 none (.cons 10 none (.cons 11 none (.cons 12 none (.cons 13 none (.vn (.cons 14 (some []) (.cons 15 none (.cons 16 none (.cons 17 none (.cons 18 (some [11,9,8,4]) (.cons 19 (some []) (.cons 20 none .nil))))))) (.cons 18 (some [11,9,8,4]) (.cons 14 (some []) (.cons 15 none (.cons 16 none (.cons 17 none (.cons 19 (some []) (.cons 20 none .nil))))))))))))))))))))))]) (.cS (.seq (.seq (.ai [qm 29 10,qu 30 (.aJ .neq 29 (qi 0))]) (.cond 30 (.seq (.ai [qu 31 (.build [qd 0,qd 0] []),qm 32 10,qw (.store 2 6 31),qu 7 (.aK (qi 0)),qm 8 32]) .ret) .skip)) (.seq (.bR [qL 33 2 9,qm 34 0,qu 35 (.aP 34),qf 36 0 35,qf 37 1 36,ql 38 37,qf 39 0 9,ql 40 39,qu 41 (.cw 2 38 40),qf 42 0 41,ql 43 42,qw (.store 2 6 33),qm 7 43,qu 8 (.aK (qi 0))] [(.cons 0 none (.cons 1 none (.cons 2 none (.cons 3 none (.cons 4 none (.cons 5 none (.cons 6 none (.cons 7 none (.cons 8 none (.cons 9 none (.cons 10 none (.cons 11 (some [10,8,7,5]) (.cons 12 none (.cons 13 none .nil))))))))))))))]) .ret)))))⟩
def c63:LF:= ⟨30,[.tmp 6],(.seq (.ai [qu 6 (.aK (qi 0))]) (.seq (.seq (.ai [qm 7 2,qu 8 (.aJ .eql 7 (qi 0))]) (.cond 8 (.seq (.ai [qm 9 0,qm 10 0,qu 11 (.aP 10),qf 12 0 11,qL 13 3 12,qu 14 (qc 59 [13]),qu 15 (.aP 9),qf 16 0 15,qw (.store 3 16 14)]) (.bR [qm 17 0,qu 18 (.aP 17),qf 19 0 18,qf 20 2 19,ql 21 20,qm 22 0,qu 23 (.aP 22),qf 24 3 23,ql 25 24,qm 26 1,qu 27 (.cw 4 21 25),qf 28 3 27,qw (.store 1 28 26)] [(.cons 0 none (.cons 1 none (.cons 2 none (.cons 3 none (.cons 4 none (.cons 5 none (.cons 6 none (.cons 7 none (.cons 8 none (.cons 9 none (.cons 10 none (.cons 11 none (.cons 12 (some []) .nil)))))))))))))])) .skip)) (.seq (.ai [qm 29 2,qm 6 29]) .ret)))⟩
def c69:LF:= ⟨23,[.tmp 6],(.seq (.ai [qu 6 (.aK (qi 0))]) (.seq (.seq (.ai [qm 7 2,qu 8 (.aJ .eql 7 (qi 0))]) (.cond 8 (.seq (.ai [qm 9 0,qm 10 0,qu 11 (.aP 10),qf 12 0 11,qL 13 3 12,qu 14 (qc 59 [13]),qu 15 (.aP 9),qf 16 0 15,qw (.store 3 16 14)]) (.ai [qm 17 0,qm 18 1,qu 19 (.aP 17),qf 20 0 19,qf 21 0 20,qw (.store 1 21 18)])) .skip)) (.seq (.ai [qm 22 2,qm 6 22]) .ret)))⟩
namespace Kn
structure Cl where
 aA:Int
 ah:Int
 fd:Int
 fD:Int
 n:Int
 bt:Int
 ba:Int
 cJ:bK.dI
 data:List Int
structure An where
 fC:Int
 n:Int
 m:Int
 data:List (List Dt)
def An.no(e:Int):An:=⟨e,0,0,[]⟩
def An.enc(a:An):List Dt:=[.val (.int .i64 a.fC),.val (.int .i64 a.n),.val (.int .i64 a.m),.sl 1 a.data]
def An.rv(a:An):RV:= .agg (a.enc.map .aa)
def An.cv(a:An):CV:= .rv a.rv
def Cl.enc(c:Cl):List Dt:=[.val (.int .i64 c.aA),.val (.int .i64 c.ah),.val (.int .i64 c.fd),.val (.int .i64 c.fD),.val (.int .i64 c.n),.val (.int .i64 c.bt),.val (.int .i64 c.ba),.val (.string (bK.cF c.cJ)),.sl 1 (i4 c.data)]
def Cl.cv(c:Cl):CV:= .rv (.agg (c.enc.map .aa))
def cB(c:Cl):Bk:= .var (c.enc.map .aa)
def xC(k:Kr)(p:Nat):List Dt:=[db k.l,eN k.ops,gd k.ps,.val (.int .i64 (p:Nat))]
def xB(k:Kr)(p:Nat):Bk:= .var ((xC k p).map .aa)
def lH(a b:Int):Int:=IntKind.i64.wrap ((BitVec.ofInt 64 a&&&BitVec.ofInt 64 b).toNat:Int)
def Tz(a b:Int):Int:=IntKind.i64.wrap ((BitVec.ofInt 64 a|||BitVec.ofInt 64 b).toNat:Int)
def gE(l:List fk)(fd need:Int):(Int×Int)×Int:=(((Tb.nM (l.map mf) fd need).1.dP,(Tb.nM (l.map mf) fd need).1.b9),(Tb.nM (l.map mf) fd need).2)
def fv(l:List fk)(fd:Int):(Int×Int)×Int:=(((Tb.ec (l.map mf) fd).1.dP,(Tb.ec (l.map mf) fd).1.b9),(Tb.ec (l.map mf) fd).2)
def w9(l:List fk)(fd:Int):List fk×Int:=((Tb.nv (l.map mf) fd).1.map OH,(Tb.nv (l.map mf) fd).2)
def C9(l:List fk)(fd:Int):List fk×Int×Int:=((Tb.tz (l.map mf) fd).1.map OH,(Tb.tz (l.map mf) fd).2.1,(Tb.tz (l.map mf) fd).2.2)
def Da(l:List fk)(fd n:Int):List fk×Int:=((Tb.yk (l.map mf) fd n).1.map OH,(Tb.yk (l.map mf) fd n).2)
def TA(c:Int×Int):RV:= .agg [.aa (.val (.int .i64 c.1)),.aa (.val (.int .i64 c.2))]
theorem tL(l:List fk):mS l=Tb.dQ (l.map mf):=by show _=CV.rv (.one (.aa (Tb.qx (l.map mf))));rw[zh];rfl
theorem Db(l:List fk)(fd need:Int){m:Mem}{K:CV->Mem->Prop}(h:K (.bz [TA (gE l fd need).1,cK (gE l fd need).2]) m):aq prog 96 [mS l,an .i64 fd,an .i64 need] m K:=by rw[tL];exact Tb.ku _ fd need h
theorem Ba(l:List fk)(fd:Int){m:Mem}{K:CV->Mem->Prop}(h:K (.bz [TA (fv l fd).1,cK (fv l fd).2]) m):aq prog 73 [mS l,an .i64 fd] m K:=by rw[tL];exact Tb.wD _ fd h
theorem Jm(l:List fk)(hl:l.length<=2097152)(fd:Int){m:Mem}{K:CV->Mem->Prop}(h:K (.bz [L6 (w9 l fd).1,cK (w9 l fd).2]) m):aq prog 60 [mS l,an .i64 fd] m K:=by
 rw[tL];refine Tb.MA _ (by simpa using hl) fd ?_
 rw[pi];exact h
theorem PX(l:List fk)(hl:l.length<=2097152)(fd:Int){m:Mem}{K:CV->Mem->Prop}(h:K (.bz [L6 (C9 l fd).1,cK (C9 l fd).2.1,cK (C9 l fd).2.2]) m):aq prog 61 [mS l,an .i64 fd] m K:=by
 rw[tL];refine Tb.S8 _ (by simpa using hl) fd ?_
 rw[pi];exact h
theorem Jn(l:List fk)(hl:l.length<=2097152)(fd n:Int){m:Mem}{K:CV->Mem->Prop}(h:K (.bz [L6 (Da l fd n).1,cK (Da l fd n).2]) m):aq prog 62 [mS l,an .i64 fd,an .i64 n] m K:=by
 rw[tL];refine Tb.MF _ (by simpa using hl) fd n ?_
 rw[pi];exact h
def fE(ops:List bD)(z:Int):Int:=match ops[z.toNat]? with|some o=>o.bn|none=>0
def oM(ops:List bD)(z:Int):Int:=match ops[z.toNat]? with|some o=>o.da|none=>0
def bo(k:Kr)(p:Nat)(fd need:Int):(Int×Int)×Int×Int:=
 if(gE (ay k.ps p) fd need).2≠0 then((0,0),0,(gE (ay k.ps p) fd need).2)else((gE (ay k.ps p) fd need).1,fE k.ops (gE (ay k.ps p) fd need).1.1,0)
def fh(k:Kr)(p:Nat)(l:List fk)(e:Int):Kr:=if e=0 then⟨k.l,k.ops,dk k.ps p l⟩else k
def bP(k:Kr)(l:List Obj)(e:Int):Kr:=if e=0 then⟨l,k.ops,k.ps⟩else k
structure KW(k:Kr)(p:Nat):Prop where
 kr:dF k.l k.ops k.ps
 l40:k.l.length<=40
 DY:wZ k.l
 lk:nw (k.l.map Obj.ob)
 nm:∀o,o∈k.l->∀e,e∈o.ak.map nJ->e.1.size<=12
 hp:p<k.ps.length
 cap:∀s,s∈ay k.ps p->s.has=true->∃n j:Nat,s.dP=n/\n<k.ops.length/\fE k.ops n=j/\j<k.l.length
theorem d5{ps:List bl}{p:Nat}(hp:p<ps.length):ay ps p=ps[p].aV:=by rw[ay,uX hp]
theorem xb{l:List fk}{fd need:Int}(h:(gE l fd need).2=0):∃s,s∈l/\s.has=true/\(gE l fd need).1=(s.dP,s.b9):=by
 unfold gE Tb.nM at h|-;split at h
 .simp at h
 .rename_i hn;rw[if_neg hn];unfold Tb.ec at h|-;cases hx:(if 0<=fd then(l.map mf)[fd.toNat]? else none)with
  |none=>rw[hx]at h;simp at h
  |some s=>
   rw[hx]at h;simp only at h|-;cases hh:s.has with
   |false=>rw[hh]at h;simp at h
   |true=>
    split at hx
    .rw[RA]at hx;cases hy:l[fd.toNat]? with
     |none=>rw[hy]at hx;cases hx
     |some t=>
      rw[hy]at hx;simp only[aaz,aam]at hx;subst hx;exact⟨t,RD hy,hh,rfl⟩
    .cases hx
theorem KW.at{k:Kr}{p:Nat}(h:KW k p){fd need:Int}(he:(gE (ay k.ps p) fd need).2=0):∃n j:Nat,(gE (ay k.ps p) fd need).1.1=n/\n<k.ops.length/\fE k.ops n=j/\j<k.l.length:=by
 obtain⟨s,hs,hh,e⟩:=xb he;obtain⟨n,j,h1,h2⟩:=h.cap s hs hh;exact⟨n,j,by rw[e];exact h1,h2⟩
theorem KW.held{k:Kr}{p:Nat}(h:KW k p){fd need:Int}(he:(bo k p fd need).2.2=0):∃n j:Nat,(bo k p fd need).1.1=n/\n<k.ops.length/\(bo k p fd need).2.1=j/\j<k.l.length/\fE k.ops n=j:=by
 unfold bo at he|-;split at he
 .rename_i hn;exact absurd he hn
 .rename_i hn;rw[if_neg hn];obtain⟨n,j,h1,h2,h3,h4⟩:=h.at (Decidable.of_not_not hn);exact⟨n,j,h1,h2,by show fE k.ops _=_;rw[h1];exact h3,h4,h3⟩
theorem KW.nT{k:Kr}{p:Nat}(h:KW k p):lG k.l:=⟨h.kr.ll,λo ho=>(h.kr.sm o ho).nT⟩
theorem im{m:Mem}{Z:Nat->Prop}{id esz:Nat}{p:Option Nat}{ds:List (List Dt)}(hz:Z id)(hm:m[id]? =some (.row esz (af ds))):dO m Z p (.row id esz 0 none) (.sl esz ds):=by
 refine dO.row id esz 0 none (af ds) ds hz hm (by simp[af]) (λi cs es h1 h2=>?_) (λi cs es j c d h1 h2 h3 h4=>?_)
 .simp only[af,RA,h2,aaz,aam]at h1;subst h1;simp
 .simp only[af,RA,h2,aaz,aam]at h1;subst h1;rw[RA,h4]at h3;cases h3;exact .aa _
theorem bC(k:Kr)(p:Nat):xB k p≠.aS:=by intro h;cases h
theorem cf(c:Cl):cB c≠.aS:=by intro h;cases h
theorem TB{Y:Nat->Nat}{m:Mem}{Z:Nat->Prop}{id p:Nat}{a b c:CC}{k:Kr}(ha:dO m Z (some id) a (db k.l))(hb:dO m Z (some id) b (eN k.ops))(hc:dO m Z (some id) c (gd k.ps)):
  l9 Y m Z id (.var [a,b,c,.aa (.val (.int .i64 (p:Nat)))]) (xB k p):=
 fa.var (.cons (.fy ha) (.cons (.fy hb) (.cons (.fy hc) (.cons (.aU (.aa _)) .nil))))
theorem Hw{f:Nat}{args:List CV}(ha:∀Y,args.map (CV.aU Y)=args){k k':Kr}{p:Nat}{r0:CV}(hr:∀Y,r0.aU Y=r0)(hc:aq prog f (.rv (.one (.ptr 0 0))::args) [xB k p] (λr m=>r=r0/\m=[xB k' p])){m:Mem}(id:Nat)(hb:cD m id=some (xB k p)){K:CV->Mem->Prop}(hK:K r0 (aW m id (xB k' p))):aq prog f (.rv (.one (.ptr id 0))::args) m K:=by
 have hid:id<m.length:=by rw[aT]at hb;exact(I4.1 hb).1
 refine bq [id] m.length rfl rfl rfl (by simp[eG,hid]) (args0:= .rv (.one (.ptr 0 0))::args) (by rw[aa9,ha];rfl) (λi b' hi=>?_) hc (λr1 m1 rC=>?_)
 .cases i with
  |zero=>
   simp at hi;subst hi;refine .inr ⟨λh=>h,_,?_,.eq rfl (bC _ _)⟩
   rw[aT]at hb;exact hb
  |succ i=>simp at hi
 .obtain⟨rfl,rfl⟩:=rC;refine⟨Ts _,?_⟩;rw[hr];show K _ (cV m [id] [xB k' p]);rw[Cx];exact hK
theorem RJ{f:Nat}{args:List CV}(ha:∀Y,args.map (CV.aU Y)=args){k k':Kr}{p:Nat}{c:Cl}{r0:CV}(hr:∀Y,r0.aU Y=r0)(hc:aq prog f (.rv (.one (.ptr 0 0)):: .rv (.one (.ptr 1 0))::args) [xB k p,cB c] (λr m=>r=r0/\m=[xB k' p,cB c])){m:Mem}(i j:Nat)(rh:fJ [i,j]=true)(aD:eG m.length [i,j]=true)(hi:cD m i=some (xB k p))(hj:cD m j=some (cB c)){K:CV->Mem->Prop}(hK:K r0 (cV m [i,j] [xB k' p,cB c])):aq prog f (.rv (.one (.ptr i 0)):: .rv (.one (.ptr j 0))::args) m K:=by
 refine bq [i,j] m.length rfl rfl rh aD (args0:= .rv (.one (.ptr 0 0)):: .rv (.one (.ptr 1 0))::args) (by rw[aa9,aa9,ha];rfl) (λn b' hn=>?_) hc (λr1 m1 rC=>?_)
 .match n,hn with
  |0,hn=>
   cases hn;refine .inr ⟨λh=>h,_,?_,.eq rfl (bC _ _)⟩
   rw[aT]at hi;exact hi
  |1,hn=>
   cases hn;refine .inr ⟨λh=>h,_,?_,.eq rfl (cf _)⟩
   rw[aT]at hj;exact hj
  |n+2,hn=>simp at hn
 .obtain⟨rfl,rfl⟩:=rC;refine⟨Ts _,?_⟩;rw[hr];exact hK
theorem l56:bu prog f56=some c56.er:=by kernel_rfl
def PY(x:(Int×Int)×Int×Int):CV:= .bz [TA x.1,cK x.2.1,cK x.2.2]
def aaw:LC:=bL (bL c56.code)
def aax:LC:=qt aaw
theorem Dc(k:Kr)(p:Nat)(hw:KW k p)(fd need:Int):
  aw prog 1 aax (oc prog c56.lK (λr m=>r=PY (bo k p fd need)/\∃ex,m=xB k p::ex))
   ⟨km 44 [(0,.rv (.one (.ptr 0 0))),(6,.rv (.one (.ptr 1 0))),(9,.rv (.one (.ptr 2 0))),(10,an .i64 (gE (ay k.ps p) fd need).2)],
    [xB k p,.var [.aa (.val (.int .i64 0)),.aa (.val (.int .i64 0))],.var [.aa (.val (.int .i64 (gE (ay k.ps p) fd need).1.1)),.aa (.val (.int .i64 (gE (ay k.ps p) fd need).1.2))]]⟩:=by
 have EI:= @KW.at k p hw fd need;have GP:bo k p fd need=if(gE (ay k.ps p) fd need).2≠0 then((0,0),0,(gE (ay k.ps p) fd need).2)else((gE (ay k.ps p) fd need).1,fE k.ops (gE (ay k.ps p) fd need).1.1,0):=rfl
 rw[GP];clear GP;generalize gE (ay k.ps p) fd need=w at EI|-;obtain⟨⟨o,r⟩,e⟩:=w;refine bs (λhe=>?_) (λhe=>?_)
 .rw[if_pos he];exact⟨rfl,_,rfl⟩
 .have he:e=0:=he;subst he;obtain⟨n,j,h1,h2,h3,h4⟩:=EI rfl;have h1:o=n:=h1;subst h1;rw[if_neg aC];refine ag (pg h2) ?_;have ho:fE k.ops (n:Int)=k.ops[n].bn:=by rw[fE,aac,uX h2]
  refine⟨⟨rfl,ag (pg h2) rfl,rfl,rfl,trivial⟩,?_⟩;show _=PY ((_,_),fE k.ops (n:Int),0)/\_;rw[ho];exact⟨rfl,_,rfl⟩
theorem tC(k:Kr)(p:Nat)(hw:KW k p)(fd need:Int):
  body prog c56 [.rv (.one (.ptr 0 0)),an .i64 fd,an .i64 need] [xB k p] (λr m=>r=PY (bo k p fd need)/\∃ex,m=xB k p::ex):=by
 have hg:=dz hw.hp;rw[<-d5 hw.hp]at hg;refine ag hg ?_;refine⟨?_,?_⟩
 .refine Db _ fd need ?_;refine⟨trivial,⟨rfl,ag hg rfl,rfl,rfl,trivial⟩,trivial,_,View.o1 3 [0,1,2] [] ?_,Dc k p hw fd need⟩
  .exact .pt rfl rfl (.eq rfl (bC _ _)) (.pe rfl rfl rfl (.pm rfl rfl rfl))
 .refine⟨⟨rfl,ag hg rfl,rfl,rfl,trivial⟩,?_⟩;refine Db _ fd need ?_;refine⟨trivial,trivial,_,View.o1 3 [0,1,2] [] ?_,Dc k p hw fd need⟩
  .exact .pt rfl rfl (.eq rfl (bC _ _)) (.pe rfl rfl rfl (.pm rfl rfl rfl))
theorem ku(k:Kr)(p:Nat)(hw:KW k p)(fd need:Int){m:Mem}(id:Nat)(hb:cD m id=some (xB k p)){K:CV->Mem->Prop}(hK:K (PY (bo k p fd need)) m):
  aq prog 56 [.rv (.one (.ptr id 0)),an .i64 fd,an .i64 need] m K:=
 ff (args0:=[.rv (.one (.ptr 0 0)),an .i64 fd,an .i64 need]) (cs:=xC k p) id hb rfl rfl
  (λ_ hK=>eH rfl (b8 func56 l56 (tC k p hw fd need)) hK) hK
theorem l63:bu prog f63=some c63:=by kernel_rfl
theorem l69:bu prog f69=some c69:=by kernel_rfl
def TX(Q:CV->Mem->Prop)(r:CV)(m:Mem):Prop:=∃r' m',View 1 ⟨[r],m⟩ ⟨[r'],m'⟩/\Q r' m'
theorem FF{ps:List bl}{n:Nat}(hn:n<ps.length)(y:List fk):aW (af (ps.map bl.enc)) n ((bl.enc ⟨ps[n].aQ,ps[n].fenced,ps[n].code,y⟩).map .aa)=af ((dk ps n y).map bl.enc):=by
 have:dk ps n y=ps.set n {ps[n]with aV:=y}:=by rw[dk,uX hn]
 rw[this,a8,af,af,abE,abE]
theorem FG(k:Kr)(p:Nat)(hk:dF k.l k.ops k.ps)(hp:p<k.ps.length)(l:List fk)(e:Int):
  body prog c63 [.rv (.one (.ptr 0 0)),mS l,an .i64 e] [xB k p] (TX λr m=>r=an .i64 e/\m=[xB (fh k p l e) p]):=by
 refine bp (λhe=>?_) (λhe=>?_)
 .have he:e=0:=he;subst he;refine iI k.l k.ops k.ps ⟨hk.ll,λo ho=>(hk.sm o ho).nT⟩ hk.lo hk.lp hk.sl hk.ne ?_
  refine ag (mc hp) ?_;refine ag (bH bl.enc k.ps hp) ?_;refine⟨trivial,_,_,View.o 4 [0] [1,2,3] (.eq rfl .nil) (.pt rfl rfl (TB (k:=fh k p l 0) (im rfl rfl) (im rfl rfl) (im rfl ?_)) (.nil _)),rfl,rfl⟩;refine congrArg (λx=>some (Bk.row 4 x)) ?_
  exact FF hp l
 .have he:¬e=0:=he;refine⟨_,_,View.o 1 [0] [] (.eq rfl .nil) (.pt rfl rfl (.eq rfl (bC _ _)) (.nil _)),rfl,?_⟩;rw[fh,if_neg he]
theorem Dd(k:Kr)(p:Nat)(hk:dF k.l k.ops k.ps)(hp:p<k.ps.length)(l:List fk)(e:Int){m:Mem}(id:Nat)(hb:cD m id=some (xB k p)){K:CV->Mem->Prop}(hK:K (an .i64 e) (aW m id (xB (fh k p l e) p))):
  aq prog 63 [.rv (.one (.ptr id 0)),mS l,an .i64 e] m K:=
 Hw (args:=[mS l,an .i64 e]) (λ_=>rfl) (λ_=>rfl)
  (bG (aY func63 l63 (FG k p hk hp l e)) λr m1⟨r',m',hv,hq⟩=>⟨r',m',hv,hq⟩) id hb hK
theorem Bb(k:Kr)(p:Nat)(hk:dF k.l k.ops k.ps)(l:List Obj)(e:Int):
  body prog c69 [.rv (.one (.ptr 0 0)),cz l,an .i64 e] [xB k p] (TX λr m=>r=an .i64 e/\m=[xB (bP k l e) p]):=by
 refine bp (λhe=>?_) (λhe=>?_)
 .have he:e=0:=he;subst he;refine iI k.l k.ops k.ps ⟨hk.ll,λo ho=>(hk.sm o ho).nT⟩ hk.lo hk.lp hk.sl hk.ne ?_
  exact⟨_,_,View.o 4 [0] [1,2,3] (.eq rfl .nil) (.pt rfl rfl (TB (k:=bP k l 0) (.aa _) (im rfl rfl) (im rfl rfl)) (.nil _)),rfl,rfl⟩
 .have he:¬e=0:=he;refine⟨_,_,View.o 1 [0] [] (.eq rfl .nil) (.pt rfl rfl (.eq rfl (bC _ _)) (.nil _)),rfl,?_⟩;rw[bP,if_neg he]
theorem nz(k:Kr)(p:Nat)(hk:dF k.l k.ops k.ps)(l:List Obj)(e:Int){m:Mem}(id:Nat)(hb:cD m id=some (xB k p)){K:CV->Mem->Prop}(hK:K (an .i64 e) (aW m id (xB (bP k l e) p))):
  aq prog 69 [.rv (.one (.ptr id 0)),cz l,an .i64 e] m K:=
 Hw (args:=[cz l,an .i64 e]) (λ_=>rfl) (λ_=>rfl)
  (bG (aY func69 l69 (Bb k p hk l e)) λr m1⟨r',m',hv,hq⟩=>⟨r',m',hv,hq⟩) id hb hK
end Kn
namespace Kn
def Nf(k:Kr)(n:Nat)(bn b9:Int)(r:CV)(m:Mem):Prop:=∃r' m',View 0 ⟨[r],m⟩ ⟨[r'],m'⟩/\
 (((aI k n bn b9).2.2≠0/\r'= .bz [jH rW,cK 0,cK (aI k n bn b9).2.2]/\m'=[])\/
 ((aI k n bn b9).2.2=0/\r'= .bz [.agg [.row 0 9 0 none,.aa (eN (aI k n bn b9).1.ops),.aa (gd (aI k n bn b9).1.ps)],cK (aI k n bn b9).2.1,cK 0]/\m'=[.row 9 (af ((aI k n bn b9).1.l.map Obj.enc))]))
theorem t3V{Y:Nat->Nat}{m:Mem}{Z:Nat->Prop}{a a' b b' c c':RV}(h1:xS Y m Z a a')(h2:xS Y m Z b b')(h0:xS Y m Z c c'):qQ Y m Z (.bz [a,b,c]) (.bz [a',b',c']):=
 .bz rfl λi r r' e1 e2=>by
  match i,e1,e2 with
  |0,e1,e2=>cases e1;cases e2;exact h1
  |1,e1,e2=>cases e1;cases e2;exact h2
  |2,e1,e2=>cases e1;cases e2;exact h0
  |n+3,e1,e2=>simp at e1
theorem aay{Y:Nat->Nat}{m:Mem}{Z:Nat->Prop}{x y:Int}:qQ Y m Z (.bz [.agg [.aO,.aO,.aO],cK x,cK y]) (.bz [jH rW,cK x,cK y]):=
 t3V (.agg rfl λi c c' h1 h2=>by
  match i,h1,h2 with
  |0,h1,h2=>cases h1;cases h2;exact .fy (.aO 9)
  |1,h1,h2=>cases h1;cases h2;exact .fy (.aO 2)
  |2,h1,h2=>cases h1;cases h2;exact .fy (.aO 4)
  |n+3,h1,h2=>simp at h1) (.one (.aU (.aa _))) (.one (.aU (.aa _)))
def Q18(k:Kr)(n:Nat)(bn b9:Int):Ex->St->Prop:=oc prog c72.lK (Nf k n bn b9)
theorem De{k:Kr}{n:Nat}{bn b9 e:Int}{m:Mem}(h:aI k n bn b9=(rW,0,e))(he:e≠0):Nf k n bn b9 (.bz [.agg [.aO,.aO,.aO],cK 0,cK e]) m:=by refine⟨_,[],View.of m.length [] [] rfl rfl rfl rfl rfl rfl (.put aay .nil) (.nil _),.inl ?_⟩;rw[h];exact⟨he,rfl,rfl⟩
theorem Ng(k:Kr)(l:List Obj)(O:List bD)(ps:List bl)(n i:Nat)(hn:n<ps.length)(hi:i<O.length)(bn fd b9:Int)(y:List fk)(h:aI k n bn b9=(⟨l,O.set i ⟨bn,0⟩,dk ps n y⟩,fd,0)):
  aw prog 0 G60 (Q18 k n bn b9)
   ⟨km 74 [(1,an .i64 (n:Nat)),(2,an .i64 bn),(8,.rv (.one (.ptr 0 0))),(11,an .i64 (i:Nat)),(12,mS y),(13,an .i64 fd),(15,.rv (.one (.ptr 4 0)))],M60 l O ps⟩:=by
 refine ag (AH hi) ?_;have ho:=bH bD.enc O hi;generalize O[i]=x at ho;obtain⟨xo,xa⟩:=x;refine ag ho ?_;refine ag (mc hn) ?_;have hp:=bH bl.enc ps hn;have pz:dk ps n y=ps.set n {ps[n]with aV:=y}:=by rw[dk,uX hn]
 rw[pz]at h;generalize ps[n]=z at hp h;obtain⟨aQ,fenced,cd,aV⟩:=z;refine ag hp ?_;refine⟨.bz [.agg [.row 0 9 0 none,.aa (eN (O.set i ⟨bn,0⟩)),.aa (gd (ps.set n ⟨aQ,fenced,cd,y⟩))],cK fd,cK 0],[.row 9 (af (l.map Obj.enc))],
  View.o 5 [1] [2,3] (.put (t3V (.agg rfl λj c c' h1 h2=>?_) (.one (.aU (.aa _))) (.one (.aU (.aa _)))) .nil) (.pn rfl rfl rfl),.inr ⟨by rw[h],by rw[h],by rw[h]⟩⟩
 match j,h1,h2 with
 |0,h1,h2=>cases h1;cases h2;exact .aU (Y:=sg [1] 5) (.row 0 9 0 none)
 |1,h1,h2=>
  cases h1;cases h2;refine .fy (im rfl (congrArg (λx=>some (Bk.row 2 x)) ?_))
  show aW (af (O.map bD.enc)) i ((bD.enc ⟨bn,0⟩).map .aa)=_;rw[a8,af,af,abE,abE]
 |2,h1,h2=>
  cases h1;cases h2;refine .fy (im rfl (congrArg (λx=>some (Bk.row 4 x)) ?_))
  show aW (af (ps.map bl.enc)) n ((bl.enc ⟨aQ,fenced,cd,y⟩).map .aa)=_;rw[a8,af,af,abE,abE]
 |n+3,h1,h2=>simp at h1
theorem Nh(k:Kr)(hk:dF k.l k.ops k.ps)(n:Nat)(hn:n<k.ps.length)(bn b9:Int)(i:Nat)(hi:i=cW k.ops)(x4:i<=k.ops.length)(jS:¬(DW k.ops=none/\k.ops.length>=60)):
  aw prog 0 Z0 (Q18 k n bn b9)
   ⟨km 74 [(1,an .i64 (n:Nat)),(2,an .i64 bn),(3,an .i64 b9),(4,.rv (.one (.ptr 0 0))),(8,.rv (.one (.ptr 1 0))),(11,an .i64 (i:Nat))],[.var ((kC k.l k.ops k.ps).map .aa),.var [.aO,.aO,.aO]]⟩:=by
 have zi:ay k.ps n=k.ps[n].aV:=by rw[ay,uX hn]
 have yK:=hk.sl _ (aal hn);have Ta:k.ops.length<=4194304:=hk.lo;have hS:aI k n bn b9=if(fQ k.ps[n].aV (i:Nat) b9).2.2≠0 then(rW,0,(fQ k.ps[n].aV (i:Nat) b9).2.2)
   else(⟨k.l,i7 k.ops i ⟨bn,0⟩,dk k.ps n (fQ k.ps[n].aV (i:Nat) b9).1⟩,(fQ k.ps[n].aV (i:Nat) b9).2.1,0):=by
  rw[aI,if_neg jS,zi,<-hi]
 refine ag (dz hn) ?_;generalize k.ps[n].aV=S at yK hS;refine AQ S om (i:Nat) b9 ?_;generalize fQ S (i:Nat) b9=A at hS;obtain⟨y,fd,e⟩:=A;refine bs (λhe=>?_) (λhe=>?_)
 .rw[if_pos he]at hS;exact De hS he
 have he:e=0:=he;subst he;rw[if_neg aC]at hS;refine iI k.l k.ops k.ps ⟨hk.ll,λo ho=>(hk.sm o ho).nT⟩ hk.lo hk.lp hk.sl hk.ne ?_
 refine bp (λm9=>?_) (λm9=>?_)
 .have m9:i=k.ops.length:=by have m9:(i:Int)=((af (k.ops.map bD.enc)).length:Int):=m9;rw[be,ML]at m9;omega
  have jg:i7 k.ops i ⟨bn,0⟩=(k.ops++ [bD.mk 0 0]).set i ⟨bn,0⟩:=by rw[i7,if_pos m9,m9];simp
  rw[jg]at hS;refine⟨by simp only[bV,be,ML,aah,abv];omega,?_⟩
  refine⟨_,View.o1 8 [1,2,7,4,5] [] ?_,Ng k k.l (k.ops++ [bD.mk 0 0]) k.ps n i hn (by simp;omega) bn fd b9 y hS⟩
  .exact .pe rfl rfl rfl (.pr rfl rfl rfl (.pt rfl rfl (.bI (by simp[bV,af,bD.enc])) (.pr rfl rfl rfl (.pm rfl rfl rfl))))
 .have aD:i<k.ops.length:=by have m9:¬(i:Int)=((af (k.ops.map bD.enc)).length:Int):=m9;rw[be,ML]at m9;omega
  have jg:i7 k.ops i ⟨bn,0⟩=k.ops.set i ⟨bn,0⟩:=by rw[i7,if_neg om]
  rw[jg]at hS;refine⟨_,View.o1 6 [1,2,3,4,5] [] ?_,Ng k k.l k.ops k.ps n i hn aD bn fd b9 y hS⟩
  .exact .pe rfl rfl rfl (.pr rfl rfl rfl (.pr rfl rfl rfl (.pr rfl rfl rfl (.pm rfl rfl rfl))))
theorem Bc(k:Kr)(hk:dF k.l k.ops k.ps)(n:Nat)(hn:n<k.ps.length)(bn b9:Int):body prog c72 [d9 k.l k.ops k.ps,an .i64 (n:Nat),an .i64 bn,an .i64 b9] [] (Nf k n bn b9):=by
 refine Hj k.ops hk.lo ?_;have Ta:k.ops.length<=4194304:=hk.lo;cases ho:DW k.ops with
 |none=>
  have Tc:Kq k.ops= -1:=by rw[Kq,ho]
  have Oy:cW k.ops=k.ops.length:=by rw[cW,ho];rfl
  rw[Tc];refine aL (λwG=>?_) (λwG=>?_)
  .have wG:k.ops.length>=60:=by have wG:((k.ops.map bD.enc).length:Int)>=60:=wG;rw[ML]at wG;omega
   exact De (by rw[aI,if_pos ⟨ho,wG⟩]) (by decide)
  .have wG:¬k.ops.length>=60:=by have wG:¬((k.ops.map bD.enc).length:Int)>=60:=wG;rw[ML]at wG;omega
   refine⟨_,View.o 2 [0,1] [] ?_ ?_,Nh k hk n hn bn b9 k.ops.length Oy.symm (Ts _) (λh=>wG h.2)⟩
   .have hlen:an .i64 (((k.ops.map bD.enc).length:Nat):Int)=an .i64 ((k.ops.length:Nat):Int):=by rw[ML]
    repeat(first|exact .nil|refine .ap ?_|refine .eq rfl ?_)
    refine .eq hlen.symm ?_;repeat(first|exact .nil|refine .ap ?_|refine .eq rfl ?_)
   .exact .pt rfl rfl (.eq rfl (by simp[kC])) (.pm rfl rfl rfl)
 |some i=>
  have Tc:Kq k.ops=(i:Nat):=by rw[Kq,ho]
  have Oy:cW k.ops=i:=by rw[cW,ho];rfl
  have x4:=AR ho;rw[Tc];refine⟨_,View.o1 2 [0,1] [] ?_,Nh k hk n hn bn b9 i Oy.symm om (λh=>by rw[ho]at h;cases h.1)⟩
  .exact .pt rfl rfl (.eq rfl (by simp[kC])) (.pm rfl rfl rfl)
theorem xd(k:Kr)(hk:dF k.l k.ops k.ps)(n:Nat)(hn:n<k.ps.length)(bn b9:Int){m:Mem}{K:CV->Mem->Prop}(h1:(aI k n bn b9).2.2≠0->K (.bz [jH rW,cK 0,cK (aI k n bn b9).2.2]) m)(h2:(aI k n bn b9).2.2=0->K (.bz [.agg [.row m.length 9 0 none,.aa (eN (aI k n bn b9).1.ops),.aa (gd (aI k n bn b9).1.ps)],cK (aI k n bn b9).2.1,cK 0]) (m++ [.row 9 (af ((aI k n bn b9).1.l.map Obj.enc))])):
  aq prog 72 [d9 k.l k.ops k.ps,an .i64 (n:Nat),an .i64 bn,an .i64 b9] m K:=by
 refine bq [] m.length rfl rfl rfl rfl rfl (λi b' hi=>by simp at hi)
  (bG (b8 func72 l72 (Bc k hk n hn bn b9)) λr m1⟨r',m',hv,hq⟩=>⟨r',m',hv,hq⟩) (λr m1 hp=>⟨aaj _,?_⟩)
 rcases hp with⟨e1,rfl,rfl⟩|⟨e1,rfl,rfl⟩
 .have:=h1 e1;show K _ (gh m []);rw[bX,abO];exact this
 .have:=h2 e1;show K _ (gh m [Bk.aU _ _]);rw[bX,Bk.jk];exact this
end Kn
def c70:LF:= ⟨42,[.tmp 6,.tmp 7],(.seq (.ai [qu 4 (.box 1),qu 5 (.box 2),qu 6 (.aK (qi 0)),qu 7 (.aK (qi 0))]) (.seq (.ai [qf 11 4 5,qw (.store 1 11 (qi (-1))),qf 12 6 5,qw (.store 1 12 (qi (-1)))]) (.seq (.bR [qm 14 0,qu 15 (.aP 14),qf 16 0 15,qf 17 0 16,ql 18 17,qL 19 9 5,qu 20 (qc 111 [18,19]),qm 13 20,qu 21 (.ext 13 0),qu 22 (.ext 13 1),qu 23 (.ext 13 2),qm 8 21,qm 9 22,qm 10 23] [(.cons 0 none (.cons 1 none (.cons 2 none (.cons 3 none (.cons 4 none (.cons 5 none (.cons 6 (some []) (.cons 7 none (.cons 8 none (.cons 9 none (.cons 10 none (.cons 11 none (.cons 12 none (.cons 13 none .nil))))))))))))))]) (.seq (.seq (.ai [qm 24 10,qu 25 (.aJ .neq 24 (qi 0))]) (.cond 25 (.seq (.ai [qm 26 10,qu 6 (.aK (qi 0)),qm 7 26]) .ret) .skip)) (.seq (.ai [qm 28 8,qf 29 1 4,ql 30 29,qf 31 2 4,ql 32 31,qm 33 9,qu 34 (qc 112 [28,30,32,33]),qm 27 34,qu 35 (.ext 27 0),qu 36 (.ext 27 1),qm 8 35,qm 10 36]) (.seq (.ai [qm 37 9,qm 38 0,qm 39 8,qm 40 10,qu 41 (qc 69 [38,39,40]),qm 6 37,qm 7 41]) .ret))))))⟩
namespace Kn
def gz(o:Obj):Obj:={o with aG:= -1,aA:= -1}
def FH(f:R4):CV:= .rv (.agg ((Uy f).map .aa))
def Bd(l:List Obj)(f:R4)(n:Int):List Obj×Int:=cN (bK.fL f.name) l f.cL (bK.cF f.name) n
def cu(k:Kr)(f:R4)(o:Obj):Kr×Int×Int:=
 if(aF k.l (gz o)).2.2≠0 then(k,0,(aF k.l (gz o)).2.2)
 else(bP k (Bd (aF k.l (gz o)).1 f (aF k.l (gz o)).2.1).1 (Bd (aF k.l (gz o)).1 f (aF k.l (gz o)).2.1).2,(aF k.l (gz o)).2.1,(Bd (aF k.l (gz o)).1 f (aF k.l (gz o)).2.1).2)
structure PZ(o:Obj):Prop where
 sm:o.sm
 en:o.ak=[]
theorem PZ.gz{o:Obj}(h:PZ o):PZ (gz o):=⟨⟨h.sm.t,h.sm.d,h.sm.e,h.sm.q,h.sm.qd⟩,h.en⟩
theorem wZ.make{l:List Obj}(h:wZ l){o:Obj}(ho:PZ o):wZ (aF l o).1:=by
 have key:∀l',(∀x,x∈l'->x∈l\/x=o)->l.length<=l'.length->l'.length<=4194304->wZ l':=λl' hm hl B6=>by
  refine⟨⟨B6,λx hx=>?_⟩,λx hx=>?_⟩
  .rcases hm x hx with hx|rfl
   .exact h.nT.2 x hx
   .exact ho.sm.nT
  .rcases hm x hx with hx|rfl
   .obtain⟨es,h1,h2,h3,h4⟩:=h.en x hx;exact⟨es,h1,h2,h3,λe he=>⟨(h4 e he).1,by have:=(h4 e he).2;omega⟩⟩
   .exact⟨[],ho.en,List.Pairwise.nil,aC,aC⟩
 have hf:=h.nT.1;unfold aF;split
 .rename_i k _;refine key _ (λx hx=>aa2 hx) aC (by simpa using hf)
 .split
  .exact⟨⟨aC,aC⟩,aC⟩
  .refine key _ (λx hx=>by simpa using hx) aC (by simp only[aba,aah,abv];omega)
theorem l70:bu prog f70=some c70:=by kernel_rfl
def WV(a b:Int):CV:= .bz [cK a,cK b]
theorem Df(k:Kr)(p:Nat)(hw:KW k p)(f:R4)(o:Obj)(ho:PZ o):
  body prog c70 [.rv (.one (.ptr 0 0)),FH f,o.cv] [xB k p] (TX λr m=>r=WV (cu k f o).2.1 (cu k f o).2.2/\m=[xB (cu k f o).1 p]):=by
 have hs:=wZ.make hw.DY ho.gz;refine Az k.l hw.nT (gz o) ?_;have hS:cu k f o=if(aF k.l (gz o)).2.2≠0 then(k,0,(aF k.l (gz o)).2.2)
  else(bP k (Bd (aF k.l (gz o)).1 f (aF k.l (gz o)).2.1).1 (Bd (aF k.l (gz o)).1 f (aF k.l (gz o)).2.1).2,(aF k.l (gz o)).2.1,(Bd (aF k.l (gz o)).1 f (aF k.l (gz o)).2.1).2):=rfl
 rw[hS];clear hS;generalize aF k.l (gz o)=M at hs|-;obtain⟨l,n,e⟩:=M;refine⟨trivial,?_⟩;refine bs (λhe=>?_) (λhe=>?_)
 .rw[if_pos he];exact⟨_,_,View.o 3 [0] [] (.eq rfl .nil) (.pt rfl rfl (.eq rfl (bC _ _)) (.nil _)),rfl,rfl⟩
 .have he:e=0:=he;subst he;rw[if_neg aC];refine Jh l hs f.cL n (bK.cF f.name) (bK.fL f.name) (λh=>bK.AW f.name h) ?_
  refine nz k p hw.kr _ _ 0 rfl ?_;exact⟨_,_,View.o 3 [0] [] (.eq rfl .nil) (.pt rfl rfl (.eq rfl (bC _ _)) (.nil _)),rfl,rfl⟩
theorem tM(k:Kr)(p:Nat)(hw:KW k p)(f:R4)(o:Obj)(ho:PZ o){m:Mem}(id:Nat)(hb:cD m id=some (xB k p)){K:CV->Mem->Prop}(hK:K (WV (cu k f o).2.1 (cu k f o).2.2) (aW m id (xB (cu k f o).1 p))):aq prog 70 [.rv (.one (.ptr id 0)),FH f,o.cv] m K:=
 Hw (args:=[FH f,o.cv]) (λ_=>rfl) (λ_=>rfl)
  (bG (aY func70 l70 (Df k p hw f o ho)) λr m1⟨r',m',hv,hq⟩=>⟨r',m',hv,hq⟩) id hb hK
end Kn
def c55:LF:= ⟨117,[.cell true 4 8],(.seq (.ai [qu 8 (.alloc [qd 0,qd 0,qd 0,.aO])]) (.seq (.bR [qm 15 0,qu 16 (.aP 15),qf 17 0 16,qf 18 0 17,ql 19 18,qm 20 2,qm 21 1,qu 22 (.aP 21),qf 23 7 22,ql 24 23,qm 25 3,qu 26 (qc 67 [19,20,24,25,qb true]),qm 14 26,qu 27 (.ext 14 0),qu 28 (.ext 14 1),qu 9 (.alloc [qd 0,qd 0,(.aa (.val (.string ⟨#[]⟩)))]),qw (.store 3 9 27),qm 10 28] [(.cons 0 none (.cons 1 none (.cons 2 none (.cons 3 none (.cons 4 none (.cons 5 none (.cons 6 none (.cons 7 none (.cons 8 none (.cons 9 none (.cons 10 none (.vn (.cons 11 (some []) (.cons 12 none (.cons 13 none (.cons 14 none (.cons 15 (some [9,4]) (.cons 16 (some []) (.cons 17 none .nil))))))) (.cons 15 (some [9,4]) (.cons 11 (some []) (.cons 12 none (.cons 13 none (.cons 14 none (.cons 16 (some []) (.cons 17 none .nil)))))))))))))))))))]) (.cS (.seq (.ai [qf 29 0 9,ql 30 29,qm 11 30]) (.seq (.block 0 (.seq (.ai [qm 32 10,qu 33 (.aJ .neq 32 (qi 0)),qm 31 33]) (.cond 31 .skip (.seq (.ai [qm 35 11,qu 36 (.aJ .lss 35 (qi 0)),qm 37 36,qg 38 (.aK 1) 37 true,qg 39 (.aP 38) 37 true,qg 40 (.cj 5 39) 37 true,qg 41 (.load false 1 40) 37 true,qg 42 (.aJ .and 41 (qi 1)) 37 true,qg 43 (.aJ .eql 42 (qi 0)) 37 true,qu 44 (.pick 37 43 (qb false)),qm 34 44]) (.cond 34 (.ai [qu 10 (.aK (qi 6))]) (.seq (.ai [qm 46 11,qu 47 (.aJ .lss 46 (qi 0)),qm 45 47]) (.cond 45 (.ai [qm 49 0,qL 50 3 9,qu 51 (.build [qd 0,.aO,.aO,(.aa (.val (.string ⟨#[]⟩))),qd 0,.aO,qd 0,qd 0,qd 0] [(0,1,qi 1)]),qu 52 (qc 70 [49,50,51]),qm 48 52,qu 53 (.ext 48 0),qu 54 (.ext 48 1),qm 11 53,qm 10 54]) (.seq (.ai [qm 56 1,qu 57 (.aP 56),qf 58 5 57,ql 59 58,qu 60 (.aJ .and 59 (qi 2)),qu 61 (.aJ .neq 60 (qi 0)),qm 62 61,qg 63 (.aK 0) 62 true,qg 64 (.aP 63) 62 true,qg 65 (.cj 0 64) 62 true,qg 66 (.cj 0 65) 62 true,qg 67 (.load false 1 66) 62 true,qg 68 (.aK 11) 62 true,qg 69 (.cw 9 67 68) 62 true,qg 70 (.cj 0 69) 62 true,qg 71 (.load false 1 70) 62 true,qg 72 (.aJ .eql 71 (qi 2)) 62 true,qu 73 (.pick 62 72 (qb false)),qm 55 73]) (.cond 55 (.ai [qu 10 (.aK (qi 12))]) .skip))))))))) (.cS (.seq (.seq (.ai [qm 74 10,qu 75 (.aJ .neq 74 (qi 0))]) (.cond 75 (.seq (.ai [qm 76 10,qu 77 (.build [qd 0,qd 0,qd 0,.aO] [(0,1,76)]),qw (.store 4 8 77)]) .ret) .skip)) (.seq (.bR [qm 79 0,qu 80 (.aP 79),qf 81 0 80,qL 82 3 81,qm 83 0,qu 84 (.aP 83),qf 85 3 84,ql 86 85,qm 87 11,qm 88 1,qu 89 (.aP 88),qf 90 6 89,ql 91 90,qu 92 (qc 72 [82,86,87,91]),qm 78 92,qu 93 (.ext 78 0),qu 94 (.ext 78 1),qu 95 (.ext 78 2),qu 12 (.alloc [.aO,.aO,.aO]),qw (.store 3 12 93),qm 13 94,qm 10 95] [(.cons 0 none (.cons 1 none (.cons 2 none (.cons 3 none (.cons 4 none (.cons 5 none (.cons 6 none (.cons 7 none (.cons 8 none (.cons 9 none (.cons 10 none (.cons 11 none (.cons 12 none (.vn (.cons 13 (some []) (.cons 14 none (.cons 15 none (.cons 16 none (.cons 17 none (.cons 18 (some [12,7,3]) (.cons 19 (some []) (.cons 20 none (.cons 21 none .nil))))))))) (.cons 18 (some [12,7,3]) (.cons 13 (some []) (.cons 14 none (.cons 15 none (.cons 16 none (.cons 17 none (.cons 19 (some []) (.cons 20 none (.cons 21 none .nil)))))))))))))))))))))))]) (.cS (.seq (.seq (.ai [qm 96 10,qu 97 (.aJ .neq 96 (qi 0))]) (.cond 97 (.seq (.ai [qm 98 10,qu 99 (.build [qd 0,qd 0,qd 0,.aO] [(0,1,98)]),qw (.store 4 8 99)]) .ret) .skip)) (.cS (.seq (.seq (.ai [qm 100 1,qu 101 (.aP 100),qf 102 5 101,ql 103 102,qu 104 (.aJ .and 103 (qi 2)),qu 105 (.aJ .neq 104 (qi 0))]) (.cond 105 (.ai [qf 106 0 12,ql 107 106,qm 108 11,qu 109 (.cw 9 107 108),qf 110 1 109,qw (.store 1 110 qe)]) .skip)) (.seq (.ai [qm 111 0,qL 112 3 12,qu 113 (.aP 111),qf 114 0 113,qw (.store 3 114 112)]) (.seq (.ai [qm 115 13,qu 116 (.build [qd 0,qd 0,qd 0,.aO] [(1,1,115)]),qw (.store 4 8 116)]) .ret))))))))))))))⟩
namespace Kn
def oN:Obj:=⟨1,[],[],⟨#[]⟩,0,[],0,0,0⟩
theorem zp:PZ oN:=⟨⟨⟨⟨[],rfl⟩,⟨[],rfl⟩,by simp[oN]⟩,by simp[oN],by simp[oN],by simp[oN],by simp[oN]⟩,rfl⟩
def iO(k:Kr)(ar:Int)(s:bK.dI)(ax follow:Bool):R4:=pQ (k.l.map Obj.ob) ar s ax follow
theorem se(k:Kr)(p:Nat)(hw:KW k p)(ar:Int)(s:bK.dI)(ax follow:Bool){m:Mem}{K:CV->Mem->Prop}(h:K (Uz (iO k ar s ax follow)) m):
  aq prog 67 [cz k.l,an .i64 ar,bK.vT s,aE ax,aE follow] m K:=by
 rw[show cz k.l=AE (k.l.map Obj.ob)from congrArg (λd=>CV.rv (.one (.aa d))) (Tw k.l)]
 exact PS _ hw.lk ar s ax follow h
def FI(l:List Obj)(z:Int):Int:=match l[z.toNat]? with|some o=>o.ah|none=>0
def cg(k:Kr)(c:Cl)(f:R4):Kr×Int×Int:=
 if f.fC≠0 then(k,f.bn,f.fC)
 else if f.bn<0 then(if lH c.bt 1=0 then(k,f.bn,6)else cu k f oN)
 else if lH c.bt 2≠0/\FI k.l f.bn=2 then(k,f.bn,12)
 else(k,f.bn,0)
def k9(l:List Obj)(z:Int):List Obj:=match l[z.toNat]? with|some o=>l.set z.toNat {o with data:=[]}|none=>l
def jq(p:Nat)(c:Cl)(x:Kr×Int×Int):Kr×An:=
 if x.2.2≠0 then(x.1,An.no x.2.2)
 else if(aI x.1 p x.2.1 c.ba).2.2≠0 then(x.1,An.no (aI x.1 p x.2.1 c.ba).2.2)
 else(if lH c.bt 2≠0 then⟨k9 (aI x.1 p x.2.1 c.ba).1.l x.2.1,(aI x.1 p x.2.1 c.ba).1.ops,(aI x.1 p x.2.1 c.ba).1.ps⟩else(aI x.1 p x.2.1 c.ba).1,⟨0,(aI x.1 p x.2.1 c.ba).2.1,0,[]⟩)
def f4(k:Kr)(p:Nat)(c:Cl)(ar:Int)(ax:Bool):Kr×An:=jq p c (cg k c (iO k ar c.cJ ax true))
theorem P0{m:Mem}{Z:Nat->Prop}{p:Option Nat}{id:Nat}{l:List Obj}{k:Nat}{c:List CC}{x:Obj}(hc:j7 m Z (some id) c x.enc)(hz:Z id)(hm:m[id]? =some (.row 9 (aW (af (l.map Obj.enc)) k c))):
  dO m Z p (.row id 9 0 none) (db (l.set k x)):=by
 rw[a8]at hm;refine dO.row id 9 0 none _ _ hz hm (by simp[af]) (λi cs es h1 h2=>?_) (λi cs es j c' d h1 h2 h3 h4=>?_)
 .rw[abl]at h1;rw[RA,abl]at h2;by_cases e:k=i
  .subst e;rw[if_pos rfl]at h1 h2;split at h1
   .cases h1;split at h2
    .cases h2;exact hc.len
    .cases h2
   .cases h1
  .rw[if_neg e]at h1 h2;rw[af,RA,RA]at h1;cases hx:l[i]? with
   |none=>rw[hx]at h2;cases h2
   |some y=>
    rw[hx]at h1 h2;cases h1;cases h2;simp
 .rw[abl]at h1;rw[RA,abl]at h2;by_cases e:k=i
  .subst e;rw[if_pos rfl]at h1 h2;split at h1
   .cases h1;split at h2
    .cases h2;exact hc.get j c' d h3 h4
    .cases h2
   .cases h1
  .rw[if_neg e]at h1 h2;rw[af,RA,RA]at h1;cases hx:l[i]? with
   |none=>rw[hx]at h2;cases h2
   |some y=>
    rw[hx]at h1 h2;cases h1;cases h2;rw[RA,h4]at h3;cases h3;exact .aa _
theorem l55:bu prog f55=some c55.er:=by kernel_rfl
def C29:LC:=bL (bL c55.code)
def G29:LC:=qt C29
def C74:LC:=bL (bL G29)
def G74:LC:=qt C74
def C96:LC:=bL (bL G74)
def G96:LC:=qt C96
def aaA:LC:=bL G96
def aaB:LC:=qt aaA
def bW:Bk:= .var [.aa (.val (.int .i64 0)),.aa (.val (.int .i64 0)),.aa (.val (.int .i64 0)),.aO]
def TC(k:Kr)(p:Nat)(c:Cl)(a:An)(r:CV)(m:Mem):Prop:=∃r' m',View 2 ⟨[r],m⟩ ⟨[r'],m'⟩/\r'=a.cv/\m'=[xB k p,cB c]
def QC(lK:List Rv)(k:Kr)(p:Nat)(c:Cl)(a:An):Ex->St->Prop:=oc prog lK (TC k p c a)
theorem Ni{Y:Nat->Nat}{m:Mem}{Z:Nat->Prop}{e n x:Int}:qQ Y m Z (.rv (.agg [.aa (.val (.int .i64 e)),.aa (.val (.int .i64 n)),.aa (.val (.int .i64 x)),.aO])) (An.cv ⟨e,n,x,[]⟩):=
 .rv (.agg rfl λi c c' h1 h2=>by
  match i,h1,h2 with
  |0,h1,h2=>cases h1;cases h2;exact .aU (.aa _)
  |1,h1,h2=>cases h1;cases h2;exact .aU (.aa _)
  |2,h1,h2=>cases h1;cases h2;exact .aU (.aa _)
  |3,h1,h2=>cases h1;cases h2;exact .fy (.aO 1)
  |n+4,h1,h2=>simp at h1)
theorem cY{k:Kr}{p:Nat}{c:Cl}{X:Mem}{e n x:Int}:TC k p c ⟨e,n,x,[]⟩ (.rv (.agg [.aa (.val (.int .i64 e)),.aa (.val (.int .i64 n)),.aa (.val (.int .i64 x)),.aO])) (xB k p::cB c::X):=
 ⟨_,_,View.of (X.length+2) [0,1] [] rfl rfl rfl rfl rfl (by simp[eG,Nat.blt]) (.put Ni .nil) (.pt rfl rfl (.eq rfl (bC _ _)) (.pt rfl rfl (.eq rfl (cf _)) (.nil _))),rfl,rfl⟩
theorem Nj{l:List Obj}{n:Nat}(h:n<l.length):dN (n:Int) (lenOf (af (l.map Obj.enc)).length 0 none)=some n:=cr (by show n<(af (l.map Obj.enc)).length;rw[be,ML];exact h)
theorem FJ(k1:Kr)(p:Nat)(c:Cl)(O:Kr)(j:Nat)(hj:j<O.l.length)(fd:Int)(kf:Kr)(hk:kf=if lH c.bt 2≠0 then⟨k9 O.l j,O.ops,O.ps⟩else O):
  aw prog 2 aaB (QC c55.lK kf p c ⟨0,fd,0,[]⟩)
   ⟨km 117 [(0,.rv (.one (.ptr 0 0))),(1,.rv (.one (.ptr 1 0))),(8,.rv (.one (.ptr 2 0))),(11,an .i64 (j:Nat)),(12,.rv (.one (.ptr 3 0))),(13,an .i64 fd)],
    [xB k1 p,cB c,bW,.var [.row 4 9 0 none,.aa (eN O.ops),.aa (gd O.ps)],.row 9 (af (O.l.map Obj.enc))]⟩:=by
 refine bs (λh2=>?_) (λh2=>?_)
 .have h2:lH c.bt 2≠0:=h2;rw[if_pos h2]at hk;subst hk;refine ag (Nj hj) ?_;have ho:=bH Obj.enc O.l hj;have ht:k9 O.l (j:Nat)=O.l.set j {O.l[j]with data:=[]}:=by rw[k9,aac,uX hj]
  rw[ht];generalize O.l[j]=x at ho;obtain⟨ah,data,ak,target,aG,aj,aA,am,up⟩:=x;refine ag ho ?_;refine⟨_,_,View.o 5 [0,1] [4] (.put Ni .nil) (.pt rfl rfl (TB (k:=⟨O.l.set j ⟨ah,[],ak,target,aG,aj,aA,am,up⟩,O.ops,O.ps⟩) (P0 (.cons (.aa _) (.cons (.aO 1) (.cons (.aa _) (.cons (.aa _) (.cons (.aa _) (.cons (.aa _) (.cons (.aa _) (.cons (.aa _) (.cons (.aa _) .nil))))))))) rfl rfl) (.aa _) (.aa _)) (.pt rfl rfl (.eq rfl (cf _)) (.nil _))),rfl,rfl⟩
 .have h2:¬lH c.bt 2≠0:=λh=>h h2
  rw[if_neg h2]at hk;subst hk;exact⟨_,_,View.o 5 [0,1] [4] (.put Ni .nil) (.pt rfl rfl (TB (im rfl rfl) (.aa _) (.aa _)) (.pt rfl rfl (.eq rfl (cf _)) (.nil _))),rfl,rfl⟩
theorem Jo{k:Kr}{n:Nat}{bn b9:Int}(h:(aI k n bn b9).2.2=0):(aI k n bn b9).1.l=k.l:=by
 unfold aI at h|-;split at h
 .simp at h
 .rename_i h1;rw[if_neg h1];split at h
  .rename_i h2;exact absurd h h2
  .rename_i h2;rw[if_neg h2]
theorem xe(k1:Kr)(p:Nat)(c:Cl)(e:Int)(he:e≠0):
  aw prog 2 G96 (QC c55.lK k1 p c (An.no e)) ⟨km 117 [(0,.rv (.one (.ptr 0 0))),(1,.rv (.one (.ptr 1 0))),(8,.rv (.one (.ptr 2 0))),(10,an .i64 e)],[xB k1 p,cB c,bW]⟩:=by
 refine bs (λh2=>?_) (λh2=>absurd h2 he)
 exact cY (X:=[_])
theorem xf(k1:Kr)(p:Nat)(c:Cl)(O:Kr)(j:Nat)(hj:j<O.l.length)(fd:Int)(kf:Kr)(hk:kf=if lH c.bt 2≠0 then⟨k9 O.l j,O.ops,O.ps⟩else O):
  aw prog 2 G96 (QC c55.lK kf p c ⟨0,fd,0,[]⟩)
   ⟨km 117 [(0,.rv (.one (.ptr 0 0))),(1,.rv (.one (.ptr 1 0))),(8,.rv (.one (.ptr 2 0))),(10,an .i64 0),(11,an .i64 (j:Nat)),(12,.rv (.one (.ptr 3 0))),(13,an .i64 fd)],
    [xB k1 p,cB c,bW,.var [.row 4 9 0 none,.aa (eN O.ops),.aa (gd O.ps)],.row 9 (af (O.l.map Obj.enc))]⟩:=by
 refine⟨_,View.o1 5 [0,1,2,3,4] [] ?_,FJ k1 p c O j hj fd kf hk⟩
 .exact .pt rfl rfl (.eq rfl (bC _ _)) (.pt rfl rfl (.eq rfl (cf _)) (.pt rfl rfl (.eq rfl (by simp[bW])) (.pe rfl rfl rfl (.pn rfl rfl rfl))))
theorem Jp(p:Nat)(c:Cl)(x:Kr×Int×Int)(hx:x.2.2=0->dF x.1.l x.1.ops x.1.ps/\p<x.1.ps.length/\∃j:Nat,x.2.1=j/\j<x.1.l.length):
  aw prog 2 G74 (QC c55.lK (jq p c x).1 p c (jq p c x).2)
   ⟨km 117 [(0,.rv (.one (.ptr 0 0))),(1,.rv (.one (.ptr 1 0))),(8,.rv (.one (.ptr 2 0))),(10,an .i64 x.2.2),(11,an .i64 x.2.1)],[xB x.1 p,cB c,bW]⟩:=by
 obtain⟨k1,bn,e⟩:=x;refine bs (λh2=>?_) (λh2=>?_)
 .have h2:e≠0:=h2;have e1:jq p c (k1,bn,e)=(k1,An.no e):=by rw[jq,if_pos h2]
  rw[e1];exact cY (X:=[_])
 have h2:e=0:=h2;subst h2;obtain⟨hk,hp,j,hj,na⟩:=hx rfl;have hj:bn=(j:Nat):=hj;subst hj;have hS:jq p c (k1,(j:Int),0)=if(aI k1 p j c.ba).2.2≠0 then(k1,An.no (aI k1 p j c.ba).2.2)
  else(if lH c.bt 2≠0 then⟨k9 (aI k1 p j c.ba).1.l j,(aI k1 p j c.ba).1.ops,(aI k1 p j c.ba).1.ps⟩else(aI k1 p j c.ba).1,⟨0,(aI k1 p j c.ba).2.1,0,[]⟩):=by
  rw[jq,if_neg aC]
 rw[hS];have Am:= @Jo k1 p (j:Int) c.ba;refine⟨?_,?_⟩
 .refine xd k1 hk p hp (j:Int) c.ba (λhe=>?_) (λhe=>?_)
  .rw[if_pos he];refine⟨trivial,⟨rfl,rfl,rfl,trivial⟩,trivial,_,View.o1 4 [0,1,2] [] ?_,xe k1 p c _ he⟩
   .exact .pt rfl rfl (.eq rfl (bC _ _)) (.pt rfl rfl (.eq rfl (cf _)) (.pt rfl rfl (.eq rfl (by simp[bW])) (.nil _)))
  .rw[if_neg (by simp[he])]
   have hl:=Am he;refine⟨trivial,⟨rfl,rfl,rfl,trivial⟩,trivial,_,View.o1 5 [0,1,2,4,3] [] ?_,xf k1 p c (aI k1 p j c.ba).1 j (by rw[hl];exact na) _ _ rfl⟩
   .exact .pt rfl rfl (.eq rfl (bC _ _)) (.pt rfl rfl (.eq rfl (cf _)) (.pt rfl rfl (.eq rfl (by simp[bW])) (.pe rfl rfl rfl (.pn rfl rfl rfl))))
 .refine⟨⟨rfl,rfl,rfl,trivial⟩,?_⟩;refine xd k1 hk p hp (j:Int) c.ba (λhe=>?_) (λhe=>?_)
  .rw[if_pos he];refine⟨trivial,trivial,_,View.o1 4 [0,1,2] [] ?_,xe k1 p c _ he⟩
   .exact .pt rfl rfl (.eq rfl (bC _ _)) (.pt rfl rfl (.eq rfl (cf _)) (.pt rfl rfl (.eq rfl (by simp[bW])) (.nil _)))
  .rw[if_neg (by simp[he])]
   have hl:=Am he;refine⟨trivial,trivial,_,View.o1 5 [0,1,2,3,4] [] ?_,xf k1 p c (aI k1 p j c.ba).1 j (by rw[hl];exact na) _ _ rfl⟩
   .exact .pt rfl rfl (.eq rfl (bC _ _)) (.pt rfl rfl (.eq rfl (cf _)) (.pt rfl rfl (.eq rfl (by simp[bW])) (.pe rfl rfl rfl (.pn rfl rfl rfl))))
theorem Be(a b:CV)(k:Int)(t:ByteArray):kV [a,b,.rv (.agg [.aa (.val (.int .i64 k)),.aO,.aO,.aa (.val (.string t)),.aa (.val (.int .i64 0)),.aO,.aa (.val (.int .i64 0)),.aa (.val (.int .i64 0)),.aa (.val (.int .i64 0))])] [a,b,Obj.cv ⟨k,[],[],t,0,[],0,0,0⟩]:=
 .dv _ (.dv _ (.agg (.cons (.dv _) (.cons (.aO 1) (.cons (.aO 2) (.cons (.dv _) (.cons (.dv _) (.cons (.aO 4) (.cons (.dv _) (.cons (.dv _) (.cons (.dv _) .nil))))))))) .nil))
structure FK(k:Kr)(p:Nat)(c:Cl)(f:R4):Prop where
 fi:f.fC=0->f.bn<(k.l.length:Int)
 x:(cg k c f).2.2=0->dF (cg k c f).1.l (cg k c f).1.ops (cg k c f).1.ps/\p<(cg k c f).1.ps.length/\∃j:Nat,(cg k c f).2.1=j/\j<(cg k c f).1.l.length
theorem Jq(k:Kr)(p:Nat)(hw:KW k p)(c:Cl)(f:R4)(hf:FK k p c f):
  aw prog 2 G29 (QC c55.lK (jq p c (cg k c f)).1 p c (jq p c (cg k c f)).2)
   ⟨km 117 [(0,.rv (.one (.ptr 0 0))),(1,.rv (.one (.ptr 1 0))),(8,.rv (.one (.ptr 2 0))),(9,.rv (.one (.ptr 3 0))),(10,an .i64 f.fC)],[xB k p,cB c,bW,.var ((Uy f).map .aa)]⟩:=by
 have Kt:=Jp p c (cg k c f) hf.x;have OY:=hf.fi;clear hf;obtain⟨bn,cL,name,fC⟩:=f;refine bs (λhe=>?_) (λhe=>?_)
 .have he:fC≠0:=he;have e1:cg k c ⟨bn,cL,name,fC⟩=(k,bn,fC):=by rw[cg,if_pos he]
  rw[e1]at Kt|-;refine⟨_,View.o1 4 [0,1,2] [] ?_,Kt⟩
  .exact .pt rfl rfl (.eq rfl (bC _ _)) (.pt rfl rfl (.eq rfl (cf _)) (.pt rfl rfl (.eq rfl (by simp[bW])) (.nil _)))
 have he:fC=0:=he;subst he;have OY:bn<(k.l.length:Int):=OY rfl;refine aL (λh1=>?_) (λh1=>?_)
 .have h1:bn<0:=h1;refine bp (λh2=>?_) (λh2=>?_)
  .have h2:lH c.bt 1=0:=h2;have e1:cg k c ⟨bn,cL,name,0⟩=(k,bn,6):=by rw[cg,if_neg aC,if_pos h1,if_pos h2]
   rw[e1]at Kt|-;refine⟨_,View.o1 4 [0,1,2] [] ?_,Kt⟩
   .exact .pt rfl rfl (.eq rfl (bC _ _)) (.pt rfl rfl (.eq rfl (cf _)) (.pt rfl rfl (.eq rfl (by simp[bW])) (.nil _)))
  .have h2:¬lH c.bt 1=0:=h2;have e1:cg k c ⟨bn,cL,name,0⟩=cu k ⟨bn,cL,name,0⟩ oN:=by rw[cg,if_neg aC,if_pos h1,if_neg h2]
   rw[e1]at Kt|-;refine cA (decide_eq_true h1) ?_;refine mN (Be _ _ _ _) (tM k p hw ⟨bn,cL,name,0⟩ oN zp 0 rfl ?_);refine⟨_,View.o1 4 [0,1,2] [] ?_,Kt⟩
   .exact .pt rfl rfl (.eq rfl (bC _ _)) (.pt rfl rfl (.eq rfl (cf _)) (.pt rfl rfl (.eq rfl (by simp[bW])) (.nil _)))
 .have h1:¬bn<0:=h1;obtain⟨j,rfl⟩:∃j:Nat,bn=j:=⟨bn.toNat,om⟩;have hj:j<k.l.length:=om;have OB:FI k.l (j:Int)=k.l[j].ah:=by rw[FI,aac,uX hj]
  refine bs (λh2=>?_) (λh2=>?_)
  .have h2:lH c.bt 2≠0:=h2;refine ag (iN hj) ?_;refine bp (λh3=>?_) (λh3=>?_)
   .have h3:k.l[j].ah=2:=h3;have e1:cg k c ⟨(j:Nat),cL,name,0⟩=(k,(j:Int),12):=by rw[cg,if_neg aC,if_neg h1,if_pos ⟨h2,by rw[<-h3,<-OB]⟩]
    rw[e1]at Kt|-;refine⟨_,View.o1 4 [0,1,2] [] ?_,Kt⟩
    .exact .pt rfl rfl (.eq rfl (bC _ _)) (.pt rfl rfl (.eq rfl (cf _)) (.pt rfl rfl (.eq rfl (by simp[bW])) (.nil _)))
   .have h3:¬k.l[j].ah=2:=h3;have e1:cg k c ⟨(j:Nat),cL,name,0⟩=(k,(j:Int),0):=by rw[cg,if_neg aC,if_neg h1,if_neg (by rw[OB];exact λh=>h3 h.2)]
    rw[e1]at Kt|-;refine⟨_,View.o1 4 [0,1,2] [] ?_,Kt⟩
    .exact .pt rfl rfl (.eq rfl (bC _ _)) (.pt rfl rfl (.eq rfl (cf _)) (.pt rfl rfl (.eq rfl (by simp[bW])) (.nil _)))
  .have h2:¬lH c.bt 2≠0:=λh=>h h2
   have e1:cg k c ⟨(j:Nat),cL,name,0⟩=(k,(j:Int),0):=by rw[cg,if_neg aC,if_neg h1,if_neg (λh=>h2 h.1)]
   rw[e1]at Kt|-;refine⟨_,View.o1 4 [0,1,2] [] ?_,Kt⟩
   .exact .pt rfl rfl (.eq rfl (bC _ _)) (.pt rfl rfl (.eq rfl (cf _)) (.pt rfl rfl (.eq rfl (by simp[bW])) (.nil _)))
theorem FL(k:Kr)(p:Nat)(hw:KW k p)(c:Cl)(ar:Int)(ax:Bool)(hf:FK k p c (iO k ar c.cJ ax true)):
  body prog c55 [.rv (.one (.ptr 0 0)),.rv (.one (.ptr 1 0)),an .i64 ar,aE ax] [xB k p,cB c] (TC (f4 k p c ar ax).1 p c (f4 k p c ar ax).2):=by
 have hs:=Jq k p hw c _ hf;show body prog c55 _ _ (TC (jq p c (cg k c (iO k ar c.cJ ax true))).1 p c (jq p c (cg k c (iO k ar c.cJ ax true))).2);refine⟨?_,?_⟩
 .refine se k p hw ar c.cJ ax true ?_;refine⟨trivial,⟨rfl,rfl,trivial⟩,trivial,_,View.o1 4 [0,1,2,3] [] ?_,hs⟩
  .exact .pt rfl rfl (.eq rfl (bC _ _)) (.pt rfl rfl (.eq rfl (cf _)) (.pt rfl rfl (.eq rfl (by simp[bW])) (.pm rfl rfl rfl)))
 .refine⟨⟨rfl,rfl,trivial⟩,?_⟩;refine se k p hw ar c.cJ ax true ?_;refine⟨trivial,trivial,_,View.o1 4 [0,1,2,3] [] ?_,hs⟩
  .exact .pt rfl rfl (.eq rfl (bC _ _)) (.pt rfl rfl (.eq rfl (cf _)) (.pt rfl rfl (.eq rfl (by simp[bW])) (.pm rfl rfl rfl)))
theorem Dg(k:Kr)(p:Nat)(hw:KW k p)(c:Cl)(ar:Int)(ax:Bool)(hf:FK k p c (iO k ar c.cJ ax true)){m:Mem}(i j:Nat)(rh:fJ [i,j]=true)(aD:eG m.length [i,j]=true)(hi:cD m i=some (xB k p))(hj:cD m j=some (cB c)){K:CV->Mem->Prop}(hK:K (f4 k p c ar ax).2.cv (cV m [i,j] [xB (f4 k p c ar ax).1 p,cB c])):
  aq prog 55 [.rv (.one (.ptr i 0)),.rv (.one (.ptr j 0)),an .i64 ar,aE ax] m K:=
 RJ (args:=[an .i64 ar,aE ax]) (λ_=>rfl) (λ_=>rfl)
  (bG (b8 func55 l55 (FL k p hw c ar ax hf)) λr m1⟨r',m',hv,hq⟩=>⟨r',m',hv,hq⟩) i j rh aD hi hj hK
end Kn
def c32:LF:= ⟨78,[.cell true 4 4],(.seq (.ai [qu 4 (.alloc [qd 0,qd 0,qd 0,.aO])]) (.seq (.seq (.ai [qm 9 1,qu 10 (.aP 9),qf 11 6 10,ql 12 11,qu 13 (qc 54 [12]),qu 14 (.un .not 13),qm 15 14,qg 16 (.aK 1) 15 false,qg 17 (.aP 16) 15 false,qg 18 (.cj 5 17) 15 false,qg 19 (.load false 1 18) 15 false,qg 20 (.aJ .lss 19 (qi 0)) 15 false,qu 21 (.pick 15 (qb true) 20),qm 22 21,qg 23 (.aK 1) 22 false,qg 24 (.aP 23) 22 false,qg 25 (.cj 5 24) 22 false,qg 26 (.load false 1 25) 22 false,qg 27 (.aJ .gtr 26 (qi 3)) 22 false,qu 28 (.pick 22 (qb true) 27)]) (.cond 28 (.seq (.ai [qu 29 (.build [qd 0,qd 0,qd 0,.aO] [(0,1,qi 3)]),qw (.store 4 4 29)]) .ret) .skip)) (.seq (.seq (.ai [qm 30 1,qu 31 (.aP 30),qf 32 1 31,ql 33 32,qu 34 (.aJ .eql 33 (qi 2))]) (.cond 34 (.seq (.ai [qm 35 0,qm 36 1,qu 37 (qc 55 [35,36,qi 0,qb false]),qw (.store 4 4 37)]) .ret) .skip)) (.seq (.ai [qm 38 1,qu 39 (.aP 38),qf 40 6 39,ql 41 40,qu 42 (.aJ .or (qi 8) 41),qm 5 42]) (.seq (.seq (.ai [qm 43 1,qu 44 (.aP 43),qf 45 5 44,ql 46 45,qu 47 (.aJ .and 46 (qi 1)),qu 48 (.aJ .neq 47 (qi 0))]) (.cond 48 (.ai [qm 49 5,qu 50 (.aJ .or 49 (qi 16)),qm 5 50]) .skip)) (.seq (.seq (.ai [qm 51 1,qu 52 (.aP 51),qf 53 5 52,ql 54 53,qu 55 (.aJ .and 54 (qi 2)),qu 56 (.aJ .neq 55 (qi 0))]) (.cond 56 (.ai [qm 57 5,qu 58 (.aJ .or 57 (qi 2)),qm 5 58]) .skip)) (.cS (.seq (.ai [qm 60 0,qm 61 1,qu 62 (.aP 61),qf 63 2 62,ql 64 63,qm 65 5,qu 66 (qc 56 [60,64,65]),qm 59 66,qu 67 (.ext 59 0),qu 68 (.ext 59 1),qu 69 (.ext 59 2),qu 6 (.alloc [qd 0,qd 0]),qw (.store 2 6 67),qm 7 68,qm 8 69]) (.seq (.seq (.ai [qm 70 8,qu 71 (.aJ .neq 70 (qi 0))]) (.cond 71 (.seq (.ai [qm 72 8,qu 73 (.build [qd 0,qd 0,qd 0,.aO] [(0,1,72)]),qw (.store 4 4 73)]) .ret) .skip)) (.seq (.ai [qm 74 0,qm 75 1,qm 76 7,qu 77 (qc 55 [74,75,76,qb true]),qw (.store 4 4 77)]) .ret))))))))))⟩
namespace Kn
def lY(c:Cl):Int:=if lH c.bt 2≠0 then Tz (if lH c.bt 1≠0 then Tz (Tz 8 c.ba) 16 else Tz 8 c.ba) 2 else(if lH c.bt 1≠0 then Tz (Tz 8 c.ba) 16 else Tz 8 c.ba)
def gm(k:Kr)(p:Nat)(c:Cl):Kr×An:=
 if Tb.eV c.ba=false\/c.bt<0\/c.bt>3 then(k,An.no 3)
 else if c.ah=2 then f4 k p c 0 false
 else if(bo k p c.fd (lY c)).2.2≠0 then(k,An.no (bo k p c.fd (lY c)).2.2)
 else f4 k p c (bo k p c.fd (lY c)).2.1 true
theorem FM{k:Kr}{p:Nat}{c:Cl}{X:Mem}{a:An}:TC k p c a a.cv (xB k p::cB c::X):=
 ⟨_,_,View.of (X.length+2) [0,1] [] rfl rfl rfl rfl rfl (by simp[eG,Nat.blt]) (.eq rfl .nil) (.pt rfl rfl (.eq rfl (bC _ _)) (.pt rfl rfl (.eq rfl (cf _)) (.nil _))),rfl,rfl⟩
theorem l32:bu prog f32=some c32.er:=by kernel_rfl
def aaC:LC:=bL (bL (bL (bL (bL (bL c32.code)))))
def WW:LC:=qt aaC
theorem Nk(k:Kr)(p:Nat)(hw:KW k p)(c:Cl)(need:Int)(hf:∀ar,FK k p c (iO k ar c.cJ true true))(R:Kr×An)(hR:R=if(bo k p c.fd need).2.2≠0 then(k,An.no (bo k p c.fd need).2.2)else f4 k p c (bo k p c.fd need).2.1 true):
  aw prog 2 WW (QC c32.lK R.1 p c R.2) ⟨km 78 [(0,.rv (.one (.ptr 0 0))),(1,.rv (.one (.ptr 1 0))),(4,.rv (.one (.ptr 2 0))),(5,an .i64 need)],[xB k p,cB c,bW]⟩:=by
 refine ku k p hw c.fd need 0 rfl ?_;generalize bo k p c.fd need=w at hR|-;obtain⟨⟨o,r⟩,b,e⟩:=w;refine bs (λhe=>?_) (λhe=>?_)
 .have he:e≠0:=he;rw[if_pos he]at hR;subst hR;exact cY (X:=[_,_])
 .have he:e=0:=he;subst he;rw[if_neg aC]at hR;subst hR;refine Dg k p hw c b true (hf b) 0 1 rfl rfl rfl rfl ?_;exact FM (X:=[_,_])
theorem Jr(k:Kr)(p:Nat)(hw:KW k p)(c:Cl)(hf:∀ar ax,FK k p c (iO k ar c.cJ ax true)):
  body prog c32 [.rv (.one (.ptr 0 0)),.rv (.one (.ptr 1 0))] [xB k p,cB c] (TC (gm k p c).1 p c (gm k p c).2):=by
 have hv:∀need R,R=(if(bo k p c.fd need).2.2≠0 then(k,An.no (bo k p c.fd need).2.2)else f4 k p c (bo k p c.fd need).2.1 true)->
  aw prog 2 WW (QC c32.lK R.1 p c R.2) ⟨km 78 [(0,.rv (.one (.ptr 0 0))),(1,.rv (.one (.ptr 1 0))),(4,.rv (.one (.ptr 2 0))),(5,an .i64 need)],[xB k p,cB c,bW]⟩:=λneed R hR=>Nk k p hw c need (λb=>hf b true) R hR
 refine Tb.wF c.ba ?_;cases hr:Tb.eV c.ba with
 |false=>
  have e1:gm k p c=(k,An.no 3):=by rw[gm,if_pos (.inl hr)]
  rw[e1];exact cY (X:=[_])
 |true=>
  refine aL (λh1=>?_) (λh1=>?_)
  .have h1:c.bt<0:=h1;have e1:gm k p c=(k,An.no 3):=by rw[gm,if_pos (.inr (.inl h1))]
   rw[e1];exact cY (X:=[_])
  have h1:¬c.bt<0:=h1;refine aL (λh2=>?_) (λh2=>?_)
  .have h2:c.bt>3:=h2;have e1:gm k p c=(k,An.no 3):=by rw[gm,if_pos (.inr (.inr h2))]
   rw[e1];exact cY (X:=[_])
  have h2:¬c.bt>3:=h2;have e0:gm k p c=if c.ah=2 then f4 k p c 0 false
   else if(bo k p c.fd (lY c)).2.2≠0 then(k,An.no (bo k p c.fd (lY c)).2.2)
   else f4 k p c (bo k p c.fd (lY c)).2.1 true:=by rw[gm,if_neg (by simp[hr,h1,h2])]
  rw[e0];refine bp (λh3=>?_) (λh3=>?_)
  .have h3:c.ah=2:=h3;rw[if_pos h3];refine Dg k p hw c 0 false (hf 0 false) 0 1 rfl rfl rfl rfl ?_;exact FM (X:=[_])
  have h3:¬c.ah=2:=h3;rw[if_neg h3];refine bs (λh4=>?_) (λh4=>?_)
  .have h4:lH c.bt 1≠0:=h4;refine bs (λh5=>?_) (λh5=>?_)
   .have h5:lH c.bt 2≠0:=h5;refine⟨_,View.o 3 [0,1,2] [] ?_ ?_,hv (lY c) _ rfl⟩
    .rw[lY,if_pos h4,if_pos h5];repeat(first|exact .nil|refine .ap ?_|refine .eq rfl ?_)
    .exact .pt rfl rfl (.eq rfl (bC _ _)) (.pt rfl rfl (.eq rfl (cf _)) (.pt rfl rfl (.eq rfl (by simp[bW])) (.nil _)))
   .have h5:¬lH c.bt 2≠0:=λh=>h h5
    refine⟨_,View.o 3 [0,1,2] [] ?_ ?_,hv (lY c) _ rfl⟩
    .rw[lY,if_pos h4,if_neg h5];repeat(first|exact .nil|refine .ap ?_|refine .eq rfl ?_)
    .exact .pt rfl rfl (.eq rfl (bC _ _)) (.pt rfl rfl (.eq rfl (cf _)) (.pt rfl rfl (.eq rfl (by simp[bW])) (.nil _)))
  .have h4:¬lH c.bt 1≠0:=λh=>h h4
   refine bs (λh5=>?_) (λh5=>?_)
   .have h5:lH c.bt 2≠0:=h5;refine⟨_,View.o 3 [0,1,2] [] ?_ ?_,hv (lY c) _ rfl⟩
    .rw[lY,if_neg h4,if_pos h5];repeat(first|exact .nil|refine .ap ?_|refine .eq rfl ?_)
    .exact .pt rfl rfl (.eq rfl (bC _ _)) (.pt rfl rfl (.eq rfl (cf _)) (.pt rfl rfl (.eq rfl (by simp[bW])) (.nil _)))
   .have h5:¬lH c.bt 2≠0:=λh=>h h5
    refine⟨_,View.o 3 [0,1,2] [] ?_ ?_,hv (lY c) _ rfl⟩
    .rw[lY,if_neg h4,if_neg h5];repeat(first|exact .nil|refine .ap ?_|refine .eq rfl ?_)
    .exact .pt rfl rfl (.eq rfl (bC _ _)) (.pt rfl rfl (.eq rfl (cf _)) (.pt rfl rfl (.eq rfl (by simp[bW])) (.nil _)))
theorem dL{f:Nat}{k k':Kr}{p:Nat}{c:Cl}{a:An}(hc:aq prog f [.rv (.one (.ptr 0 0)),.rv (.one (.ptr 1 0))] [xB k p,cB c] (TC k' p c a)){m:Mem}(i j:Nat)(rh:fJ [i,j]=true)(aD:eG m.length [i,j]=true)(hi:cD m i=some (xB k p))(hj:cD m j=some (cB c)){K:CV->Mem->Prop}(hK:K a.cv (cV m [i,j] [xB k' p,cB c])):aq prog f [.rv (.one (.ptr i 0)),.rv (.one (.ptr j 0))] m K:=
 RJ (args:=[]) (λ_=>rfl) (λ_=>rfl) (bG hc λr m1⟨r',m',hv,hq⟩=>⟨r',m',hv,hq⟩) i j rh aD hi hj hK
theorem zq(k:Kr)(p:Nat)(hw:KW k p)(c:Cl)(hf:∀ar ax,FK k p c (iO k ar c.cJ ax true)):aq prog 32 [.rv (.one (.ptr 0 0)),.rv (.one (.ptr 1 0))] [xB k p,cB c] (TC (gm k p c).1 p c (gm k p c).2):=
 b8 func32 l32 (Jr k p hw c hf)
end Kn
def c33:LF:= ⟨172,[.cell true 4 4],(.seq (.ai [qu 4 (.alloc [qd 0,qd 0,qd 0,.aO])]) (.seq (.ai [qu 15 (.ua),qw (.vm (.i .i64) 15 (qi 4) (qi 1)),qw (.vm (.i .i64) 15 (qi 5) (qi 2)),qw (.vm (.i .i64) 15 (qi 6) (qi 4)),qm 16 15,qm 17 1,qu 18 (.aP 17),qf 19 1 18,ql 20 19,qu 21 (.zQ (.one (qd 0)) (.i .i64) 16 20 false),qm 5 21]) (.cS (.seq (.ai [qm 23 0,qm 24 1,qu 25 (.aP 24),qf 26 2 25,ql 27 26,qm 28 5,qu 29 (qc 56 [23,27,28]),qm 22 29,qu 30 (.ext 22 0),qu 31 (.ext 22 1),qu 32 (.ext 22 2),qu 6 (.alloc [qd 0,qd 0]),qw (.store 2 6 30),qm 7 31,qm 8 32]) (.seq (.seq (.ai [qm 33 8,qu 34 (.aJ .neq 33 (qi 0))]) (.cond 34 (.seq (.ai [qm 35 8,qu 36 (.build [qd 0,qd 0,qd 0,.aO] [(0,1,35)]),qw (.store 4 4 36)]) .ret) .skip)) (.seq (.bR [qm 37 0,qu 38 (.aP 37),qf 39 0 38,qf 40 1 39,ql 41 40,qf 42 0 6,ql 43 42,qu 44 (.cw 2 41 43),qf 45 1 44,ql 46 45,qm 9 46] [(.cons 0 none (.cons 1 none (.cons 2 none (.cons 3 none (.cons 4 none (.cons 5 none (.cons 6 none (.cons 7 none (.cons 8 none (.cons 9 none (.cons 10 none .nil)))))))))))]) (.seq (.ai [qu 47 (.build [qd 0,qd 0,qd 0,.aO] []),qu 10 (.alloc [qd 0,qd 0,qd 0,.aO]),qw (.store 4 10 47)]) (.seq (.seq (.ai [qm 48 1,qu 49 (.aP 48),qf 50 1 49,ql 51 50]) (.block 0 (.seq (.ai [qu 70 (.aJ .eql 51 (qi 4)),qm 69 70]) (.cond 69 (.seq (.bR [qm 72 0,qu 73 (.aP 72),qf 74 0 73,qf 75 0 74,ql 76 75,qm 77 7,qu 78 (.cw 9 76 77),qL 79 9 78,qm 80 9,qm 81 1,qu 82 (.aP 81),qf 83 4 82,ql 84 83,qu 85 (qc 57 [79,80,84]),qm 71 85,qu 86 (.ext 71 0),qu 87 (.ext 71 1),qm 11 86,qm 12 87] [(.cons 0 none (.cons 1 none (.cons 2 none (.cons 3 none (.cons 4 none (.cons 5 none (.cons 6 none (.cons 7 none (.cons 8 none (.cons 9 none (.cons 10 none (.cons 11 none (.cons 12 none (.cons 13 (some []) (.cons 14 none (.cons 15 none (.cons 16 none (.cons 17 none (.cons 18 none .nil)))))))))))))))))))]) (.seq (.seq (.ai [qm 88 12,qu 89 (.aJ .neq 88 (qi 0))]) (.cond 89 (.seq (.ai [qm 90 12,qu 91 (.build [qd 0,qd 0,qd 0,.aO] [(0,1,90)]),qw (.store 4 4 91)]) .ret) .skip)) (.seq (.ai [qm 92 9,qm 93 11,qu 94 (.len 1 93),qu 95 (.aJ .add 92 94),qm 9 95]) (.ai [qm 96 11,qu 97 (.len 1 96),qm 98 11,qf 99 1 10,qw (.store 1 99 97),qf 100 3 10,qw (.store 1 100 98)])))) (.seq (.ai [qu 102 (.aJ .eql 51 (qi 5)),qm 101 102]) (.cond 101 (.seq (.bR [qm 104 0,qu 105 (.aP 104),qf 106 0 105,qf 107 0 106,ql 108 107,qm 109 7,qu 110 (.cw 9 108 109),qL 111 9 110,qm 112 9,qm 113 1,qu 114 (.aP 113),qf 115 8 114,ql 116 115,qu 117 (qc 58 [111,112,116]),qm 103 117,qu 118 (.ext 103 0),qu 119 (.ext 103 1),qu 13 (.alloc [qd 0,.aO,.aO,(.aa (.val (.string ⟨#[]⟩))),qd 0,.aO,qd 0,qd 0,qd 0]),qw (.store 9 13 118),qm 14 119] [(.cons 0 none (.cons 1 none (.cons 2 none (.cons 3 none (.cons 4 none (.cons 5 none (.cons 6 none (.cons 7 none (.cons 8 none (.cons 9 none (.cons 10 none (.cons 11 none (.cons 12 none (.vn (.cons 13 (some []) (.cons 14 none (.cons 15 none (.cons 16 none (.cons 17 (some [12,7,6,4]) (.cons 18 (some []) (.cons 19 none .nil))))))) (.cons 17 (some [12,7,6,4]) (.cons 13 (some []) (.cons 14 none (.cons 15 none (.cons 16 none (.cons 18 (some []) (.cons 19 none .nil)))))))))))))))))))))]) (.cS (.seq (.seq (.ai [qm 120 14,qu 121 (.aJ .neq 120 (qi 0))]) (.cond 121 (.seq (.ai [qm 122 14,qu 123 (.build [qd 0,qd 0,qd 0,.aO] [(0,1,122)]),qw (.store 4 4 123)]) .ret) .skip)) (.seq (.ai [qm 124 0,qm 125 0,qu 126 (.aP 125),qf 127 0 126,qL 128 3 127,qu 129 (qc 59 [128]),qu 130 (.aP 124),qf 131 0 130,qw (.store 3 131 129)]) (.seq (.bR [qm 132 0,qu 133 (.aP 132),qf 134 0 133,qf 135 0 134,ql 136 135,qm 137 7,qL 138 9 13,qu 139 (.cw 9 136 137),qw (.store 9 139 138)] [(.cons 0 none (.cons 1 none (.cons 2 none (.cons 3 none (.cons 4 none (.cons 5 none (.cons 6 none (.cons 7 none (.cons 8 (some []) .nil)))))))))]) (.seq (.ai [qm 140 9,qm 141 1,qu 142 (.aP 141),qf 143 8 142,ql 144 143,qu 145 (.len 1 144),qu 146 (.aJ .add 140 145),qm 9 146]) (.ai [qm 147 1,qu 148 (.aP 147),qf 149 8 148,ql 150 149,qu 151 (.len 1 150),qf 152 1 10,qw (.store 1 152 151)]))))))) (.seq (.seq (.ai [qm 52 1,qu 53 (.aP 52),qf 54 4 53,ql 55 54,qu 56 (.aJ .lss 55 (qi 0)),qm 57 56,qg 58 (.aK 1) 57 false,qg 59 (.aP 58) 57 false,qg 60 (.cj 4 59) 57 false,qg 61 (.load false 1 60) 57 false,qg 62 (.aJ .gtr 61 (qi 60)) 57 false,qu 63 (.pick 57 (qb true) 62)]) (.cond 63 (.seq (.ai [qu 64 (.build [qd 0,qd 0,qd 0,.aO] [(0,1,qi 3)]),qw (.store 4 4 64)]) .ret) .skip)) (.ai [qm 65 1,qu 66 (.aP 65),qf 67 4 66,ql 68 67,qm 9 68])))))))) (.cS (.seq (.ai [qm 153 0,qm 154 0,qu 155 (.aP 154),qf 156 0 155,qL 157 3 156,qu 158 (qc 59 [157]),qu 159 (.aP 153),qf 160 0 159,qw (.store 3 160 158)]) (.seq (.bR [qm 161 0,qu 162 (.aP 161),qf 163 0 162,qf 164 1 163,ql 165 164,qf 166 0 6,ql 167 166,qm 168 9,qu 169 (.cw 2 165 167),qf 170 1 169,qw (.store 1 170 168)] [(.cons 0 none (.cons 1 none (.cons 2 none (.cons 3 none (.cons 4 none (.cons 5 none (.cons 6 none (.cons 7 none (.cons 8 none (.cons 9 none (.cons 10 (some []) .nil)))))))))))]) (.seq (.ai [qL 171 4 10,qw (.store 4 4 171)]) .ret))))))))))))⟩
namespace Kn
def ld(l:List Obj)(z:Int):Obj:=(l[z.toNat]?).getD gR
def sf(k:Kr)(z a:Int):Kr:=⟨k.l,(match k.ops[z.toNat]? with|some o=>k.ops.set z.toNat {o with da:=a}|none=>k.ops),k.ps⟩
def setObj(k:Kr)(z:Int)(o:Obj):Kr:=⟨k.l.set z.toNat o,k.ops,k.ps⟩
def Bf(a b:Int):Int:=IntKind.i64.wrap (a+b)
def nN(ah:Int):Int:=if ah=4 then 1 else if ah=5 then 2 else 4
def tN(k:Kr)(n:Int)(da:Int)(r:List (List Dt)×Int):Kr×An:=
 if r.2≠0 then(k,An.no r.2)else(sf k n (Bf da r.1.length),⟨0,r.1.length,0,r.1⟩)
def oO(k:Kr)(n:Int)(bn:Int)(da:Int)(len:Nat)(r:Obj×Int):Kr×An:=
 if r.2≠0 then(k,An.no r.2)else(sf (setObj k bn r.1) n (Bf da len),⟨0,len,0,[]⟩)
def qD(k:Kr)(n:Int)(da:Int):Kr×An:=
 if da<0\/da>60 then(k,An.no 3)else(sf k n da,⟨0,0,0,[]⟩)
def mi(k:Kr)(c:Cl)(w:(Int×Int)×Int×Int):Kr×An:=
 if w.2.2≠0 then(k,An.no w.2.2)
 else if c.ah=4 then tN k w.1.1 (oM k.ops w.1.1) (jI (ld k.l w.2.1).ah (ld k.l w.2.1).data (oM k.ops w.1.1) c.n)
 else if c.ah=5 then oO k w.1.1 w.2.1 (oM k.ops w.1.1) c.data.length (eW (ld k.l w.2.1) (oM k.ops w.1.1) (i4 c.data))
 else qD k w.1.1 c.n
def hU(k:Kr)(p:Nat)(c:Cl):Kr×An:=mi k c (bo k p c.fd (nN c.ah))
theorem tO{l:List Obj}{n:Nat}(h:n<l.length):ld l (n:Int)=l[n]:=by rw[ld,aac,uX h];rfl
def UD(d:List Int)(A:Nat)(b:List Int):List Int:=if b.length=0 then d else cP (d++List.replicate (A+b.length-d.length) 0) A b
theorem FN(d b:List Int)(A:Nat):pR (i4 d) A (i4 b)=i4 (UD d A b):=by
 have hl:∀x:List Int,(i4 x).length=x.length:=λx=>by simp[i4]
 have hz:∀n,List.replicate n zb=i4 (List.replicate n 0):=λn=>by simp[i4,zb]
 unfold pR UD;rw[hl];split
 .rfl
 .unfold Ti cP;rw[hl,hz,hl];simp only[i4,abw,aci,ac9]
theorem Hx(d b:List Int)(A:Nat)(hb:b.length<=60)(hA:A+b.length<=60):(UD d A b).length<=60\/(UD d A b).length<=d.length:=by
 unfold UD;split
 .exact .inr (Ts _)
 .unfold cP;simp only[aba,aan,abz,List.length_replicate];omega
theorem sh{o:Obj}(ho:o.sm){da:Int}{b:List Int}(h:(eW o da (i4 b)).2=0):(eW o da (i4 b)).1.sm/\o.ah=1/\0<=da/\da<=60/\(b.length:Int)<=60-da/\(eW o da (i4 b)).1={o with data:=pR o.data da.toNat (i4 b)}:=by
 have hl:(i4 b).length=b.length:=by simp[i4]
 unfold eW at h|-;split at h
 .simp at h
 .rename_i h1;split at h
  .simp at h
  .rename_i h2;split at h
   .simp at h
   .rename_i h3;split at h
    .simp at h
    .rename_i h4;rw[if_neg h1,if_neg h2,if_neg h3,if_neg h4];rw[hl]at h4;obtain⟨⟨⟨d,hd⟩,vM,ht3⟩,lT,he,hq,hqd⟩:=ho;refine⟨⟨⟨⟨UD d da.toNat b,?_⟩,vM,ht3⟩,?_,he,hq,hqd⟩,om,om,om,om,rfl⟩
     .show pR o.data da.toNat (i4 b)=_;rw[hd,FN]
     .show(pR o.data da.toNat (i4 b)).length<=64;rw[hd,FN,show ∀x:List Int,(i4 x).length=x.length from λx=>by simp[i4]]
      have ae4:d.length<=64:=by rw[hd]at lT;simpa[i4]using lT
      have:=Hx d b da.toNat om om;omega
theorem dF.Js{k:Kr}(h:dF k.l k.ops k.ps){z:Int}{o:Obj}(ho:o.sm):dF (setObj k z o).l (setObj k z o).ops (setObj k z o).ps:=by
 refine⟨λx hx=>?_,by simpa[setObj]using h.ll,h.lo,h.lp,h.sl,h.ne⟩
 rcases aa2 hx with hx|rfl
 .exact h.sm x hx
 .exact ho
theorem l33:bu prog f33=some c33.er:=by kernel_rfl
def aaD:LC:=bL (bL c33.code)
def TD:LC:=qt aaD
def WX:LC:=bL (bL (bL (bL (bL TD))))
def aaE:LC:=qt WX
theorem qE(k:Kr)(hk:dF k.l k.ops k.ps)(p:Nat)(c:Cl)(n:Nat)(hn:n<k.ops.length)(r da:Int)(a:An):
  aw prog 2 aaE (QC c33.lK (sf k n da) p c a)
   ⟨km 172 [(0,.rv (.one (.ptr 0 0))),(1,.rv (.one (.ptr 1 0))),(4,.rv (.one (.ptr 2 0))),(6,.rv (.one (.ptr 3 0))),(9,an .i64 da),(10,.rv (.one (.ptr 4 0)))],
    [xB k p,cB c,bW,.var [.aa (.val (.int .i64 (n:Nat))),.aa (.val (.int .i64 r))],.var (a.enc.map .aa)]⟩:=by
 refine iI k.l k.ops k.ps ⟨hk.ll,λo ho=>(hk.sm o ho).nT⟩ hk.lo hk.lp hk.sl hk.ne ?_
 refine ag (AH hn) ?_;have ho:=bH bD.enc k.ops hn;have hs:sf k n da=⟨k.l,k.ops.set n {k.ops[n]with da:=da},k.ps⟩:=by rw[sf,aac,uX hn]
 rw[hs];generalize k.ops[n]=x at ho;obtain⟨xo,xa⟩:=x;refine ag ho ?_;refine⟨trivial,_,_,View.o 8 [0,1] [5,6,7] (.eq rfl .nil) (.pt rfl rfl (TB (k:=⟨k.l,k.ops.set n ⟨xo,da⟩,k.ps⟩) (im rfl rfl) (im rfl (congrArg (λx=>some (Bk.row 2 x)) ?_)) (im rfl rfl)) (.pt rfl rfl (.eq rfl (cf _)) (.nil _))),rfl,rfl⟩
 show aW (af (k.ops.map bD.enc)) n ((bD.enc ⟨xo,da⟩).map .aa)=_;rw[a8,af,af,abE,abE]
def unB:LC->LC
 | .block _ b=>b
 |x=>x
def aaF:LC:=match unB (bL (Wc (bL (bL (bL (bL TD))))))with
 | .seq _ (.cond _ _ (.seq _ (.cond _ (.seq _ g) _)))=>g
 |x=>x
def aaG:LC:=qt aaF
def FO(a b d:Int)(x:Int):Prop:=x=a\/x=b\/x=d
theorem RK{Y:Nat->Nat}{m:Mem}{Z:Nat->Prop}{id:Nat}{e n x:Int}:l9 Y m Z id (.var [.aa (.val (.int .i64 e)),.aa (.val (.int .i64 n)),.aa (.val (.int .i64 x)),.aO]) (.var ((An.enc ⟨e,n,x,[]⟩).map .aa)):=
 fa.var (.cons (.aU (.aa _)) (.cons (.aU (.aa _)) (.cons (.aU (.aa _)) (.cons (.fy (.aO 1)) .nil))))
theorem FP(k:Kr)(p:Nat)(hw:KW k p)(c:Cl)(n j:Nat)(hn:n<k.ops.length)(hj:j<k.l.length)(r da:Int)(o':Obj)(e:Int)(ho:e=0->o'.sm):
  aw prog 2 aaG (D8 0 (R9 (aw prog 2 WX) (QC c33.lK (oO k n j da c.data.length (o',e)).1 p c (oO k n j da c.data.length (o',e)).2)))
   ⟨km 172 [(0,.rv (.one (.ptr 0 0))),(1,.rv (.one (.ptr 1 0))),(4,.rv (.one (.ptr 2 0))),(6,.rv (.one (.ptr 3 0))),(7,an .i64 (j:Nat)),(9,an .i64 da),(10,.rv (.one (.ptr 4 0))),(13,.rv (.one (.ptr 5 0))),(14,an .i64 e)],
    [xB k p,cB c,bW,.var [.aa (.val (.int .i64 (n:Nat))),.aa (.val (.int .i64 r))],.var [.aa (.val (.int .i64 0)),.aa (.val (.int .i64 0)),.aa (.val (.int .i64 0)),.aO],.var (o'.enc.map .aa)]⟩:=by
 refine bs (λhe=>?_) (λhe=>?_)
 .have he:e≠0:=he;rw[oO,if_pos he];exact cY (X:=[_,_,_,_])
 have he:e=0:=he;subst he;have ho:=ho rfl;rw[oO,if_neg aC];refine iI k.l k.ops k.ps hw.nT hw.kr.lo hw.kr.lp hw.kr.sl hw.kr.ne ?_;refine ag (Nj hj) ?_;refine ag (bH Obj.enc k.l hj) ?_;refine⟨trivial,?_⟩;have hx:aW (af (k.l.map Obj.enc)) j (o'.enc.map .aa)=af ((setObj k j o').l.map Obj.enc):=ns Obj.enc k.l j o';refine⟨_,View.o 9 [0,1,2,3,4] [6,7,8] ?_ ?_,qE (setObj k j o') (dF.Js hw.kr ho) p c n hn r (Bf da c.data.length) ⟨0,c.data.length,0,[]⟩⟩
 .have hl:∀x:List Int,(i4 x).length=x.length:=λx=>by simp[i4]
  have h9:an .i64 (IntKind.i64.wrap (da+((i4 c.data).length:Nat)))=an .i64 (Bf da c.data.length):=by rw[hl];rfl
  repeat(first|exact .nil|refine .ap ?_|refine .eq rfl ?_|refine .eq h9.symm ?_)
 .have h9:((i4 c.data).length:Int)=(c.data.length:Int):=by simp[i4]
  refine .pt rfl rfl (TB (k:=setObj k j o') (im rfl (congrArg (λx=>some (Bk.row 9 x)) hx)) (im rfl rfl) (im rfl rfl)) (.pt rfl rfl (.eq rfl (cf _)) (.pt rfl rfl (.eq rfl (by simp[bW])) (.pe rfl rfl rfl (.pt rfl rfl ?_ (.nil _)))))
  rw[<-h9];exact RK
theorem P1{ops:List bD}{n:Nat}(h:n<ops.length):oM ops (n:Int)=ops[n].da:=by rw[oM,aac,uX h]
theorem Jt(k:Kr)(p:Nat)(hw:KW k p)(c:Cl)(need:Int)(BE:FO 4 5 6 c.ah)(hd:c.data.length<=4194304):
  aw prog 2 TD (QC c33.lK (mi k c (bo k p c.fd need)).1 p c (mi k c (bo k p c.fd need)).2)
   ⟨km 172 [(0,.rv (.one (.ptr 0 0))),(1,.rv (.one (.ptr 1 0))),(4,.rv (.one (.ptr 2 0))),(5,an .i64 need)],[xB k p,cB c,bW]⟩:=by
 refine ku k p hw c.fd need 0 rfl ?_;have hh:= @KW.held k p hw c.fd need;generalize bo k p c.fd need=w at hh|-;obtain⟨⟨o,r⟩,b,e⟩:=w;refine bs (λhe=>?_) (λhe=>?_)
 .have he:e≠0:=he;have e1:mi k c ((o,r),b,e)=(k,An.no e):=by rw[mi,if_pos he]
  rw[e1];exact cY (X:=[_,_])
 have he:e=0:=he;subst he;obtain⟨n,j,h1,h2,h3,h4,h5⟩:=hh rfl;have h1:o=n:=h1;have h3:b=j:=h3;subst h1 h3;have kn:=(hw.kr.sm _ (aal h4)).nT;have Ej:=hw.kr.sm _ (aal h4);have OD:=tO h4;refine ag (pg h2) ?_;have hS:mi k c ((((n:Nat):Int),r),((j:Nat):Int),0)=if c.ah=4 then tN k n k.ops[n].da (jI k.l[j].ah k.l[j].data k.ops[n].da c.n)
  else if c.ah=5 then oO k n j k.ops[n].da c.data.length (eW k.l[j] k.ops[n].da (i4 c.data))else qD k n c.n:=by
  rw[mi,if_neg aC,OD,P1 h2]
 rw[hS];refine bp (λk4=>?_) (λk4=>?_)
 .have k4:c.ah=4:=k4;rw[if_pos k4];refine ag (iN h4) ?_;refine Nd k.l[j] kn.1 k.ops[n].da c.n ?_;generalize jI k.l[j].ah k.l[j].data k.ops[n].da c.n=R;obtain⟨d,e⟩:=R;refine⟨trivial,?_⟩;refine bs (λhe=>?_) (λhe=>?_)
  .have he:e≠0:=he;rw[tN,if_pos he];exact cY (X:=[_,_,_])
  .have he:e=0:=he;subst he;rw[tN,if_neg aC];refine⟨_,View.o1 5 [0,1,2,3,4] [] ?_,qE k hw.kr p c n h2 r (Bf k.ops[n].da d.length) ⟨0,d.length,0,d⟩⟩
   .exact .pt rfl rfl (.eq rfl (bC _ _)) (.pt rfl rfl (.eq rfl (cf _)) (.pt rfl rfl (.eq rfl (by simp[bW])) (.pe rfl rfl rfl (.pm rfl rfl rfl))))
 have k4:¬c.ah=4:=k4;rw[if_neg k4];refine bp (λk5=>?_) (λk5=>?_)
 .have k5:c.ah=5:=k5;rw[if_pos k5];have hb:(i4 c.data).length<=4194304:=by simpa[i4]using hd
  have BF:=λ(h:(eW k.l[j] k.ops[n].da (i4 c.data)).2=0)=>(sh Ej h).1
  have hg:=iN h4;have WY:=λo' e(h:e=0->Obj.sm o')=>FP k p hw c n j h2 h4 r k.ops[n].da o' e h
  refine ag hg ?_;refine⟨?_,?_⟩
  .refine CY k.l[j] kn k.ops[n].da (i4 c.data) hb ?_;generalize eW k.l[j] k.ops[n].da (i4 c.data)=R at BF|-;obtain⟨o',e⟩:=R;refine⟨trivial,⟨rfl,rfl,ag hg rfl,rfl,trivial⟩,trivial,_,View.o1 6 [0,1,2,3,4,5] [] ?_,WY o' e BF⟩
   .exact .pt rfl rfl (.eq rfl (bC _ _)) (.pt rfl rfl (.eq rfl (cf _)) (.pt rfl rfl (.eq rfl (by simp[bW])) (.pe rfl rfl rfl (.pe rfl rfl rfl (.pm rfl rfl rfl)))))
  .refine⟨⟨rfl,rfl,ag hg rfl,rfl,trivial⟩,?_⟩;refine CY k.l[j] kn k.ops[n].da (i4 c.data) hb ?_;generalize eW k.l[j] k.ops[n].da (i4 c.data)=R at BF|-;obtain⟨o',e⟩:=R;refine⟨trivial,trivial,_,View.o1 6 [0,1,2,3,4,5] [] ?_,WY o' e BF⟩
   .exact .pt rfl rfl (.eq rfl (bC _ _)) (.pt rfl rfl (.eq rfl (cf _)) (.pt rfl rfl (.eq rfl (by simp[bW])) (.pe rfl rfl rfl (.pe rfl rfl rfl (.pm rfl rfl rfl)))))
 .have k5:¬c.ah=5:=k5;rw[if_neg k5];refine aL (λh6=>?_) (λh6=>?_)
  .have h6:c.n<0:=h6;rw[qD,if_pos (.inl h6)];exact cY (X:=[_,_,_])
  have h6:¬c.n<0:=h6;refine aL (λh7=>?_) (λh7=>?_)
  .have h7:c.n>60:=h7;rw[qD,if_pos (.inr h7)];exact cY (X:=[_,_,_])
  have h7:¬c.n>60:=h7;rw[qD,if_neg om];refine⟨_,View.o1 5 [0,1,2,3,4] [] ?_,qE k hw.kr p c n h2 r c.n ⟨0,0,0,[]⟩⟩
  .exact .pt rfl rfl (.eq rfl (bC _ _)) (.pt rfl rfl (.eq rfl (cf _)) (.pt rfl rfl (.eq rfl (by simp[bW])) (.pe rfl rfl rfl (.pt rfl rfl RK (.nil _)))))
theorem FQ(k:Kr)(p:Nat)(hw:KW k p)(c:Cl)(BE:FO 4 5 6 c.ah)(hd:c.data.length<=4194304):
  body prog c33 [.rv (.one (.ptr 0 0)),.rv (.one (.ptr 1 0))] [xB k p,cB c] (TC (hU k p c).1 p c (hU k p c).2):=by
 have hs:=λneed=>Jt k p hw c need BE hd
 have RL:hU k p c=mi k c (bo k p c.fd (nN c.ah)):=rfl;rw[RL];clear RL;obtain⟨aA,ah,fd,fD,n,bt,ba,cJ,data⟩:=c;rcases BE with h|h|h
 .have h:ah=4:=h;subst h;refine⟨_,View.o1 4 [0,1,2] [] ?_,hs 1⟩
  .exact .pt rfl rfl (.eq rfl (bC _ _)) (.pt rfl rfl (.eq rfl (cf _)) (.pt rfl rfl (.eq rfl (by simp[bW])) (.nil _)))
 .have h:ah=5:=h;subst h;refine⟨_,View.o1 4 [0,1,2] [] ?_,hs 2⟩
  .exact .pt rfl rfl (.eq rfl (bC _ _)) (.pt rfl rfl (.eq rfl (cf _)) (.pt rfl rfl (.eq rfl (by simp[bW])) (.nil _)))
 .have h:ah=6:=h;subst h;refine⟨_,View.o1 4 [0,1,2] [] ?_,hs 4⟩
  .exact .pt rfl rfl (.eq rfl (bC _ _)) (.pt rfl rfl (.eq rfl (cf _)) (.pt rfl rfl (.eq rfl (by simp[bW])) (.nil _)))
theorem qF(k:Kr)(p:Nat)(hw:KW k p)(c:Cl)(BE:FO 4 5 6 c.ah)(hd:c.data.length<=4194304):aq prog 33 [.rv (.one (.ptr 0 0)),.rv (.one (.ptr 1 0))] [xB k p,cB c] (TC (hU k p c).1 p c (hU k p c).2):=
 b8 func33 l33 (FQ k p hw c BE hd)
end Kn
def c34:LF:= ⟨66,[.cell true 4 4],(.seq (.ai [qu 4 (.alloc [qd 0,qd 0,qd 0,.aO])]) (.seq (.bR [qm 8 0,qu 9 (.aP 8),qf 10 0 9,qf 11 2 10,ql 12 11,qm 13 0,qu 14 (.aP 13),qf 15 3 14,ql 16 15,qu 17 (.cw 4 12 16),qf 18 3 17,ql 19 18,qm 5 19] [(.cons 0 none (.cons 1 none (.cons 2 none (.cons 3 none (.cons 4 none (.cons 5 none (.cons 6 none (.cons 7 none (.cons 8 none (.cons 9 none (.cons 10 none (.cons 11 none (.cons 12 none .nil)))))))))))))]) (.seq (.ai [qu 6 (.aK (qi 0))]) (.seq (.ai [qu 7 (.aK (qi 0))]) (.seq (.seq (.ai [qm 20 1,qu 21 (.aP 20),qf 22 1 21,ql 23 22]) (.block 0 (.seq (.ai [qu 38 (.aJ .eql 23 (qi 7)),qm 37 38]) (.cond 37 (.ai [qm 40 5,qm 41 1,qu 42 (.aP 41),qf 43 2 42,ql 44 43,qu 45 (qc 60 [40,44]),qm 39 45,qu 46 (.ext 39 0),qu 47 (.ext 39 1),qm 5 46,qm 7 47]) (.seq (.ai [qu 49 (.aJ .eql 23 (qi 8)),qm 48 49]) (.cond 48 (.ai [qm 51 5,qm 52 1,qu 53 (.aP 52),qf 54 2 53,ql 55 54,qu 56 (qc 61 [51,55]),qm 50 56,qu 57 (.ext 50 0),qu 58 (.ext 50 1),qu 59 (.ext 50 2),qm 5 57,qm 6 58,qm 7 59]) (.bR [qm 25 5,qm 26 1,qu 27 (.aP 26),qf 28 2 27,ql 29 28,qm 30 1,qu 31 (.aP 30),qf 32 6 31,ql 33 32,qu 34 (qc 62 [25,29,33]),qm 24 34,qu 35 (.ext 24 0),qu 36 (.ext 24 1),qm 5 35,qm 7 36] [(.cons 0 none (.cons 1 none (.cons 2 none (.cons 3 none (.cons 4 none (.cons 5 none (.cons 6 none (.cons 7 none (.cons 8 none (.cons 9 (some []) (.cons 10 none (.cons 11 none (.cons 12 none (.cons 13 none (.cons 14 none .nil)))))))))))))))]))))))) (.cS (.seq (.ai [qm 60 0,qm 61 5,qm 62 7,qu 63 (qc 63 [60,61,62]),qm 64 6,qu 65 (.build [qd 0,qd 0,qd 0,.aO] [(0,1,63),(1,1,64)]),qw (.store 4 4 65)]) .ret)))))))⟩
namespace Kn
def Hy(k:Kr)(p:Nat)(x:List fk×Int×Int):Kr×An:=(fh k p x.1 x.2.2,⟨x.2.2,x.2.1,0,[]⟩)
def lZ(l:List fk)(c:Cl):List fk×Int×Int:=
 if c.ah=7 then((w9 l c.fd).1,0,(w9 l c.fd).2)else if c.ah=8 then C9 l c.fd else((Da l c.fd c.ba).1,0,(Da l c.fd c.ba).2)
def l4(k:Kr)(p:Nat)(c:Cl):Kr×An:=Hy k p (lZ (ay k.ps p) c)
theorem l34:bu prog f34=some c34.er:=by kernel_rfl
def aaH:LC:=bL (bL (bL (bL (bL c34.code))))
def aaI:LC:=qt aaH
theorem Nl(k:Kr)(p:Nat)(hw:KW k p)(c:Cl)(x:List fk×Int×Int):
  aw prog 2 aaI (QC c34.lK (Hy k p x).1 p c (Hy k p x).2)
   ⟨km 66 [(0,.rv (.one (.ptr 0 0))),(1,.rv (.one (.ptr 1 0))),(4,.rv (.one (.ptr 2 0))),(5,mS x.1),(6,an .i64 x.2.1),(7,an .i64 x.2.2)],[xB k p,cB c,bW]⟩:=by
 refine Dd k p hw.kr hw.hp x.1 x.2.2 0 rfl ?_;exact cY (X:=[_])
theorem Ju(k:Kr)(p:Nat)(hw:KW k p)(c:Cl):
  body prog c34 [.rv (.one (.ptr 0 0)),.rv (.one (.ptr 1 0))] [xB k p,cB c] (TC (l4 k p c).1 p c (l4 k p c).2):=by
 have hs:=Nl k p hw c (lZ (ay k.ps p) c);have hg:=dz hw.hp;rw[<-d5 hw.hp]at hg;have hl:(ay k.ps p).length<=2097152:=by rw[d5 hw.hp];have:=hw.kr.sl _ (aal hw.hp);omega
 have hS:l4 k p c=Hy k p (lZ (ay k.ps p) c):=rfl;rw[hS];clear hS;refine ag hg ?_;generalize ay k.ps p=S at hl hs|-;refine bp (λh7=>?_) (λh7=>?_)
 .have h7:c.ah=7:=h7;rw[lZ,if_pos h7]at hs|-;refine Jm S hl c.fd ?_;refine⟨_,View.o1 3 [0,1,2] [] ?_,hs⟩
  .exact .pt rfl rfl (.eq rfl (bC _ _)) (.pt rfl rfl (.eq rfl (cf _)) (.pt rfl rfl (.eq rfl (by simp[bW])) (.nil _)))
 have h7:¬c.ah=7:=h7;rw[lZ,if_neg h7]at hs|-;refine bp (λh8=>?_) (λh8=>?_)
 .have h8:c.ah=8:=h8;rw[if_pos h8]at hs|-;refine PX S hl c.fd ?_;refine⟨_,View.o1 3 [0,1,2] [] ?_,hs⟩
  .exact .pt rfl rfl (.eq rfl (bC _ _)) (.pt rfl rfl (.eq rfl (cf _)) (.pt rfl rfl (.eq rfl (by simp[bW])) (.nil _)))
 have h8:¬c.ah=8:=h8;rw[if_neg h8]at hs|-;refine Jn S hl c.fd c.ba ?_;refine⟨trivial,_,View.o1 3 [0,1,2] [] ?_,hs⟩
 .exact .pt rfl rfl (.eq rfl (bC _ _)) (.pt rfl rfl (.eq rfl (cf _)) (.pt rfl rfl (.eq rfl (by simp[bW])) (.nil _)))
theorem tP(k:Kr)(p:Nat)(hw:KW k p)(c:Cl):aq prog 34 [.rv (.one (.ptr 0 0)),.rv (.one (.ptr 1 0))] [xB k p,cB c] (TC (l4 k p c).1 p c (l4 k p c).2):=
 b8 func34 l34 (Ju k p hw c)
end Kn
def c35:LF:= ⟨85,[.cell true 4 4],(.seq (.ai [qu 4 (.alloc [qd 0,qd 0,qd 0,.aO])]) (.seq (.ai [qu 5 (.aK (qi 128))]) (.seq (.seq (.ai [qm 12 1,qu 13 (.aP 12),qf 14 1 13,ql 15 14,qu 16 (.aJ .eql 15 (qi 11))]) (.cond 16 (.ai [qu 5 (.aK (qi 64))]) .skip)) (.cS (.seq (.ai [qm 18 0,qm 19 1,qu 20 (.aP 19),qf 21 2 20,ql 22 21,qm 23 5,qu 24 (qc 56 [18,22,23]),qm 17 24,qu 25 (.ext 17 0),qu 26 (.ext 17 1),qu 27 (.ext 17 2),qu 6 (.alloc [qd 0,qd 0]),qw (.store 2 6 25),qm 7 26,qm 8 27]) (.seq (.seq (.ai [qm 28 8,qu 29 (.aJ .neq 28 (qi 0))]) (.cond 29 (.seq (.ai [qm 30 8,qu 31 (.build [qd 0,qd 0,qd 0,.aO] [(0,1,30)]),qw (.store 4 4 31)]) .ret) .skip)) (.seq (.ai [qm 32 0,qu 33 (.aP 32),qf 34 0 33,qf 35 0 34,ql 36 35,qm 37 7,qu 38 (.cw 9 36 37),qL 39 9 38,qu 9 (.alloc [qd 0,.aO,.aO,(.aa (.val (.string ⟨#[]⟩))),qd 0,.aO,qd 0,qd 0,qd 0]),qw (.store 9 9 39)]) (.seq (.seq (.ai [qm 40 1,qu 41 (.aP 40),qf 42 1 41,ql 43 42,qu 44 (.aJ .eql 43 (qi 11))]) (.cond 44 (.seq (.seq (.ai [qf 45 0 9,ql 46 45,qu 47 (.aJ .neq 46 (qi 2))]) (.cond 47 (.seq (.ai [qu 48 (.build [qd 0,qd 0,qd 0,.aO] [(0,1,qi 11)]),qw (.store 4 4 48)]) .ret) .skip)) (.seq (.ai [qL 49 9 9,qu 50 (qc 65 [49]),qu 51 (qc 64 [50,(.c (.rv (.one (.aa (.val (.string ⟨#[10]⟩))))))]),qm 10 51]) (.seq (.ai [qf 52 2 9,ql 53 52,qu 54 (.len 1 53),qm 55 10,qu 56 (.UM 55),qu 57 (.build [qd 0,qd 0,qd 0,.aO] [(1,1,54),(3,1,56)]),qw (.store 4 4 57)]) .ret))) .skip)) (.seq (.ai [qf 58 1 9,ql 59 58,qu 60 (.len 1 59),qf 61 2 9,ql 62 61,qu 63 (.len 1 62),qu 64 (.aJ .add 60 63),qf 65 5 9,ql 66 65,qu 67 (.len 1 66),qu 68 (.aJ .add 64 67),qm 11 68]) (.seq (.seq (.bR [qf 69 0 9,ql 70 69,qu 71 (.aJ .eql 70 (qi 5)),qm 72 71,qg 73 (.aK 0) 72 true,qg 74 (.aP 73) 72 true,qg 75 (.cj 0 74) 72 true,qg 76 (.load true 3 75) 72 true,qg 77 (.cj 6 9) 72 true,qg 78 (.load false 1 77) 72 true,qg 79 (qc 29 [76,78]) 72 true,qu 80 (.pick 72 79 (qb false))] [(.cons 0 none (.cons 1 none (.cons 2 none (.cons 3 none (.cons 4 none (.cons 5 none (.cons 6 none (.cons 7 none (.cons 8 none (.cons 9 none (.cons 10 (some []) (.cons 11 none .nil))))))))))))]) (.cond 80 (.ai [qu 11 (.aK (qi 1))]) .skip)) (.seq (.ai [qf 81 0 9,ql 82 81,qm 83 11,qu 84 (.build [qd 0,qd 0,qd 0,.aO] [(1,1,82),(2,1,83)]),qw (.store 4 4 84)]) .ret)))))))))))⟩
namespace bK
def lg(sep:dI)(l:List dI):dI:=Lib.join l sep
theorem Dh(l:List dI):(l.map cF).map (·.data.toList)=l:=by rw[abM];exact List.map_id'' (λ_=>rfl) l
theorem P2(l:List dI)(sep:dI)(hN:l.length<=4194304)(hlen:(lg sep l).length<=140737488355328){m:Mem}{K:CV->Mem->Prop}(h:K (vT (lg sep l)) m):aq prog 64 [txV l,vT sep] m K:=by
 refine⟨⟨f64,func64,rfl,by decide⟩,λU w vs hM hl hd=>?_⟩
 obtain⟨v0,h0,d0⟩:=hd 0 _ rfl;obtain⟨v1,h1,d1⟩:=hd 1 _ rfl;have Em:v1= .string (cF sep):=(bJ d1).1;have DP:vs=[v0,v1]:=by
  match vs,hl with
  | [a,b],_=>simp at h0 h1;rw[h0,h1]
 have iy:∀(W':World)(v:Value),v= .string (cF (lg sep l))->Below w.heap.size w W'->∃VS r m' U',Ending.returned v= .returned VS/\K r m'/\au U' m' W'/\bZ U' W' r VS/\Ext U m w U' m' W':=by
  rintro W' v rfl hb;refine⟨_,_,m,U,rfl,h,hM.uU ⟨hb.size,λb hS=>hb.block b (hM.S b hS),λk hk=>hb.block _ (hM.aQ k hk).1⟩,c7.val _ rfl,?_⟩
  exact⟨Ts _,λ_ _=>rfl,λ_ h=>h,λ_ h=>.inl h,λk h=>.inr ⟨k,h,rfl⟩,λb sX _=>hb.block b sX,hb.size,hb.os,hb.tape,hb.output⟩
 have hD:c7 U.S w (.sl 1 (l.map tD)) v0:=d0;rw[DP,Em];generalize Lz:l.map tD=elems at hD;cases hD with
 |nil _ a cap hc=>
  have:l=[]:=by simpa using Lz
  subst this;refine(I3 a cap (cF sep) w).mono λe W'⟨he,hw⟩=>?_
  subst he;exact iy W' _ rfl (hw▸Below.refl _ _)
 |sl _ _ b off cap u hS oh bc dn hc cq=>
  have aaJ:elems.length=(l.map cF).length:=by rw[<-Lz];simp
  rw[aaJ]at oh|-;refine(PH b off cap (l.map cF) (cF sep) w (λj x hj=>?_) (hM.S b hS) (by rw[ML];omega) oh (by rw[Dh];exact hlen)).mono λe W'⟨he,hw⟩=>?_
  .rw[RA]at hj;cases UE:l[j]? with
   |none=>rw[UE]at hj;cases hj
   |some t=>
    rw[UE]at hj;simp only[aaz,aam]at hj;subst hj;have e1:elems[j]? =some [.val (.string (cF t))]:=by rw[<-Lz,RA,UE];rfl
    have e2:=hc j _ 0 _ e1 rfl;have e3:=cq j _ 0 _ e1 rfl;have e4:u j 0= .string (cF t):=by
     generalize u j 0=x at e3;cases e3 with
     |val _ _=>rfl
    rw[e4]at e2;simpa using e2
  .subst he;refine iy W' _ ?_ hw;rw[Dh];rfl
end bK
namespace Kn
def si(e:NE):bK.dI:=e.1.data.toList
def tB(t:bK.dI):List (List Dt):=i4 (t.map λb=>((b.toNat:Nat):Int))
def FS(o:Obj):bK.dI:=bK.lg [10] ((o.ak.map nJ).map si)
def HA(k:Kr)(o:Obj):Int:=if o.ah=5/\ft k.ps o.aA=true then 1 else Bf (Bf o.data.length o.ak.length) o.aj.length
def Bg(k:Kr)(c:Cl)(o:Obj):An:=
 if c.ah=11 then(if o.ah≠2 then An.no 11 else⟨0,o.ak.length,0,tB (FS o)⟩)else⟨0,o.ah,HA k o,[]⟩
def oP(k:Kr)(c:Cl)(w:(Int×Int)×Int×Int):An:=if w.2.2≠0 then An.no w.2.2 else Bg k c (ld k.l w.2.1)
def Nm(c:Cl):Int:=if c.ah=11 then 64 else 128
def lh(k:Kr)(p:Nat)(c:Cl):Kr×An:=(k,oP k c (bo k p c.fd (Nm c)))
theorem WZ(es:List NE):es.map Yc=(es.map si).map bK.tD:=by
 rw[abM];refine acp λe _=>?_
 obtain⟨t,ht⟩:=bK.AV e.1;show [Dt.val (.string e.1)]=[Dt.val (.string (bK.cF e.1.data.toList))];rw[ht];rfl
theorem Di:∀(l:List bK.dI)(n:Nat),(∀t,t∈l->t.length<=n)->(bK.lg [10] l).length<=l.length*(n+1)
 | [],_,_=>by simp[bK.lg,Lib.join]
 | [t],n,h=>by have:=h t aC;simp[bK.lg,Lib.join];omega
 |t::u::r,n,h=>by
  have h1:=h t aC;have h2:=Di (u::r) n λx hx=>h x (by simp[hx])
  have e:(bK.lg [10] (t::u::r)).length=t.length+1+(bK.lg [10] (u::r)).length:=by simp[bK.lg,Lib.join];omega
  rw[e];simp only[aah]at h2|-;have e2:(r.length+1+1)*(n+1)=(r.length+1)*(n+1)+(n+1):=by rw[abr (r.length+1) 1 (n+1),abZ]
  rw[e2];omega
theorem Jv(t:bK.dI):p5 (bK.cF t)=af (tB t):=by show t.map _=_;rw[af,tB,i4,abM,abM];rfl
theorem l35:bu prog f35=some c35.er:=by kernel_rfl
def C18:LC:=bL (bL (bL c35.code))
def G18:LC:=qt C18
theorem aaK{m:Mem}{e n x:Int}{id:Nat}{d:List (List Dt)}{Z:Nat->Prop}{Y:Nat->Nat}(hz:Z id)(hm:m[id]? =some (.row 1 (af d))):
  qQ Y m Z (.rv (.agg [.aa (.val (.int .i64 e)),.aa (.val (.int .i64 n)),.aa (.val (.int .i64 x)),.row id 1 0 none])) (An.cv ⟨e,n,x,d⟩):=
 .rv (.agg rfl λi c c' h1 h2=>by
  match i,h1,h2 with
  |0,h1,h2=>cases h1;cases h2;exact .aU (.aa _)
  |1,h1,h2=>cases h1;cases h2;exact .aU (.aa _)
  |2,h1,h2=>cases h1;cases h2;exact .aU (.aa _)
  |3,h1,h2=>cases h1;cases h2;exact .fy (im hz hm)
  |n+4,h1,h2=>simp at h1)
theorem Jy(k:Kr)(p:Nat)(hw:KW k p)(c:Cl)(need:Int):
  aw prog 2 G18 (QC c35.lK k p c (oP k c (bo k p c.fd need)))
   ⟨km 85 [(0,.rv (.one (.ptr 0 0))),(1,.rv (.one (.ptr 1 0))),(4,.rv (.one (.ptr 2 0))),(5,an .i64 need)],[xB k p,cB c,bW]⟩:=by
 refine ku k p hw c.fd need 0 rfl ?_;have hh:= @KW.held k p hw c.fd need;generalize bo k p c.fd need=w at hh|-;obtain⟨⟨o,r⟩,b,e⟩:=w;refine bs (λhe=>?_) (λhe=>?_)
 .have he:e≠0:=he;have e1:oP k c ((o,r),b,e)=An.no e:=by rw[oP,if_pos he]
  rw[e1];exact cY (X:=[_,_])
 have he:e=0:=he;subst he;obtain⟨n,j,h1,h2,h3,h4,h5⟩:=hh rfl;have h3:b=j:=h3;subst h3;have Ej:=hw.kr.sm _ (aal h4);have Lj:=hw.nm _ (aal h4);have e1:oP k c ((o,r),((j:Nat):Int),0)=Bg k c k.l[j]:=by rw[oP,if_neg aC,tO h4]
 rw[e1];refine ag (iN h4) ?_;generalize k.l[j]=ob at Ej Lj|-;refine bp (λKu=>?_) (λKu=>?_)
 .have Ku:c.ah=11:=Ku;rw[Bg,if_pos Ku];refine bs (λGB=>?_) (λGB=>?_)
  .have GB:ob.ah≠2:=GB;rw[if_pos GB];exact cY (X:=[_,_,_])
  have GB:¬ob.ah≠2:=λh=>h GB
  rw[if_neg GB];obtain⟨es,nX⟩:=Ej.t.2.1;have Lz:es.length<=8:=by have:=Ej.e;rw[nX]at this;simpa using this
  have RH:ob.ak.map nJ=es:=by rw[nX,nt]
  rw[RH]at Lj;have hN:FS ob=bK.lg [10] (es.map si):=by rw[FS,RH]
  rw[hN];have hJ:(bK.lg [10] (es.map si)).length<=200:=by
   have:=Di (es.map si) 12 λt ht=>by obtain⟨e,he,rfl⟩:=aak.1 ht;have:=Lj e he;show e.1.data.toList.length<=12;rwa [abS]
   rw[ML]at this;omega
  refine MZ ob es nX om ?_;rw[WZ];refine bK.P2 (es.map si) [10] (by rw[ML];omega) om ?_
  have dn:(bK.cF (bK.lg [10] (es.map si))).size<=140737488355328:=by rw[bK.mV];omega
  have hR:=Jv (bK.lg [10] (es.map si));generalize bK.lg [10] (es.map si)=T at dn hR;refine⟨dn,?_⟩;refine⟨_,_,View.o 6 [0,1] [5] (.put (aaK rfl (congrArg (λx=>some (Bk.row 1 x)) hR)) .nil) (.pt rfl rfl (.eq rfl (bC _ _)) (.pt rfl rfl (.eq rfl (cf _)) (.nil _))),rfl,rfl⟩
 have Ku:¬c.ah=11:=Ku;rw[Bg,if_neg Ku];have hq:(ob.aj.length:Int)=((ob.aj.map br.enc).length:Int):=by rw[ML]
 refine bp (λh5=>?_) (λh5=>?_)
 .have h5:ob.ah=5:=h5;refine oF k.l k.ops k.ps ob.aA ?_;refine⟨trivial,?_⟩;cases hl:ft k.ps ob.aA with
  |true=>
   rw[HA,if_pos ⟨h5,hl⟩];exact cY (X:=[_,_,_])
  |false=>
   rw[HA,if_neg (by simp[hl]),hq]
   exact cY (X:=[_,_,_])
 .have h5:¬ob.ah=5:=h5;rw[HA,if_neg (λh=>h5 h.1),hq]
  refine⟨trivial,?_⟩;exact cY (X:=[_,_,_])
theorem FT(k:Kr)(p:Nat)(hw:KW k p)(c:Cl):
  body prog c35 [.rv (.one (.ptr 0 0)),.rv (.one (.ptr 1 0))] [xB k p,cB c] (TC (lh k p c).1 p c (lh k p c).2):=by
 have hs:=λneed=>Jy k p hw c need
 refine bp (λh=>?_) (λh=>?_)
 .have h:c.ah=11:=h;have e:lh k p c=(k,oP k c (bo k p c.fd 64)):=by rw[lh,Nm,if_pos h]
  rw[e];refine⟨_,View.o1 3 [0,1,2] [] ?_,hs 64⟩
  .exact .pt rfl rfl (.eq rfl (bC _ _)) (.pt rfl rfl (.eq rfl (cf _)) (.pt rfl rfl (.eq rfl (by simp[bW])) (.nil _)))
 .have h:¬c.ah=11:=h;have e:lh k p c=(k,oP k c (bo k p c.fd 128)):=by rw[lh,Nm,if_neg h]
  rw[e];refine⟨_,View.o1 3 [0,1,2] [] ?_,hs 128⟩
  .exact .pt rfl rfl (.eq rfl (bC _ _)) (.pt rfl rfl (.eq rfl (cf _)) (.pt rfl rfl (.eq rfl (by simp[bW])) (.nil _)))
theorem xg(k:Kr)(p:Nat)(hw:KW k p)(c:Cl):aq prog 35 [.rv (.one (.ptr 0 0)),.rv (.one (.ptr 1 0))] [xB k p,cB c] (TC (lh k p c).1 p c (lh k p c).2):=
 b8 func35 l35 (FT k p hw c)
end Kn
def c36:LF:= ⟨142,[.cell true 4 4],(.seq (.ai [qu 4 (.alloc [qd 0,qd 0,qd 0,.aO])]) (.seq (.ai [qu 5 (.aK (qi 24))]) (.seq (.seq (.ai [qm 16 1,qu 17 (.aP 16),qf 18 1 17,ql 19 18,qu 20 (.aJ .eql 19 (qi 14))]) (.cond 20 (.ai [qu 5 (.aK (qi 40))]) .skip)) (.cS (.seq (.ai [qm 22 0,qm 23 1,qu 24 (.aP 23),qf 25 2 24,ql 26 25,qm 27 5,qu 28 (qc 56 [22,26,27]),qm 21 28,qu 29 (.ext 21 0),qu 30 (.ext 21 1),qu 31 (.ext 21 2),qu 6 (.alloc [qd 0,qd 0]),qw (.store 2 6 29),qm 7 30,qm 8 31]) (.seq (.seq (.ai [qm 32 8,qu 33 (.aJ .neq 32 (qi 0))]) (.cond 33 (.seq (.ai [qm 34 8,qu 35 (.build [qd 0,qd 0,qd 0,.aO] [(0,1,34)]),qw (.store 4 4 35)]) .ret) .skip)) (.seq (.seq (.ai [qm 36 1,qu 37 (.aP 36),qf 38 1 37,ql 39 38,qu 40 (.aJ .eql 39 (qi 13))]) (.cond 40 (.seq (.ai [qm 42 1,qu 43 (.aP 42),qf 44 8 43,ql 45 44,qu 46 (.Ub 45),qu 47 (qc 66 [46]),qm 41 47,qu 48 (.ext 41 0),qu 49 (.ext 41 1),qu 50 (.ext 41 2),qm 9 48,qm 10 49,qm 11 50]) (.seq (.ai [qm 51 11,qu 52 (.aJ .neq 51 (qi 0))]) (.cond 52 (.seq (.ai [qm 53 11,qu 54 (.build [qd 0,qd 0,qd 0,.aO] [(0,1,53)]),qw (.store 4 4 54)]) .ret) .skip))) .skip)) (.cS (.seq (.bR [qm 56 0,qu 57 (.aP 56),qf 58 0 57,qf 59 0 58,ql 60 59,qm 61 7,qm 62 1,qu 63 (.aP 62),qf 64 7 63,ql 65 64,qu 66 (qc 67 [60,61,65,qb true,qb false]),qm 55 66,qu 67 (.ext 55 0),qu 68 (.ext 55 1),qu 12 (.alloc [qd 0,qd 0,(.aa (.val (.string ⟨#[]⟩)))]),qw (.store 3 12 67),qm 8 68] [(.cons 0 none (.cons 1 none (.cons 2 none (.cons 3 none (.cons 4 none (.cons 5 none (.cons 6 none (.cons 7 none (.cons 8 none (.cons 9 none (.vn (.cons 10 (some []) (.cons 11 none (.cons 12 none (.cons 13 none (.cons 14 (some [9,4]) (.cons 15 (some []) (.cons 16 none .nil))))))) (.cons 14 (some [9,4]) (.cons 10 (some []) (.cons 11 none (.cons 12 none (.cons 13 none (.cons 15 (some []) (.cons 16 none .nil))))))))))))))))))]) (.cS (.seq (.block 0 (.seq (.ai [qm 77 8,qu 78 (.aJ .neq 77 (qi 0)),qm 76 78]) (.cond 76 .skip (.seq (.ai [qf 80 2 12,ql 81 80,qu 82 (.aJ .eql 81 (.c (.rv (.one (.aa (.val (.string ⟨#[]⟩))))))),qm 79 82]) (.cond 79 (.ai [qu 8 (.aK (qi 8))]) (.seq (.ai [qm 84 1,qu 85 (.aP 84),qf 86 1 85,ql 87 86,qu 88 (.aJ .eql 87 (qi 14)),qm 89 88,qg 90 (.cj 0 12) 89 true,qg 91 (.load false 1 90) 89 true,qg 92 (.aJ .lss 91 (qi 0)) 89 true,qu 93 (.pick 89 92 (qb false)),qm 83 93]) (.cond 83 (.ai [qu 8 (.aK (qi 6))]) (.seq (.ai [qm 95 1,qu 96 (.aP 95),qf 97 1 96,ql 98 97,qu 99 (.aJ .eql 98 (qi 14)),qm 94 99]) (.cond 94 (.seq (.bR [qm 101 0,qu 102 (.aP 101),qf 103 0 102,qf 104 0 103,ql 105 104,qf 106 1 12,ql 107 106,qf 108 2 12,ql 109 108,qu 110 (qc 68 [105,107,109]),qm 100 110,qu 111 (.ext 100 0),qu 112 (.ext 100 1),qu 113 (.ext 100 2),qm 13 111,qm 14 112,qm 15 113] [(.cons 0 none (.cons 1 none (.cons 2 none (.cons 3 none (.cons 4 none (.cons 5 none (.cons 6 none (.cons 7 none (.cons 8 none (.cons 9 (some []) (.cons 10 none (.cons 11 none (.cons 12 none (.cons 13 none (.cons 14 none (.cons 15 none (.cons 16 none .nil)))))))))))))))))]) (.ai [qm 114 0,qm 115 13,qm 116 15,qu 117 (qc 69 [114,115,116]),qm 8 117])) (.seq (.ai [qf 119 0 12,ql 120 119,qu 121 (.aJ .geq 120 (qi 0)),qm 118 121]) (.cond 118 (.ai [qu 8 (.aK (qi 7))]) (.seq (.ai [qm 123 1,qu 124 (.aP 123),qf 125 1 124,ql 126 125,qu 127 (.aJ .eql 126 (qi 13)),qm 122 127]) (.cond 122 (.bR [qm 129 0,qL 130 3 12,qm 131 1,qu 132 (.aP 131),qf 133 8 132,ql 134 133,qu 135 (.Ub 134),qu 136 (.build [qd 0,.aO,.aO,(.aa (.val (.string ⟨#[]⟩))),qd 0,.aO,qd 0,qd 0,qd 0] [(0,1,qi 3),(3,1,135)]),qu 137 (qc 70 [129,130,136]),qm 128 137,qu 138 (.ext 128 0),qu 139 (.ext 128 1),qm 8 139] [(.cons 0 none (.cons 1 none (.cons 2 none (.cons 3 none (.cons 4 none (.cons 5 none (.cons 6 (some [1]) (.cons 7 none (.cons 8 (some []) (.cons 9 none (.cons 10 none (.cons 11 none (.cons 12 none .nil)))))))))))))]) (.ai [qm 70 0,qL 71 3 12,qu 72 (.build [qd 0,.aO,.aO,(.aa (.val (.string ⟨#[]⟩))),qd 0,.aO,qd 0,qd 0,qd 0] [(0,1,qi 2)]),qu 73 (qc 70 [70,71,72]),qm 69 73,qu 74 (.ext 69 0),qu 75 (.ext 69 1),qm 8 75])))))))))))))) (.cS (.seq (.ai [qm 140 8,qu 141 (.build [qd 0,qd 0,qd 0,.aO] [(0,1,140)]),qw (.store 4 4 141)]) .ret)))))))))))))⟩
namespace Kn
def xh(d:List Int):bK.dI:=d.map λn=>UInt8.ofNat n.toNat
def xi(d:List Int):Obj:=⟨3,[],[],bK.cF (xh d),0,[],0,0,0⟩
def FU:Obj:=⟨2,[],[],⟨#[]⟩,0,[],0,0,0⟩
theorem Bh(k:Int)(t:ByteArray):PZ ⟨k,[],[],t,0,[],0,0,0⟩:=⟨⟨⟨⟨[],rfl⟩,⟨[],rfl⟩,aC⟩,aC,aC,aC,aC⟩,rfl⟩
def Dj(k:Kr)(f:R4):List Obj×Int×Int:=cO k.l f.cL (bK.cF f.name)
def nO(k:Kr)(c:Cl)(f:R4):Kr×Int:=
 if f.fC≠0 then(k,f.fC)
 else if f.name=[]then(k,8)
 else if c.ah=14 then(if f.bn<0 then(k,6)else(bP k (Dj k f).1 (Dj k f).2.2,(Dj k f).2.2))
 else if f.bn>=0 then(k,7)
 else if c.ah=13 then((cu k f (xi c.data)).1,(cu k f (xi c.data)).2.2)
 else((cu k f FU).1,(cu k f FU).2.2)
def sn(c:Cl):Int:=if c.ah=14 then 40 else 24
def iP(k:Kr)(c:Cl)(w:(Int×Int)×Int×Int):Kr×Int:=
 if w.2.2≠0 then(k,w.2.2)
 else if c.ah=13/\(bK.cM (xh c.data)).2.2≠0 then(k,(bK.cM (xh c.data)).2.2)
 else nO k c (iO k w.2.1 c.cJ true false)
def P3(x:Kr×Int):Kr×An:=(x.1,An.no x.2)
def j8(k:Kr)(p:Nat)(c:Cl):Kr×An:=P3 (iP k c (bo k p c.fd (sn c)))
theorem l36:bu prog f36=some c36.er:=by kernel_rfl
def aaL:LC:=bL (bL (bL c36.code))
def W0:LC:=qt aaL
def aaM:LC:=bL (bL (bL W0))
def W4:LC:=qt aaM
def aaN:LC:=bL W4
def W5:LC:=qt aaN
def W6:LC:=bL W5
def W7:LC:=qt W6
theorem Jz(k:Kr)(p:Nat)(c:Cl)(e:Int):
  aw prog 2 W7 (QC c36.lK k p c (An.no e)) ⟨km 142 [(0,.rv (.one (.ptr 0 0))),(1,.rv (.one (.ptr 1 0))),(4,.rv (.one (.ptr 2 0))),(8,an .i64 e)],[xB k p,cB c,bW]⟩:=cY (X:=[_])
theorem aaO(t:bK.dI){A B:Prop}(ha:t=[]->A)(hb:t≠[]->B): @Bool.rec (λ_=>Prop) B A ((bK.cF t).toList==(⟨#[]⟩:ByteArray).toList):=bK.k6 (b:=[]) ha hb
theorem m3{Y:Nat->Nat}(hσ:Y 0=0/\Y 1=1/\Y 2=2){Z:Nat->Prop}(hZ:¬Z 0/\¬Z 1/\¬Z 2){k:Kr}{p:Nat}{c:Cl}{X:Mem}:e8 Y (xB k p::cB c::bW::X) Z 0 [xB k p,cB c,bW]:=by
 obtain⟨h0,h1,h2⟩:=hσ;obtain⟨z0,z1,z2⟩:=hZ;exact .put (by rw[h0];exact z0) (by rw[h0];rfl) (.eq rfl (bC _ _)) (.put (by rw[h1];exact z1) (by rw[h1];rfl) (.eq rfl (cf _)) (.put (by rw[h2];exact z2) (by rw[h2];rfl) (.eq rfl (by simp[bW])) (.nil _)))
theorem Nn(k:Kr)(p:Nat)(hw:KW k p)(c:Cl)(f:R4):
  aw prog 2 W5 (QC c36.lK (P3 (nO k c f)).1 p c (P3 (nO k c f)).2)
   ⟨km 142 [(0,.rv (.one (.ptr 0 0))),(1,.rv (.one (.ptr 1 0))),(4,.rv (.one (.ptr 2 0))),(8,an .i64 f.fC),(12,.rv (.one (.ptr 3 0)))],[xB k p,cB c,bW,.var ((Uy f).map .aa)]⟩:=by
 have FV:=λk e=>Jz k p c e
 obtain⟨bn,cL,name,fC⟩:=f;refine bs (λhe=>?_) (λhe=>?_)
 .have he:fC≠0:=he;have e1:nO k c ⟨bn,cL,name,fC⟩=(k,fC):=by rw[nO,if_pos he]
  rw[e1];refine⟨_,View.o 4 [0,1,2] [] ?_ (m3 ⟨rfl,rfl,rfl⟩ ⟨dy rfl,dy rfl,dy rfl⟩),FV k fC⟩;repeat(first|exact .nil|refine .ap ?_|refine .eq rfl ?_)
 have he:fC=0:=he;subst he;refine aaO name (λh1=>?_) (λh1=>?_)
 .have e1:nO k c ⟨bn,cL,name,0⟩=(k,8):=by rw[nO,if_neg aC,if_pos h1]
  rw[e1];refine⟨_,View.o 4 [0,1,2] [] ?_ (m3 ⟨rfl,rfl,rfl⟩ ⟨dy rfl,dy rfl,dy rfl⟩),FV k 8⟩;repeat(first|exact .nil|refine .ap ?_|refine .eq rfl ?_)
 have e0:nO k c ⟨bn,cL,name,0⟩=if c.ah=14 then(if bn<0 then(k,6)else(bP k (Dj k ⟨bn,cL,name,0⟩).1 (Dj k ⟨bn,cL,name,0⟩).2.2,(Dj k ⟨bn,cL,name,0⟩).2.2))
   else if bn>=0 then(k,7)
   else if c.ah=13 then((cu k ⟨bn,cL,name,0⟩ (xi c.data)).1,(cu k ⟨bn,cL,name,0⟩ (xi c.data)).2.2)
   else((cu k ⟨bn,cL,name,0⟩ FU).1,(cu k ⟨bn,cL,name,0⟩ FU).2.2):=by rw[nO,if_neg aC,if_neg h1]
 rw[e0];refine bp (λNo=>?_) (λNo=>?_)
 .have No:c.ah=14:=No;rw[if_pos No];refine aL (λho=>?_) (λho=>?_)
  .have ho:bn<0:=ho;rw[if_pos ho];refine⟨_,View.o 4 [0,1,2] [] ?_ (m3 ⟨rfl,rfl,rfl⟩ ⟨dy rfl,dy rfl,dy rfl⟩),FV k 6⟩;repeat(first|exact .nil|refine .ap ?_|refine .eq rfl ?_)
  have ho:¬bn<0:=ho;rw[if_neg ho];refine cA (beq_iff_eq.2 No) ?_;refine FD k.l hw.DY cL (bK.cF name) ?_;refine⟨trivial,?_⟩;refine nz k p hw.kr _ _ 0 rfl ?_;refine⟨_,View.o 4 [0,1,2] [] ?_ (m3 ⟨rfl,rfl,rfl⟩ ⟨dy rfl,dy rfl,dy rfl⟩),FV _ _⟩;repeat(first|exact .nil|refine .ap ?_|refine .eq rfl ?_)
 have No:¬c.ah=14:=No;rw[if_neg No];refine pL (beq_eq_false_iff_ne.2 No) ?_;refine aL (λho=>?_) (λho=>?_)
 .have ho:bn>=0:=ho;rw[if_pos ho];refine⟨_,View.o 4 [0,1,2] [] ?_ (m3 ⟨rfl,rfl,rfl⟩ ⟨dy rfl,dy rfl,dy rfl⟩),FV k 7⟩;repeat(first|exact .nil|refine .ap ?_|refine .eq rfl ?_)
 have ho:¬bn>=0:=ho;rw[if_neg ho];refine bp (λDZ=>?_) (λDZ=>?_)
 .have DZ:c.ah=13:=DZ;rw[if_pos DZ];refine ag (tm c.data) ?_;refine⟨⟨rfl,trivial⟩,?_⟩;refine mN (Be _ _ _ _) (tM k p hw ⟨bn,cL,name,0⟩ (xi c.data) (Bh _ _) 0 rfl ?_);refine⟨trivial,?_⟩;refine⟨_,View.o 4 [0,1,2] [] ?_ (m3 ⟨rfl,rfl,rfl⟩ ⟨dy rfl,dy rfl,dy rfl⟩),FV _ _⟩;repeat(first|exact .nil|refine .ap ?_|refine .eq rfl ?_)
 have DZ:¬c.ah=13:=DZ;rw[if_neg DZ];refine mN (Be _ _ _ _) (tM k p hw ⟨bn,cL,name,0⟩ FU (Bh _ _) 0 rfl ?_);refine⟨_,View.o 4 [0,1,2] [] ?_ (m3 ⟨rfl,rfl,rfl⟩ ⟨dy rfl,dy rfl,dy rfl⟩),FV _ _⟩;repeat(first|exact .nil|refine .ap ?_|refine .eq rfl ?_)
theorem Dk(k:Kr)(p:Nat)(hw:KW k p)(c:Cl)(ar:Int)(R:Kr×Int)(hR:R=nO k c (iO k ar c.cJ true false)):
  aw prog 2 W4 (QC c36.lK (P3 R).1 p c (P3 R).2)
   ⟨km 142 [(0,.rv (.one (.ptr 0 0))),(1,.rv (.one (.ptr 1 0))),(4,.rv (.one (.ptr 2 0))),(7,an .i64 ar)],[xB k p,cB c,bW]⟩:=by
 have hs:=Nn k p hw c (iO k ar c.cJ true false);rw[<-hR]at hs;refine⟨?_,?_⟩
 .refine se k p hw ar c.cJ true false ?_;refine⟨trivial,⟨rfl,rfl,trivial⟩,trivial,_,View.o1 4 [0,1,2,3] [] ?_,hs⟩
  .exact .pt rfl rfl (.eq rfl (bC _ _)) (.pt rfl rfl (.eq rfl (cf _)) (.pt rfl rfl (.eq rfl (by simp[bW])) (.pm rfl rfl rfl)))
 .refine⟨⟨rfl,rfl,trivial⟩,?_⟩;refine se k p hw ar c.cJ true false ?_;refine⟨trivial,trivial,_,View.o1 4 [0,1,2,3] [] ?_,hs⟩
  .exact .pt rfl rfl (.eq rfl (bC _ _)) (.pt rfl rfl (.eq rfl (cf _)) (.pt rfl rfl (.eq rfl (by simp[bW])) (.pm rfl rfl rfl)))
theorem Np(k:Kr)(p:Nat)(hw:KW k p)(c:Cl)(need:Int):
  aw prog 2 W0 (QC c36.lK (P3 (iP k c (bo k p c.fd need))).1 p c (P3 (iP k c (bo k p c.fd need))).2)
   ⟨km 142 [(0,.rv (.one (.ptr 0 0))),(1,.rv (.one (.ptr 1 0))),(4,.rv (.one (.ptr 2 0))),(5,an .i64 need)],[xB k p,cB c,bW]⟩:=by
 refine ku k p hw c.fd need 0 rfl ?_;generalize bo k p c.fd need=w;obtain⟨⟨o,r⟩,b,e⟩:=w;refine bs (λhe=>?_) (λhe=>?_)
 .have he:e≠0:=he;have e1:iP k c ((o,r),b,e)=(k,e):=by rw[iP,if_pos he]
  rw[e1];exact cY (X:=[_,_])
 have he:e=0:=he;subst he;refine bp (λDZ=>?_) (λDZ=>?_)
 .have DZ:c.ah=13:=DZ;refine ag (tm c.data) ?_;refine bK.wN (xh c.data) ?_;refine bs (λhs=>?_) (λhs=>?_)
  .have hs:(bK.cM (xh c.data)).2.2≠0:=hs;have e1:iP k c ((o,r),b,0)=(k,(bK.cM (xh c.data)).2.2):=by rw[iP,if_neg aC,if_pos ⟨DZ,hs⟩]
   rw[e1];exact cY (X:=[_,_])
  .have hs:¬(bK.cM (xh c.data)).2.2≠0:=λh=>h hs
   refine⟨_,View.o 4 [0,1,2] [] ?_ (m3 ⟨rfl,rfl,rfl⟩ ⟨dy rfl,dy rfl,dy rfl⟩),Dk k p hw c b (iP k c ((o,r),b,0)) (by rw[iP,if_neg aC,if_neg (λh=>hs h.2)])⟩
   repeat(first|exact .nil|refine .ap ?_|refine .eq rfl ?_)
 .have DZ:¬c.ah=13:=DZ;refine⟨_,View.o 4 [0,1,2] [] ?_ (m3 ⟨rfl,rfl,rfl⟩ ⟨dy rfl,dy rfl,dy rfl⟩),Dk k p hw c b (iP k c ((o,r),b,0)) (by rw[iP,if_neg aC,if_neg (λh=>DZ h.1)])⟩
  repeat(first|exact .nil|refine .ap ?_|refine .eq rfl ?_)
theorem tH(k:Kr)(p:Nat)(hw:KW k p)(c:Cl):
  body prog c36 [.rv (.one (.ptr 0 0)),.rv (.one (.ptr 1 0))] [xB k p,cB c] (TC (j8 k p c).1 p c (j8 k p c).2):=by
 have hs:=λneed=>Np k p hw c need
 refine bp (λh=>?_) (λh=>?_)
 .have h:c.ah=14:=h;have e:j8 k p c=P3 (iP k c (bo k p c.fd 40)):=by rw[j8,sn,if_pos h]
  rw[e];refine⟨_,View.o 3 [0,1,2] [] ?_ (m3 ⟨rfl,rfl,rfl⟩ ⟨dy rfl,dy rfl,dy rfl⟩),hs 40⟩;repeat(first|exact .nil|refine .ap ?_|refine .eq rfl ?_)
 .have h:¬c.ah=14:=h;have e:j8 k p c=P3 (iP k c (bo k p c.fd 24)):=by rw[j8,sn,if_neg h]
  rw[e];refine⟨_,View.o 3 [0,1,2] [] ?_ (m3 ⟨rfl,rfl,rfl⟩ ⟨dy rfl,dy rfl,dy rfl⟩),hs 24⟩;repeat(first|exact .nil|refine .ap ?_|refine .eq rfl ?_)
theorem tQ(k:Kr)(p:Nat)(hw:KW k p)(c:Cl):aq prog 36 [.rv (.one (.ptr 0 0)),.rv (.one (.ptr 1 0))] [xB k p,cB c] (TC (j8 k p c).1 p c (j8 k p c).2):=
 b8 func36 l36 (tH k p hw c)
end Kn
def c38:LF:= ⟨85,[.cell true 4 4],(.seq (.ai [qu 4 (.alloc [qd 0,qd 0,qd 0,.aO])]) (.seq (.ai [qm 11 0,qm 12 1,qu 13 (.aP 12),qf 14 2 13,ql 15 14,qu 16 (qc 56 [11,15,qi 256]),qm 10 16,qu 17 (.ext 10 0),qu 18 (.ext 10 1),qu 19 (.ext 10 2),qu 5 (.alloc [qd 0,qd 0]),qw (.store 2 5 17),qm 6 18,qm 7 19]) (.seq (.seq (.ai [qm 20 7,qu 21 (.aJ .neq 20 (qi 0))]) (.cond 21 (.seq (.ai [qm 22 7,qu 23 (.build [qd 0,qd 0,qd 0,.aO] [(0,1,22)]),qw (.store 4 4 23)]) .ret) .skip)) (.seq (.ai [qm 24 1,qu 25 (.aP 24),qf 26 8 25,ql 27 26,qu 28 (.build [.aO,(.aa (.val (.bool false))),qd 0,qd 0] [(0,1,27)]),qu 8 (.alloc [.aO,(.aa (.val (.bool false))),qd 0,qd 0]),qw (.store 4 8 28)]) (.seq (.seq (.ai [qm 29 1,qu 30 (.aP 29),qf 31 3 30,ql 32 31,qu 33 (.aJ .geq 32 (qi 0))]) (.cond 33 (.seq (.seq (.bR [qm 35 0,qu 36 (.aP 35),qf 37 0 36,qf 38 2 37,ql 39 38,qm 40 0,qu 41 (.aP 40),qf 42 3 41,ql 43 42,qu 44 (.cw 4 39 43),qf 45 3 44,ql 46 45,qm 47 1,qu 48 (.aP 47),qf 49 3 48,ql 50 49,qu 51 (qc 73 [46,50]),qm 34 51,qu 52 (.ext 34 0),qu 53 (.ext 34 1),qf 54 2 8,qw (.store 2 54 52),qm 7 53] [(.cons 0 none (.cons 1 none (.cons 2 none (.cons 3 none (.cons 4 none (.cons 5 none (.cons 6 none (.cons 7 none (.cons 8 none (.cons 9 none (.cons 10 none (.cons 11 none (.cons 12 none (.cons 13 none (.cons 14 none (.cons 15 none (.cons 16 (some []) (.cons 17 none (.cons 18 none (.cons 19 none (.cons 20 none (.cons 21 (some []) (.cons 22 none .nil)))))))))))))))))))))))]) (.seq (.ai [qm 55 7,qu 56 (.aJ .neq 55 (qi 0))]) (.cond 56 (.seq (.ai [qm 57 7,qu 58 (.build [qd 0,qd 0,qd 0,.aO] [(0,1,57)]),qw (.store 4 4 58)]) .ret) .skip))) (.ai [qf 59 1 8,qw (.store 1 59 (qb true))])) .skip)) (.cS (.seq (.bR [qm 61 0,qu 62 (.aP 61),qf 63 0 62,qf 64 0 63,ql 65 64,qm 66 6,qL 67 4 8,qu 68 (qc 74 [65,66,67]),qm 60 68,qu 69 (.ext 60 0),qu 70 (.ext 60 1),qm 9 69,qm 7 70] [(.cons 0 none (.cons 1 none (.cons 2 none (.cons 3 none (.cons 4 none (.cons 5 none (.cons 6 none (.cons 7 (some []) (.cons 8 none (.cons 9 none (.cons 10 none (.cons 11 none (.cons 12 none .nil)))))))))))))]) (.seq (.seq (.ai [qm 71 0,qm 72 9,qm 73 7,qu 74 (qc 69 [71,72,73]),qm 7 74]) (.seq (.ai [qm 75 7,qu 76 (.aJ .neq 75 (qi 0))]) (.cond 76 (.seq (.ai [qm 77 7,qu 78 (.build [qd 0,qd 0,qd 0,.aO] [(0,1,77)]),qw (.store 4 4 78)]) .ret) .skip))) (.seq (.ai [qm 79 1,qu 80 (.aP 79),qf 81 8 80,ql 82 81,qu 83 (.len 1 82),qu 84 (.build [qd 0,qd 0,qd 0,.aO] [(1,1,83)]),qw (.store 4 4 84)]) .ret)))))))))⟩
def c39:LF:= ⟨82,[.cell true 4 4],(.seq (.ai [qu 4 (.alloc [qd 0,qd 0,qd 0,.aO])]) (.seq (.ai [qm 15 0,qm 16 1,qu 17 (.aP 16),qf 18 2 17,ql 19 18,qu 20 (qc 56 [15,19,qi 512]),qm 14 20,qu 21 (.ext 14 0),qu 22 (.ext 14 1),qu 23 (.ext 14 2),qu 5 (.alloc [qd 0,qd 0]),qw (.store 2 5 21),qm 6 22,qm 7 23]) (.seq (.seq (.ai [qm 24 7,qu 25 (.aJ .neq 24 (qi 0))]) (.cond 25 (.seq (.ai [qm 26 7,qu 27 (.build [qd 0,qd 0,qd 0,.aO] [(0,1,26)]),qw (.store 4 4 27)]) .ret) .skip)) (.seq (.ai [qm 29 0,qu 30 (.aP 29),qf 31 0 30,qf 32 0 31,ql 33 32,qm 34 6,qu 35 (qc 75 [33,34]),qm 28 35,qu 36 (.ext 28 0),qu 37 (.ext 28 1),qu 38 (.ext 28 2),qu 9 (.alloc [.aO,(.aa (.val (.bool false))),qd 0,qd 0]),qm 8 36,qw (.store 4 9 37),qm 7 38]) (.seq (.seq (.ai [qm 39 7,qu 40 (.aJ .neq 39 (qi 0))]) (.cond 40 (.seq (.ai [qm 41 7,qu 42 (.build [qd 0,qd 0,qd 0,.aO] [(0,1,41)]),qw (.store 4 4 42)]) .ret) .skip)) (.seq (.ai [qu 10 (.aK (qi (-1)))]) (.seq (.seq (.ai [qf 43 1 9,ql 44 43]) (.cond 44 (.seq (.bR [qm 46 0,qu 47 (.aP 46),qf 48 0 47,qf 49 2 48,ql 50 49,qm 51 0,qu 52 (.aP 51),qf 53 3 52,ql 54 53,qu 55 (.cw 4 50 54),qf 56 3 55,ql 57 56,qf 58 2 9,qL 59 2 58,qu 60 (qc 76 [57,59]),qm 45 60,qu 61 (.ext 45 0),qu 62 (.ext 45 1),qu 63 (.ext 45 2),qm 11 61,qm 12 62,qm 13 63] [(.cons 0 none (.cons 1 none (.cons 2 none (.cons 3 none (.cons 4 none (.cons 5 none (.cons 6 none (.cons 7 none (.cons 8 none (.cons 9 none (.cons 10 none (.cons 11 none (.cons 12 none (.cons 13 none (.cons 14 (some []) (.cons 15 none (.cons 16 none (.cons 17 none (.cons 18 none (.cons 19 none (.cons 20 none (.cons 21 none .nil))))))))))))))))))))))]) (.seq (.seq (.ai [qm 64 13,qu 65 (.aJ .neq 64 (qi 0))]) (.cond 65 (.seq (.ai [qm 66 13,qu 67 (.build [qd 0,qd 0,qd 0,.aO] [(0,1,66)]),qw (.store 4 4 67)]) .ret) .skip)) (.seq (.ai [qm 68 0,qm 69 11,qu 70 (qc 63 [68,69,qi 0])]) (.ai [qm 71 12,qm 10 71])))) .skip)) (.cS (.seq (.ai [qm 72 0,qm 73 8,qu 74 (qc 69 [72,73,qi 0])]) (.seq (.ai [qf 75 0 9,ql 76 75,qu 77 (.len 1 76),qm 78 10,qf 79 0 9,ql 80 79,qu 81 (.build [qd 0,qd 0,qd 0,.aO] [(1,1,77),(2,1,78),(3,1,80)]),qw (.store 4 4 81)]) .ret))))))))))⟩
namespace Kn
def zr(d:List Int)(g:(Int×Int)×Bool):br:=⟨i4 d,g.2,g.1.1,g.1.2⟩
def j9(k:Kr)(c:Cl)(r:List Obj×Int):Kr×An:=(bP k r.1 r.2,if r.2≠0 then An.no r.2 else⟨0,c.data.length,0,[]⟩)
def xj(k:Kr)(p:Nat)(c:Cl)(bn:Int):Kr×An:=
 if c.fD>=0 then
  (if(fv (ay k.ps p) c.fD).2≠0 then(k,An.no (fv (ay k.ps p) c.fD).2)else j9 k c (eP k.l bn (zr c.data ((fv (ay k.ps p) c.fD).1,true))))
 else j9 k c (eP k.l bn (zr c.data ((0,0),false)))
def zs(k:Kr)(p:Nat)(c:Cl)(w:(Int×Int)×Int×Int):Kr×An:=if w.2.2≠0 then(k,An.no w.2.2)else xj k p c w.2.1
def ke(k:Kr)(p:Nat)(c:Cl):Kr×An:=zs k p c (bo k p c.fd 256)
theorem l38:bu prog f38=some c38.er:=by kernel_rfl
def aaP:LC:=bL (bL (bL (bL (bL c38.code))))
def aaQ:LC:=qt aaP
theorem Nq(k:Kr)(p:Nat)(hw:KW k p)(c:Cl)(bn:Int)(m:br)(hm:m.data.length<=4194304):
  aw prog 2 aaQ (QC c38.lK (j9 k c (eP k.l bn m)).1 p c (j9 k c (eP k.l bn m)).2)
   ⟨km 85 [(0,.rv (.one (.ptr 0 0))),(1,.rv (.one (.ptr 1 0))),(4,.rv (.one (.ptr 2 0))),(6,an .i64 bn),(8,.rv (.one (.ptr 3 0)))],[xB k p,cB c,bW,.var (m.enc.map .aa)]⟩:=by
 refine Pn k.l hw.nT bn m hm ?_;generalize eP k.l bn m=r;obtain⟨l,e⟩:=r;refine⟨trivial,?_⟩;refine nz k p hw.kr l e 0 rfl ?_;refine bs (λhe=>?_) (λhe=>?_)
 .have he:e≠0:=he;rw[j9,if_pos he];exact cY (X:=[_,_])
 .have he:¬e≠0:=λh=>h he
  have hq:(c.data.length:Int)=((i4 c.data).length:Int):=by simp[i4]
  rw[j9,if_neg he,hq];exact cY (X:=[_,_])
theorem ti(k:Kr)(p:Nat)(hw:KW k p)(c:Cl)(hd:c.data.length<=4194304):
  body prog c38 [.rv (.one (.ptr 0 0)),.rv (.one (.ptr 1 0))] [xB k p,cB c] (TC (ke k p c).1 p c (ke k p c).2):=by
 have hs:=λbn m hm=>Nq k p hw c bn m hm
 have lT:(i4 c.data).length<=4194304:=by simpa[i4]using hd
 refine ku k p hw c.fd 256 0 rfl ?_;have hS:ke k p c=zs k p c (bo k p c.fd 256):=rfl;rw[hS];clear hS;generalize bo k p c.fd 256=w;obtain⟨⟨o,r⟩,b,e⟩:=w;refine bs (λhe=>?_) (λhe=>?_)
 .have he:e≠0:=he;rw[zs,if_pos he];exact cY (X:=[_,_])
 have he:e=0:=he;subst he;rw[zs,if_neg aC];refine aL (λh2=>?_) (λh2=>?_)
 .have h2:c.fD>=0:=h2;have hg:=dz hw.hp;rw[<-d5 hw.hp]at hg;refine ag hg ?_;have e1:xj k p c b=if(fv (ay k.ps p) c.fD).2≠0 then(k,An.no (fv (ay k.ps p) c.fD).2)else j9 k c (eP k.l b (zr c.data ((fv (ay k.ps p) c.fD).1,true))):=by rw[xj,if_pos h2]
  rw[e1];refine Ba (ay k.ps p) c.fD ?_;generalize fv (ay k.ps p) c.fD=g;obtain⟨⟨go,gr⟩,e⟩:=g;refine⟨trivial,trivial,?_⟩;refine bs (λhe=>?_) (λhe=>?_)
  .have he:e≠0:=he;rw[if_pos he];exact cY (X:=[_,_,_])
  have he:¬e≠0:=λh=>h he
  rw[if_neg he];refine⟨_,View.o1 5 [0,1,2,4] [] ?_,hs b (zr c.data ((go,gr),true)) lT⟩
  .exact .pt rfl rfl (.eq rfl (bC _ _)) (.pt rfl rfl (.eq rfl (cf _)) (.pt rfl rfl (.eq rfl (by simp[bW])) (.pm rfl rfl rfl)))
 .have h2:¬c.fD>=0:=h2;have e1:xj k p c b=j9 k c (eP k.l b (zr c.data ((0,0),false))):=by rw[xj,if_neg h2]
  rw[e1];refine⟨_,View.o1 5 [0,1,2,4] [] ?_,hs b (zr c.data ((0,0),false)) lT⟩
  .exact .pt rfl rfl (.eq rfl (bC _ _)) (.pt rfl rfl (.eq rfl (cf _)) (.pt rfl rfl (.eq rfl (by simp[bW])) (.pm rfl rfl rfl)))
theorem JA(k:Kr)(p:Nat)(hw:KW k p)(c:Cl)(hd:c.data.length<=4194304):aq prog 38 [.rv (.one (.ptr 0 0)),.rv (.one (.ptr 1 0))] [xB k p,cB c] (TC (ke k p c).1 p c (ke k p c).2):=
 b8 func38 l38 (ti k p hw c hd)
def zt(k:Kr)(l:List Obj)(m:br)(fd:Int):Kr×An:=(bP k l 0,⟨0,m.data.length,fd,m.data⟩)
def zu(k:Kr)(p:Nat)(r:List Obj×br×Int):Kr×An:=
 if r.2.2≠0 then(k,An.no r.2.2)
 else if r.2.1.has=true then
  (if(fQ (ay k.ps p) r.2.1.dP r.2.1.b9).2.2≠0 then(k,An.no (fQ (ay k.ps p) r.2.1.dP r.2.1.b9).2.2)
   else zt (fh k p (fQ (ay k.ps p) r.2.1.dP r.2.1.b9).1 0) r.1 r.2.1 (fQ (ay k.ps p) r.2.1.dP r.2.1.b9).2.1)
 else zt k r.1 r.2.1 (-1)
def zw(k:Kr)(p:Nat)(w:(Int×Int)×Int×Int):Kr×An:=if w.2.2≠0 then(k,An.no w.2.2)else zu k p (fA k.l w.2.1)
def i9(k:Kr)(p:Nat)(c:Cl):Kr×An:=zw k p (bo k p c.fd 512)
theorem sq{l:List fk}{o r:Int}(hl:l.length<=10):(fQ l o r).1.length<=10:=by
 unfold fQ Tb.iJ;split
 .simp
 .split
  .simpa using hl
  .split
   .simp
   .rename_i h;simp only[ML,aba,aah,abv]at h|-;omega
theorem Nr{k:Kr}(hk:dF k.l k.ops k.ps){p:Nat}(hp:p<k.ps.length){l:List fk}(hl:l.length<=10):dF k.l k.ops (dk k.ps p l):=by
 have e:dk k.ps p l=k.ps.set p {k.ps[p]with aV:=l}:=by rw[dk,uX hp]
 rw[e];refine⟨hk.sm,hk.ll,hk.lo,by simpa using hk.lp,λx hx=>?_,λh=>hk.ne (by simpa using h)⟩
 rcases aa2 hx with hx|rfl
 .exact hk.sl x hx
 .exact hl
theorem l39:bu prog f39=some c39.er:=by kernel_rfl
def aaR:LC:=bL (bL (bL (bL (bL (bL (bL c39.code))))))
def aaS:LC:=qt aaR
theorem Dl(k:Kr)(p:Nat)(hk:dF k.l k.ops k.ps)(c:Cl)(l:List Obj)(m:br)(fd:Int):
  aw prog 2 aaS (QC c39.lK (zt k l m fd).1 p c (zt k l m fd).2)
   ⟨km 82 [(0,.rv (.one (.ptr 0 0))),(1,.rv (.one (.ptr 1 0))),(4,.rv (.one (.ptr 2 0))),(8,cz l),(9,.rv (.one (.ptr 3 0))),(10,an .i64 fd)],[xB k p,cB c,bW,.var (m.enc.map .aa)]⟩:=by
 refine nz k p hk l 0 0 rfl ?_;exact FM (k:=bP k l 0) (a:=⟨0,m.data.length,fd,m.data⟩) (X:=[_,_])
theorem tk(k:Kr)(p:Nat)(hw:KW k p)(c:Cl):
  body prog c39 [.rv (.one (.ptr 0 0)),.rv (.one (.ptr 1 0))] [xB k p,cB c] (TC (i9 k p c).1 p c (i9 k p c).2):=by
 refine ku k p hw c.fd 512 0 rfl ?_;have hS:i9 k p c=zw k p (bo k p c.fd 512):=rfl;rw[hS];clear hS;generalize bo k p c.fd 512=w;obtain⟨⟨o,r⟩,b,e⟩:=w;refine bs (λhe=>?_) (λhe=>?_)
 .have he:e≠0:=he;rw[zw,if_pos he];exact cY (X:=[_,_])
 have he:e=0:=he;subst he;rw[zw,if_neg aC];refine Po k.l hw.nT b ?_;generalize fA k.l b=R;obtain⟨l,m,e⟩:=R;refine bs (λhe=>?_) (λhe=>?_)
 .have he:e≠0:=he;rw[zu,if_pos he];exact cY (X:=[_,_,_])
 have he:e=0:=he;subst he;have hR:zu k p (l,m,0)=if m.has=true then
   (if(fQ (ay k.ps p) m.dP m.b9).2.2≠0 then(k,An.no (fQ (ay k.ps p) m.dP m.b9).2.2)
    else zt (fh k p (fQ (ay k.ps p) m.dP m.b9).1 0) l m (fQ (ay k.ps p) m.dP m.b9).2.1)
  else zt k l m (-1):=by rw[zu,if_neg aC]
 rw[hR];clear hR;obtain⟨data,has,dP,b9⟩:=m;cases has with
 |false=>
  rw[if_neg aC];refine⟨_,View.o1 5 [0,1,2,4] [] ?_,Dl k p hw.kr c l ⟨data,false,dP,b9⟩ (-1)⟩
  .exact .pt rfl rfl (.eq rfl (bC _ _)) (.pt rfl rfl (.eq rfl (cf _)) (.pt rfl rfl (.eq rfl (by simp[bW])) (.pm rfl rfl rfl)))
 |true=>
  rw[if_pos rfl];have hg:=dz hw.hp;rw[<-d5 hw.hp]at hg;have hl:(ay k.ps p).length<=10:=by rw[d5 hw.hp];exact hw.kr.sl _ (aal hw.hp)
  refine ag hg ?_;have jD:= @sq (ay k.ps p) dP b9 hl;refine AQ (ay k.ps p) om dP b9 ?_;have hkr:= @Nr k hw.kr p hw.hp;generalize fQ (ay k.ps p) dP b9=T at jD|-;obtain⟨t,fd,e⟩:=T;refine⟨trivial,?_⟩;refine bs (λhe=>?_) (λhe=>?_)
  .have he:e≠0:=he;rw[if_pos he];exact cY (X:=[_,_,_])
  have he:e=0:=he;subst he;rw[if_neg aC];refine Dd k p hw.kr hw.hp t 0 0 rfl ?_;refine⟨_,View.o1 5 [0,1,2,4] [] ?_,Dl (fh k p t 0) p (hkr jD) c l ⟨data,true,dP,b9⟩ fd⟩
  .exact .pt rfl rfl (.eq rfl (bC _ _)) (.pt rfl rfl (.eq rfl (cf _)) (.pt rfl rfl (.eq rfl (by simp[bW])) (.pm rfl rfl rfl)))
theorem JB(k:Kr)(p:Nat)(hw:KW k p)(c:Cl):aq prog 39 [.rv (.one (.ptr 0 0)),.rv (.one (.ptr 1 0))] [xB k p,cB c] (TC (i9 k p c).1 p c (i9 k p c).2):=
 b8 func39 l39 (tk k p hw c)
end Kn
def c37:LF:= ⟨69,[.cell true 4 2],(.seq (.ai [qu 2 (.alloc [qd 0,qd 0,qd 0,.aO])]) (.seq (.ai [qm 10 0,qu 11 (.aP 10),qf 12 0 11,qf 13 0 12,ql 14 13,qu 15 (qc 71 [14]),qm 9 15,qu 16 (.ext 9 0),qu 17 (.ext 9 1),qu 18 (.ext 9 2),qu 4 (.alloc [qd 0,qd 0]),qm 3 16,qw (.store 2 4 17),qm 5 18]) (.seq (.seq (.ai [qm 19 5,qu 20 (.aJ .neq 19 (qi 0))]) (.cond 20 (.seq (.ai [qm 21 5,qu 22 (.build [qd 0,qd 0,qd 0,.aO] [(0,1,21)]),qw (.store 4 2 22)]) .ret) .skip)) (.seq (.ai [qm 23 0,qu 24 (.aP 23),qf 25 0 24,qL 26 3 25,qu 27 (qc 59 [26]),qu 6 (.alloc [.aO,.aO,.aO]),qw (.store 3 6 27)]) (.seq (.ai [qm 28 3,qf 29 0 6,qw (.store 1 29 28)]) (.cS (.seq (.bR [qL 31 3 6,qm 32 0,qu 33 (.aP 32),qf 34 3 33,ql 35 34,qu 36 (.BN 2 1 4 (qi 0)),ql 37 36,qu 38 (qc 72 [31,35,37,qi 896]),qm 30 38,qu 39 (.ext 30 0),qu 40 (.ext 30 1),qu 41 (.ext 30 2),qw (.store 3 6 39),qm 7 40,qm 5 41] [(.cons 0 none (.cons 1 none (.cons 2 none (.cons 3 none (.cons 4 none (.cons 5 none (.cons 6 none (.cons 7 (some []) (.cons 8 none (.cons 9 none (.cons 10 none (.cons 11 none (.cons 12 (some []) (.cons 13 none (.cons 14 none .nil)))))))))))))))]) (.seq (.seq (.ai [qm 42 5,qu 43 (.aJ .neq 42 (qi 0))]) (.cond 43 (.seq (.ai [qm 44 5,qu 45 (.build [qd 0,qd 0,qd 0,.aO] [(0,1,44)]),qw (.store 4 2 45)]) .ret) .skip)) (.seq (.bR [qL 47 3 6,qm 48 0,qu 49 (.aP 48),qf 50 3 49,ql 51 50,qu 52 (.BN 2 1 4 (qi 1)),ql 53 52,qu 54 (qc 72 [47,51,53,qi 896]),qm 46 54,qu 55 (.ext 46 0),qu 56 (.ext 46 1),qu 57 (.ext 46 2),qw (.store 3 6 55),qm 8 56,qm 5 57] [(.cons 0 none (.cons 1 none (.cons 2 none (.cons 3 none (.cons 4 none (.cons 5 none (.cons 6 none (.cons 7 (some []) (.cons 8 none (.cons 9 none (.cons 10 none (.cons 11 none (.cons 12 (some []) (.cons 13 none (.cons 14 none .nil)))))))))))))))]) (.seq (.seq (.ai [qm 58 5,qu 59 (.aJ .neq 58 (qi 0))]) (.cond 59 (.seq (.ai [qm 60 5,qu 61 (.build [qd 0,qd 0,qd 0,.aO] [(0,1,60)]),qw (.store 4 2 61)]) .ret) .skip)) (.seq (.ai [qm 62 0,qL 63 3 6,qu 64 (.aP 62),qf 65 0 64,qw (.store 3 65 63)]) (.seq (.ai [qm 66 7,qm 67 8,qu 68 (.build [qd 0,qd 0,qd 0,.aO] [(1,1,66),(2,1,67)]),qw (.store 4 2 68)]) .ret))))))))))))⟩
namespace Kn
def uH(p:Nat)(a:Kr×Int×Int)(e1:Int)(k:Kr):Kr×An:=
 if a.2.2≠0 then(k,An.no a.2.2)
 else if(aI a.1 p e1 896).2.2≠0 then(k,An.no (aI a.1 p e1 896).2.2)
 else((aI a.1 p e1 896).1,⟨0,a.2.1,(aI a.1 p e1 896).2.1,[]⟩)
def zx(k:Kr)(p:Nat)(P:List Obj×(Int×Int)×Int):Kr×An:=
 if P.2.2≠0 then(k,An.no P.2.2)else uH p (aI ⟨P.1,k.ops,k.ps⟩ p P.2.1.1 896) P.2.1.2 k
def jL(k:Kr)(p:Nat):Kr×An:=zx k p (fq k.l)
structure TE(k:Kr)(p:Nat)(P:List Obj×(Int×Int)×Int):Prop where
 a:P.2.2=0->dF P.1 k.ops k.ps
 b:P.2.2=0->(aI ⟨P.1,k.ops,k.ps⟩ p P.2.1.1 896).2.2=0->dF (aI ⟨P.1,k.ops,k.ps⟩ p P.2.1.1 896).1.l (aI ⟨P.1,k.ops,k.ps⟩ p P.2.1.1 896).1.ops (aI ⟨P.1,k.ops,k.ps⟩ p P.2.1.1 896).1.ps/\p<(aI ⟨P.1,k.ops,k.ps⟩ p P.2.1.1 896).1.ps.length
theorem l37:bu prog f37=some c37.er:=by kernel_rfl
def aaT:LC:=bL (bL (bL (bL (bL c37.code))))
def aaU:LC:=qt aaT
def kB(k:Kr):Bk:= .var ((kC k.l k.ops k.ps).map .aa)
theorem fR(k:Kr):kB k≠.aS:=by intro h;cases h
def TP(k:Kr)(p:Nat)(a:An)(r:CV)(m:Mem):Prop:=∃r' m',View 1 ⟨[r],m⟩ ⟨[r'],m'⟩/\r'=a.cv/\m'=[xB k p]
theorem HB{k:Kr}{p:Nat}{X:Mem}{e n x:Int}:TP k p ⟨e,n,x,[]⟩ (.rv (.agg [.aa (.val (.int .i64 e)),.aa (.val (.int .i64 n)),.aa (.val (.int .i64 x)),.aO])) (xB k p::X):=
 ⟨_,_,View.of (X.length+1) [0] [] rfl rfl rfl rfl rfl (by simp[eG,Nat.blt]) (.put Ni .nil) (.pt rfl rfl (.eq rfl (bC _ _)) (.nil _)),rfl,rfl⟩
theorem Ns(k:Kr)(p:Nat)(k1:Kr)(hp:p<k1.ps.length)(hk:dF k1.l k1.ops k1.ps)(e0 e1:Int)(hb:(aI k1 p e0 896).2.2=0->dF (aI k1 p e0 896).1.l (aI k1 p e0 896).1.ops (aI k1 p e0 896).1.ps/\p<(aI k1 p e0 896).1.ps.length):
  aw prog 1 aaU (oc prog c37.lK (TP (uH p (aI k1 p e0 896) e1 k).1 p (uH p (aI k1 p e0 896) e1 k).2))
   ⟨km 69 [(0,.rv (.one (.ptr 0 0))),(2,.rv (.one (.ptr 1 0))),(4,.rv (.one (.ptr 2 0))),(6,.rv (.one (.ptr 3 0)))],[xB k p,bW,.var [.aa (.val (.int .i64 e0)),.aa (.val (.int .i64 e1))],kB k1]⟩:=by
 refine tF k1 hk p hp e0 896 ?_;generalize aI k1 p e0 896=A at hb|-;obtain⟨k2,fd,e⟩:=A;refine⟨trivial,trivial,?_⟩;refine bs (λhe=>?_) (λhe=>?_)
 .have he:e≠0:=he;rw[uH,if_pos he];exact HB (X:=[_,_,_])
 have he:e=0:=he;subst he;obtain⟨oo,xU⟩:=hb rfl;have e2:uH p (k2,fd,0) e1 k=if(aI k2 p e1 896).2.2≠0 then(k,An.no (aI k2 p e1 896).2.2)else((aI k2 p e1 896).1,⟨0,fd,(aI k2 p e1 896).2.1,[]⟩):=by rw[uH,if_neg aC]
 rw[e2];refine tF k2 oo p xU e1 896 ?_;generalize aI k2 p e1 896=B;obtain⟨k3,fD,e⟩:=B;refine⟨trivial,trivial,?_⟩;refine bs (λhe=>?_) (λhe=>?_)
 .have he:e≠0:=he;rw[if_pos he];exact HB (X:=[_,_,_])
 have he:¬e≠0:=λh=>h he
 rw[if_neg he];exact HB (k:=k3) (X:=[_,_,_])
theorem FW(k:Kr)(p:Nat)(hw:KW k p)(hi:TE k p (fq k.l)):
  body prog c37 [.rv (.one (.ptr 0 0))] [xB k p] (TP (jL k p).1 p (jL k p).2):=by
 refine Pm k.l hw.nT ?_;have hS:jL k p=zx k p (fq k.l):=rfl;rw[hS];clear hS;generalize fq k.l=P at hi|-;obtain⟨l,⟨e0,e1⟩,e⟩:=P;refine bs (λhe=>?_) (λhe=>?_)
 .have he:e≠0:=he;rw[zx,if_pos he];exact HB (X:=[_,_])
 have he:e=0:=he;subst he;rw[zx,if_neg aC];refine iI k.l k.ops k.ps hw.nT hw.kr.lo hw.kr.lp hw.kr.sl hw.kr.ne ?_;refine⟨_,View.o1 7 [0,1,2,6] [3,4,5] ?_,Ns k p ⟨l,k.ops,k.ps⟩ hw.hp (hi.a rfl) e0 e1 (hi.b rfl)⟩
 .exact .pt rfl rfl (.eq rfl (bC _ _)) (.pt rfl rfl (.eq rfl (by simp[bW])) (.pe rfl rfl rfl (.pt rfl rfl (fa.var (.cons (.aU (.aa _)) (.cons (.fy (im rfl rfl)) (.cons (.fy (im rfl rfl)) .nil)))) (.nil _))))
theorem Nt(k:Kr)(p:Nat)(hw:KW k p)(hi:TE k p (fq k.l)){m:Mem}(id:Nat)(hb:cD m id=some (xB k p)){K:CV->Mem->Prop}(hK:K (jL k p).2.cv (aW m id (xB (jL k p).1 p))):
  aq prog 37 [.rv (.one (.ptr id 0))] m K:=
 Hw (args:=[]) (λ_=>rfl) (λ_=>rfl)
  (bG (b8 func37 l37 (FW k p hw hi)) λr m1⟨r',m',hv,hq⟩=>⟨r',m',hv,hq⟩) id hb hK
end Kn
end Go.Proofs.YtodckkkbiidffaaGreatDoor
