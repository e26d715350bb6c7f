/- Part 28 of 41: what the law stands on. -/
import Derived.Test.YthagjdhjmamakaaGreatDoorT16
import Derived.Test.YthagjdhjmamakaaGreatDoorT18
import Derived.Test.YthagjdhjmamakaaGreatDoorT27
set_option linter.unusedVariables false
set_option linter.unusedSimpArgs false
set_option linter.unnecessarySimpa false
set_option maxRecDepth 100000
set_option maxHeartbeats 64000000
namespace Go.Proofs.YthagjdhjmamakaaGreatDoor
open Go.AM Go.ChangeShapes Go.WideShapes Go.ChangeAt Go.RowKit
theorem gT{mk:Prop}{b:Nat}:∀(vs:List Value)(o:Nat)(w:World)(cur:Array Value),lq mk w b cur->o+vs.length<=cur.size->
  ∃fP,lq mk (w.setCells b o vs) b fP/\jH w (w.setCells b o vs) b/\fP.size=cur.size/\∀k,fP[k]? =if o<=k/\k<o+vs.length then vs[k-o]? else cur[k]?
 | [],o,w,cur,hc,_=>⟨cur,hc,⟨fun _ _=>rfl,rfl,rfl,rfl,rfl⟩,rfl,fun k=>by rw[if_neg aK]⟩
 |v::r,o,w,cur,hc,hle=>by
  have CA:lq mk (w.setCell ⟨b,o,none⟩ v) b (cur.setIfInBounds o v):=by
   obtain⟨ty,fr,hb,hf⟩:=hc;refine⟨ty,fr,?_,by simpa using hf⟩
   simp[World.setCell,aaJ,hb]
  have ya:jH w (w.setCell ⟨b,o,none⟩ v) b:=⟨fun b hb=>by simp[World.setCell,aaJ,Ne.symm hb],aK,rfl,rfl,rfl⟩
  simp only[XR]at hle;obtain⟨fP,h1,ht,h2,h3⟩:=gT (mk:=mk) r (o+1) _ _ CA (by simp;omega)
  refine⟨fP,h1,⟨fun b hb=>(ht.heap b hb).trans (ya.heap b hb),ht.size.trans ya.size,ht.os,ht.tape,ht.output⟩,by rw[h2];simp,fun k=>?_⟩
  rw[h3 k];simp only[XR];by_cases hk:k=o
  .subst hk;rw[if_neg om,if_pos om,abb om];simp
  .by_cases oP:o+1<=k/\k<o+1+r.length
   .rw[if_pos oP,if_pos om];obtain⟨j,rfl⟩:∃j,k=o+1+j:=⟨k-(o+1),om⟩;rw[show o+1+j-(o+1)=j by omega,show o+1+j-o=j+1 by omega,aaQ]
   .rw[if_neg oP,if_neg om,abr om]
theorem DY{S:List (List Dt)}{i:Nat}{cs:List CC}(h:(af S)[i]? =some cs):∃ds,S[i]? =some ds/\cs=ds.map .aa:=by simp only[af,O6]at h;obtain⟨ds,h1,h2⟩:=Z2.1 h;exact⟨ds,h1,h2.symm⟩
theorem F6{S:List (List Dt)}{e:List Dt}{i:Nat}(hi:i<S.length)(k:Nat)(ds:List Dt)(h:(S.take i++e::S.drop i)[k]? =some ds):(k<i/\S[k]? =some ds)\/(k=i/\ds=e)\/(i<k/\S[k-1]? =some ds):=by
 have hl:(S.take i).length=i:=by rw[Z3];omega
 rcases abQ k i with h1|h1|h1
 .rw[VO om,aao,if_pos h1]at h;exact .inl ⟨h1,h⟩
 .subst h1;rw[UX om,hl,abK]at h;exact .inr (.inl ⟨rfl,by simpa using h.symm⟩)
 .rw[UX om,hl,show k-i=(k-1-i)+1 by omega,aaQ,aaA,show i+(k-1-i)=k-1 by omega]at h
  exact .inr (.inr ⟨h1,h⟩)
theorem HK(S:List (List Dt))(e:List Dt)(i:Nat)(hi:i<S.length)(hl:S.length<=4194304):ar Tryz.prog 133 [.rv (.one (.row 0 2 0 none)),an .i64 (i:Nat),.rv (.one (.row 1 2 0 none))] [.row 2 (af S),.row 2 (af [e])]
  (fun r m=>r= .rv (.one (.row 2 2 0 none))/\m=[.aZ,.aZ,.row 2 (af (S.take i++e::S.drop i))]):=by
 refine⟨⟨Tryz.f133,Tryz.func133,rfl,by decide⟩,fun ρ w vs hM wi hd=>?_⟩
 obtain⟨v0,h0,d0⟩:=hd 0 _ rfl;obtain⟨v1,h1,d1⟩:=hd 1 _ rfl;obtain⟨v2,h2,d2⟩:=hd 2 _ rfl;have Ce:vs=[v0,v1,v2]:=by
  match vs,wi with
  | [a,b,c],_=>simp at h0 h1 h2;rw[h0,h1,h2]
 have CQ:v1= .int .i64 (i:Nat):=(bJ d1).1;obtain⟨_,_,_,ab5,QP,a0,RF,RS⟩:=(show br ρ w none (.row 0 2 0 none) v0 from d0);obtain⟨_,_,_,Tc,MF,a1,ye,VP⟩:=(show br ρ w none (.row 1 2 0 none) v2 from d2);obtain⟨XU,_,_,XV,XW⟩:=hM.bk 0 _ rfl;obtain⟨XX,_,_,S3,XY⟩:=hM.bk 1 _ rfl;have T7:(ρ.aO (.ap 0)).len=S.length:=by rw[<-XU];simp[af]
 have T8:(ρ.aO (.ap 1)).len=1:=by rw[<-XX];simp[af]
 have KX:0<(ρ.aO (.ap 0)).cap:=om;have Fj:0<(ρ.aO (.ap 1)).cap:=om;obtain⟨KY,xF,AD,Nw⟩:=XW KX;obtain⟨KZ,K2,Te,Nx⟩:=XY Fj;have RS:=RS KX;have VP:=VP Fj;have K3:Live ρ [.row 2 (af S),.row 2 (af [e])] (.ap 0):=⟨_,rfl,aK,fun _=>KX⟩
 have T9:Live ρ [.row 2 (af S),.row 2 (af [e])] (.ap 1):=⟨_,rfl,aK,fun _=>Fj⟩
 have VM:(ρ.aO (.ap 1)).b≠(ρ.aO (.ap 0)).b:=fun he=>by have:=hM.inj _ _ T9 K3 he;cases this
 simp only[abz,abf,Nat.zero_mul,abL]at RF ye RS VP;have Ua:ρ.n=2:=hM.n;have VQ:=hM;generalize Qa:ρ.aO (.ap 0)=L0 at*
 generalize Zf:ρ.aO (.ap 1)=L1 at*
 obtain⟨b,au,len,cap⟩:=L0;obtain⟨vb,xG,ab6,QQ⟩:=L1;simp only at*
 subst T7 T8;have QR:=xF.lt;have RT:∀(k:Nat)(ds:List Dt),S[k]? =some ds->ds.length=2:=fun k ds hk=>by
  have:=XV (ds.map .aa) (O9 (i:=k) (by simp[af,hk]))
  simpa using this
 have qH:e.length=2:=by
  have:=S3 (e.map .aa) (by simp[af])
  simpa using this
 obtain⟨cs,Ub⟩:∃cs,cs=(KY.toList.drop au).take (S.length*2):=⟨_,rfl⟩;have gK:cs.length=S.length*2:=by have:=aaW (xs:=KY);rw[Ub,Z3,aaE];omega
 have RG:∀j,j<S.length*2->cs[j]? =KY[au+j]? :=fun j hj=>by rw[Ub,aao,if_pos hj,aaA,aa3]
 obtain⟨vv,Uc⟩:∃vv,vv=(KZ.toList.drop xG).take 2:=⟨_,rfl⟩;have y3:vv.length=2:=by have:=aaW (xs:=KZ);rw[Uc,Z3,aaE];omega
 have ZN:∀j,j<2->vv[j]? =KZ[xG+j]? :=fun j hj=>by rw[Uc,aao,if_pos hj,aaA,aa3]
 have K4:∀(k:Nat)(ds:List Dt)(j:Nat)(d:Dt),S[k]? =some ds->ds[j]? =some d->∃u,cs[k*2+j]? =some u/\cZ ρ.S w d u:=fun k ds j d hk hj=>by
  have fy:=(Hy.1 hk).1;have l4:=(Hy.1 hj).1;rw[RT k ds hk]at l4;obtain⟨u,hu,b9⟩:=Nw k (ds.map .aa) j (.aa d) (by simp[af,hk]) (by simp[hj])
  exact⟨u,by rw[RG _ om,<-aau];exact hu,b9⟩
 have Pa:∀(j:Nat)(d:Dt),e[j]? =some d->∃u,vv[j]? =some u/\cZ ρ.S w d u:=fun j d hj=>by
  have l4:=(Hy.1 hj).1;rw[qH]at l4;obtain⟨u,hu,b9⟩:=Nx 0 (e.map .aa) j (.aa d) (by simp[af]) (by simp[hj])
  exact⟨u,by rw[ZN _ l4];simpa using hu,b9⟩
 have Pb:∀v∈cs,v.oneCell'=true:=fun v hv=>by
  obtain⟨j,hj⟩:=Xz hv;have l4:=(Hy.1 hj).1;have hk:j/2<S.length:=om;have Cc:=RT (j/2) S[j/2] (tq hk);obtain⟨u,hu,b9⟩:=K4 (j/2) S[j/2] (j%2) (S[j/2][j%2]'(by omega)) (tq hk) (tq _)
  rw[show j/2*2+j%2=j by omega,hj]at hu
  cases hu;exact b9.one
 have Pc:∀v∈vv,v.oneCell'=true:=fun v hv=>by
  obtain⟨j,hj⟩:=Xz hv;have l4:=(Hy.1 hj).1;obtain⟨u,hu,b9⟩:=Pa j (e[j]'(by omega)) (tq _)
  rw[hj]at hu;cases hu;exact b9.one
 have yr:∀(j:Nat)(v:Value),cs[j]? =some v->w.cell? ⟨b,au+j,none⟩=some v:=fun j v hj=>by
  rw[xF.cell,<-RG j (by rw[<-gK];exact(Hy.1 hj).1)];exact hj
 have yu:∀(j:Nat)(v:Value),vv[j]? =some v->w.cell? ⟨vb,xG+j,none⟩=some v:=fun j v hj=>by
  rw[K2.cell,<-ZN j (by rw[<-y3];exact(Hy.1 hj).1)];exact hj
 have eC:vs.toArray= #[.slice (some ⟨b,au,none⟩) S.length cap,.int .i64 (i:Nat),.slice (some ⟨vb,xG,none⟩) 1 QQ]:=by rw[Ce,RF,CQ,ye,RS,VP]
 rw[eC];have Bi:∀(w':World)(l:AM.vU)(fP:Array Value),ij ρ w (ρ.move l fun _ _=>.sub 0 0 0) w'->(∀k,k<i*2->fP[l.au+k]? =cs[k]?)->(∀k,k<2->fP[l.au+(i*2+k)]? =vv[k]?)->(∀k,k<(S.length-i)*2->fP[l.au+((i+1)*2+k)]? =cs[i*2+k]?)->
   ∀(k:Nat)Ck(j:Nat)c,(af (S.take i++e::S.drop i))[k]? =some Ck->Ck[j]? =some c->∃u,fP[l.au+k*2+j]? =some u/\br (ρ.move l fun _ _=>.sub 0 0 0) w' (some (ρ.n,k,j)) c u:=by
  intro w' l fP g q1 q2 q3 k Ck j c hk hj;obtain⟨ds,CN,rfl⟩:=DY hk;rw[O6]at hj;obtain⟨d,wd,rfl⟩:=Z2.1 hj;have l4:=(Hy.1 wd).1;rcases F6 hi k ds CN with⟨RK,hS⟩|⟨rfl,rfl⟩|⟨RK,hS⟩
  .rw[RT k ds hS]at l4;obtain⟨u,hu,b9⟩:=K4 k ds j d hS wd;exact⟨u,by rw[aau,q1 _ om];exact hu,b9.mono g.S g.heap⟩
  .rw[qH]at l4;obtain⟨u,hu,b9⟩:=Pa j d wd;exact⟨u,by rw[aau,q2 _ l4];exact hu,b9.mono g.S g.heap⟩
  .rw[RT _ ds hS]at l4;obtain⟨u,hu,b9⟩:=K4 (k-1) ds j d hS wd;have fy:=(Hy.1 hS).1;refine⟨u,?_,b9.mono g.S g.heap⟩;rw[aau,show k*2+j=(i+1)*2+((k-1-i)*2+j) by omega,q3 _ om,show i*2+((k-1-i)*2+j)=(k-1)*2+j by omega]
   exact hu
 have FD:(af (S.take i++e::S.drop i)).length=S.length+1:=by simp[af];omega
 have zG:∀cs,cs∈af (S.take i++e::S.drop i)->cs.length=2:=fun Ck hm=>by
  obtain⟨k,hk⟩:=Xz hm;obtain⟨ds,CN,rfl⟩:=DY hk;rw[LW];rcases F6 hi k ds CN with⟨_,hS⟩|⟨_,rfl⟩|⟨_,hS⟩
  .exact RT _ _ hS
  .exact qH
  .exact RT _ _ hS
 have hC:∀(k:Nat)Ck(j:Nat)s el,(af (S.take i++e::S.drop i))[k]? =some Ck->Ck[j]? =some (.gp s el)->False:=fun k Ck j s el hk hj=>by obtain⟨ds,_,rfl⟩:=DY hk;rw[O6]at hj;obtain⟨d,_,h⟩:=Z2.1 hj;cases h
 have n9:([.aZ,.aZ]:Mem).length=([.row 2 (af S),.row 2 (af [e])]:Mem).length:=rfl;have va:∀(id:Nat)bk,([.aZ,.aZ]:Mem)[id]? =some bk->bk= .aZ\/(([.row 2 (af S),.row 2 (af [e])]:Mem)[id]? =some bk/\¬(id=0\/id=1)):=fun id bk h=>by
  match id,h with
  |0,h=>cases h;exact .inl rfl
  |1,h=>cases h;exact .inl rfl
  |id+2,h=>simp at h
 have Bj:∀k,(cs.drop (i*2))[k]? =cs[i*2+k]? :=fun k=>by rw[aaA]
 have kI:(cs.drop (i*2)).length=(S.length-i)*2:=by rw[aaE,gK,acx]
 by_cases mG:S.length+1<=cap
 ·
  obtain⟨ty0,fr0,hh0,ab9,aca,acb⟩:=id xF;obtain⟨ty1,fr1,ZO,acf,acg,Ud⟩:=id K2;have Ud:fr1.2<=KZ.size:=by
   rcases Ud with h|h
   .cases h
   .exact h
  have yq:∀j,j<(S.length+1)*2->(w.cell? ⟨b,au+j,none⟩).isSome=true:=fun j hj=>by rw[xF.cell,aaM om];rfl
  have wy:=y2 b au S.length cap i vb xG QQ cs vv w hi mG (by unfold maxLen at QP;omega) VM gK y3 yr yq (fun j hj=>xF.jD om) yu Pb Pc ty1 ty0 KZ.size KY.size
   (by simp[World.shape?,ZO]) (by simp[World.shape?,hh0]) om (K2.jD om) (by simp only[World.frozen?,ZO];simp;omega)
  refine wy.mono ?_;rintro e' w' ⟨rfl,rfl⟩;obtain⟨c1,CA,ya,O7,i4⟩:=gT (cs.drop (i*2)) (au+(i+1)*2) w.drew KY (xF.dz rfl) (by rw[kI];omega)
  obtain⟨c2,ui,ug,OB,oP⟩:=gT vv (au+i*2) _ c1 CA (by rw[y3];omega)
  have hT:jH w ((w.drew.setCells b (au+(i+1)*2) (cs.drop (i*2))).setCells b (au+i*2) vv) b:=
   ⟨fun x hx=>((ug.heap x hx).trans (ya.heap x hx)).trans rfl,(ug.size.trans ya.size).trans rfl,(ug.os.trans ya.os).trans rfl,(ug.tape.trans ya.tape).trans rfl,(ug.output.trans ya.output).trans rfl⟩
  obtain⟨kY,hX⟩:=hM.move (w':=(w.drew.setCells b (au+(i+1)*2) (cs.drop (i*2))).setCells b (au+i*2) vv) (m1:=[.aZ,.aZ]) (D:=fun id=>id=0\/id=1) (esz:=2) (E:=af (S.take i++e::S.drop i)) (l:=⟨b,au,S.length+1,cap⟩) (src:=fun _ _=>.sub 0 0 0)
   n9 va (by rw[hT.size];exact QN _) hT.os hT.tape hT.output (fun x hx eL=>hT.heap x (fun he=>eL 0 (.inl rfl) K3 (by rw[Qa];exact he.symm)))
   (fun _=>⟨by rw[hT.size];exact QR,.inr ⟨0,.inl rfl,K3,by rw[Qa]⟩⟩) FD mG QP zG
   (fun g _=>⟨c2,ui,by rw[OB,O7];exact AD,Bi _ ⟨b,au,S.length+1,cap⟩ c2 g (fun k hk=>by
    show c2[au+k]? =_;rw[oP,if_neg (by rw[y3];omega),i4,if_neg om,RG _ om]) (fun k hk=>by
    show c2[au+(i*2+k)]? =_;rw[oP,if_pos (by rw[y3];omega),show au+(i*2+k)-(au+i*2)=k by omega]) (fun k hk=>by
    show c2[au+((i+1)*2+k)]? =_;rw[oP,if_neg (by rw[y3];omega),i4,if_pos (by rw[kI];omega),show au+((i+1)*2+k)-(au+(i+1)*2)=k by omega,Bj])⟩)
   (fun k Ck j s el hk hj=>(hC k Ck j s el hk hj).elim) (fun _ _ _ _ _⟨Ck,s,el,hk,hj⟩ _=>(hC _ Ck _ s el hk hj).elim)
  refine⟨_,_,_,_,rfl,⟨rfl,rfl⟩,kY,?_,hX⟩;refine⟨by simp[bH.move,Ua],?_⟩
  have yf:(ρ.move ⟨b,au,S.length+1,cap⟩ fun _ _=>.sub 0 0 0).aO (.ap 2)=⟨b,au,S.length+1,cap⟩:=by simp[bH.move,Ua]
  rw[yf];exact⟨XL _,QN _,mG,QP,_,rfl,fun _=>aK⟩
 ·
  have wy:=Bh b au S.length cap i vb xG QQ cs vv w hi om om om gK y3 yr yu Pb Pc;refine wy.mono ?_;rintro e' w' ⟨rfl,rfl⟩;have XT:S.length+1<=grownCap w (S.length+1) cap 187:=grownCap_ge w _ _ _;have ZP:grownCap w (S.length+1) cap 187<=maxLen:=grownCap_le_maxLen w (S.length+1) cap 187 (by unfold maxLen;omega)
  generalize grownCap w (S.length+1) cap 187=G at*
  obtain⟨ROW,DX⟩:∃ROW:Array Value,ROW=(cs.take (i*2)).toArray++Builtin.zeroCells tt.cells (S.length+1-i)++Builtin.zeroCells tt.cells (G-(S.length+1)):=⟨_,rfl⟩;rw[<-DX];have hRs:ROW.size=G*2:=by rw[DX];simp[Builtin.zeroCells,Value.cells,tt,Z3,gK];omega
  have hRg:∀k,k<i*2->ROW[k]? =cs[k]? :=fun k hk=>by
   rw[DX,Array.append_assoc,abm (by simp[gK];omega)]
   simp[aao,hk]
  have hA:d5 w (w.alloc (.cells ROW 187)).drew:=(d5.alloc w _).trans (d5.drew _);obtain⟨c1,CA,ya,O7,i4⟩:=gT (mk:=(2:Nat)=1) vv (i*2) (w.alloc (.cells ROW 187)).drew ROW ((lq.new w ROW 187).dz rfl) (by rw[y3];omega)
  obtain⟨c2,ui,ug,OB,oP⟩:=gT (mk:=(2:Nat)=1) (cs.drop (i*2)) ((i+1)*2) ((w.alloc (.cells ROW 187)).drew.setCells w.heap.size (i*2) vv).drew c1 (CA.dz rfl) (by rw[kI];omega)
  have dj:w.heap.size<((((w.alloc (.cells ROW 187)).drew.setCells w.heap.size (i*2) vv).drew).setCells w.heap.size ((i+1)*2) (cs.drop (i*2))).heap.size:=by rw[ug.size];show w.heap.size<((w.alloc (.cells ROW 187)).drew.setCells w.heap.size (i*2) vv).heap.size;rw[ya.size];show w.heap.size<(w.alloc (.cells ROW 187)).heap.size;simp
  obtain⟨kY,hX⟩:=hM.move (w':=(((w.alloc (.cells ROW 187)).drew.setCells w.heap.size (i*2) vv).drew).setCells w.heap.size ((i+1)*2) (cs.drop (i*2))) (m1:=[.aZ,.aZ]) (D:=fun id=>id=0\/id=1) (esz:=2) (E:=af (S.take i++e::S.drop i)) (l:=⟨w.heap.size,0,S.length+1,G⟩) (src:=fun _ _=>.sub 0 0 0)
   n9 va (Nat.le_of_lt dj) ((ug.os.trans ya.os).trans rfl) ((ug.tape.trans ya.tape).trans rfl) ((ug.output.trans ya.output).trans rfl)
   (fun x hx _=>((ug.heap x om).trans (ya.heap x om)).trans (hA.heap x hx))
   (fun _=>⟨dj,.inl (QN _)⟩) FD XT ZP zG
   (fun g _=>⟨c2,ui,by rw[OB,O7,hRs];show 0+G*2<=G*2;omega,Bi _ ⟨w.heap.size,0,S.length+1,G⟩ c2 g (fun k hk=>by
    show c2[0+k]? =_;rw[aak,oP,if_neg om,i4,if_neg om,hRg _ hk]) (fun k hk=>by
    show c2[0+(i*2+k)]? =_;rw[aak,oP,if_neg om,i4,if_pos (by rw[y3];omega),show i*2+k-i*2=k by omega]) (fun k hk=>by
    show c2[0+((i+1)*2+k)]? =_;rw[aak,oP,if_pos (by rw[kI];omega),show(i+1)*2+k-(i+1)*2=k by omega,Bj])⟩)
   (fun k Ck j s el hk hj=>(hC k Ck j s el hk hj).elim) (fun _ _ _ _ _⟨Ck,s,el,hk,hj⟩ _=>(hC _ Ck _ s el hk hj).elim)
  refine⟨_,_,_,_,rfl,⟨rfl,rfl⟩,kY,?_,hX⟩;refine⟨by simp[bH.move,Ua],?_⟩
  have yf:(ρ.move ⟨w.heap.size,0,S.length+1,G⟩ fun _ _=>.sub 0 0 0).aO (.ap 2)=⟨w.heap.size,0,S.length+1,G⟩:=by simp[bH.move,Ua]
  rw[yf];exact⟨XL _,QN _,XT,ZP,_,rfl,fun _=>aK⟩
def Obj.ob(o:Obj):Ob:=⟨o.ah,o.data,o.aj,o.target,o.aG,.sl 4 (o.ak.map bp.enc),o.aM,o.am,o.up⟩
theorem QS(l:List Obj):da l=M4 (l.map Obj.ob):=by show Dt.sl 9 (l.map Obj.enc)=Dt.sl 9 ((l.map Obj.ob).map Ob.enc);rw[aaN];rfl
def iO(l:List Obj)(n p:Nat)(name:ByteArray):List Obj:=match l[n]? with
 |none=>l
 |some o=>match (l.set n {o with aj:=(gZ (name,(p:Int)) (o.aj.map mH)).map fD})[p]? with
  |none=>l
  |some q=>(l.set n {o with aj:=(gZ (name,(p:Int)) (o.aj.map mH)).map fD}).set p {q with am:=IntKind.i64.wrap (q.am+1),up:=if q.ah=2 then(n:Int)else q.up}
def xH(b:Bool)(o:Obj)(y:List Obj)(name:ByteArray):List Obj×Int:=
 if o.ah≠2 then([],11)else if o.am=0 then([],6)else if b=false then([],7)else if fg (o.aj.map mH) name>=0 then([],7)else if o.aj.length>=8 then([],15)else(y,0)
def oq(l:List Obj)(k ah:Int):Bool:=ns (l.map Obj.ob) k ah
def cP(b:Bool)(l:List Obj)(cE:Int)(name:ByteArray)(bt:Int):List Obj×Int:=
 if oq l cE 0=true then(if oq l bt 0=true then(match l[cE.toNat]? with
  |none=>([],6)
  |some o=>xH b o (iO l cE.toNat bt.toNat name) name)else([],6))else([],6)
theorem vd{l:List Obj}{k:Int}(h:k<0):oq l k 0=false:=by
 unfold oq ns;rw[decide_eq_false (by omega:¬k>=0)];rfl
theorem ve{l:List Obj}{k:Int}(h:k>=(l.length:Int)):oq l k 0=false:=by
 unfold oq ns;rw[LW,decide_eq_false (by omega:¬k<(l.length:Int))];simp
theorem vf{l:List Obj}{n:Nat}(hn:n<l.length)(h:l[n].ah=0):oq l n 0=false:=by unfold oq ns;rw[XO,O6,tq hn];have:l[n].ob.ah=0:=h;simp[this]
theorem vg{l:List Obj}{n:Nat}(hn:n<l.length)(h:l[n].ah≠0):oq l n 0=true:=by unfold oq ns;rw[XO,O6,tq hn,LW];have:l[n].ob.ah≠0:=h;simp[this,hn]
theorem gU{l:List Obj}{k:Nat}(h:k<l.length):dg (l.map Obj.enc) (k:Nat)=some [.val (.int .i64 l[k].ah),.sl 1 l[k].data,.sl 2 l[k].aj,.val (.string l[k].target),.val (.int .i64 l[k].aG),.sl 4 (l[k].ak.map bp.enc),.val (.int .i64 l[k].aM),.val (.int .i64 l[k].am),.val (.int .i64 l[k].up)]:=by rw[bF,O6,tq h];rfl
theorem Ue{σ:Nat->Nat}{m:Mem}{Z:Nat->Prop}{a a' b b':RV}(h1:vZ σ m Z a a')(h2:vZ σ m Z b b'):pS σ m Z (.bG [a,b]) (.bG [a',b']):=by
 refine .bG rfl fun i r r' h3 h4=>?_
 match i with
 |0=>cases h3;cases h4;exact h1
 |1=>cases h3;cases h4;exact h2
 |n+2=>simp at h3
theorem Uf{σ:Nat->Nat}{m:Mem}{Z:Nat->Prop}{a a' b b' c c':RV}(h1:vZ σ m Z a a')(h2:vZ σ m Z b b')(h0:vZ σ m Z c c'):pS σ m Z (.bG [a,b,c]) (.bG [a',b',c']):=by
 refine .bG rfl fun i r r' h3 h4=>?_
 match i with
 |0=>cases h3;cases h4;exact h1
 |1=>cases h3;cases h4;exact h2
 |2=>cases h3;cases h4;exact h0
 |n+3=>simp at h3
theorem og{p Q:Nat}{l:List Obj}{k:Nat}{o:Obj}(hk:k<l.length):a7 (bL p Q 0 l) k (jq p Q k o)=bL p Q 0 (l.set k o):=by
 rw[bg];apply aaI;intro i;rw[fw,aak];by_cases h:k=i
 .subst h;rw[QO (by rw[fv];exact hk),QO hk]
  rfl
 .rw[XK h,XK h,fw,aak]
theorem DZ{p Q Q':Nat}{l:List Obj}{o:Obj}(hp:l[p]? =some o):a7 (bL p Q 0 l) p (jq p Q' p o)=bL p Q' 0 l:=by
 have iI:=(Hy.1 hp).1;rw[bg];apply aaI;intro i;rw[fw,aak];by_cases h:p=i
 .subst h;rw[QO (by rw[fv];exact iI),hp]
  rfl
 .rw[XK h,fw,aak];cases l[i]? with
  |none=>rfl
  |some x=>
   have h2:¬i=p:=fun e=>h e.symm
   simp only[XS,jq,if_neg h2]
theorem F7{m:Mem}{Z:Nat->Prop}{pp:Option Nat}{id p Q:Nat}{l:List Obj}{o:Obj}{E:List (List Dt)}(hz:Z id)(hm:m[id]? =some (.row 9 (bL p Q 0 l)))(hzq:Z Q)(hq:m[Q]? =some (.row 2 (af E)))(hp:l[p]? =some o):
  dm m Z pp (.row id 9 0 none) (da (l.set p {o with aj:=E})):=by
 have iI:=(Hy.1 hp).1;have key:∀(i:Nat)cs es,(bL p Q 0 l)[i]? =some cs->((l.set p {o with aj:=E}).map Obj.enc)[i]? =some es->gx m Z (some id) cs es:=by
  intro i cs es h1 h2;rw[fw,aak]at h1;rw[O6]at h2;by_cases h:p=i
  .subst h;rw[QO iI]at h2;rw[hp]at h1;cases h1;cases h2;simp only[jq,if_pos,Obj.enc];exact .cons (.aa _) (.cons (.aa _) (.cons (dm.d6 hzq hq 0 none) (.cons (.aa _) (.cons (.aa _) (.cons (.aa _) (.cons (.aa _) (.cons (.aa _) (.cons (.aa _) .nil))))))))
  .rw[XK h]at h2;cases hx:l[i]? with
   |none=>rw[hx]at h1;cases h1
   |some x=>
    rw[hx]at h1 h2;cases h1;cases h2;have h3:¬i=p:=fun e=>h e.symm
    simp only[jq,if_neg h3,Obj.enc];exact .cons (.aa _) (.cons (.aa _) (.cons (.aa _) (.cons (.aa _) (.cons (.aa _) (.cons (.aa _) (.cons (.aa _) (.cons (.aa _) (.cons (.aa _) .nil))))))))
 exact dm.row id 9 0 none _ _ hz hm (by rw[fv,LW,aab]) (fun i cs es h1 h2=>(key i cs es h1 h2).len) (fun i cs es j c d h1 h2 h3 h4=>(key i cs es h1 h2).get j c d h3 h4)
theorem HL(S:List (List Dt))(e:List Dt)(i:Nat)(hi:i<=S.length)(hl:S.length<=4194304){m:Mem}{K:CV->Mem->Prop}(a b:Nat)(Cj:fQ [a,b]=true)(aF:eX m.length [a,b]=true)(ha:cR m a=some (.row 2 (af S)))(hb:cR m b=some (.row 2 (af [e])))(h:K (.rv (.one (.row m.length 2 0 none))) (cV m [a,b] [.aZ,.aZ,.row 2 (af (S.take i++e::S.drop i))])):ar Tryz.prog 133 [.rv (.one (.row a 2 0 none)),an .i64 (i:Nat),.rv (.one (.row b 2 0 none))] m K:=by
 by_cases nc:i<S.length
 .refine bv [a,b] m.length rfl rfl Cj aF (args0:=[.rv (.one (.row 0 2 0 none)),an .i64 (i:Nat),.rv (.one (.row 1 2 0 none))]) rfl (m0:=[.row 2 (af S),.row 2 (af [e])]) (fun i b' hi=>?_) (HK S e i nc hl) (fun r1 m1 hr=>?_)
  .match i,hi with
   |0,hi=>cases hi;exact .inr ⟨fun h=>h,_,by rw[aT]at ha;exact ha,.bR rfl⟩
   |1,hi=>cases hi;exact .inr ⟨fun h=>h,_,by rw[aT]at hb;exact hb,.bR rfl⟩
   |n+2,hi=>simp at hi
  .obtain⟨rfl,rfl⟩:=hr;refine⟨aK,?_⟩;show K (.rv (.one (.row (m.length+(2-2)) 2 0 none))) (cV m [a,b] [.aZ,.aZ,.row 2 ((af (S.take i++e::S.drop i)).map (fun cs=>cs.map (CC.aP (sg [a,b] m.length))))])
   rw[gm];exact h
 .have:i=S.length:=om;subst this;refine QM S e hl a b Cj aF ha hb ?_;rw[aan,List.drop_length]at h;exact h
structure vh(l:List Obj):Prop where
 mU:kg l
 en:∀o,o∈l->∃es:List NE,o.aj=es.map fD/\Dg es/\es.length<=4194304/\∀e,e∈es->0<=e.2/\e.2<(l.length:Int)
def K5(R:List Obj×Int)(r:CV)(m:Mem):Prop:=∃r' m',View 0 ⟨[r],m⟩ ⟨[r'],m'⟩/\r'= .bG [lM R.1,cD R.2]/\m'=[]
theorem fF{R:List Obj×Int}{m:Mem}(e:Int)(h:R=([],e)):K5 R (.bG [.one .aB,cD e]) m:=by subst h;refine⟨_,_,View.of m.length [] [] rfl rfl rfl rfl rfl rfl (.put (Ue (.one (.eu (.aB 9))) (.one (.aP (.aa _)))) .nil) (.nil _),rfl,rfl⟩
theorem qt{l:List Obj}{n p:Nat}(hn:n<l.length)(hp:p<l.length){name:ByteArray}{E:List (List Dt)}(hE:E=(gZ (name,(p:Int)) (l[n].aj.map mH)).map fD){q:Obj}(hq:q={l[p]with am:=IntKind.i64.wrap (l[p].am+1),up:=if l[p].ah=2 then(n:Int)else l[p].up}):
  ∃o2,(l.set p q)[n]? =some o2/\(l.set p q).set n {o2 with aj:=E}=iO l n p name:=by
 subst hE;unfold iO;rw[tq hn];simp only[];by_cases h:p=n
 .subst h;rw[QO hn,QO hn];refine⟨_,rfl,?_⟩;simp only[abp];subst hq;rfl
 .rw[XK h,tq hn,XK (fun e=>h e.symm),tq hp]
  refine⟨_,rfl,?_⟩;simp only[];rw[List.set_comm _ _ h,<-hq]
theorem Bl(l:List Obj)(hs:vh l)(cE bt:Int)(name:ByteArray)(b:Bool)(hN:∀{m:Mem}{K:CV->Mem->Prop},K (aA b) m->ar Tryz.prog 99 [dk name] m K):
  body Tryz.prog c105 [cq l,an .i64 cE,dk name,an .i64 bt] [] (K5 (cP b l cE name bt)):=by
 have hE:∀R,R=cP b l cE name bt->body Tryz.prog c105 [cq l,an .i64 cE,dk name,an .i64 bt] [] (K5 R)->body Tryz.prog c105 [cq l,an .i64 cE,dk name,an .i64 bt] [] (K5 (cP b l cE name bt)):=fun R h h2=>h▸h2
 refine aJ (fun h1=>?_) (fun h1=>?_)
 .exact fF 6 (by unfold cP;rw[vd h1];rfl)
 obtain⟨n,rfl⟩:∃n:Nat,cE=n:=⟨cE.toNat,by have h1:¬cE<0:=h1;omega⟩
 refine aJ (fun h2=>?_) (fun h2=>?_)
 .have h2:(n:Int)>=((l.map Obj.enc).length:Int):=h2;rw[LW]at h2;exact fF 6 (by unfold cP;rw[ve h2];rfl)
 have h2:¬(n:Int)>=((l.map Obj.enc).length:Int):=h2;rw[LW]at h2;have hn:n<l.length:=om;have Mm:=gU hn;refine ag Mm ?_;refine bz (fun h3=>?_) (fun h3=>?_)
 .exact fF 6 (by unfold cP;rw[vf hn h3];rfl)
 have h3:l[n].ah≠0:=h3;have d1:=vg hn h3;refine aJ (fun h4=>?_) (fun h4=>?_)
 .exact fF 6 (by unfold cP;rw[d1,vd h4];rfl)
 obtain⟨p,rfl⟩:∃p:Nat,bt=p:=⟨bt.toNat,by have h4:¬bt<0:=h4;omega⟩
 refine aJ (fun h5=>?_) (fun h5=>?_)
 .have h5:(p:Int)>=((l.map Obj.enc).length:Int):=h5;rw[LW]at h5;exact fF 6 (by unfold cP;rw[d1,ve h5];rfl)
 have h5:¬(p:Int)>=((l.map Obj.enc).length:Int):=h5;rw[LW]at h5;have hp:p<l.length:=om;have hgp:=gU hp;refine ag hgp ?_;refine bz (fun h6=>?_) (fun h6=>?_)
 .exact fF 6 (by unfold cP;rw[d1,vf hp h6];rfl)
 have h6:l[p].ah≠0:=h6;have d2:=vg hp h6;have hR:cP b l n name p=xH b l[n] (iO l n p name) name:=by unfold cP;rw[if_pos d1,if_pos d2,XO,XO,tq hn]
 rw[hR];unfold xH;refine ag Mm ?_;refine bu (fun h7=>?_) (fun h7=>?_)
 .exact fF 11 (if_pos h7)
 have h7:l[n].ah=2:=by simpa using h7
 rw[if_neg (by rw[h7];simp)]
 refine ag Mm ?_;refine bz (fun h8=>?_) (fun h8=>?_)
 .exact fF 6 (if_pos h8)
 have h8:l[n].am≠0:=h8;rw[if_neg h8];refine hN ?_;cases b with
 |false=>exact fF 7 (if_pos rfl)
 |true=>
 rw[if_neg aK];obtain⟨es,he,y0,Ny,de⟩:=hs.en _ (XP hn);have Pd:l[n].aj.map mH=es:=by rw[he,me]
 refine Bf l n hn h7 es he om name ?_;have VR:u5 l es n name=fg es name:=xE y0 name;rw[VR,Pd];refine aJ (fun h9=>?_) (fun h9=>?_)
 .exact fF 7 (if_pos h9)
 rw[if_neg h9];refine ag Mm ?_;refine aJ (fun QT=>?_) (fun QT=>?_)
 .exact fF 15 (if_pos (by have QT:(l[n].aj.length:Int)>=8:=QT;omega))
 have QT:¬(l[n].aj.length:Int)>=8:=QT;rw[if_neg om];have XZ:yP es name=false:=by
  have h9:¬fg es name>=0:=h9;rw[<-VR]at h9;cases hb:yP es name with
  |false=>rfl
  |true=>
   exfalso;apply h9;unfold u5;rw[if_pos hb];unfold yP at hb;cases hg:es[oZ es name]? with
   |none=>rw[hg]at hb;cases hb
   |some e=>exact(de e (O9 hg)).1
 have mR:∀Q,cR (bL n Q 0 l) n=some [.aa (.val (.int .i64 l[n].ah)),.aa (.sl 1 l[n].data),.row Q 2 0 none,.aa (.val (.string l[n].target)),.aa (.val (.int .i64 l[n].aG)),.aa (.sl 4 (l[n].ak.map bp.enc)),.aa (.val (.int .i64 l[n].aM)),.aa (.val (.int .i64 l[n].am)),.aa (.val (.int .i64 l[n].up))]:=fun Q=>by rw[aT,fw,tq hn,aak,XS,jq,if_pos rfl]
 have VS:yY l n l.length= .row 2 (af (es.map cM)):=by
  unfold yY;rw[show Nat.blt n l.length=true by simpa using hn]
  show Bk.row 2 (af (match l[n]? with|some o=>o.aj|none=>[]))=_
  rw[tq hn];show Bk.row 2 (af l[n].aj)=_;rw[he];rfl
 have Ug:∀Q,lenOf (bL n Q 0 l).length 0 none=l.length:=fun Q=>fv n Q l 0
 have rm:∀Q(k:Nat),k<l.length->dt (k:Nat) (lenOf (bL n Q 0 l).length 0 none)=some k:=fun Q k hk=>bP (by rw[Ug];exact hk)
 refine yZ l hs.mU n ?_;rw[VS];refine ag (rm 1 n hn) ?_;refine ag (mR 1) ?_;refine Qx es om name 132 (fun e m K h=>QH e name h) (id:=1) rfl ?_
 refine ag (rm 1 n hn) ?_;refine ag (mR 1) ?_;have P6:oZ es name<=es.length:=(nB y0 name es.length 0 es.length om om om (fun k e hk=>absurd hk (aal k)) (fun k e hk he=>by have:=(Hy.1 he).1;omega)).1
 refine HL (es.map cM) (cM (name,(p:Int))) (oZ es name) (by rw[LW];exact P6) (by rw[LW];exact Ny) 1 2 rfl rfl rfl rfl ?_
 refine ag (rm 1 n hn) ?_;refine ag (mR 1) ?_;have l6:a7 (bL n 1 0 l) n [.aa (.val (.int .i64 l[n].ah)),.aa (.sl 1 l[n].data),.row 3 2 0 none,.aa (.val (.string l[n].target)),.aa (.val (.int .i64 l[n].aG)),.aa (.sl 4 (l[n].ak.map bp.enc)),.aa (.val (.int .i64 l[n].aM)),.aa (.val (.int .i64 l[n].am)),.aa (.val (.int .i64 l[n].up))]=bL n 3 0 l:=by have:=DZ (p:=n) (Q:=1) (Q':=3) (tq hn);rw[<-this,jq,if_pos rfl]
 have HM:(es.map cM).take (oZ es name)++cM (name,(p:Int))::(es.map cM).drop (oZ es name)=(gZ (name,(p:Int)) (l[n].aj.map mH)).map fD:=by rw[Pd,QL y0 XZ,aax,aay,abc,abD];rfl
 have iy:∀L2:List Obj,L2=iO l n p name->aw Tryz.prog 0 XI (nb Tryz.prog c105.ki (K5 (iO l n p name,0))) ⟨lB 128 [(10,cq L2)],[]⟩:=fun L2 h=>by subst h;exact⟨_,_,View.o 0 [] [] (.eq rfl .nil) (.nil _),rfl,rfl⟩
 by_cases RU:p=n
 .have Uh:cR (bL n 3 0 l) p=some [.aa (.val (.int .i64 l[p].ah)),.aa (.sl 1 l[p].data),.row 3 2 0 none,.aa (.val (.string l[p].target)),.aa (.val (.int .i64 l[p].aG)),.aa (.sl 4 (l[p].ak.map bp.enc)),.aa (.val (.int .i64 l[p].aM)),.aa (.val (.int .i64 l[p].am)),.aa (.val (.int .i64 l[p].up))]:=by rw[aT,fw,tq hp,aak,XS,jq,if_pos RU]
  have nn:a7 (a7 (bL n 1 0 l) n [.aa (.val (.int .i64 l[n].ah)),.aa (.sl 1 l[n].data),.row 3 2 0 none,.aa (.val (.string l[n].target)),.aa (.val (.int .i64 l[n].aG)),.aa (.sl 4 (l[n].ak.map bp.enc)),.aa (.val (.int .i64 l[n].aM)),.aa (.val (.int .i64 l[n].am)),.aa (.val (.int .i64 l[n].up))]) p [.aa (.val (.int .i64 l[p].ah)),.aa (.sl 1 l[p].data),.row 3 2 0 none,.aa (.val (.string l[p].target)),.aa (.val (.int .i64 l[p].aG)),.aa (.sl 4 (l[p].ak.map bp.enc)),.aa (.val (.int .i64 l[p].aM)),.aa (.val (.int .i64 (IntKind.i64.wrap (l[p].am+1)))),.aa (.val (.int .i64 l[p].up))]=bL n 3 0 (l.set p {l[p]with am:=IntKind.i64.wrap (l[p].am+1)}):=by
   rw[l6];have:=og (p:=n) (Q:=3) (o:={l[p]with am:=IntKind.i64.wrap (l[p].am+1)}) hp
   rw[<-this,jq,if_pos RU]
  have d8:∀l2:List Obj,l2.length=l.length->dt (p:Nat) (lenOf (bL n 3 0 l2).length 0 none)=some p:=fun l2 h=>bP (by rw[show lenOf (bL n 3 0 l2).length 0 none=l2.length from fv n 3 l2 0,h];exact hp)
  have tL:cR (a7 (a7 (bL n 1 0 l) n [.aa (.val (.int .i64 l[n].ah)),.aa (.sl 1 l[n].data),.row 3 2 0 none,.aa (.val (.string l[n].target)),.aa (.val (.int .i64 l[n].aG)),.aa (.sl 4 (l[n].ak.map bp.enc)),.aa (.val (.int .i64 l[n].aM)),.aa (.val (.int .i64 l[n].am)),.aa (.val (.int .i64 l[n].up))]) p [.aa (.val (.int .i64 l[p].ah)),.aa (.sl 1 l[p].data),.row 3 2 0 none,.aa (.val (.string l[p].target)),.aa (.val (.int .i64 l[p].aG)),.aa (.sl 4 (l[p].ak.map bp.enc)),.aa (.val (.int .i64 l[p].aM)),.aa (.val (.int .i64 (IntKind.i64.wrap (l[p].am+1)))),.aa (.val (.int .i64 l[p].up))]) p=some [.aa (.val (.int .i64 l[p].ah)),.aa (.sl 1 l[p].data),.row 3 2 0 none,.aa (.val (.string l[p].target)),.aa (.val (.int .i64 l[p].aG)),.aa (.sl 4 (l[p].ak.map bp.enc)),.aa (.val (.int .i64 l[p].aM)),.aa (.val (.int .i64 (IntKind.i64.wrap (l[p].am+1)))),.aa (.val (.int .i64 l[p].up))]:=by
   rw[bg,aT,QO (by rw[l6,fv];exact hp)]
  refine ag (by rw[l6];exact d8 l rfl:dt (p:Nat) (lenOf (a7 (bL n 1 0 l) n [.aa (.val (.int .i64 l[n].ah)),.aa (.sl 1 l[n].data),.row 3 2 0 none,.aa (.val (.string l[n].target)),.aa (.val (.int .i64 l[n].aG)),.aa (.sl 4 (l[n].ak.map bp.enc)),.aa (.val (.int .i64 l[n].aM)),.aa (.val (.int .i64 l[n].am)),.aa (.val (.int .i64 l[n].up))]).length 0 none)=some p) ?_
  refine ag (by rw[l6];exact Uh:cR (a7 (bL n 1 0 l) n [.aa (.val (.int .i64 l[n].ah)),.aa (.sl 1 l[n].data),.row 3 2 0 none,.aa (.val (.string l[n].target)),.aa (.val (.int .i64 l[n].aG)),.aa (.sl 4 (l[n].ak.map bp.enc)),.aa (.val (.int .i64 l[n].aM)),.aa (.val (.int .i64 l[n].am)),.aa (.val (.int .i64 l[n].up))]) p=some [.aa (.val (.int .i64 l[p].ah)),.aa (.sl 1 l[p].data),.row 3 2 0 none,.aa (.val (.string l[p].target)),.aa (.val (.int .i64 l[p].aG)),.aa (.sl 4 (l[p].ak.map bp.enc)),.aa (.val (.int .i64 l[p].aM)),.aa (.val (.int .i64 l[p].am)),.aa (.val (.int .i64 l[p].up))]) ?_
  refine ag (by rw[l6];exact d8 l rfl:dt (p:Nat) (lenOf (a7 (bL n 1 0 l) n [.aa (.val (.int .i64 l[n].ah)),.aa (.sl 1 l[n].data),.row 3 2 0 none,.aa (.val (.string l[n].target)),.aa (.val (.int .i64 l[n].aG)),.aa (.sl 4 (l[n].ak.map bp.enc)),.aa (.val (.int .i64 l[n].aM)),.aa (.val (.int .i64 l[n].am)),.aa (.val (.int .i64 l[n].up))]).length 0 none)=some p) ?_
  refine ag (by rw[l6];exact Uh:cR (a7 (bL n 1 0 l) n [.aa (.val (.int .i64 l[n].ah)),.aa (.sl 1 l[n].data),.row 3 2 0 none,.aa (.val (.string l[n].target)),.aa (.val (.int .i64 l[n].aG)),.aa (.sl 4 (l[n].ak.map bp.enc)),.aa (.val (.int .i64 l[n].aM)),.aa (.val (.int .i64 l[n].am)),.aa (.val (.int .i64 l[n].up))]) p=some [.aa (.val (.int .i64 l[p].ah)),.aa (.sl 1 l[p].data),.row 3 2 0 none,.aa (.val (.string l[p].target)),.aa (.val (.int .i64 l[p].aG)),.aa (.sl 4 (l[p].ak.map bp.enc)),.aa (.val (.int .i64 l[p].aM)),.aa (.val (.int .i64 l[p].am)),.aa (.val (.int .i64 l[p].up))]) ?_
  refine ag (by rw[nn];exact d8 _ (aab ..):dt (p:Nat) (lenOf (a7 (a7 (bL n 1 0 l) n [.aa (.val (.int .i64 l[n].ah)),.aa (.sl 1 l[n].data),.row 3 2 0 none,.aa (.val (.string l[n].target)),.aa (.val (.int .i64 l[n].aG)),.aa (.sl 4 (l[n].ak.map bp.enc)),.aa (.val (.int .i64 l[n].aM)),.aa (.val (.int .i64 l[n].am)),.aa (.val (.int .i64 l[n].up))]) p [.aa (.val (.int .i64 l[p].ah)),.aa (.sl 1 l[p].data),.row 3 2 0 none,.aa (.val (.string l[p].target)),.aa (.val (.int .i64 l[p].aG)),.aa (.sl 4 (l[p].ak.map bp.enc)),.aa (.val (.int .i64 l[p].aM)),.aa (.val (.int .i64 (IntKind.i64.wrap (l[p].am+1)))),.aa (.val (.int .i64 l[p].up))]).length 0 none)=some p) ?_
  refine ag tL ?_;refine bz (fun hk=>?_) (fun hk=>?_)
  .have hk:l[p].ah=2:=hk;have K6:a7 (a7 (a7 (bL n 1 0 l) n [.aa (.val (.int .i64 l[n].ah)),.aa (.sl 1 l[n].data),.row 3 2 0 none,.aa (.val (.string l[n].target)),.aa (.val (.int .i64 l[n].aG)),.aa (.sl 4 (l[n].ak.map bp.enc)),.aa (.val (.int .i64 l[n].aM)),.aa (.val (.int .i64 l[n].am)),.aa (.val (.int .i64 l[n].up))]) p [.aa (.val (.int .i64 l[p].ah)),.aa (.sl 1 l[p].data),.row 3 2 0 none,.aa (.val (.string l[p].target)),.aa (.val (.int .i64 l[p].aG)),.aa (.sl 4 (l[p].ak.map bp.enc)),.aa (.val (.int .i64 l[p].aM)),.aa (.val (.int .i64 (IntKind.i64.wrap (l[p].am+1)))),.aa (.val (.int .i64 l[p].up))]) p [.aa (.val (.int .i64 l[p].ah)),.aa (.sl 1 l[p].data),.row 3 2 0 none,.aa (.val (.string l[p].target)),.aa (.val (.int .i64 l[p].aG)),.aa (.sl 4 (l[p].ak.map bp.enc)),.aa (.val (.int .i64 l[p].aM)),.aa (.val (.int .i64 (IntKind.i64.wrap (l[p].am+1)))),.aa (.val (.int .i64 (n:Nat)))]=bL n 3 0 (l.set p {l[p]with am:=IntKind.i64.wrap (l[p].am+1),up:=(n:Int)}):=by
    rw[nn];have:=og (p:=n) (Q:=3) (l:=l.set p {l[p]with am:=IntKind.i64.wrap (l[p].am+1)}) (k:=p) (o:={l[p]with am:=IntKind.i64.wrap (l[p].am+1),up:=(n:Int)}) (by rw[aab];exact hp)
    rw[abp]at this;rw[<-this,jq,if_pos RU]
   refine ag (by rw[nn];exact d8 _ (aab ..):dt (p:Nat) (lenOf (a7 (a7 (bL n 1 0 l) n [.aa (.val (.int .i64 l[n].ah)),.aa (.sl 1 l[n].data),.row 3 2 0 none,.aa (.val (.string l[n].target)),.aa (.val (.int .i64 l[n].aG)),.aa (.sl 4 (l[n].ak.map bp.enc)),.aa (.val (.int .i64 l[n].aM)),.aa (.val (.int .i64 l[n].am)),.aa (.val (.int .i64 l[n].up))]) p [.aa (.val (.int .i64 l[p].ah)),.aa (.sl 1 l[p].data),.row 3 2 0 none,.aa (.val (.string l[p].target)),.aa (.val (.int .i64 l[p].aG)),.aa (.sl 4 (l[p].ak.map bp.enc)),.aa (.val (.int .i64 l[p].aM)),.aa (.val (.int .i64 (IntKind.i64.wrap (l[p].am+1)))),.aa (.val (.int .i64 l[p].up))]).length 0 none)=some p) ?_
   refine ag tL ?_;obtain⟨o2,nV,eE⟩:=qt (name:=name) hn hp HM (q:={l[p]with am:=IntKind.i64.wrap (l[p].am+1),up:=(n:Int)}) (by rw[if_pos hk])
   refine⟨_,View.o 4 [] [0,3] ?_ (.nil _),iy _ eE⟩
   iterate 10 refine .aq ?_
   refine .put (.rv (.one (.eu (p:=none) (F7 (Z:=fun k=>bs [0,3] k=true) rfl (by show some (Bk.row 9 _)=some (Bk.row 9 _);congr 1;exact congrArg _ K6) rfl rfl nV)))) ?_
   repeat(first|exact .nil|refine .aq ?_)
  .have hk:l[p].ah≠2:=hk;obtain⟨o2,nV,eE⟩:=qt (name:=name) hn hp HM (q:={l[p]with am:=IntKind.i64.wrap (l[p].am+1)}) (by rw[if_neg hk])
   refine⟨_,View.o 4 [] [0,3] ?_ (.nil _),iy _ eE⟩
   iterate 10 refine .aq ?_
   refine .put (.rv (.one (.eu (p:=none) (F7 (Z:=fun k=>bs [0,3] k=true) rfl (by show some (Bk.row 9 _)=some (Bk.row 9 _);congr 1;exact congrArg _ nn) rfl rfl nV)))) ?_
   repeat(first|exact .nil|refine .aq ?_)
 .have Uh:cR (bL n 3 0 l) p=some [.aa (.val (.int .i64 l[p].ah)),.aa (.sl 1 l[p].data),.aa (.sl 2 l[p].aj),.aa (.val (.string l[p].target)),.aa (.val (.int .i64 l[p].aG)),.aa (.sl 4 (l[p].ak.map bp.enc)),.aa (.val (.int .i64 l[p].aM)),.aa (.val (.int .i64 l[p].am)),.aa (.val (.int .i64 l[p].up))]:=by rw[aT,fw,tq hp,aak,XS,jq,if_neg RU]
  have nn:a7 (a7 (bL n 1 0 l) n [.aa (.val (.int .i64 l[n].ah)),.aa (.sl 1 l[n].data),.row 3 2 0 none,.aa (.val (.string l[n].target)),.aa (.val (.int .i64 l[n].aG)),.aa (.sl 4 (l[n].ak.map bp.enc)),.aa (.val (.int .i64 l[n].aM)),.aa (.val (.int .i64 l[n].am)),.aa (.val (.int .i64 l[n].up))]) p [.aa (.val (.int .i64 l[p].ah)),.aa (.sl 1 l[p].data),.aa (.sl 2 l[p].aj),.aa (.val (.string l[p].target)),.aa (.val (.int .i64 l[p].aG)),.aa (.sl 4 (l[p].ak.map bp.enc)),.aa (.val (.int .i64 l[p].aM)),.aa (.val (.int .i64 (IntKind.i64.wrap (l[p].am+1)))),.aa (.val (.int .i64 l[p].up))]=bL n 3 0 (l.set p {l[p]with am:=IntKind.i64.wrap (l[p].am+1)}):=by
   rw[l6];have:=og (p:=n) (Q:=3) (o:={l[p]with am:=IntKind.i64.wrap (l[p].am+1)}) hp
   rw[<-this,jq,if_neg RU]
  have d8:∀l2:List Obj,l2.length=l.length->dt (p:Nat) (lenOf (bL n 3 0 l2).length 0 none)=some p:=fun l2 h=>bP (by rw[show lenOf (bL n 3 0 l2).length 0 none=l2.length from fv n 3 l2 0,h];exact hp)
  have tL:cR (a7 (a7 (bL n 1 0 l) n [.aa (.val (.int .i64 l[n].ah)),.aa (.sl 1 l[n].data),.row 3 2 0 none,.aa (.val (.string l[n].target)),.aa (.val (.int .i64 l[n].aG)),.aa (.sl 4 (l[n].ak.map bp.enc)),.aa (.val (.int .i64 l[n].aM)),.aa (.val (.int .i64 l[n].am)),.aa (.val (.int .i64 l[n].up))]) p [.aa (.val (.int .i64 l[p].ah)),.aa (.sl 1 l[p].data),.aa (.sl 2 l[p].aj),.aa (.val (.string l[p].target)),.aa (.val (.int .i64 l[p].aG)),.aa (.sl 4 (l[p].ak.map bp.enc)),.aa (.val (.int .i64 l[p].aM)),.aa (.val (.int .i64 (IntKind.i64.wrap (l[p].am+1)))),.aa (.val (.int .i64 l[p].up))]) p=some [.aa (.val (.int .i64 l[p].ah)),.aa (.sl 1 l[p].data),.aa (.sl 2 l[p].aj),.aa (.val (.string l[p].target)),.aa (.val (.int .i64 l[p].aG)),.aa (.sl 4 (l[p].ak.map bp.enc)),.aa (.val (.int .i64 l[p].aM)),.aa (.val (.int .i64 (IntKind.i64.wrap (l[p].am+1)))),.aa (.val (.int .i64 l[p].up))]:=by
   rw[bg,aT,QO (by rw[l6,fv];exact hp)]
  refine ag (by rw[l6];exact d8 l rfl:dt (p:Nat) (lenOf (a7 (bL n 1 0 l) n [.aa (.val (.int .i64 l[n].ah)),.aa (.sl 1 l[n].data),.row 3 2 0 none,.aa (.val (.string l[n].target)),.aa (.val (.int .i64 l[n].aG)),.aa (.sl 4 (l[n].ak.map bp.enc)),.aa (.val (.int .i64 l[n].aM)),.aa (.val (.int .i64 l[n].am)),.aa (.val (.int .i64 l[n].up))]).length 0 none)=some p) ?_
  refine ag (by rw[l6];exact Uh:cR (a7 (bL n 1 0 l) n [.aa (.val (.int .i64 l[n].ah)),.aa (.sl 1 l[n].data),.row 3 2 0 none,.aa (.val (.string l[n].target)),.aa (.val (.int .i64 l[n].aG)),.aa (.sl 4 (l[n].ak.map bp.enc)),.aa (.val (.int .i64 l[n].aM)),.aa (.val (.int .i64 l[n].am)),.aa (.val (.int .i64 l[n].up))]) p=some [.aa (.val (.int .i64 l[p].ah)),.aa (.sl 1 l[p].data),.aa (.sl 2 l[p].aj),.aa (.val (.string l[p].target)),.aa (.val (.int .i64 l[p].aG)),.aa (.sl 4 (l[p].ak.map bp.enc)),.aa (.val (.int .i64 l[p].aM)),.aa (.val (.int .i64 l[p].am)),.aa (.val (.int .i64 l[p].up))]) ?_
  refine ag (by rw[l6];exact d8 l rfl:dt (p:Nat) (lenOf (a7 (bL n 1 0 l) n [.aa (.val (.int .i64 l[n].ah)),.aa (.sl 1 l[n].data),.row 3 2 0 none,.aa (.val (.string l[n].target)),.aa (.val (.int .i64 l[n].aG)),.aa (.sl 4 (l[n].ak.map bp.enc)),.aa (.val (.int .i64 l[n].aM)),.aa (.val (.int .i64 l[n].am)),.aa (.val (.int .i64 l[n].up))]).length 0 none)=some p) ?_
  refine ag (by rw[l6];exact Uh:cR (a7 (bL n 1 0 l) n [.aa (.val (.int .i64 l[n].ah)),.aa (.sl 1 l[n].data),.row 3 2 0 none,.aa (.val (.string l[n].target)),.aa (.val (.int .i64 l[n].aG)),.aa (.sl 4 (l[n].ak.map bp.enc)),.aa (.val (.int .i64 l[n].aM)),.aa (.val (.int .i64 l[n].am)),.aa (.val (.int .i64 l[n].up))]) p=some [.aa (.val (.int .i64 l[p].ah)),.aa (.sl 1 l[p].data),.aa (.sl 2 l[p].aj),.aa (.val (.string l[p].target)),.aa (.val (.int .i64 l[p].aG)),.aa (.sl 4 (l[p].ak.map bp.enc)),.aa (.val (.int .i64 l[p].aM)),.aa (.val (.int .i64 l[p].am)),.aa (.val (.int .i64 l[p].up))]) ?_
  refine ag (by rw[nn];exact d8 _ (aab ..):dt (p:Nat) (lenOf (a7 (a7 (bL n 1 0 l) n [.aa (.val (.int .i64 l[n].ah)),.aa (.sl 1 l[n].data),.row 3 2 0 none,.aa (.val (.string l[n].target)),.aa (.val (.int .i64 l[n].aG)),.aa (.sl 4 (l[n].ak.map bp.enc)),.aa (.val (.int .i64 l[n].aM)),.aa (.val (.int .i64 l[n].am)),.aa (.val (.int .i64 l[n].up))]) p [.aa (.val (.int .i64 l[p].ah)),.aa (.sl 1 l[p].data),.aa (.sl 2 l[p].aj),.aa (.val (.string l[p].target)),.aa (.val (.int .i64 l[p].aG)),.aa (.sl 4 (l[p].ak.map bp.enc)),.aa (.val (.int .i64 l[p].aM)),.aa (.val (.int .i64 (IntKind.i64.wrap (l[p].am+1)))),.aa (.val (.int .i64 l[p].up))]).length 0 none)=some p) ?_
  refine ag tL ?_;refine bz (fun hk=>?_) (fun hk=>?_)
  .have hk:l[p].ah=2:=hk;have K6:a7 (a7 (a7 (bL n 1 0 l) n [.aa (.val (.int .i64 l[n].ah)),.aa (.sl 1 l[n].data),.row 3 2 0 none,.aa (.val (.string l[n].target)),.aa (.val (.int .i64 l[n].aG)),.aa (.sl 4 (l[n].ak.map bp.enc)),.aa (.val (.int .i64 l[n].aM)),.aa (.val (.int .i64 l[n].am)),.aa (.val (.int .i64 l[n].up))]) p [.aa (.val (.int .i64 l[p].ah)),.aa (.sl 1 l[p].data),.aa (.sl 2 l[p].aj),.aa (.val (.string l[p].target)),.aa (.val (.int .i64 l[p].aG)),.aa (.sl 4 (l[p].ak.map bp.enc)),.aa (.val (.int .i64 l[p].aM)),.aa (.val (.int .i64 (IntKind.i64.wrap (l[p].am+1)))),.aa (.val (.int .i64 l[p].up))]) p [.aa (.val (.int .i64 l[p].ah)),.aa (.sl 1 l[p].data),.aa (.sl 2 l[p].aj),.aa (.val (.string l[p].target)),.aa (.val (.int .i64 l[p].aG)),.aa (.sl 4 (l[p].ak.map bp.enc)),.aa (.val (.int .i64 l[p].aM)),.aa (.val (.int .i64 (IntKind.i64.wrap (l[p].am+1)))),.aa (.val (.int .i64 (n:Nat)))]=bL n 3 0 (l.set p {l[p]with am:=IntKind.i64.wrap (l[p].am+1),up:=(n:Int)}):=by
    rw[nn];have:=og (p:=n) (Q:=3) (l:=l.set p {l[p]with am:=IntKind.i64.wrap (l[p].am+1)}) (k:=p) (o:={l[p]with am:=IntKind.i64.wrap (l[p].am+1),up:=(n:Int)}) (by rw[aab];exact hp)
    rw[abp]at this;rw[<-this,jq,if_neg RU]
   refine ag (by rw[nn];exact d8 _ (aab ..):dt (p:Nat) (lenOf (a7 (a7 (bL n 1 0 l) n [.aa (.val (.int .i64 l[n].ah)),.aa (.sl 1 l[n].data),.row 3 2 0 none,.aa (.val (.string l[n].target)),.aa (.val (.int .i64 l[n].aG)),.aa (.sl 4 (l[n].ak.map bp.enc)),.aa (.val (.int .i64 l[n].aM)),.aa (.val (.int .i64 l[n].am)),.aa (.val (.int .i64 l[n].up))]) p [.aa (.val (.int .i64 l[p].ah)),.aa (.sl 1 l[p].data),.aa (.sl 2 l[p].aj),.aa (.val (.string l[p].target)),.aa (.val (.int .i64 l[p].aG)),.aa (.sl 4 (l[p].ak.map bp.enc)),.aa (.val (.int .i64 l[p].aM)),.aa (.val (.int .i64 (IntKind.i64.wrap (l[p].am+1)))),.aa (.val (.int .i64 l[p].up))]).length 0 none)=some p) ?_
   refine ag tL ?_;obtain⟨o2,nV,eE⟩:=qt (name:=name) hn hp HM (q:={l[p]with am:=IntKind.i64.wrap (l[p].am+1),up:=(n:Int)}) (by rw[if_pos hk])
   refine⟨_,View.o 4 [] [0,3] ?_ (.nil _),iy _ eE⟩
   iterate 10 refine .aq ?_
   refine .put (.rv (.one (.eu (p:=none) (F7 (Z:=fun k=>bs [0,3] k=true) rfl (by show some (Bk.row 9 _)=some (Bk.row 9 _);congr 1;exact congrArg _ K6) rfl rfl nV)))) ?_
   repeat(first|exact .nil|refine .aq ?_)
  .have hk:l[p].ah≠2:=hk;obtain⟨o2,nV,eE⟩:=qt (name:=name) hn hp HM (q:={l[p]with am:=IntKind.i64.wrap (l[p].am+1)}) (by rw[if_neg hk])
   refine⟨_,View.o 4 [] [0,3] ?_ (.nil _),iy _ eE⟩
   iterate 10 refine .aq ?_
   refine .put (.rv (.one (.eu (p:=none) (F7 (Z:=fun k=>bs [0,3] k=true) rfl (by show some (Bk.row 9 _)=some (Bk.row 9 _);congr 1;exact congrArg _ nn) rfl rfl nV)))) ?_
   repeat(first|exact .nil|refine .aq ?_)
theorem HN(l:List Obj)(hs:vh l)(cE bt:Int)(name:ByteArray)(b:Bool)(hN:∀{m:Mem}{K:CV->Mem->Prop},K (aA b) m->ar Tryz.prog 99 [dk name] m K){m:Mem}{K:CV->Mem->Prop}(h:K (.bG [lM (cP b l cE name bt).1,cD (cP b l cE name bt).2]) m):ar Tryz.prog 105 [cq l,an .i64 cE,dk name,an .i64 bt] m K:=by
 refine aY (K0:=fun r m=>r= .bG [lM (cP b l cE name bt).1,cD (cP b l cE name bt).2]/\m=[]) (bK (cf Tryz.func105 l105 (Bl l hs cE bt name b hN)) fun r m1⟨r',m',hv,h1,h2⟩=>⟨r',m',hv,h1,h2⟩) (by simp[cq,an,dk,CV.c7,CC.c7]) fun r m1 hr=>?_
 obtain⟨rfl,rfl⟩:=hr;exact⟨_,cw.self rfl,h⟩
end Go.Proofs.YthagjdhjmamakaaGreatDoor
