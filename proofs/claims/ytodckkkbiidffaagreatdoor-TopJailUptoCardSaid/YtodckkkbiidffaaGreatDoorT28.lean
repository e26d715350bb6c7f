/- Part 28 of 39: what the law stands on. -/
import Derived.Test.YtodckkkbiidffaaGreatDoorT16
import Derived.Test.YtodckkkbiidffaaGreatDoorT18
import Derived.Test.YtodckkkbiidffaaGreatDoorT27
set_option linter.unusedVariables false
set_option linter.unusedSimpArgs false
set_option linter.unnecessarySimpa false
set_option maxRecDepth 100000
set_option maxHeartbeats 64000000
namespace Go.Proofs.YtodckkkbiidffaaGreatDoor
open Go.AM Go.ChangeShapes Go.WideShapes Go.ChangeAt Go.RowKit
theorem gH{mk:Prop}{b:Nat}:∀(vs:List Value)(o:Nat)(w:World)(cur:Array Value),kQ mk w b cur->o+vs.length<=cur.size->
  ∃fH,kQ mk (w.setCells b o vs) b fH/\jw w (w.setCells b o vs) b/\fH.size=cur.size/\∀k,fH[k]? =if o<=k/\k<o+vs.length then vs[k-o]? else cur[k]?
 | [],o,w,cur,hc,_=>⟨cur,hc,⟨fun _ _=>rfl,rfl,rfl,rfl,rfl⟩,rfl,fun k=>by rw[if_neg aI]⟩
 |v::r,o,w,cur,hc,hle=>by
  have Bv:kQ mk (w.setCell ⟨b,o,none⟩ v) b (cur.setIfInBounds o v):=by
   obtain⟨ty,fr,hb,hf⟩:=hc;refine⟨ty,fr,?_,by simpa using hf⟩
   simp[World.setCell,aaG,hb]
  have xe:jw w (w.setCell ⟨b,o,none⟩ v) b:=⟨fun b hb=>by simp[World.setCell,aaG,Ne.symm hb],aI,rfl,rfl,rfl⟩
  simp only[Wo]at hle;obtain⟨fH,h1,ht,h2,h3⟩:=gH (mk:=mk) r (o+1) _ _ Bv (by simp;omega)
  refine⟨fH,h1,⟨fun b hb=>(ht.heap b hb).trans (xe.heap b hb),ht.size.trans xe.size,ht.os,ht.tape,ht.output⟩,by rw[h2];simp,fun k=>?_⟩
  rw[h3 k];simp only[Wo];by_cases hk:k=o
  .subst hk;rw[if_neg om,if_pos om,abc om];simp
  .by_cases oh:o+1<=k/\k<o+1+r.length
   .rw[if_pos oh,if_pos om];obtain⟨j,rfl⟩:∃j,k=o+1+j:=⟨k-(o+1),om⟩;rw[show o+1+j-(o+1)=j by omega,show o+1+j-o=j+1 by omega,aaU]
   .rw[if_neg oh,if_neg om,abo om]
theorem CP{S:List (List Dt)}{i:Nat}{cs:List CC}(h:(af S)[i]? =some cs):∃ds,S[i]? =some ds/\cs=ds.map .aa:=by simp only[af,NO]at h;obtain⟨ds,h1,h2⟩:=Yx.1 h;exact⟨ds,h1,h2.symm⟩
theorem EL{S:List (List Dt)}{e:List Dt}{i:Nat}(hi:i<S.length)(k:Nat)(ds:List Dt)(h:(S.take i++e::S.drop i)[k]? =some ds):(k<i/\S[k]? =some ds)\/(k=i/\ds=e)\/(i<k/\S[k-1]? =some ds):=by
 have hl:(S.take i).length=i:=by rw[Z3];omega
 rcases abI k i with h1|h1|h1
 .rw[Tz om,aaj,if_pos h1]at h;exact .inl ⟨h1,h⟩
 .subst h1;rw[SF om,hl,abB]at h;exact .inr (.inl ⟨rfl,by simpa using h.symm⟩)
 .rw[SF om,hl,show k-i=(k-1-i)+1 by omega,aaU,aat,show i+(k-1-i)=k-1 by omega]at h
  exact .inr (.inr ⟨h1,h⟩)
theorem Gq(S:List (List Dt))(e:List Dt)(i:Nat)(hi:i<S.length)(hl:S.length<=4194304):aq Tryz.prog 140 [.rv (.one (.row 0 2 0 none)),an .i64 (i:Nat),.rv (.one (.row 1 2 0 none))] [.row 2 (af S),.row 2 (af [e])]
  (fun r m=>r= .rv (.one (.row 2 2 0 none))/\m=[.aO,.aO,.row 2 (af (S.take i++e::S.drop i))]):=by
 refine⟨⟨Tryz.f140,Tryz.func140,rfl,by decide⟩,fun ρ w vs hM vg hd=>?_⟩
 obtain⟨v0,h0,d0⟩:=hd 0 _ rfl;obtain⟨v1,h1,d1⟩:=hd 1 _ rfl;obtain⟨v2,h2,d2⟩:=hd 2 _ rfl;have A7:vs=[v0,v1,v2]:=by
  match vs,vg with
  | [a,b,c],_=>simp at h0 h1 h2;rw[h0,h1,h2]
 have BJ:v1= .int .i64 (i:Nat):=(bJ d1).1;obtain⟨_,_,_,aaz,Ps,a0,Qd,Qp⟩:=(show bq ρ w none (.row 0 2 0 none) v0 from d0);obtain⟨_,_,_,RH,Lh,a1,xj,Uo⟩:=(show bq ρ w none (.row 1 2 0 none) v2 from d2);obtain⟨Wq,_,_,Wr,Ws⟩:=hM.bk 0 _ rfl;obtain⟨Wt,_,_,Rz,Wu⟩:=hM.bk 1 _ rfl;have SG:(ρ.aP (.ap 0)).len=S.length:=by rw[<-Wq];simp[af]
 have SH:(ρ.aP (.ap 1)).len=1:=by rw[<-Wt];simp[af]
 have JD:0<(ρ.aP (.ap 0)).cap:=om;have D1:0<(ρ.aP (.ap 1)).cap:=om;obtain⟨JE,wD,zA,Mh⟩:=Ws JD;obtain⟨JF,JG,RJ,Mi⟩:=Wu D1;have Qp:=Qp JD;have Uo:=Uo D1;have JI:Live ρ [.row 2 (af S),.row 2 (af [e])] (.ap 0):=⟨_,rfl,aI,fun _=>JD⟩
 have SI:Live ρ [.row 2 (af S),.row 2 (af [e])] (.ap 1):=⟨_,rfl,aI,fun _=>D1⟩
 have Ul:(ρ.aP (.ap 1)).b≠(ρ.aP (.ap 0)).b:=fun he=>by have:=hM.inj _ _ SI JI he;cases this
 simp only[abu,aa9,Nat.zero_mul,abC]at Qd xj Qp Uo;have SJ:ρ.n=2:=hM.n;have Up:=hM;generalize OP:ρ.aP (.ap 0)=L0 at*
 generalize XK:ρ.aP (.ap 1)=L1 at*
 obtain⟨b,au,len,cap⟩:=L0;obtain⟨vb,wE,aaA,Pu⟩:=L1;simp only at*
 subst SG SH;have Pv:=wD.lt;have Qq:∀(k:Nat)(ds:List Dt),S[k]? =some ds->ds.length=2:=fun k ds hk=>by
  have:=Wr (ds.map .aa) (NQ (i:=k) (by simp[af,hk]))
  simpa using this
 have pX:e.length=2:=by
  have:=Rz (e.map .aa) (by simp[af])
  simpa using this
 obtain⟨cs,SK⟩:∃cs,cs=(JE.toList.drop au).take (S.length*2):=⟨_,rfl⟩;have gT:cs.length=S.length*2:=by have:=aaZ (xs:=JE);rw[SK,Z3,aaC];omega
 have Qe:∀j,j<S.length*2->cs[j]? =JE[au+j]? :=fun j hj=>by rw[SK,aaj,if_pos hj,aat,aa8]
 obtain⟨vv,SL⟩:∃vv,vv=(JF.toList.drop wE).take 2:=⟨_,rfl⟩;have yi:vv.length=2:=by have:=aaZ (xs:=JF);rw[SL,Z3,aaC];omega
 have Yi:∀j,j<2->vv[j]? =JF[wE+j]? :=fun j hj=>by rw[SL,aaj,if_pos hj,aat,aa8]
 have JJ:∀(k:Nat)(ds:List Dt)(j:Nat)(d:Dt),S[k]? =some ds->ds[j]? =some d->∃u,cs[k*2+j]? =some u/\cZ ρ.S w d u:=fun k ds j d hk hj=>by
  have fj:=(Gf.1 hk).1;have lG:=(Gf.1 hj).1;rw[Qq k ds hk]at lG;obtain⟨u,hu,b8⟩:=Mh k (ds.map .aa) j (.aa d) (by simp[af,hk]) (by simp[hj])
  exact⟨u,by rw[Qe _ om,<-aao];exact hu,b8⟩
 have NR:∀(j:Nat)(d:Dt),e[j]? =some d->∃u,vv[j]? =some u/\cZ ρ.S w d u:=fun j d hj=>by
  have lG:=(Gf.1 hj).1;rw[pX]at lG;obtain⟨u,hu,b8⟩:=Mi 0 (e.map .aa) j (.aa d) (by simp[af]) (by simp[hj])
  exact⟨u,by rw[Yi _ lG];simpa using hu,b8⟩
 have NS:∀v∈cs,v.oneCell'=true:=fun v hv=>by
  obtain⟨j,hj⟩:=Un hv;have lG:=(Gf.1 hj).1;have hk:j/2<S.length:=om;have A5:=Qq (j/2) S[j/2] (sA hk);obtain⟨u,hu,b8⟩:=JJ (j/2) S[j/2] (j%2) (S[j/2][j%2]'(by omega)) (sA hk) (sA _)
  rw[show j/2*2+j%2=j by omega,hj]at hu
  cases hu;exact b8.one
 have NT:∀v∈vv,v.oneCell'=true:=fun v hv=>by
  obtain⟨j,hj⟩:=Un hv;have lG:=(Gf.1 hj).1;obtain⟨u,hu,b8⟩:=NR j (e[j]'(by omega)) (sA _)
  rw[hj]at hu;cases hu;exact b8.one
 have xy:∀(j:Nat)(v:Value),cs[j]? =some v->w.cell? ⟨b,au+j,none⟩=some v:=fun j v hj=>by
  rw[wD.cell,<-Qe j (by rw[<-gT];exact(Gf.1 hj).1)];exact hj
 have xz:∀(j:Nat)(v:Value),vv[j]? =some v->w.cell? ⟨vb,wE+j,none⟩=some v:=fun j v hj=>by
  rw[JG.cell,<-Yi j (by rw[<-yi];exact(Gf.1 hj).1)];exact hj
 have ew:vs.toArray= #[.slice (some ⟨b,au,none⟩) S.length cap,.int .i64 (i:Nat),.slice (some ⟨vb,wE,none⟩) 1 Pu]:=by rw[A7,Qd,BJ,xj,Qp,Uo]
 rw[ew];have Ak:∀(w':World)(l:AM.uW)(fH:Array Value),hB ρ w (ρ.move l fun _ _=>.sub 0 0 0) w'->(∀k,k<i*2->fH[l.au+k]? =cs[k]?)->(∀k,k<2->fH[l.au+(i*2+k)]? =vv[k]?)->(∀k,k<(S.length-i)*2->fH[l.au+((i+1)*2+k)]? =cs[i*2+k]?)->
   ∀(k:Nat)Bf(j:Nat)c,(af (S.take i++e::S.drop i))[k]? =some Bf->Bf[j]? =some c->∃u,fH[l.au+k*2+j]? =some u/\bq (ρ.move l fun _ _=>.sub 0 0 0) w' (some (ρ.n,k,j)) c u:=by
  intro w' l fH g q1 q2 q3 k Bf j c hk hj;obtain⟨ds,HV,rfl⟩:=CP hk;rw[NO]at hj;obtain⟨d,vd,rfl⟩:=Yx.1 hj;have lG:=(Gf.1 vd).1;rcases EL hi k ds HV with⟨Qi,hS⟩|⟨rfl,rfl⟩|⟨Qi,hS⟩
  .rw[Qq k ds hS]at lG;obtain⟨u,hu,b8⟩:=JJ k ds j d hS vd;exact⟨u,by rw[aao,q1 _ om];exact hu,b8.mono g.S g.heap⟩
  .rw[pX]at lG;obtain⟨u,hu,b8⟩:=NR j d vd;exact⟨u,by rw[aao,q2 _ lG];exact hu,b8.mono g.S g.heap⟩
  .rw[Qq _ ds hS]at lG;obtain⟨u,hu,b8⟩:=JJ (k-1) ds j d hS vd;have fj:=(Gf.1 hS).1;refine⟨u,?_,b8.mono g.S g.heap⟩;rw[aao,show k*2+j=(i+1)*2+((k-1-i)*2+j) by omega,q3 _ om,show i*2+((k-1-i)*2+j)=(k-1)*2+j by omega]
   exact hu
 have Ek:(af (S.take i++e::S.drop i)).length=S.length+1:=by simp[af];omega
 have A8:∀cs,cs∈af (S.take i++e::S.drop i)->cs.length=2:=fun Bf hm=>by
  obtain⟨k,hk⟩:=Un hm;obtain⟨ds,HV,rfl⟩:=CP hk;rw[KB];rcases EL hi k ds HV with⟨_,hS⟩|⟨_,rfl⟩|⟨_,hS⟩
  .exact Qq _ _ hS
  .exact pX
  .exact Qq _ _ hS
 have gS:∀(k:Nat)Bf(j:Nat)s el,(af (S.take i++e::S.drop i))[k]? =some Bf->Bf[j]? =some (.gh s el)->False:=fun k Bf j s el hk hj=>by obtain⟨ds,_,rfl⟩:=CP hk;rw[NO]at hj;obtain⟨d,_,h⟩:=Yx.1 hj;cases h
 have nv:([.aO,.aO]:Mem).length=([.row 2 (af S),.row 2 (af [e])]:Mem).length:=rfl;have ur:∀(id:Nat)bk,([.aO,.aO]:Mem)[id]? =some bk->bk= .aO\/(([.row 2 (af S),.row 2 (af [e])]:Mem)[id]? =some bk/\¬(id=0\/id=1)):=fun id bk h=>by
  match id,h with
  |0,h=>cases h;exact .inl rfl
  |1,h=>cases h;exact .inl rfl
  |id+2,h=>simp at h
 have Al:∀k,(cs.drop (i*2))[k]? =cs[i*2+k]? :=fun k=>by rw[aat]
 have kj:(cs.drop (i*2)).length=(S.length-i)*2:=by rw[aaC,gT,acf]
 by_cases l8:S.length+1<=cap
 ·
  obtain⟨ty0,fr0,hh0,aaD,aaE,aaF⟩:=id wD;obtain⟨ty1,fr1,Yj,aaI,aaJ,SM⟩:=id JG;have SM:fr1.2<=JF.size:=by
   rcases SM with h|h
   .cases h
   .exact h
  have xx:∀j,j<(S.length+1)*2->(w.cell? ⟨b,au+j,none⟩).isSome=true:=fun j hj=>by rw[wD.cell,aaO om];rfl
  have vr:=yh b au S.length cap i vb wE Pu cs vv w hi l8 (by unfold maxLen at Ps;omega) Ul gT yi xy xx (fun j hj=>wD.nZ om) xz NS NT ty1 ty0 JF.size JE.size
   (by simp[World.shape?,Yj]) (by simp[World.shape?,hh0]) om (JG.nZ om) (by simp only[World.frozen?,Yj];simp;omega)
  refine vr.mono ?_;rintro e' w' ⟨rfl,rfl⟩;obtain⟨c1,Bv,xe,Ql,iP⟩:=gH (cs.drop (i*2)) (au+(i+1)*2) w.drew JE (wD.dv rfl) (by rw[kj];omega)
  obtain⟨c2,tt,tp,KQ,oh⟩:=gH vv (au+i*2) _ c1 Bv (by rw[yi];omega)
  have hT:jw w ((w.drew.setCells b (au+(i+1)*2) (cs.drop (i*2))).setCells b (au+i*2) vv) b:=
   ⟨fun x hx=>((tp.heap x hx).trans (xe.heap x hx)).trans rfl,(tp.size.trans xe.size).trans rfl,(tp.os.trans xe.os).trans rfl,(tp.tape.trans xe.tape).trans rfl,(tp.output.trans xe.output).trans rfl⟩
  obtain⟨kJ,hX⟩:=hM.move (w':=(w.drew.setCells b (au+(i+1)*2) (cs.drop (i*2))).setCells b (au+i*2) vv) (m1:=[.aO,.aO]) (D:=fun id=>id=0\/id=1) (esz:=2) (E:=af (S.take i++e::S.drop i)) (l:=⟨b,au,S.length+1,cap⟩) (src:=fun _ _=>.sub 0 0 0)
   nv ur (by rw[hT.size];exact Pq _) hT.os hT.tape hT.output (fun x hx eG=>hT.heap x (fun he=>eG 0 (.inl rfl) JI (by rw[OP];exact he.symm)))
   (fun _=>⟨by rw[hT.size];exact Pv,.inr ⟨0,.inl rfl,JI,by rw[OP]⟩⟩) Ek l8 Ps A8
   (fun g _=>⟨c2,tt,by rw[KQ,Ql];exact zA,Ak _ ⟨b,au,S.length+1,cap⟩ c2 g (fun k hk=>by
    show c2[au+k]? =_;rw[oh,if_neg (by rw[yi];omega),iP,if_neg om,Qe _ om]) (fun k hk=>by
    show c2[au+(i*2+k)]? =_;rw[oh,if_pos (by rw[yi];omega),show au+(i*2+k)-(au+i*2)=k by omega]) (fun k hk=>by
    show c2[au+((i+1)*2+k)]? =_;rw[oh,if_neg (by rw[yi];omega),iP,if_pos (by rw[kj];omega),show au+((i+1)*2+k)-(au+(i+1)*2)=k by omega,Al])⟩)
   (fun k Bf j s el hk hj=>(gS k Bf j s el hk hj).elim) (fun _ _ _ _ _⟨Bf,s,el,hk,hj⟩ _=>(gS _ Bf _ s el hk hj).elim)
  refine⟨_,_,_,_,rfl,⟨rfl,rfl⟩,kJ,?_,hX⟩;refine⟨by simp[bG.move,SJ],?_⟩
  have xk:(ρ.move ⟨b,au,S.length+1,cap⟩ fun _ _=>.sub 0 0 0).aP (.ap 2)=⟨b,au,S.length+1,cap⟩:=by simp[bG.move,SJ]
  rw[xk];exact⟨Wi _,Pq _,l8,Ps,_,rfl,fun _=>aI⟩
 ·
  have vr:=Aj b au S.length cap i vb wE Pu cs vv w hi om om om gT yi xy xz NS NT;refine vr.mono ?_;rintro e' w' ⟨rfl,rfl⟩;have Wp:S.length+1<=grownCap w (S.length+1) cap 206:=grownCap_ge w _ _ _;have Yk:grownCap w (S.length+1) cap 206<=maxLen:=grownCap_le_maxLen w (S.length+1) cap 206 (by unfold maxLen;omega)
  generalize grownCap w (S.length+1) cap 206=G at*
  obtain⟨ROW,CO⟩:∃ROW:Array Value,ROW=(cs.take (i*2)).toArray++Builtin.zeroCells sB.cells (S.length+1-i)++Builtin.zeroCells sB.cells (G-(S.length+1)):=⟨_,rfl⟩;rw[<-CO];have hRs:ROW.size=G*2:=by rw[CO];simp[Builtin.zeroCells,Value.cells,sB,Z3,gT];omega
  have hRg:∀k,k<i*2->ROW[k]? =cs[k]? :=fun k hk=>by
   rw[CO,Array.append_assoc,abk (by simp[gT];omega)]
   simp[aaj,hk]
  have hA:dW w (w.alloc (.cells ROW 206)).drew:=(dW.alloc w _).trans (dW.drew _);obtain⟨c1,Bv,xe,Ql,iP⟩:=gH (mk:=(2:Nat)=1) vv (i*2) (w.alloc (.cells ROW 206)).drew ROW ((kQ.new w ROW 206).dv rfl) (by rw[yi];omega)
  obtain⟨c2,tt,tp,KQ,oh⟩:=gH (mk:=(2:Nat)=1) (cs.drop (i*2)) ((i+1)*2) ((w.alloc (.cells ROW 206)).drew.setCells w.heap.size (i*2) vv).drew c1 (Bv.dv rfl) (by rw[kj];omega)
  have dn:w.heap.size<((((w.alloc (.cells ROW 206)).drew.setCells w.heap.size (i*2) vv).drew).setCells w.heap.size ((i+1)*2) (cs.drop (i*2))).heap.size:=by rw[tp.size];show w.heap.size<((w.alloc (.cells ROW 206)).drew.setCells w.heap.size (i*2) vv).heap.size;rw[xe.size];show w.heap.size<(w.alloc (.cells ROW 206)).heap.size;simp
  obtain⟨kJ,hX⟩:=hM.move (w':=(((w.alloc (.cells ROW 206)).drew.setCells w.heap.size (i*2) vv).drew).setCells w.heap.size ((i+1)*2) (cs.drop (i*2))) (m1:=[.aO,.aO]) (D:=fun id=>id=0\/id=1) (esz:=2) (E:=af (S.take i++e::S.drop i)) (l:=⟨w.heap.size,0,S.length+1,G⟩) (src:=fun _ _=>.sub 0 0 0)
   nv ur (Nat.le_of_lt dn) ((tp.os.trans xe.os).trans rfl) ((tp.tape.trans xe.tape).trans rfl) ((tp.output.trans xe.output).trans rfl)
   (fun x hx _=>((tp.heap x om).trans (xe.heap x om)).trans (hA.heap x hx))
   (fun _=>⟨dn,.inl (Pq _)⟩) Ek Wp Yk A8
   (fun g _=>⟨c2,tt,by rw[KQ,Ql,hRs];show 0+G*2<=G*2;omega,Ak _ ⟨w.heap.size,0,S.length+1,G⟩ c2 g (fun k hk=>by
    show c2[0+k]? =_;rw[aai,oh,if_neg om,iP,if_neg om,hRg _ hk]) (fun k hk=>by
    show c2[0+(i*2+k)]? =_;rw[aai,oh,if_neg om,iP,if_pos (by rw[yi];omega),show i*2+k-i*2=k by omega]) (fun k hk=>by
    show c2[0+((i+1)*2+k)]? =_;rw[aai,oh,if_pos (by rw[kj];omega),show(i+1)*2+k-(i+1)*2=k by omega,Al])⟩)
   (fun k Bf j s el hk hj=>(gS k Bf j s el hk hj).elim) (fun _ _ _ _ _⟨Bf,s,el,hk,hj⟩ _=>(gS _ Bf _ s el hk hj).elim)
  refine⟨_,_,_,_,rfl,⟨rfl,rfl⟩,kJ,?_,hX⟩;refine⟨by simp[bG.move,SJ],?_⟩
  have xk:(ρ.move ⟨w.heap.size,0,S.length+1,G⟩ fun _ _=>.sub 0 0 0).aP (.ap 2)=⟨w.heap.size,0,S.length+1,G⟩:=by simp[bG.move,SJ]
  rw[xk];exact⟨Wi _,Pq _,Wp,Yk,_,rfl,fun _=>aI⟩
def Obj.ob(o:Obj):Ob:=⟨o.ah,o.data,o.aj,o.target,o.aC,.sl 4 (o.ak.map bo.enc),o.aM,o.am,o.up⟩
theorem Pw(l:List Obj):c7 l=LL (l.map Obj.ob):=by show Dt.sl 9 (l.map Obj.enc)=Dt.sl 9 ((l.map Obj.ob).map Ob.enc);rw[aaS];rfl
def iD(l:List Obj)(n p:Nat)(name:ByteArray):List Obj:=match l[n]? with
 |none=>l
 |some o=>match (l.set n {o with aj:=(gN (name,(p:Int)) (o.aj.map ma)).map fw})[p]? with
  |none=>l
  |some q=>(l.set n {o with aj:=(gN (name,(p:Int)) (o.aj.map ma)).map fw}).set p {q with am:=IntKind.i64.wrap (q.am+1),up:=if q.ah=2 then(n:Int)else q.up}
def wF(b:Bool)(o:Obj)(y:List Obj)(name:ByteArray):List Obj×Int:=
 if o.ah≠2 then([],11)else if o.am=0 then([],6)else if b=false then([],7)else if dG (o.aj.map ma) name>=0 then([],7)else if o.aj.length>=8 then([],15)else(y,0)
def nH(l:List Obj)(k ah:Int):Bool:=lN (l.map Obj.ob) k ah
def cO(b:Bool)(l:List Obj)(cD:Int)(name:ByteArray)(br:Int):List Obj×Int:=
 if nH l cD 0=true then(if nH l br 0=true then(match l[cD.toNat]? with
  |none=>([],6)
  |some o=>wF b o (iD l cD.toNat br.toNat name) name)else([],6))else([],6)
theorem ut{l:List Obj}{k:Int}(h:k<0):nH l k 0=false:=by
 unfold nH lN;rw[decide_eq_false (by omega:¬k>=0)];rfl
theorem uu{l:List Obj}{k:Int}(h:k>=(l.length:Int)):nH l k 0=false:=by
 unfold nH lN;rw[KB,decide_eq_false (by omega:¬k<(l.length:Int))];simp
theorem uv{l:List Obj}{n:Nat}(hn:n<l.length)(h:l[n].ah=0):nH l n 0=false:=by unfold nH lN;rw[Wk,NO,sA hn];have:l[n].ob.ah=0:=h;simp[this]
theorem uw{l:List Obj}{n:Nat}(hn:n<l.length)(h:l[n].ah≠0):nH l n 0=true:=by unfold nH lN;rw[Wk,NO,sA hn,KB];have:l[n].ob.ah≠0:=h;simp[this,hn]
theorem gI{l:List Obj}{k:Nat}(h:k<l.length):dg (l.map Obj.enc) (k:Nat)=some [.val (.int .i64 l[k].ah),.sl 1 l[k].data,.sl 2 l[k].aj,.val (.string l[k].target),.val (.int .i64 l[k].aC),.sl 4 (l[k].ak.map bo.enc),.val (.int .i64 l[k].aM),.val (.int .i64 l[k].am),.val (.int .i64 l[k].up)]:=by rw[bI,NO,sA h];rfl
theorem SN{σ:Nat->Nat}{m:Mem}{Z:Nat->Prop}{a a' b b':RV}(h1:u3 σ m Z a a')(h2:u3 σ m Z b b'):po σ m Z (.bF [a,b]) (.bF [a',b']):=by
 refine .bF rfl fun i r r' h3 h4=>?_
 match i with
 |0=>cases h3;cases h4;exact h1
 |1=>cases h3;cases h4;exact h2
 |n+2=>simp at h3
theorem SO{σ:Nat->Nat}{m:Mem}{Z:Nat->Prop}{a a' b b' c c':RV}(h1:u3 σ m Z a a')(h2:u3 σ m Z b b')(h0:u3 σ m Z c c'):po σ m Z (.bF [a,b,c]) (.bF [a',b',c']):=by
 refine .bF rfl fun i r r' h3 h4=>?_
 match i with
 |0=>cases h3;cases h4;exact h1
 |1=>cases h3;cases h4;exact h2
 |2=>cases h3;cases h4;exact h0
 |n+3=>simp at h3
theorem nB{p Q:Nat}{l:List Obj}{k:Nat}{o:Obj}(hk:k<l.length):aZ (bL p Q 0 l) k (jg p Q k o)=bL p Q 0 (l.set k o):=by
 rw[bg];apply aaL;intro i;rw[fl,aai];by_cases h:k=i
 .subst h;rw[Pr (by rw[fk];exact hk),Pr hk]
  rfl
 .rw[Wf h,Wf h,fl,aai]
theorem CQ{p Q Q':Nat}{l:List Obj}{o:Obj}(hp:l[p]? =some o):aZ (bL p Q 0 l) p (jg p Q' p o)=bL p Q' 0 l:=by
 have ix:=(Gf.1 hp).1;rw[bg];apply aaL;intro i;rw[fl,aai];by_cases h:p=i
 .subst h;rw[Pr (by rw[fk];exact ix),hp]
  rfl
 .rw[Wf h,fl,aai];cases l[i]? with
  |none=>rfl
  |some x=>
   have h2:¬i=p:=fun e=>h e.symm
   simp only[Wn,jg,if_neg h2]
theorem EM{m:Mem}{Z:Nat->Prop}{pp:Option Nat}{id p Q:Nat}{l:List Obj}{o:Obj}{E:List (List Dt)}(hz:Z id)(hm:m[id]? =some (.row 9 (bL p Q 0 l)))(hzq:Z Q)(hq:m[Q]? =some (.row 2 (af E)))(hp:l[p]? =some o):
  dj m Z pp (.row id 9 0 none) (c7 (l.set p {o with aj:=E})):=by
 have ix:=(Gf.1 hp).1;have key:∀(i:Nat)cs es,(bL p Q 0 l)[i]? =some cs->((l.set p {o with aj:=E}).map Obj.enc)[i]? =some es->gV m Z (some id) cs es:=by
  intro i cs es h1 h2;rw[fl,aai]at h1;rw[NO]at h2;by_cases h:p=i
  .subst h;rw[Pr ix]at h2;rw[hp]at h1;cases h1;cases h2;simp only[jg,if_pos,Obj.enc];exact .cons (.aa _) (.cons (.aa _) (.cons (dj.dX hzq hq 0 none) (.cons (.aa _) (.cons (.aa _) (.cons (.aa _) (.cons (.aa _) (.cons (.aa _) (.cons (.aa _) .nil))))))))
  .rw[Wf h]at h2;cases hx:l[i]? with
   |none=>rw[hx]at h1;cases h1
   |some x=>
    rw[hx]at h1 h2;cases h1;cases h2;have h3:¬i=p:=fun e=>h e.symm
    simp only[jg,if_neg h3,Obj.enc];exact .cons (.aa _) (.cons (.aa _) (.cons (.aa _) (.cons (.aa _) (.cons (.aa _) (.cons (.aa _) (.cons (.aa _) (.cons (.aa _) (.cons (.aa _) .nil))))))))
 exact dj.row id 9 0 none _ _ hz hm (by rw[fk,KB,Yy]) (fun i cs es h1 h2=>(key i cs es h1 h2).len) (fun i cs es j c d h1 h2 h3 h4=>(key i cs es h1 h2).get j c d h3 h4)
theorem Gr(S:List (List Dt))(e:List Dt)(i:Nat)(hi:i<=S.length)(hl:S.length<=4194304){m:Mem}{K:CV->Mem->Prop}(a b:Nat)(Be:fI [a,b]=true)(aE:eR m.length [a,b]=true)(ha:cR m a=some (.row 2 (af S)))(hb:cR m b=some (.row 2 (af [e])))(h:K (.rv (.one (.row m.length 2 0 none))) (cU m [a,b] [.aO,.aO,.row 2 (af (S.take i++e::S.drop i))])):aq Tryz.prog 140 [.rv (.one (.row a 2 0 none)),an .i64 (i:Nat),.rv (.one (.row b 2 0 none))] m K:=by
 by_cases mK:i<S.length
 .refine bw [a,b] m.length rfl rfl Be aE (args0:=[.rv (.one (.row 0 2 0 none)),an .i64 (i:Nat),.rv (.one (.row 1 2 0 none))]) rfl (m0:=[.row 2 (af S),.row 2 (af [e])]) (fun i b' hi=>?_) (Gq S e i mK hl) (fun r1 m1 hr=>?_)
  .match i,hi with
   |0,hi=>cases hi;exact .inr ⟨fun h=>h,_,by rw[aU]at ha;exact ha,.bP rfl⟩
   |1,hi=>cases hi;exact .inr ⟨fun h=>h,_,by rw[aU]at hb;exact hb,.bP rfl⟩
   |n+2,hi=>simp at hi
  .obtain⟨rfl,rfl⟩:=hr;refine⟨aI,?_⟩;show K (.rv (.one (.row (m.length+(2-2)) 2 0 none))) (cU m [a,b] [.aO,.aO,.row 2 ((af (S.take i++e::S.drop i)).map (fun cs=>cs.map (CC.aQ (sg [a,b] m.length))))])
   rw[gd];exact h
 .have:i=S.length:=om;subst this;refine Pp S e hl a b Be aE ha hb ?_;rw[aal,List.drop_length]at h;exact h
structure uy(l:List Obj):Prop where
 mz:jV l
 en:∀o,o∈l->∃es:List NE,o.aj=es.map fw/\B9 es/\es.length<=4194304/\∀e,e∈es->0<=e.2/\e.2<(l.length:Int)
def JK(R:List Obj×Int)(r:CV)(m:Mem):Prop:=∃r' m',View 0 ⟨[r],m⟩ ⟨[r'],m'⟩/\r'= .bF [li R.1,cC R.2]/\m'=[]
theorem fy{R:List Obj×Int}{m:Mem}(e:Int)(h:R=([],e)):JK R (.bF [.one .aB,cC e]) m:=by subst h;refine⟨_,_,View.of m.length [] [] rfl rfl rfl rfl rfl rfl (.put (SN (.one (.eZ (.aB 9))) (.one (.aQ (.aa _)))) .nil) (.nil _),rfl,rfl⟩
theorem pO{l:List Obj}{n p:Nat}(hn:n<l.length)(hp:p<l.length){name:ByteArray}{E:List (List Dt)}(hE:E=(gN (name,(p:Int)) (l[n].aj.map ma)).map fw){q:Obj}(hq:q={l[p]with am:=IntKind.i64.wrap (l[p].am+1),up:=if l[p].ah=2 then(n:Int)else l[p].up}):
  ∃o2,(l.set p q)[n]? =some o2/\(l.set p q).set n {o2 with aj:=E}=iD l n p name:=by
 subst hE;unfold iD;rw[sA hn];simp only[];by_cases h:p=n
 .subst h;rw[Pr hn,Pr hn];refine⟨_,rfl,?_⟩;simp only[abn];subst hq;rfl
 .rw[Wf h,sA hn,Wf (fun e=>h e.symm),sA hp]
  refine⟨_,rfl,?_⟩;simp only[];rw[List.set_comm _ _ h,<-hq]
theorem Am(l:List Obj)(hs:uy l)(cD br:Int)(name:ByteArray)(b:Bool)(hN:∀{m:Mem}{K:CV->Mem->Prop},K (ay b) m->aq Tryz.prog 106 [dh name] m K):
  body Tryz.prog c112 [cq l,an .i64 cD,dh name,an .i64 br] [] (JK (cO b l cD name br)):=by
 have hE:∀R,R=cO b l cD name br->body Tryz.prog c112 [cq l,an .i64 cD,dh name,an .i64 br] [] (JK R)->body Tryz.prog c112 [cq l,an .i64 cD,dh name,an .i64 br] [] (JK (cO b l cD name br)):=fun R h h2=>h▸h2
 refine aJ (fun h1=>?_) (fun h1=>?_)
 .exact fy 6 (by unfold cO;rw[ut h1];rfl)
 obtain⟨n,rfl⟩:∃n:Nat,cD=n:=⟨cD.toNat,by have h1:¬cD<0:=h1;omega⟩
 refine aJ (fun h2=>?_) (fun h2=>?_)
 .have h2:(n:Int)>=((l.map Obj.enc).length:Int):=h2;rw[KB]at h2;exact fy 6 (by unfold cO;rw[uu h2];rfl)
 have h2:¬(n:Int)>=((l.map Obj.enc).length:Int):=h2;rw[KB]at h2;have hn:n<l.length:=om;have KT:=gI hn;refine ag KT ?_;refine bA (fun h3=>?_) (fun h3=>?_)
 .exact fy 6 (by unfold cO;rw[uv hn h3];rfl)
 have h3:l[n].ah≠0:=h3;have d1:=uw hn h3;refine aJ (fun h4=>?_) (fun h4=>?_)
 .exact fy 6 (by unfold cO;rw[d1,ut h4];rfl)
 obtain⟨p,rfl⟩:∃p:Nat,br=p:=⟨br.toNat,by have h4:¬br<0:=h4;omega⟩
 refine aJ (fun h5=>?_) (fun h5=>?_)
 .have h5:(p:Int)>=((l.map Obj.enc).length:Int):=h5;rw[KB]at h5;exact fy 6 (by unfold cO;rw[d1,uu h5];rfl)
 have h5:¬(p:Int)>=((l.map Obj.enc).length:Int):=h5;rw[KB]at h5;have hp:p<l.length:=om;have hgp:=gI hp;refine ag hgp ?_;refine bA (fun h6=>?_) (fun h6=>?_)
 .exact fy 6 (by unfold cO;rw[d1,uv hp h6];rfl)
 have h6:l[p].ah≠0:=h6;have d2:=uw hp h6;have hR:cO b l n name p=wF b l[n] (iD l n p name) name:=by unfold cO;rw[if_pos d1,if_pos d2,Wk,Wk,sA hn]
 rw[hR];unfold wF;refine ag KT ?_;refine bt (fun h7=>?_) (fun h7=>?_)
 .exact fy 11 (if_pos h7)
 have h7:l[n].ah=2:=by simpa using h7
 rw[if_neg (by rw[h7];simp)]
 refine ag KT ?_;refine bA (fun h8=>?_) (fun h8=>?_)
 .exact fy 6 (if_pos h8)
 have h8:l[n].am≠0:=h8;rw[if_neg h8];refine hN ?_;cases b with
 |false=>exact fy 7 (if_pos rfl)
 |true=>
 rw[if_neg aI];obtain⟨es,he,yg,Mj,dd⟩:=hs.en _ (Wl hn);have NU:l[n].aj.map ma=es:=by rw[he,lO]
 refine Ah l n hn h7 es he om name ?_;have Uq:ul l es n name=dG es name:=wC yg name;rw[Uq,NU];refine aJ (fun h9=>?_) (fun h9=>?_)
 .exact fy 7 (if_pos h9)
 rw[if_neg h9];refine ag KT ?_;refine aJ (fun Px=>?_) (fun Px=>?_)
 .exact fy 15 (if_pos (by have Px:(l[n].aj.length:Int)>=8:=Px;omega))
 have Px:¬(l[n].aj.length:Int)>=8:=Px;rw[if_neg om];have Wv:xY es name=false:=by
  have h9:¬dG es name>=0:=h9;rw[<-Uq]at h9;cases hb:xY es name with
  |false=>rfl
  |true=>
   exfalso;apply h9;unfold ul;rw[if_pos hb];unfold xY at hb;cases hg:es[oA es name]? with
   |none=>rw[hg]at hb;cases hb
   |some e=>exact(dd e (NQ hg)).1
 have mv:∀Q,cR (bL n Q 0 l) n=some [.aa (.val (.int .i64 l[n].ah)),.aa (.sl 1 l[n].data),.row Q 2 0 none,.aa (.val (.string l[n].target)),.aa (.val (.int .i64 l[n].aC)),.aa (.sl 4 (l[n].ak.map bo.enc)),.aa (.val (.int .i64 l[n].aM)),.aa (.val (.int .i64 l[n].am)),.aa (.val (.int .i64 l[n].up))]:=fun Q=>by rw[aU,fl,sA hn,aai,Wn,jg,if_pos rfl]
 have Ur:yc l n l.length= .row 2 (af (es.map cK)):=by
  unfold yc;rw[show Nat.blt n l.length=true by simpa using hn]
  show Bk.row 2 (af (match l[n]? with|some o=>o.aj|none=>[]))=_
  rw[sA hn];show Bk.row 2 (af l[n].aj)=_;rw[he];rfl
 have SP:∀Q,lenOf (bL n Q 0 l).length 0 none=l.length:=fun Q=>fk n Q l 0
 have qF:∀Q(k:Nat),k<l.length->dp (k:Nat) (lenOf (bL n Q 0 l).length 0 none)=some k:=fun Q k hk=>bZ (by rw[SP];exact hk)
 refine yf l hs.mz n ?_;rw[Ur];refine ag (qF 1 n hn) ?_;refine ag (mv 1) ?_;refine Pc es om name 139 (fun e m K h=>Pk e name h) (id:=1) rfl ?_
 refine ag (qF 1 n hn) ?_;refine ag (mv 1) ?_;have OL:oA es name<=es.length:=(m6 yg name es.length 0 es.length om om om (fun k e hk=>absurd hk (aah k)) (fun k e hk he=>by have:=(Gf.1 he).1;omega)).1
 refine Gr (es.map cK) (cK (name,(p:Int))) (oA es name) (by rw[KB];exact OL) (by rw[KB];exact Mj) 1 2 rfl rfl rfl rfl ?_
 refine ag (qF 1 n hn) ?_;refine ag (mv 1) ?_;have lI:aZ (bL n 1 0 l) n [.aa (.val (.int .i64 l[n].ah)),.aa (.sl 1 l[n].data),.row 3 2 0 none,.aa (.val (.string l[n].target)),.aa (.val (.int .i64 l[n].aC)),.aa (.sl 4 (l[n].ak.map bo.enc)),.aa (.val (.int .i64 l[n].aM)),.aa (.val (.int .i64 l[n].am)),.aa (.val (.int .i64 l[n].up))]=bL n 3 0 l:=by have:=CQ (p:=n) (Q:=1) (Q':=3) (sA hn);rw[<-this,jg,if_pos rfl]
 have Gs:(es.map cK).take (oA es name)++cK (name,(p:Int))::(es.map cK).drop (oA es name)=(gN (name,(p:Int)) (l[n].aj.map ma)).map fw:=by rw[NU,Po yg Wv,aav,aar,abd,abN];rfl
 have im:∀L2:List Obj,L2=iD l n p name->aw Tryz.prog 0 We (mJ Tryz.prog c112.jW (JK (iD l n p name,0))) ⟨kR 128 [(10,cq L2)],[]⟩:=fun L2 h=>by subst h;exact⟨_,_,View.o 0 [] [] (.eq rfl .nil) (.nil _),rfl,rfl⟩
 by_cases Qr:p=n
 .have SQ:cR (bL n 3 0 l) p=some [.aa (.val (.int .i64 l[p].ah)),.aa (.sl 1 l[p].data),.row 3 2 0 none,.aa (.val (.string l[p].target)),.aa (.val (.int .i64 l[p].aC)),.aa (.sl 4 (l[p].ak.map bo.enc)),.aa (.val (.int .i64 l[p].aM)),.aa (.val (.int .i64 l[p].am)),.aa (.val (.int .i64 l[p].up))]:=by rw[aU,fl,sA hp,aai,Wn,jg,if_pos Qr]
  have mR:aZ (aZ (bL n 1 0 l) n [.aa (.val (.int .i64 l[n].ah)),.aa (.sl 1 l[n].data),.row 3 2 0 none,.aa (.val (.string l[n].target)),.aa (.val (.int .i64 l[n].aC)),.aa (.sl 4 (l[n].ak.map bo.enc)),.aa (.val (.int .i64 l[n].aM)),.aa (.val (.int .i64 l[n].am)),.aa (.val (.int .i64 l[n].up))]) p [.aa (.val (.int .i64 l[p].ah)),.aa (.sl 1 l[p].data),.row 3 2 0 none,.aa (.val (.string l[p].target)),.aa (.val (.int .i64 l[p].aC)),.aa (.sl 4 (l[p].ak.map bo.enc)),.aa (.val (.int .i64 l[p].aM)),.aa (.val (.int .i64 (IntKind.i64.wrap (l[p].am+1)))),.aa (.val (.int .i64 l[p].up))]=bL n 3 0 (l.set p {l[p]with am:=IntKind.i64.wrap (l[p].am+1)}):=by
   rw[lI];have:=nB (p:=n) (Q:=3) (o:={l[p]with am:=IntKind.i64.wrap (l[p].am+1)}) hp
   rw[<-this,jg,if_pos Qr]
  have d5:∀l2:List Obj,l2.length=l.length->dp (p:Nat) (lenOf (bL n 3 0 l2).length 0 none)=some p:=fun l2 h=>bZ (by rw[show lenOf (bL n 3 0 l2).length 0 none=l2.length from fk n 3 l2 0,h];exact hp)
  have sR:cR (aZ (aZ (bL n 1 0 l) n [.aa (.val (.int .i64 l[n].ah)),.aa (.sl 1 l[n].data),.row 3 2 0 none,.aa (.val (.string l[n].target)),.aa (.val (.int .i64 l[n].aC)),.aa (.sl 4 (l[n].ak.map bo.enc)),.aa (.val (.int .i64 l[n].aM)),.aa (.val (.int .i64 l[n].am)),.aa (.val (.int .i64 l[n].up))]) p [.aa (.val (.int .i64 l[p].ah)),.aa (.sl 1 l[p].data),.row 3 2 0 none,.aa (.val (.string l[p].target)),.aa (.val (.int .i64 l[p].aC)),.aa (.sl 4 (l[p].ak.map bo.enc)),.aa (.val (.int .i64 l[p].aM)),.aa (.val (.int .i64 (IntKind.i64.wrap (l[p].am+1)))),.aa (.val (.int .i64 l[p].up))]) p=some [.aa (.val (.int .i64 l[p].ah)),.aa (.sl 1 l[p].data),.row 3 2 0 none,.aa (.val (.string l[p].target)),.aa (.val (.int .i64 l[p].aC)),.aa (.sl 4 (l[p].ak.map bo.enc)),.aa (.val (.int .i64 l[p].aM)),.aa (.val (.int .i64 (IntKind.i64.wrap (l[p].am+1)))),.aa (.val (.int .i64 l[p].up))]:=by
   rw[bg,aU,Pr (by rw[lI,fk];exact hp)]
  refine ag (by rw[lI];exact d5 l rfl:dp (p:Nat) (lenOf (aZ (bL n 1 0 l) n [.aa (.val (.int .i64 l[n].ah)),.aa (.sl 1 l[n].data),.row 3 2 0 none,.aa (.val (.string l[n].target)),.aa (.val (.int .i64 l[n].aC)),.aa (.sl 4 (l[n].ak.map bo.enc)),.aa (.val (.int .i64 l[n].aM)),.aa (.val (.int .i64 l[n].am)),.aa (.val (.int .i64 l[n].up))]).length 0 none)=some p) ?_
  refine ag (by rw[lI];exact SQ:cR (aZ (bL n 1 0 l) n [.aa (.val (.int .i64 l[n].ah)),.aa (.sl 1 l[n].data),.row 3 2 0 none,.aa (.val (.string l[n].target)),.aa (.val (.int .i64 l[n].aC)),.aa (.sl 4 (l[n].ak.map bo.enc)),.aa (.val (.int .i64 l[n].aM)),.aa (.val (.int .i64 l[n].am)),.aa (.val (.int .i64 l[n].up))]) p=some [.aa (.val (.int .i64 l[p].ah)),.aa (.sl 1 l[p].data),.row 3 2 0 none,.aa (.val (.string l[p].target)),.aa (.val (.int .i64 l[p].aC)),.aa (.sl 4 (l[p].ak.map bo.enc)),.aa (.val (.int .i64 l[p].aM)),.aa (.val (.int .i64 l[p].am)),.aa (.val (.int .i64 l[p].up))]) ?_
  refine ag (by rw[lI];exact d5 l rfl:dp (p:Nat) (lenOf (aZ (bL n 1 0 l) n [.aa (.val (.int .i64 l[n].ah)),.aa (.sl 1 l[n].data),.row 3 2 0 none,.aa (.val (.string l[n].target)),.aa (.val (.int .i64 l[n].aC)),.aa (.sl 4 (l[n].ak.map bo.enc)),.aa (.val (.int .i64 l[n].aM)),.aa (.val (.int .i64 l[n].am)),.aa (.val (.int .i64 l[n].up))]).length 0 none)=some p) ?_
  refine ag (by rw[lI];exact SQ:cR (aZ (bL n 1 0 l) n [.aa (.val (.int .i64 l[n].ah)),.aa (.sl 1 l[n].data),.row 3 2 0 none,.aa (.val (.string l[n].target)),.aa (.val (.int .i64 l[n].aC)),.aa (.sl 4 (l[n].ak.map bo.enc)),.aa (.val (.int .i64 l[n].aM)),.aa (.val (.int .i64 l[n].am)),.aa (.val (.int .i64 l[n].up))]) p=some [.aa (.val (.int .i64 l[p].ah)),.aa (.sl 1 l[p].data),.row 3 2 0 none,.aa (.val (.string l[p].target)),.aa (.val (.int .i64 l[p].aC)),.aa (.sl 4 (l[p].ak.map bo.enc)),.aa (.val (.int .i64 l[p].aM)),.aa (.val (.int .i64 l[p].am)),.aa (.val (.int .i64 l[p].up))]) ?_
  refine ag (by rw[mR];exact d5 _ (Yy ..):dp (p:Nat) (lenOf (aZ (aZ (bL n 1 0 l) n [.aa (.val (.int .i64 l[n].ah)),.aa (.sl 1 l[n].data),.row 3 2 0 none,.aa (.val (.string l[n].target)),.aa (.val (.int .i64 l[n].aC)),.aa (.sl 4 (l[n].ak.map bo.enc)),.aa (.val (.int .i64 l[n].aM)),.aa (.val (.int .i64 l[n].am)),.aa (.val (.int .i64 l[n].up))]) p [.aa (.val (.int .i64 l[p].ah)),.aa (.sl 1 l[p].data),.row 3 2 0 none,.aa (.val (.string l[p].target)),.aa (.val (.int .i64 l[p].aC)),.aa (.sl 4 (l[p].ak.map bo.enc)),.aa (.val (.int .i64 l[p].aM)),.aa (.val (.int .i64 (IntKind.i64.wrap (l[p].am+1)))),.aa (.val (.int .i64 l[p].up))]).length 0 none)=some p) ?_
  refine ag sR ?_;refine bA (fun hk=>?_) (fun hk=>?_)
  .have hk:l[p].ah=2:=hk;have JM:aZ (aZ (aZ (bL n 1 0 l) n [.aa (.val (.int .i64 l[n].ah)),.aa (.sl 1 l[n].data),.row 3 2 0 none,.aa (.val (.string l[n].target)),.aa (.val (.int .i64 l[n].aC)),.aa (.sl 4 (l[n].ak.map bo.enc)),.aa (.val (.int .i64 l[n].aM)),.aa (.val (.int .i64 l[n].am)),.aa (.val (.int .i64 l[n].up))]) p [.aa (.val (.int .i64 l[p].ah)),.aa (.sl 1 l[p].data),.row 3 2 0 none,.aa (.val (.string l[p].target)),.aa (.val (.int .i64 l[p].aC)),.aa (.sl 4 (l[p].ak.map bo.enc)),.aa (.val (.int .i64 l[p].aM)),.aa (.val (.int .i64 (IntKind.i64.wrap (l[p].am+1)))),.aa (.val (.int .i64 l[p].up))]) p [.aa (.val (.int .i64 l[p].ah)),.aa (.sl 1 l[p].data),.row 3 2 0 none,.aa (.val (.string l[p].target)),.aa (.val (.int .i64 l[p].aC)),.aa (.sl 4 (l[p].ak.map bo.enc)),.aa (.val (.int .i64 l[p].aM)),.aa (.val (.int .i64 (IntKind.i64.wrap (l[p].am+1)))),.aa (.val (.int .i64 (n:Nat)))]=bL n 3 0 (l.set p {l[p]with am:=IntKind.i64.wrap (l[p].am+1),up:=(n:Int)}):=by
    rw[mR];have:=nB (p:=n) (Q:=3) (l:=l.set p {l[p]with am:=IntKind.i64.wrap (l[p].am+1)}) (k:=p) (o:={l[p]with am:=IntKind.i64.wrap (l[p].am+1),up:=(n:Int)}) (by rw[Yy];exact hp)
    rw[abn]at this;rw[<-this,jg,if_pos Qr]
   refine ag (by rw[mR];exact d5 _ (Yy ..):dp (p:Nat) (lenOf (aZ (aZ (bL n 1 0 l) n [.aa (.val (.int .i64 l[n].ah)),.aa (.sl 1 l[n].data),.row 3 2 0 none,.aa (.val (.string l[n].target)),.aa (.val (.int .i64 l[n].aC)),.aa (.sl 4 (l[n].ak.map bo.enc)),.aa (.val (.int .i64 l[n].aM)),.aa (.val (.int .i64 l[n].am)),.aa (.val (.int .i64 l[n].up))]) p [.aa (.val (.int .i64 l[p].ah)),.aa (.sl 1 l[p].data),.row 3 2 0 none,.aa (.val (.string l[p].target)),.aa (.val (.int .i64 l[p].aC)),.aa (.sl 4 (l[p].ak.map bo.enc)),.aa (.val (.int .i64 l[p].aM)),.aa (.val (.int .i64 (IntKind.i64.wrap (l[p].am+1)))),.aa (.val (.int .i64 l[p].up))]).length 0 none)=some p) ?_
   refine ag sR ?_;obtain⟨o2,nr,eA⟩:=pO (name:=name) hn hp Gs (q:={l[p]with am:=IntKind.i64.wrap (l[p].am+1),up:=(n:Int)}) (by rw[if_pos hk])
   refine⟨_,View.o 4 [] [0,3] ?_ (.nil _),im _ eA⟩
   iterate 10 refine .ar ?_
   refine .put (.rv (.one (.eZ (p:=none) (EM (Z:=fun k=>bz [0,3] k=true) rfl (by show some (Bk.row 9 _)=some (Bk.row 9 _);congr 1;exact congrArg _ JM) rfl rfl nr)))) ?_
   repeat(first|exact .nil|refine .ar ?_)
  .have hk:l[p].ah≠2:=hk;obtain⟨o2,nr,eA⟩:=pO (name:=name) hn hp Gs (q:={l[p]with am:=IntKind.i64.wrap (l[p].am+1)}) (by rw[if_neg hk])
   refine⟨_,View.o 4 [] [0,3] ?_ (.nil _),im _ eA⟩
   iterate 10 refine .ar ?_
   refine .put (.rv (.one (.eZ (p:=none) (EM (Z:=fun k=>bz [0,3] k=true) rfl (by show some (Bk.row 9 _)=some (Bk.row 9 _);congr 1;exact congrArg _ mR) rfl rfl nr)))) ?_
   repeat(first|exact .nil|refine .ar ?_)
 .have SQ:cR (bL n 3 0 l) p=some [.aa (.val (.int .i64 l[p].ah)),.aa (.sl 1 l[p].data),.aa (.sl 2 l[p].aj),.aa (.val (.string l[p].target)),.aa (.val (.int .i64 l[p].aC)),.aa (.sl 4 (l[p].ak.map bo.enc)),.aa (.val (.int .i64 l[p].aM)),.aa (.val (.int .i64 l[p].am)),.aa (.val (.int .i64 l[p].up))]:=by rw[aU,fl,sA hp,aai,Wn,jg,if_neg Qr]
  have mR:aZ (aZ (bL n 1 0 l) n [.aa (.val (.int .i64 l[n].ah)),.aa (.sl 1 l[n].data),.row 3 2 0 none,.aa (.val (.string l[n].target)),.aa (.val (.int .i64 l[n].aC)),.aa (.sl 4 (l[n].ak.map bo.enc)),.aa (.val (.int .i64 l[n].aM)),.aa (.val (.int .i64 l[n].am)),.aa (.val (.int .i64 l[n].up))]) p [.aa (.val (.int .i64 l[p].ah)),.aa (.sl 1 l[p].data),.aa (.sl 2 l[p].aj),.aa (.val (.string l[p].target)),.aa (.val (.int .i64 l[p].aC)),.aa (.sl 4 (l[p].ak.map bo.enc)),.aa (.val (.int .i64 l[p].aM)),.aa (.val (.int .i64 (IntKind.i64.wrap (l[p].am+1)))),.aa (.val (.int .i64 l[p].up))]=bL n 3 0 (l.set p {l[p]with am:=IntKind.i64.wrap (l[p].am+1)}):=by
   rw[lI];have:=nB (p:=n) (Q:=3) (o:={l[p]with am:=IntKind.i64.wrap (l[p].am+1)}) hp
   rw[<-this,jg,if_neg Qr]
  have d5:∀l2:List Obj,l2.length=l.length->dp (p:Nat) (lenOf (bL n 3 0 l2).length 0 none)=some p:=fun l2 h=>bZ (by rw[show lenOf (bL n 3 0 l2).length 0 none=l2.length from fk n 3 l2 0,h];exact hp)
  have sR:cR (aZ (aZ (bL n 1 0 l) n [.aa (.val (.int .i64 l[n].ah)),.aa (.sl 1 l[n].data),.row 3 2 0 none,.aa (.val (.string l[n].target)),.aa (.val (.int .i64 l[n].aC)),.aa (.sl 4 (l[n].ak.map bo.enc)),.aa (.val (.int .i64 l[n].aM)),.aa (.val (.int .i64 l[n].am)),.aa (.val (.int .i64 l[n].up))]) p [.aa (.val (.int .i64 l[p].ah)),.aa (.sl 1 l[p].data),.aa (.sl 2 l[p].aj),.aa (.val (.string l[p].target)),.aa (.val (.int .i64 l[p].aC)),.aa (.sl 4 (l[p].ak.map bo.enc)),.aa (.val (.int .i64 l[p].aM)),.aa (.val (.int .i64 (IntKind.i64.wrap (l[p].am+1)))),.aa (.val (.int .i64 l[p].up))]) p=some [.aa (.val (.int .i64 l[p].ah)),.aa (.sl 1 l[p].data),.aa (.sl 2 l[p].aj),.aa (.val (.string l[p].target)),.aa (.val (.int .i64 l[p].aC)),.aa (.sl 4 (l[p].ak.map bo.enc)),.aa (.val (.int .i64 l[p].aM)),.aa (.val (.int .i64 (IntKind.i64.wrap (l[p].am+1)))),.aa (.val (.int .i64 l[p].up))]:=by
   rw[bg,aU,Pr (by rw[lI,fk];exact hp)]
  refine ag (by rw[lI];exact d5 l rfl:dp (p:Nat) (lenOf (aZ (bL n 1 0 l) n [.aa (.val (.int .i64 l[n].ah)),.aa (.sl 1 l[n].data),.row 3 2 0 none,.aa (.val (.string l[n].target)),.aa (.val (.int .i64 l[n].aC)),.aa (.sl 4 (l[n].ak.map bo.enc)),.aa (.val (.int .i64 l[n].aM)),.aa (.val (.int .i64 l[n].am)),.aa (.val (.int .i64 l[n].up))]).length 0 none)=some p) ?_
  refine ag (by rw[lI];exact SQ:cR (aZ (bL n 1 0 l) n [.aa (.val (.int .i64 l[n].ah)),.aa (.sl 1 l[n].data),.row 3 2 0 none,.aa (.val (.string l[n].target)),.aa (.val (.int .i64 l[n].aC)),.aa (.sl 4 (l[n].ak.map bo.enc)),.aa (.val (.int .i64 l[n].aM)),.aa (.val (.int .i64 l[n].am)),.aa (.val (.int .i64 l[n].up))]) p=some [.aa (.val (.int .i64 l[p].ah)),.aa (.sl 1 l[p].data),.aa (.sl 2 l[p].aj),.aa (.val (.string l[p].target)),.aa (.val (.int .i64 l[p].aC)),.aa (.sl 4 (l[p].ak.map bo.enc)),.aa (.val (.int .i64 l[p].aM)),.aa (.val (.int .i64 l[p].am)),.aa (.val (.int .i64 l[p].up))]) ?_
  refine ag (by rw[lI];exact d5 l rfl:dp (p:Nat) (lenOf (aZ (bL n 1 0 l) n [.aa (.val (.int .i64 l[n].ah)),.aa (.sl 1 l[n].data),.row 3 2 0 none,.aa (.val (.string l[n].target)),.aa (.val (.int .i64 l[n].aC)),.aa (.sl 4 (l[n].ak.map bo.enc)),.aa (.val (.int .i64 l[n].aM)),.aa (.val (.int .i64 l[n].am)),.aa (.val (.int .i64 l[n].up))]).length 0 none)=some p) ?_
  refine ag (by rw[lI];exact SQ:cR (aZ (bL n 1 0 l) n [.aa (.val (.int .i64 l[n].ah)),.aa (.sl 1 l[n].data),.row 3 2 0 none,.aa (.val (.string l[n].target)),.aa (.val (.int .i64 l[n].aC)),.aa (.sl 4 (l[n].ak.map bo.enc)),.aa (.val (.int .i64 l[n].aM)),.aa (.val (.int .i64 l[n].am)),.aa (.val (.int .i64 l[n].up))]) p=some [.aa (.val (.int .i64 l[p].ah)),.aa (.sl 1 l[p].data),.aa (.sl 2 l[p].aj),.aa (.val (.string l[p].target)),.aa (.val (.int .i64 l[p].aC)),.aa (.sl 4 (l[p].ak.map bo.enc)),.aa (.val (.int .i64 l[p].aM)),.aa (.val (.int .i64 l[p].am)),.aa (.val (.int .i64 l[p].up))]) ?_
  refine ag (by rw[mR];exact d5 _ (Yy ..):dp (p:Nat) (lenOf (aZ (aZ (bL n 1 0 l) n [.aa (.val (.int .i64 l[n].ah)),.aa (.sl 1 l[n].data),.row 3 2 0 none,.aa (.val (.string l[n].target)),.aa (.val (.int .i64 l[n].aC)),.aa (.sl 4 (l[n].ak.map bo.enc)),.aa (.val (.int .i64 l[n].aM)),.aa (.val (.int .i64 l[n].am)),.aa (.val (.int .i64 l[n].up))]) p [.aa (.val (.int .i64 l[p].ah)),.aa (.sl 1 l[p].data),.aa (.sl 2 l[p].aj),.aa (.val (.string l[p].target)),.aa (.val (.int .i64 l[p].aC)),.aa (.sl 4 (l[p].ak.map bo.enc)),.aa (.val (.int .i64 l[p].aM)),.aa (.val (.int .i64 (IntKind.i64.wrap (l[p].am+1)))),.aa (.val (.int .i64 l[p].up))]).length 0 none)=some p) ?_
  refine ag sR ?_;refine bA (fun hk=>?_) (fun hk=>?_)
  .have hk:l[p].ah=2:=hk;have JM:aZ (aZ (aZ (bL n 1 0 l) n [.aa (.val (.int .i64 l[n].ah)),.aa (.sl 1 l[n].data),.row 3 2 0 none,.aa (.val (.string l[n].target)),.aa (.val (.int .i64 l[n].aC)),.aa (.sl 4 (l[n].ak.map bo.enc)),.aa (.val (.int .i64 l[n].aM)),.aa (.val (.int .i64 l[n].am)),.aa (.val (.int .i64 l[n].up))]) p [.aa (.val (.int .i64 l[p].ah)),.aa (.sl 1 l[p].data),.aa (.sl 2 l[p].aj),.aa (.val (.string l[p].target)),.aa (.val (.int .i64 l[p].aC)),.aa (.sl 4 (l[p].ak.map bo.enc)),.aa (.val (.int .i64 l[p].aM)),.aa (.val (.int .i64 (IntKind.i64.wrap (l[p].am+1)))),.aa (.val (.int .i64 l[p].up))]) p [.aa (.val (.int .i64 l[p].ah)),.aa (.sl 1 l[p].data),.aa (.sl 2 l[p].aj),.aa (.val (.string l[p].target)),.aa (.val (.int .i64 l[p].aC)),.aa (.sl 4 (l[p].ak.map bo.enc)),.aa (.val (.int .i64 l[p].aM)),.aa (.val (.int .i64 (IntKind.i64.wrap (l[p].am+1)))),.aa (.val (.int .i64 (n:Nat)))]=bL n 3 0 (l.set p {l[p]with am:=IntKind.i64.wrap (l[p].am+1),up:=(n:Int)}):=by
    rw[mR];have:=nB (p:=n) (Q:=3) (l:=l.set p {l[p]with am:=IntKind.i64.wrap (l[p].am+1)}) (k:=p) (o:={l[p]with am:=IntKind.i64.wrap (l[p].am+1),up:=(n:Int)}) (by rw[Yy];exact hp)
    rw[abn]at this;rw[<-this,jg,if_neg Qr]
   refine ag (by rw[mR];exact d5 _ (Yy ..):dp (p:Nat) (lenOf (aZ (aZ (bL n 1 0 l) n [.aa (.val (.int .i64 l[n].ah)),.aa (.sl 1 l[n].data),.row 3 2 0 none,.aa (.val (.string l[n].target)),.aa (.val (.int .i64 l[n].aC)),.aa (.sl 4 (l[n].ak.map bo.enc)),.aa (.val (.int .i64 l[n].aM)),.aa (.val (.int .i64 l[n].am)),.aa (.val (.int .i64 l[n].up))]) p [.aa (.val (.int .i64 l[p].ah)),.aa (.sl 1 l[p].data),.aa (.sl 2 l[p].aj),.aa (.val (.string l[p].target)),.aa (.val (.int .i64 l[p].aC)),.aa (.sl 4 (l[p].ak.map bo.enc)),.aa (.val (.int .i64 l[p].aM)),.aa (.val (.int .i64 (IntKind.i64.wrap (l[p].am+1)))),.aa (.val (.int .i64 l[p].up))]).length 0 none)=some p) ?_
   refine ag sR ?_;obtain⟨o2,nr,eA⟩:=pO (name:=name) hn hp Gs (q:={l[p]with am:=IntKind.i64.wrap (l[p].am+1),up:=(n:Int)}) (by rw[if_pos hk])
   refine⟨_,View.o 4 [] [0,3] ?_ (.nil _),im _ eA⟩
   iterate 10 refine .ar ?_
   refine .put (.rv (.one (.eZ (p:=none) (EM (Z:=fun k=>bz [0,3] k=true) rfl (by show some (Bk.row 9 _)=some (Bk.row 9 _);congr 1;exact congrArg _ JM) rfl rfl nr)))) ?_
   repeat(first|exact .nil|refine .ar ?_)
  .have hk:l[p].ah≠2:=hk;obtain⟨o2,nr,eA⟩:=pO (name:=name) hn hp Gs (q:={l[p]with am:=IntKind.i64.wrap (l[p].am+1)}) (by rw[if_neg hk])
   refine⟨_,View.o 4 [] [0,3] ?_ (.nil _),im _ eA⟩
   iterate 10 refine .ar ?_
   refine .put (.rv (.one (.eZ (p:=none) (EM (Z:=fun k=>bz [0,3] k=true) rfl (by show some (Bk.row 9 _)=some (Bk.row 9 _);congr 1;exact congrArg _ mR) rfl rfl nr)))) ?_
   repeat(first|exact .nil|refine .ar ?_)
theorem Gt(l:List Obj)(hs:uy l)(cD br:Int)(name:ByteArray)(b:Bool)(hN:∀{m:Mem}{K:CV->Mem->Prop},K (ay b) m->aq Tryz.prog 106 [dh name] m K){m:Mem}{K:CV->Mem->Prop}(h:K (.bF [li (cO b l cD name br).1,cC (cO b l cD name br).2]) m):aq Tryz.prog 112 [cq l,an .i64 cD,dh name,an .i64 br] m K:=by
 refine aY (K0:=fun r m=>r= .bF [li (cO b l cD name br).1,cC (cO b l cD name br).2]/\m=[]) (bK (ce Tryz.func112 l112 (Am l hs cD br name b hN)) fun r m1⟨r',m',hv,h1,h2⟩=>⟨r',m',hv,h1,h2⟩) (by simp[cq,an,dh,CV.c6,CC.c6]) fun r m1 hr=>?_
 obtain⟨rfl,rfl⟩:=hr;exact⟨_,cw.self rfl,h⟩
end Go.Proofs.YtodckkkbiidffaaGreatDoor
