/- Part 11 of 39: what the law stands on. -/
import Derived.Test.YtodckkkbiidffaaGreatDoorT10
set_option linter.unusedVariables false
set_option linter.unusedSimpArgs false
set_option linter.unnecessarySimpa false
set_option maxRecDepth 100000
set_option maxHeartbeats 64000000
namespace Go.AM
section
variable {P:Program} {N:Nat} {ρ0:bG} {m0:Mem} {w0:World}
structure Qc(ρ:bG)(m:Mem)(w w':World):Prop where
 size:w.heap.size<=w'.heap.size
 S:∀b off,ρ.S b->w'.cell? ⟨b,off,none⟩=w.cell? ⟨b,off,none⟩
 a7:∀k,Live ρ m k->w'.heap[(ρ.aP k).b]? =w.heap[(ρ.aP k).b]?
 maps:∀b es ck,ρ.S b->w.heap[b]? =some (.map es ck)->w'.heap[b]? =some (.map es ck)
theorem cZ.yN{S:Nat->Prop}{w w':World}(hw:∀b off,S b->w'.cell? ⟨b,off,none⟩=w.cell? ⟨b,off,none⟩){d:Dt}{v:Value}(h:cZ S w d v):cZ S w' d v:=by
 induction h with
 |val v h=>exact .val v h
 |no a=>exact .no a
 |nil esz a cap hc=>exact .nil esz a cap hc
 |sl esz elems b off cap u hb hl bl dn hc hd ih=>
  exact .sl esz elems b off cap u hb hl bl dn (fun i cs j d hi hj=>(hw b _ hb).trans (hc i cs j d hi hj)) ih
theorem bq.yN{ρ:bG}{m:Mem}{w w':World}(x:Qc ρ m w w'){pos:Option (Nat×Nat×Nat)}{c:CC}{v:Value}(h:bq ρ w pos c v):bq ρ w' pos c v:=by
 cases c<;>simp only[bq]at h⊢
 case aa=>exact h.yN x.S
 case oR cs=>
  obtain⟨b,off,hv,hb,hc⟩:=h;exact⟨b,off,hv,hb,fun j d hj=>let⟨u,hu,hd⟩:=hc j d hj;⟨u,(x.S b _ hb).trans hu,hd.yN x.S⟩⟩
 all_goals exact h
theorem du.yN{ρ:bG}{m:Mem}{w w':World}(x:Qc ρ m w w'){r:RV}{v:Value}(h:du ρ w r v):du ρ w' r v:=by
 cases r with
 |one c=>exact bq.yN x h
 |agg cs=>
  obtain⟨vs,hv,hl,hc⟩:=h;exact⟨vs,hv,hl,fun i c hi=>let⟨u,hu,hd⟩:=hc i c hi;⟨u,hu,hd.yN x⟩⟩
theorem bV.yN{ρ:bG}{m:Mem}{w w':World}(x:Qc ρ m w w'){r:CV}{v:Value}(h:bV ρ w r v):bV ρ w' r v:=by
 cases r with
 |ar=>trivial
 |undef=>exact h
 |rv r=>exact du.yN x h
 |bF rs=>
  obtain⟨vs,hv,hl,hc⟩:=h;exact⟨vs,hv,hl,fun i c hi=>let⟨u,hu,hd⟩:=hc i c hi;⟨u,hu,hd.yN x⟩⟩
theorem aA.yN{ρ:bG}{m:Mem}{w w':World}(hM:aA ρ m w)(h:Qc ρ m w w'):aA ρ m w':=by
 refine⟨hM.n,fun b hb=>aad (hM.S b hb) h.size,fun k hk=>⟨aad (hM.a7 k hk).1 h.size,(hM.a7 k hk).2⟩,hM.inj,fun id b hb=>?_,fun id i j esz el ho bl=>?_⟩
 .have h1:=hM.bk id b hb;cases b with
  |aO=>trivial
  |var cs=>
   obtain⟨cur,bS,h2⟩:=h1;exact⟨cur,bS.dv (h.a7 (.ap id) ⟨_,hb,aI,aI⟩),fun j c hj=>let⟨u,hu,hd⟩:=h2 j c hj;⟨u,hu,hd.yN h⟩⟩
  |row esz elems=>
   obtain⟨h2,h3,h4,h5,h6⟩:=h1;refine⟨h2,h3,h4,h5,fun hp=>?_⟩
   obtain⟨cur,bS,h7,h8⟩:=h6 hp;exact⟨cur,bS.dv (h.a7 (.ap id) ⟨_,hb,aI,fun _=>hp⟩),h7,fun i cs j c hi hj=>let⟨u,hu,hd⟩:=h8 i cs j c hi hj;⟨u,hu,hd.yN h⟩⟩
  |mp es=>
   obtain⟨cH,ck,h2,h3,h4⟩:=h1;exact⟨cH,ck,⟨(h.a7 (.ap id) ⟨_,hb,aI,aI⟩).trans h2.1,h2.2⟩,h3,fun i e he=>let⟨e',rz,hk,hd⟩:=h4 i e he;⟨e',rz,hk,hd.yN h⟩⟩
  |it cur left=>
   obtain⟨mb,seen,ck,cH,h2,h3,h4,h5,h6⟩:=h1;exact⟨mb,seen,ck,cH,(h.a7 (.ap id) ⟨_,hb,aI,aI⟩).trans h2,h3,h4,h.maps mb cH ck h4 h5,h6⟩
 .obtain⟨cur,bS,h2,h3,h4⟩:=hM.gh id i j esz el ho bl;exact⟨cur,bS.dv (h.a7 (.sub id i j) ⟨⟨_,_,ho⟩,bl⟩),h2,h3,fun i cs j d hi hj=>let⟨u,hu,hd⟩:=h4 i cs j d hi hj;⟨u,hu,hd.yN h.S⟩⟩
theorem be.yN{ρ:bG}{m:Mem}{w w':World}(x:Qc ρ m w w'){aV:List CV}{tmps:Array Value}(hE:be ρ w aV tmps):be ρ w' aV tmps:=
 ⟨hE.size,fun i c hi=>let⟨v,hv,hd⟩:=hE.jP i c hi;⟨v,hv,hd.yN x⟩⟩
theorem pi{fn:Func}{tmps:Array Value}{R:Ending->World->Prop}{ρ:bG}{m:Mem}{aV:List CV}(hN:N=w0.heap.size):∀(Ds:List Nat)(w:World),Ds.Nodup->
  (∀D,D∈Ds->N<=D/\ρ.S D/\w.heap[D]? =some (.deferred (some [])))->aA ρ m w->be ρ w aV tmps->Ext ρ0 m0 w0 ρ m w->
  (∀w',aA ρ m w'->be ρ w' aV tmps->Ext ρ0 m0 w0 ρ m w'->∃v,(results fn tmps).run P w'= .ok v w'/\R (.returned v) w')->
  LeavesInM Fence.wide 0 P fn tmps R (Ds.map fun D=>{target:= .collected D,args:= #[]}) .returning w
 | [],w,_,_,hM,hE,hx,h=>by obtain⟨v,h1,h2⟩:=h w hM hE hx;exact⟨v,h1,h2⟩
 |D::Ds,w,hn,hD,hM,hE,hx,h=>by
  obtain⟨og,OK⟩:=abh.1 hn;obtain⟨d1,d2,d3⟩:=hD D aI;have aE:=(Z4.1 d3).1;have hc:Qc ρ m w (w.putObj D (.deferred none)):=by
   refine⟨aI,fun b off hS=>?_,fun k hk=>World.putObj_heap_other fun e=>(hM.a7 k hk).2 (e▸d2),fun b es ck hS Ru=>by
    have hb:b≠D:=fun e=>by subst e;rw[d3]at Ru;cases Ru
    rw[World.putObj_heap_other hb];exact Ru⟩
   by_cases hb:b=D
   .subst hb;simp only[World.cell?,d3,World.putObj_heap_same aE]
   .simp only[World.cell?,World.putObj_heap_other hb]
  refine⟨aI,.inl ⟨D,_,rfl,run_takeDeferred d3,?_⟩⟩;refine pi hN Ds _ OK (fun D' QU=>?_) (hM.yN hc) (hE.yN hc) ?_ h
  .obtain⟨e1,e2,e3⟩:=hD D' (by simp[QU])
   exact⟨e1,e2,(World.putObj_heap_other (by rintro rfl;exact og QU)).trans e3⟩
  .exact⟨hx.n,hx.aP,hx.S,hx.S',hx.a7,fun b hb hk=>(World.putObj_heap_other om).trans (hx.frame b hb hk),by simpa using hx.size,hx.os,hx.tape,hx.output⟩
end
section
variable {P:Program} {N:Nat} {ρ0:bG} {m0:Mem} {w0:World}
theorem Ea{K:Ex->St->Prop}:¬LetsOut (xn N ρ0 m0 w0 K):=by rintro⟨a,w,ex,st,ρ,he,_⟩;simp[zi]at he
theorem Eb:∀lc:LC,lc.er.oT=lc.oT:=by
 intro lc
 induction lc<;>simp_all[LC.er,LC.oT]
theorem zr{l:Nat}{n0:Nat}{st:St}{ρ:bG}{act:Act}{W:World}{fn:FuncId}{rec0:Loop}{p:Nat}{la lb:LC}{ca cb:Code}{y:ByteArray}{K:Ex->St->Prop}(Oe:∀(ρ0:bG)(m0:Mem)(w0:World)(K:Ex->St->Prop)(st:St)(ρ:bG)(a:Act)(w:World),ρ0.n=m0.length->aw P m0.length la K st->Inv 0 ρ0 m0 w0 st ρ a w->ca.wpIn (FR (some l)) 0 P (xn 0 ρ0 m0 w0 K) a w)(Of:∀(ρ0:bG)(m0:Mem)(w0:World)(K:Ex->St->Prop)(st:St)(ρ:bG)(a:Act)(w:World),ρ0.n=m0.length->aw P m0.length lb K st->Inv 0 ρ0 m0 w0 st ρ a w->cb.wpIn (FR (some l)) 0 P (xn 0 ρ0 m0 w0 K) a w)(hr:rec0.state= .ready/\rec0.pending=none/\rec0.fn=fn/\rec0.tmps=act.tmps/\rec0.params= #[p]/\rec0.assign=ca/\rec0.body=cb)(hI:Inv N ρ0 m0 w0 st ρ act W)(hl:W.heap[l]? =some (.loop rec0))(BV:oo ρ st.mem l)(TU:w0.heap.size<=l)(h:n9 st.mem fun n1=>aw P n1 la (fun ex s2=>match ex with
    | .normal=>n9 s2.mem fun n2=>aw P n2 lb K s2
    |_=>False) ⟨aZ st.aV p (dh y),st.mem⟩):
  M5 P l #[.string y] W fun e W'=>∃ex ib ρ' jump,K ex ib/\Inv N ρ0 m0 w0 ⟨st.aV,ib.mem⟩ ρ' act W'/\e= .returned (.bool jump.isNone)/\
   W'.heap[l]? =some (.loop {rec0 with state:=if jump.isNone then .ready else .done,pending:=jump})/\
   ((jump=none/\ex= .normal)\/(jump=some .ret/\ex= .ret)\/∃id,jump=some (.exit id)/\ex= .exit id)/\
   (∀b,b<W.heap.size->b≠l->oo ρ st.mem b->oo ρ' ib.mem b/\W'.heap[b]? =W.heap[b]?)/\oo ρ' ib.mem l/\W.heap.size<=W'.heap.size:=by
 obtain⟨r1,r2,r3,r4,r5,r6,r7⟩:=hr;have hy:=run_yield (P:=P) (args:= #[.string y]) hl (by rw[r5];rfl)
 rw[r3,r4,r5,r6,r7]at hy;refine⟨_,_,_,_,hy,?_⟩;have aE:l<W.heap.size:=(Z4.1 hl).1;simp only[gy]at h;have Y9:RoundIn Fence.wide 0 P l fn (act.tmps.setIfInBounds p (.string y)) ca cb W fun e W'=>∃ex ib ρ' jump,K ex ib/\Inv N ρ0 m0 w0 ⟨st.aV,ib.mem⟩ ρ' act W'/\e= .returned (.bool jump.isNone)/\
   W'.heap[l]? =some (.loop {rec0 with state:=if jump.isNone then .ready else .done,pending:=jump})/\
   ((jump=none/\ex= .normal)\/(jump=some .ret/\ex= .ret)\/∃id,jump=some (.exit id)/\ex= .exit id)/\
   (∀b,b<W.heap.size->b≠l->oo ρ st.mem b->oo ρ' ib.mem b/\W'.heap[b]? =W.heap[b]?)/\oo ρ' ib.mem l/\W.heap.size<=W'.heap.size:=by
  refine roundIn_of_wpIn trivial ?_;have xi:be ρ W (aZ st.aV p (dh y)) (act.tmps.setIfInBounds p (.string y)):=by rw[bg];exact hI.aV.set (cZ.val _ rfl:bV ρ W (dh y) (.string y))
  have Va:Inv 0 ρ st.mem W ⟨aZ st.aV p (dh y),st.mem⟩ ρ {tmps:=act.tmps.setIfInBounds p (.string y),defers:=[]} W:=
   ⟨Ext.refl _ _ _,hI.mem,xi,BS.nil,Wi _,Pq _⟩
  have XH:=Oe ρ st.mem W _ _ ρ _ W hI.mem.n h Va;rw[D9]at XH;refine wpIn_mono XH fun e a1 W1 hp=>?_
  obtain⟨ex,s2,ρ2,he,hK,FE⟩:=hp;cases e<;>simp[zi]at he<;>subst he<;>simp only at hK
  simp only[Exit.then];have y8:W1.heap[l]? =some (.loop rec0):=(FE.ext.frame l aE BV.2).trans hl;have Ih:oo ρ2 s2.mem l:=BV.ext FE.ext aE;have Rw:l<W1.heap.size:=(Z4.1 y8).1;refine⟨_,run_beginRound y8 r1,?_⟩;obtain⟨W2,Nj⟩:∃W2,W1.putObj l (.loop {rec0 with state:= .busy})=W2:=⟨_,rfl⟩
  rw[Nj];have tH:sr ρ2 s2.mem W1 W2:=by rw[<-Nj];exact sr.put Ih _
  have BX:=FE.mem.su tH;have Vb:Inv 0 ρ2 s2.mem W2 s2 ρ2 a1 W2:=⟨Ext.refl _ _ _,BX,FE.aV.cE tH.cE,FE.defers.su tH,Wi _,Pq _⟩;have XI:=Of ρ2 s2.mem W2 _ _ ρ2 _ W2 BX.n hK Vb;rw[D9]at XI;refine wpIn_mono XI fun e a3 W3 hp=>?_
  obtain⟨ex,s3,ρ3,he,Za,KR⟩:=hp;have zo:l<W2.heap.size:=by rw[<-Nj];simpa using Rw
  have XJ:W3.heap[l]? =some (.loop {rec0 with state:= .busy}):=by rw[KR.ext.frame l zo Ih.2,<-Nj];exact World.putObj_heap_same Rw
  have Vc:l<W3.heap.size:=(Z4.1 XJ).1;have Nk:oo ρ3 s3.mem l:=Ih.ext KR.ext zo;have iu:∀(jump:Option Code),((jump=none/\ex= .normal)\/(jump=some .ret/\ex= .ret)\/∃id,jump=some (.exit id)/\ex= .exit id)->
    ∃v w',(Instr.endRound l jump).run P W3= .ok v w'/\∃ex ib ρ' jump,K ex ib/\Inv N ρ0 m0 w0 ⟨st.aV,ib.mem⟩ ρ' act w'/\Ending.returned v= .returned (.bool jump.isNone)/\
     w'.heap[l]? =some (.loop {rec0 with state:=if jump.isNone then .ready else .done,pending:=jump})/\
     ((jump=none/\ex= .normal)\/(jump=some .ret/\ex= .ret)\/∃id,jump=some (.exit id)/\ex= .exit id)/\
     (∀b,b<W.heap.size->b≠l->oo ρ st.mem b->oo ρ' ib.mem b/\w'.heap[b]? =W.heap[b]?)/\oo ρ' ib.mem l/\W.heap.size<=w'.heap.size:=by
   intro jump hj;have Vd:=run_endRound (P:=P) jump XJ;refine⟨_,_,Vd,ex,s3,ρ3,jump,Za,?_,rfl,World.putObj_heap_same Vc,hj,fun b hb OL ho=>?_,Nk,?_⟩
   .have x1:Ext ρ0 m0 w0 ρ2 s2.mem W1:=hI.ext.trans FE.ext;have x2:Ext ρ0 m0 w0 ρ2 s2.mem W2:=by rw[<-Nj];exact⟨x1.n,x1.aP,x1.S,x1.S',x1.a7,fun b hb hk=>(World.putObj_heap_other om).trans (x1.frame b hb hk),by simpa using x1.size,x1.os,x1.tape,x1.output⟩
    have x3:Ext ρ0 m0 w0 ρ3 s3.mem W3:=x2.trans KR.ext;have e1:be ρ2 W1 st.aV act.tmps:=hI.aV.ext hI.mem FE.ext;have e3:be ρ3 W3 st.aV act.tmps:=(e1.cE tH.cE).ext BX KR.ext;have d3:BS N ρ3 W3 act.defers:=((hI.defers.ext hI.mem FE.ext).su tH).ext BX KR.ext;have Zb:Inv N ρ0 m0 w0 ⟨st.aV,s3.mem⟩ ρ3 act W3:=⟨x3,KR.mem,e3,d3,hI.hN,aaP hI.n0 (aaP FE.n0 KR.n0)⟩;exact Zb.put Nk TU _
   .have nr:oo ρ2 s2.mem b:=ho.ext FE.ext hb;have Oo:b<W1.heap.size:=aad hb FE.ext.size;have mL:b<W2.heap.size:=by rw[<-Nj];simpa using Oo
    refine⟨nr.ext KR.ext mL,?_⟩;rw[World.putObj_heap_other OL,KR.ext.frame b mL nr.2,<-Nj,World.putObj_heap_other OL,FE.ext.frame b hb ho.2]
   .have h1:=FE.ext.size;have h2:W1.heap.size=W2.heap.size:=by rw[<-Nj];simp
    have h3:=KR.ext.size;simp only[World.putObj_size];omega
  cases e<;>simp[zi]at he<;>subst he
  .exact iu none (.inl ⟨rfl,rfl⟩)
  .rename_i id;exact iu (some (.exit id)) (.inr (.inr ⟨id,rfl,rfl⟩))
  .exact iu (some .ret) (.inr (.inl ⟨rfl,rfl⟩))
 have hz:(#[p].zip #[Value.string y]).foldl (fun tmps x=>tmps.setIfInBounds x.1 x.2) act.tmps=act.tmps.setIfInBounds p (.string y):=aI
 exact hz▸Y9
theorem Inv.Rx{st:St}{ρ:bG}{a:Act}{w w':World}(hI:Inv N ρ0 m0 w0 st ρ a w)(h:sr ρ st.mem w w')(hb:∀b,b<w0.heap.size->(∀k,Live ρ0 m0 k->(ρ0.aP k).b≠b)->w'.heap[b]? =w.heap[b]?)(ho:w'.os=w.os)(ht:w'.tape=w.tape)(hu:w'.output=w.output):Inv N ρ0 m0 w0 st ρ a w':=
 ⟨⟨hI.ext.n,hI.ext.aP,hI.ext.S,hI.ext.S',hI.ext.a7,fun b qn hk=>(hb b qn hk).trans (hI.ext.frame b qn hk),aaP hI.ext.size h.size,ho.trans hI.ext.os,ht.trans hI.ext.tape,hu.trans hI.ext.output⟩,
  hI.mem.su h,hI.aV.cE h.cE,hI.defers.su h,hI.hN,hI.n0⟩
theorem aA.Ve{ρ:bG}{m:Mem}{w:World}{D:Nat}(hM:aA ρ m w)(hD:D<w.heap.size)(hl:∀k,Live ρ m k->(ρ.aP k).b≠D):aA {ρ with S:=fun b=>ρ.S b\/b=D} m w:=by
 have g:hB ρ w {ρ with S:=fun b=>ρ.S b\/b=D} w:=⟨Pq _,fun _ _=>rfl,fun _ h=>.inl h,fun _ _=>rfl⟩
 have dD:∀k,Live {ρ with S:=fun b=>ρ.S b\/b=D} m k↔Live ρ m k:=fun k=>by cases k<;>rfl
 refine⟨hM.n,fun b hb=>?_,fun k hk=>⟨(hM.a7 k ((dD k).1 hk)).1,?_⟩,fun k k' hk gv e=>hM.inj k k' ((dD k).1 hk) ((dD k').1 gv) e,fun id b hb=>?_,fun id i j esz el ho bl=>?_⟩
 .rcases hb with hb|rfl
  .exact hM.S b hb
  .exact hD
 .rintro(hs|hs)
  .exact(hM.a7 k ((dD k).1 hk)).2 hs
  .exact hl k ((dD k).1 hk) hs
 .have h1:=hM.bk id b hb;cases b with
  |aO=>trivial
  |var cs=>
   obtain⟨cur,bS,h2⟩:=h1;exact⟨cur,bS,fun j c hj=>let⟨u,hu,hd⟩:=h2 j c hj;⟨u,hu,bq.cE g aI hd⟩⟩
  |row esz elems=>
   obtain⟨h2,h3,h4,h5,h6⟩:=h1;refine⟨h2,h3,h4,h5,fun hp=>?_⟩
   obtain⟨cur,bS,h7,h8⟩:=h6 hp;exact⟨cur,bS,h7,fun i cs j c hi hj=>let⟨u,hu,hd⟩:=h8 i cs j c hi hj;⟨u,hu,bq.cE g (by intro iO i' j' e';cases e';rw[hM.n];exact(Gf.1 hb).1) hd⟩⟩
  |mp es=>
   obtain⟨cH,ck,h2,h3,h4⟩:=h1;exact⟨cH,ck,h2,h3,fun i e he=>let⟨e',rz,hk,hd⟩:=h4 i e he;⟨e',rz,hk,du.cE g hd⟩⟩
  |it cur left=>
   obtain⟨mb,seen,ck,cH,h2,h3,h4,h5,h6⟩:=h1;exact⟨mb,seen,ck,cH,h2,h3,g.S _ h4,(g.heap mb h4).trans h5,h6⟩
 .obtain⟨cur,bS,h2,h3,h4⟩:=hM.gh id i j esz el ho bl;exact⟨cur,bS,h2,h3,fun i cs j d hi hj=>let⟨u,hu,hd⟩:=h4 i cs j d hi hj;⟨u,hu,cZ.mono g.S g.heap hd⟩⟩
theorem Live.gM{ρ:bG}{m:Mem}{iN:List Nat}{k:kH}(h:Live ρ (nL m iN) k):Live ρ m k/\k.id∉iN:=by
 cases k with
 |ap id=>
  obtain⟨bk,h1,h2,h3⟩:=h;rcases k8 m iN id bk h1 with rfl|⟨h4,h5⟩
  .exact absurd rfl h2
  .exact⟨⟨bk,h4,h2,h3⟩,h5⟩
 |sub id i j=>
  obtain⟨⟨esz,elems,es,rows,cs,h1,h2,h3⟩,h4⟩:=h;rcases k8 m iN id _ h1 with h5|⟨h5,h6⟩
  .cases h5
  .exact⟨⟨⟨esz,elems,es,rows,cs,h5,h2,h3⟩,h4⟩,h6⟩
theorem aA.gM{ρ:bG}{m:Mem}{w:World}(hM:aA ρ m w)(iN:List Nat):aA ρ (nL m iN) w:=by
 refine⟨by rw[qz];exact hM.n,hM.S,fun k hk=>hM.a7 k hk.gM.1,fun k k' hk gv=>hM.inj k k' hk.gM.1 gv.gM.1,fun id b hb=>?_,fun id i j esz el ho bl=>?_⟩
 .rcases k8 m iN id b hb with rfl|⟨h,_⟩
  .trivial
  .exact hM.bk id b h
 .obtain⟨es,rows,cs,h1,h2,h3⟩:=ho;rcases k8 m iN id _ h1 with h5|⟨h5,_⟩
  .cases h5
  .exact hM.gh id i j esz el ⟨es,rows,cs,h5,h2,h3⟩ bl
theorem Inv.gM{st:St}{ρ:bG}{a:Act}{w:World}(hI:Inv N ρ0 m0 w0 st ρ a w)(iN:List Nat):Inv N ρ0 m0 w0 ⟨st.aV,nL st.mem iN⟩ ρ a w:=
 ⟨⟨hI.ext.n,hI.ext.aP,hI.ext.S,hI.ext.S',fun k hk=>hI.ext.a7 k hk.gM.1,hI.ext.frame,hI.ext.size,hI.ext.os,hI.ext.tape,hI.ext.output⟩,
  hI.mem.gM iN,hI.aV,hI.defers,hI.hN,by rw[qz];exact hI.n0⟩
theorem BY{x:X}{f:Operand}{p:Nat}{ps:Array Tmp}{la lb:LC}{ca cb:Code}{K:Ex->St->Prop}{st:St}{ρ:bG}{a:Act}{w:World}(kh:ρ0.n=m0.length)(oP:ps= #[p])(hx:bh f=some x)(Oe:∀(l:Nat)(ρ0:bG)(m0:Mem)(w0:World)(K:Ex->St->Prop)(st:St)(ρ:bG)(a:Act)(w:World),ρ0.n=m0.length->aw P m0.length la K st->Inv 0 ρ0 m0 w0 st ρ a w->ca.wpIn (FR (some l)) 0 P (xn 0 ρ0 m0 w0 K) a w)(Of:∀(l:Nat)(ρ0:bG)(m0:Mem)(w0:World)(K:Ex->St->Prop)(st:St)(ρ:bG)(a:Act)(w:World),ρ0.n=m0.length->aw P m0.length lb K st->Inv 0 ρ0 m0 w0 st ρ a w->cb.wpIn (FR (some l)) 0 P (xn 0 ρ0 m0 w0 K) a w)(h:aw P m0.length (.u6 x p la lb) K st)(hI:Inv N ρ0 m0 w0 st ρ a w):(Code.rangeFunc f ps ca cb).wpIn (FR none) 0 P (xn N ρ0 m0 w0 K) a w:=by
 obtain⟨gf,iN,cs,xs,α,J,S,Vf,H5,⟨pZ,eG⟩,Vg,⟨x0,Zc,Qd⟩,BZ,Ry⟩:=h;have hd:=aN hI.aV hx;rw[Vf]at hd;obtain⟨gT,hv⟩:=hd;rw[Lq];refine wpIn_rangeFunc fun fn _=>?_
 obtain⟨rec0,sw⟩:∃rec0:Loop,rec0={state:= .ready,pending:=none,fn,tmps:=a.tmps,params:=ps,assign:=ca,body:=cb,defers:=w.heap.size}:=⟨_,rfl⟩;obtain⟨W1,yO⟩:∃W1,(w.alloc (.deferred (some []))).alloc (.loop rec0)=W1:=⟨_,rfl⟩;have Rz:W1.heap.size=w.heap.size+2:=by rw[<-yO];simp
 have hold:∀b,b<w.heap.size->W1.heap[b]? =w.heap[b]? :=fun b hb=>by
  rw[<-yO];exact(Go.RowKit.Below.heap_alloc _ _ _ (by simp;omega)).trans (Go.RowKit.Below.heap_alloc _ _ _ hb)
 have XK:W1.heap[w.heap.size+1]? =some (.loop rec0):=by rw[<-yO];have:=World.alloc_heap_new (w.alloc (.deferred (some []))) (.loop rec0);rwa [World.size_alloc]at this
 have RA:W1.heap[w.heap.size]? =some (.deferred (some [])):=by rw[<-yO];exact(Go.RowKit.Below.heap_alloc _ _ _ aI).trans (World.alloc_heap_new w _)
 have QR:W1.os=w.os/\W1.tape=w.tape/\W1.output=w.output:=by rw[<-yO];exact⟨rfl,rfl,rfl⟩
 obtain⟨⟨XL,Zd,XM,KT⟩,hT⟩:=Vg;have Vh:XL.body≠none:=by intro e;rw[e]at XM;cases XM
 have Vi:XL.name≠ "runtime.NumGoroutine" :=by intro e;rw[e]at KT;simp at KT
 obtain⟨as,has⟩:∃as:List (Nat×Nat),as=iN.map fun id=>((ρ.aP (.ap id)).b,(ρ.aP (.ap id)).au):=⟨_,rfl⟩
 have Vj:(iN.map fun id=>Value.pointer (some ⟨(ρ.aP (.ap id)).b,(ρ.aP (.ap id)).au,none⟩))=oW as:=by rw[has,oW,aaS];rfl
 rw[Vj]at hv;have RB:sr ρ st.mem w W1:=⟨om,fun b hb=>hold b (hI.mem.S b hb),fun k hk=>hold _ (hI.mem.a7 k hk).1⟩
 have Ec:Inv N ρ0 m0 w0 st ρ a W1:=hI.su RB (fun b hb=>hold b (aad hb hI.ext.size)) QR.1 QR.2.1 QR.2.2
 let ρ1:bG:={ρ with S:=fun b=>ρ.S b\/b=w.heap.size}
 let act:Act:={a with defers:=[{target:= .collected w.heap.size,args:= #[]}]++a.defers}
 have aE:∀k,Live ρ st.mem k->(ρ.aP k).b<w.heap.size:=fun k hk=>(hI.mem.a7 k hk).1
 have dD:∀(m:Mem)k,Live ρ1 m k↔Live ρ m k:=fun m k=>by cases k<;>rfl
 have g1:hB ρ W1 ρ1 W1:=⟨Pq _,fun _ _=>rfl,fun _ h=>.inl h,fun _ _=>rfl⟩
 have Ze:Inv N ρ0 m0 w0 st ρ1 act W1:=by
  refine⟨⟨Ec.ext.n,Ec.ext.aP,fun b hb=>.inl (Ec.ext.S b hb),fun b hb=>?_,fun k hk=>Ec.ext.a7 k ((dD _ k).1 hk),Ec.ext.frame,Ec.ext.size,Ec.ext.os,Ec.ext.tape,Ec.ext.output⟩,
   Ec.mem.Ve om (fun k hk e=>by have:=aE k hk;omega),Ec.aV.cE g1,?_,hI.hN,hI.n0⟩
  .rcases hb with hb|rfl
   .exact Ec.ext.S' b hb
   .exact .inr (.inl hI.ext.size)
  .obtain⟨Ds,h1,h2,h3⟩:=Ec.defers;refine⟨w.heap.size::Ds,by simp[act,h1],abh.2 ⟨fun hm=>?_,h2⟩,fun D hD=>?_⟩
   .have:=hI.mem.S _ (h3 _ hm).2.1;omega
   .rcases aaf.1 hD with rfl|hD
    .exact⟨aaP hI.hN hI.ext.size,.inr rfl,RA⟩
    .exact⟨(h3 D hD).1,.inl (h3 D hD).2.1,(h3 D hD).2.2⟩
 have Zf:=Ze.gM iN;have RC:oo ρ1 (nL st.mem iN) (w.heap.size+1):=by
  refine⟨?_,fun k hk e=>?_⟩
  .rintro(hs|hs)
   .have:=hI.mem.S _ hs;omega
   .omega
  .have:=aE k ((dD _ k).1 hk).gM.1;have h2:(ρ1.aP k).b=(ρ.aP k).b:=rfl;omega
 obtain⟨RD,Qe⟩:=rR H5;have cP:∀id,id∈iN->Live ρ st.mem (.ap id):=fun id hid=>by
  obtain⟨i,hi⟩:=Un hid;have aE:i<cs.length:=by rw[<-RD];exact(Gf.1 hi).1
  obtain⟨h1,_⟩:=Qe i id _ hi (sA aE);exact⟨_,h1,aI,aI⟩
 have RE:∀b,b∈as.map (·.1)->oo ρ1 (nL st.mem iN) b:=by
  intro b hb;rw[has,aaS]at hb;obtain⟨id,hid,rfl⟩:=Z5.1 hb;have hL:=cP id hid;refine⟨?_,fun k hk e=>?_⟩
  .rintro(hs|hs)
   .exact(hI.mem.a7 _ hL).2 hs
   .have:=aE _ hL;simp only[Function.comp]at hs;omega
  .have iP:=(dD _ k).1 hk;have:=hI.mem.inj k _ iP.gM.1 hL e;subst this;exact iP.gM.2 hid
 obtain⟨ρ2,Zg,Nl⟩:=Zf.view kh Qd;have Vk:as.length=cs.length:=by rw[has,KB,RD]
 have Vl:(as.map (·.1)).Nodup:=by
  rw[has,aaS];have key:∀l:List Nat,(∀id,id∈l->id∈iN)->l.Nodup->(l.map fun id=>(ρ.aP (.ap id)).b).Nodup:=by
   intro l
   induction l with
   |nil=>intro _ _;exact List.nodup_nil
   |cons id r ih=>
    intro hm hn;obtain⟨og,OK⟩:=abh.1 hn;refine abh.2 ⟨fun hb=>?_,ih (fun id h=>hm id (by simp[h])) OK⟩
    obtain⟨iO,Ii,e⟩:=Z5.1 hb;have:=hI.mem.inj _ _ (cP iO (hm iO (by simp[Ii]))) (cP id (hm id aI)) e
    cases this;exact og Ii
  exact key iN (fun _ h=>h) pZ
 have Nm:∀b,b∈as.map (·.1)->b<w.heap.size:=by intro b hb;rw[has,aaS]at hb;obtain⟨id,hid,rfl⟩:=Z5.1 hb;exact aE _ (cP id hid)
 have Vm:∀b,b∈as.map (·.1)->w0.heap.size<=b\/∃k0,Live ρ0 m0 k0/\(ρ0.aP k0).b=b:=by intro b hb;rw[has,aaS]at hb;obtain⟨id,hid,rfl⟩:=Z5.1 hb;exact hI.ext.a7 _ (cP id hid)
 have Lt:∀a0,a0∈as->a0.1∈as.map (·.1):=fun a0 h0=>Z5.2 ⟨a0,h0,rfl⟩
 let Jw:Nat->World->Prop:=fun k W=>∃y ρ',J k y/\Inv N ρ0 m0 w0 (S y) ρ' act W/\oo ρ' (S y).mem (w.heap.size+1)/\(∀b,b∈as.map (·.1)->oo ρ' (S y).mem b)/\
  W.heap[w.heap.size+1]? =some (.loop rec0)
 let Jx:World->Prop:=fun W=>∃c ex ib ρ',K ex ib/\Inv N ρ0 m0 w0 ib ρ' act W/\oo ρ' ib.mem (w.heap.size+1)/\(∀b,b∈as.map (·.1)->oo ρ' ib.mem b)/\
  ((c= .ret/\ex= .ret)\/∃id,c= .exit id/\ex= .exit id)/\W.heap[w.heap.size+1]? =some (.loop {rec0 with state:= .done,pending:=some c})
 have Nn:∀(ib:St)(ρ':bG)(o:Obj)(W W':World),Inv N ρ0 m0 w0 ib ρ' act W->(∀b,b∈as.map (·.1)->oo ρ' ib.mem b)->W.heap[w.heap.size+1]? =some o->
   W.heap.size<=W'.heap.size->(∀b,b<W.heap.size->(∀a,a∈as->b≠a.1)->W'.heap[b]? =W.heap[b]?)->W'.os=W.os->W'.tape=W.tape->W'.output=W.output->
   Inv N ρ0 m0 w0 ib ρ' act W'/\W'.heap[w.heap.size+1]? =some o:=by
  intro ib ρ' o W W' hI ho hl hs hb h1 h2 h3;refine⟨hI.Rx ⟨hs,fun b hS=>hb b (hI.mem.S b hS) fun a ha e=>(ho _ (Lt a ha)).1 (e▸hS),fun k hk=>hb _ (hI.mem.a7 k hk).1 fun a ha e=>(ho _ (Lt a ha)).2 k hk e⟩
   (fun b qn hk=>hb b (aad qn hI.ext.size) fun a ha e=>?_) h1 h2 h3,?_⟩
  .rcases Vm _ (Lt a ha)with h|⟨k0,h0,e0⟩
   .omega
   .exact hk k0 h0 (e0.trans e.symm)
  .rw[hb _ (Z4.1 hl).1 fun a ha e=>?_]
   .exact hl
   .have:=Nm _ (Lt a ha);omega
 have main:=hT (w.heap.size+1) as W1 Jw Jx Vk Vl
  (fun i a0 v hi hv=>by
   rw[has,NO]at hi;cases hid:iN[i]? with
   |none=>rw[hid]at hi;cases hi
   |some id=>
    rw[hid]at hi;simp only[Wn,Wm]at hi;subst hi;obtain⟨hm,ix⟩:=Qe i id v hid hv;obtain⟨cur,bS,iy⟩:=Ec.mem.bk id _ hm;obtain⟨u,hu,b8⟩:=iy 0 _ rfl;have so:u=v:=by
     cases b8 with
     |val _ _=>rfl
     |no _=>simp[cG]at ix
    subst so;exact⟨by rw[bS.cell];simpa using hu,bS.nZ (by have:=(Z4.1 hu).1;simpa using this)⟩)
  (fun k W W'⟨y,ρ',h1,h2,h3,h4,h5⟩hs hb e1 e2 e3=>by obtain⟨q1,q2⟩:=Nn _ _ _ W W' h2 h4 h5 hs hb e1 e2 e3;exact⟨y,ρ',h1,q1,h3,h4,q2⟩)
  (fun W W'⟨c,ex,ib,ρ',h0,h2,h3,h4,h6,h5⟩hs hb e1 e2 e3=>by obtain⟨q1,q2⟩:=Nn _ _ _ W W' h2 h4 h5 hs hb e1 e2 e3;exact⟨c,ex,ib,ρ',h0,q1,h3,h4,h6,q2⟩)
  (fun k y W hk⟨z,ρ',h1,h2,h3,h4,h5⟩=>by
   have hr:=BZ k y z hk h1;have OM:=zr (Oe _) (Of _) (l:=w.heap.size+1) (n0:=0) (rec0:=rec0) (act:=act) (fn:=fn) (p:=p) (by rw[sw];exact⟨rfl,rfl,rfl,rfl,oP,rfl,rfl⟩) h2 h5 h3
    (by have:=hI.ext.size;omega) hr
   obtain⟨f1,t1,a1,b1,hy,hR⟩:=OM;refine⟨f1,t1,a1,b1,hy,hR.mono fun e W' hp=>?_⟩
   obtain⟨ex,ib,ρ3,jump,hK,hIn,he,hl,hj,Vn,zs,dn⟩:=hp;have TV:∀b,b∈as.map (·.1)->oo ρ3 ib.mem b/\W'.heap[b]? =W.heap[b]? :=fun b hb=>by have aE:=Nm b hb;have zo:w.heap.size+1<W.heap.size:=(Z4.1 h5).1;exact Vn b om om (h4 b hb)
   rcases hj with⟨rfl,rfl⟩|⟨rfl,rfl⟩|⟨id,rfl,rfl⟩
   .left;obtain⟨z',QM,Q6⟩:=hK;obtain⟨ρ4,Zh,TW⟩:=hIn.view kh Q6;refine⟨he,⟨z',ρ4,QM,Zh,TW _ zs,fun b hb=>TW b (TV b hb).1,?_⟩,dn,fun a ha=>(TV a.1 (Z5.2 ⟨a,ha,rfl⟩)).2⟩
    rw[hl,sw];rfl
   .right;exact⟨he,.ret,.ret,_,ρ3,hK,hIn,zs,fun b hb=>(TV b hb).1,.inl ⟨rfl,rfl⟩,hl⟩
   .right;exact⟨he,.exit id,.exit id,_,ρ3,hK,hIn,zs,fun b hb=>(TV b hb).1,.inr ⟨id,rfl,rfl⟩,hl⟩)
  ⟨x0,ρ2,Zc,Zg,Nl _ RC,fun b hb=>Nl b (RE b hb),XK⟩
 refine⟨w.heap.size+1,[{target:= .collected w.heap.size,args:= #[]}],W1,{target:= .fn (.func gf) (oW as).toArray,args:= #[.func (.yield (w.heap.size+1)) #[] #[]]},W1,gf,
  #[.func (.yield (w.heap.size+1)) #[] #[]]++(oW as).toArray,W1,?_,?_,fun _ _=>trivial,?_,by simp[Fence.wide],?_⟩
 .rw[<-yO,sw];exact run_enterLoop_outer _ _ _ _ _
 .simp only[resolve,hv];simp[go_sem]
 .simp[invoke,callFunc,Zd,Vi,Vh]
 .refine main.mono fun e W' hp=>?_
  obtain⟨⟨v,rfl⟩,hp⟩:=hp;rcases hp with⟨y,ρ',h1,h2,h3,h4,h5⟩|⟨c,ex,ib,ρ',h0,h2,h3,h4,h6,h5⟩
  .refine⟨none,_,by have:=run_endLoop (P:=P) h5 (by rw[sw];simp);rw[sw]at this;exact this,?_⟩
   exact⟨.normal,S y,ρ',rfl,Ry y h1,h2.put h3 (by have:=hI.ext.size;omega) _⟩
  .refine⟨some c,_,by have:=run_endLoop (P:=P) h5 (by simp);exact this,?_⟩
   have RF:=h2.put h3 (by have:=hI.ext.size;omega) (.loop {rec0 with state:= .exhausted,pending:=some c})
   rcases h6 with⟨rfl,rfl⟩|⟨id,rfl,rfl⟩
   .exact wpIn_ret ⟨.ret,ib,ρ',rfl,h0,RF⟩
   .exact wpIn_exit ⟨.exit id,ib,ρ',rfl,h0,RF⟩
end
section
variable {P:Program} {N:Nat} {ρ0:bG} {m0:Mem} {w0:World}
theorem i4{f:Operand}{ps:Array Tmp}{x y:Code}{lc:LC}(h:dx P (.rangeFunc f ps x y)=some lc):∃x' p la lb,lc= .u6 x' p la lb:=by
 simp only[dx,N7]at h;split at h
 case h_2=>cases h
 simp only[Jm]at h;obtain⟨lx,hx,ly,hy,h⟩:=h;split at h
 case isFalse=>cases h
 simp only[Jm]at h;obtain⟨x',_,h⟩:=h;cases h;exact⟨_,_,_,_,rfl⟩
theorem Ij:∀(lc:LC)(r:Option Nat)(xw:r=none\/lc.oT=true)(N:Nat)(ρ0:bG)(m0:Mem)(w0:World)(kh:ρ0.n=m0.length)(c:Code)(K:Ex->St->Prop)(st:St)(ρ:bG)(a:Act)(w:World),
  dx P c=some lc.er->aw P m0.length lc K st->Inv N ρ0 m0 w0 st ρ a w->c.wpIn (FR r) 0 P (xn N ρ0 m0 w0 K) a w:=by
 intro lc
 induction lc with
 |cI b ih=>
  intro r xw N ρ0 m0 w0 kh c K st ρ a w hl h hI;obtain⟨s',hv,h⟩:=h;obtain⟨ρ',nF⟩:=hI.HM kh hv;exact ih r xw N ρ0 m0 w0 kh c K s' ρ' a w hl h nF
 |skip=>
  intro r xw N ρ0 m0 w0 kh c K st ρ a w hl h hI;cases c with
  |skip=>exact wpIn_skip ⟨_,st,ρ,rfl,h,hI⟩
  |region id ops bU=>cases bU<;>simp[dx,LC.er,Jm]at hl
  |rangeFunc f ps ca cb=>obtain⟨_,_,_,_,e⟩:=i4 hl;simp[LC.er]at e
  |_=>simp[dx,LC.er,Jm]at hl
 |ai Vo=>
  intro r xw N ρ0 m0 w0 kh c K st ρ a w hl h hI;cases c with
  |region id ops bU=>
   cases bU with
   |true=>simp[dx,LC.er,Jm]at hl
   |false=>
    simp only[dx,LC.er,N7,Jm]at hl;obtain⟨bO,xt,hl⟩:=hl;cases hl;refine wpIn_region (gC (tG xt) Ea _ _ _ ?_);have:=tE (Q:=xn N ρ0 m0 w0 K) (K:=Fe K) (fun aV m ρ a w hK hI=>⟨_,_,ρ,rfl,hK,hI⟩) ops.toList 0 _ st.aV st.mem ρ a w rfl xt h hI
    simpa[List.range_eq_range']using this
  |rangeFunc f ps ca cb=>obtain⟨_,_,_,_,e⟩:=i4 hl;simp[LC.er]at e
  |_=>simp[dx,LC.er,Jm]at hl
 |bU Vo Ux=>
  intro r xw N ρ0 m0 w0 kh c K st ρ a w hl h hI;cases c with
  |region id ops bU=>
   cases bU with
   |true=>
    simp only[dx,LC.er,N7,Jm]at hl;obtain⟨bO,xt,hl⟩:=hl;obtain⟨n8,hs,hl⟩:=hl;cases hl;refine wpIn_region_draw fun t=>gC (tG xt) Ea _ _ _ ?_
    exact xu (Q:=xn N ρ0 m0 w0 K) (K:=K) (fun aV m ρ a w hK hI=>⟨_,_,ρ,rfl,hK,hI⟩) xt hs h hI t
   |false=>simp[dx,LC.er,Jm]at hl
  |rangeFunc f ps ca cb=>obtain⟨_,_,_,_,e⟩:=i4 hl;simp[LC.er]at e
  |_=>simp[dx,LC.er,Jm]at hl
 |seq lx ly OH Ie=>
  intro r xw N ρ0 m0 w0 kh c K st ρ a w hl h hI;cases c with
  |seq x y=>
   simp only[dx,LC.er,N7,Jm,Wm,LC.seq.injEq]at hl;obtain⟨lx',hx,ly',hy,rfl,rfl⟩:=hl;refine wpIn_seq (wpIn_mono (OH r (xw.imp id fun h=>(abv.1 h).1) N ρ0 m0 w0 kh x _ st ρ a w hx h hI) fun e a' w' hp=>?_)
   obtain⟨ex,ib,ρ',he,hK,nF⟩:=hp;cases e<;>simp[zi]at he<;>subst he
   .exact Ie r (xw.imp id fun h=>(abv.1 h).2) N ρ0 m0 w0 kh y K ib ρ' a' w' hy hK nF
   .exact⟨_,ib,ρ',rfl,hK,nF⟩
   .exact⟨_,ib,ρ',rfl,hK,nF⟩
  |region id ops bU=>cases bU<;>simp[dx,LC.er,Jm]at hl
  |rangeFunc f ps ca cb=>obtain⟨_,_,_,_,e⟩:=i4 hl;simp[LC.er]at e
  |_=>simp[dx,LC.er,Jm]at hl
 |cond x0 ly0 lz0 Ie Vp=>
  intro r xw N ρ0 m0 w0 kh c K st ρ a w hl h hI;cases c with
  |cond x y z=>
   simp only[dx,LC.er,N7,Jm,Wm,LC.cond.injEq]at hl;obtain⟨x',hx,ly,hy,lz,hz,rfl,rfl,rfl⟩:=hl;have hd:=aN hI.aV hx;simp only[aw]at h;split at h
   .rename_i t sn;rw[sn]at hd;have ht:=(bJ hd).1;have pb:∀b,t=b->Og x' (ay b) st.aV=st.aV:=fun b hb=>by
     subst hb;cases x' with
     |t n=>exact xr sn
     |c v=>rfl
    refine wpIn_cond ht ?_;rcases cg.1 h with⟨rfl,h⟩|⟨rfl,h⟩
    .simp only[ei,pb true rfl]at h;exact Ie r (xw.imp id fun h=>(abv.1 h).1) N ρ0 m0 w0 kh y K st ρ a w hy h hI
    .simp only[ei,pb false rfl]at h;exact Vp r (xw.imp id fun h=>(abv.1 h).2) N ρ0 m0 w0 kh z K st ρ a w hz h hI
   .exact h.elim
  |region id ops bU=>cases bU<;>simp[dx,LC.er,Jm]at hl
  |rangeFunc f ps ca cb=>obtain⟨_,_,_,_,e⟩:=i4 hl;simp[LC.er]at e
  |_=>simp[dx,LC.er,Jm]at hl
 |block Zi XN ih=>
  intro r xw N ρ0 m0 w0 kh c K st ρ a w hl h hI;cases c with
  |block id b=>
   simp only[dx,LC.er,N7,Jm,Wm,LC.block.injEq]at hl;obtain⟨lb,hb,rfl,rfl⟩:=hl;refine wpIn_block (wpIn_mono (ih r xw N ρ0 m0 w0 kh b _ st ρ a w hb h hI) fun e a' w' hp=>?_)
   obtain⟨ex,ib,ρ',he,hK,nF⟩:=hp;cases e<;>simp[zi]at he<;>subst he
   .exact⟨_,ib,ρ',rfl,hK,nF⟩
   .rename_i iO;simp only[Bs]at hK;simp only[Exit.inBlock];rcases cg.1 hK with⟨hid,hK⟩|⟨hid,hK⟩
    .rw[if_pos (Wh hid)];exact⟨_,ib,ρ',rfl,hK,nF⟩
    .rw[if_neg (abr hid)];exact⟨_,ib,ρ',rfl,hK,nF⟩
   .exact⟨_,ib,ρ',rfl,hK,nF⟩
  |region id ops bU=>cases bU<;>simp[dx,LC.er,Jm]at hl
  |rangeFunc f ps ca cb=>obtain⟨_,_,_,_,e⟩:=i4 hl;simp[LC.er]at e
  |_=>simp[dx,LC.er,Jm]at hl
 |loop XN ih=>
  intro r xw N ρ0 m0 w0 kh c K st ρ a w hl h hI;cases c with
  |loop b=>
   simp only[dx,LC.er,N7,Jm,Wm,LC.loop.injEq]at hl;obtain⟨lb,hb,rfl⟩:=hl;obtain⟨α,J,S,μ,⟨a1,Zj,TY⟩,BZ⟩:=h;obtain⟨ρ1,Va⟩:=hI.HM kh TY;refine sq (γ:=α) (I:=fun x a w=>J x/\∃ρ,Inv N ρ0 m0 w0 (S x) ρ a w) (μ:=μ) a1 ⟨Zj,ρ1,Va⟩ fun x a w⟨hJ,ρ,hI⟩=>?_
   refine wpIn_mono (ih r xw N ρ0 m0 w0 kh b _ (S x) ρ a w hb (BZ x hJ) hI) fun e a' w' hp=>?_
   obtain⟨ex,ib,ρ',he,hK,nF⟩:=hp;cases e<;>simp[zi]at he<;>subst he
   .obtain⟨x3,Zk,aE,Zl⟩:=hK;obtain⟨ρ3,Vb⟩:=nF.HM kh Zl;exact⟨x3,⟨Zk,ρ3,Vb⟩,aE⟩
   .exact⟨_,ib,ρ',rfl,hK,nF⟩
   .exact⟨_,ib,ρ',rfl,hK,nF⟩
  |region id ops bU=>cases bU<;>simp[dx,LC.er,Jm]at hl
  |rangeFunc f ps ca cb=>obtain⟨_,_,_,_,e⟩:=i4 hl;simp[LC.er]at e
  |_=>simp[dx,LC.er,Jm]at hl
 |exit Zi=>
  intro r xw N ρ0 m0 w0 kh c K st ρ a w hl h hI;cases c with
  |exit id=>
   simp[dx,LC.er]at hl;subst hl;exact wpIn_exit ⟨_,st,ρ,rfl,h,hI⟩
  |region id ops bU=>cases bU<;>simp[dx,LC.er,Jm]at hl
  |rangeFunc f ps ca cb=>obtain⟨_,_,_,_,e⟩:=i4 hl;simp[LC.er]at e
  |_=>simp[dx,LC.er,Jm]at hl
 |ret=>
  intro r xw N ρ0 m0 w0 kh c K st ρ a w hl h hI;cases c with
  |ret=>exact wpIn_ret ⟨_,st,ρ,rfl,h,hI⟩
  |region id ops bU=>cases bU<;>simp[dx,LC.er,Jm]at hl
  |rangeFunc f ps ca cb=>obtain⟨_,_,_,_,e⟩:=i4 hl;simp[LC.er]at e
  |_=>simp[dx,LC.er,Jm]at hl
 |u6 x0 p la0 XN Oe Of=>
  intro r xw N ρ0 m0 w0 kh c K st ρ a w hl h hI;have XO:r=none:=xw.resolve_right (by simp[LC.oT])
  subst XO;cases c with
  |rangeFunc f ps ca cb=>
   simp only[dx,LC.er,N7]at hl;split at hl
   case h_2=>cases hl
   rename_i p' oP;simp only[Jm]at hl;obtain⟨la,Zm,lb,Vj,hl⟩:=hl;split at hl
   case isFalse=>cases hl
   rename_i iH;simp only[Jm,Wm,LC.u6.injEq]at hl;obtain⟨x',hx,rfl,rfl,rfl,rfl⟩:=hl;rw[SD,Eb,Eb]at iH;exact BY kh (by apply aa0;simpa using oP) hx (fun l ρ0 m0 w0 K st ρ a w hM h hI=>Oe (some l) (.inr iH.1) 0 ρ0 m0 w0 hM ca K st ρ a w Zm h hI)
    (fun l ρ0 m0 w0 K st ρ a w hM h hI=>Of (some l) (.inr iH.2) 0 ρ0 m0 w0 hM cb K st ρ a w Vj h hI) h hI
  |region id ops bU=>cases bU<;>simp[dx,LC.er,Jm]at hl
  |_=>simp[dx,LC.er,Jm]at hl
def qA(tmps:Array Value):ResultVar->Sem Value
 | .tmp t=>pure (tmps.getD t Go.undef)
 | .cell ad t=>do loadVar t (<-asAddr (tmps.getD ad Go.undef))
theorem B0(fn:Func)(tmps:Array Value):results fn tmps=(do let vs<-fn.results.mapM (qA tmps);pure (if h:vs.size=1 then vs[0]else .tuple vs)):=by
 unfold results;have e:(fun(r:ResultVar)=>match r with
  | .tmp t=>(pure (tmps.getD t Go.undef):Sem Value)
  | .cell ad t=>do loadVar t (<-asAddr (tmps.getD ad Go.undef)))=qA tmps:=by
  funext r;cases r<;>rfl
 rw[<-e];rfl
theorem oq:∀{rs:List ResultVar}{FF:List Rv},mI P rs=some FF->∀{st:St}{ρ:bG}{a:Act}{w:World}{K:List RV->Prop},
  aA ρ st.mem w->be ρ w st.aV a.tmps->yY P st FF K->
  ∃(vs:List RV)(us:List Value),K vs/\(rs.mapM (qA a.tmps)).run P w= .ok us w/\
   us.length=vs.length/\∀(i:Nat)r,vs[i]? =some r->∃u,us[i]? =some u/\du ρ w r u
 | [],FF,h,st,ρ,a,w,K,hM,hE,hr=>by simp[mI]at h;subst h;exact⟨[],[],hr,rfl,rfl,aI⟩
 | .tmp t::r,FF,h,st,ρ,a,w,K,hM,hE,hr=>by
  simp only[mI,N7,Jm]at h;obtain⟨r',Vq,h⟩:=h;cases h;simp only[yY]at hr;obtain⟨v,hv,hr⟩:=bc.1 hr;obtain⟨vs,us,hK,dq,hlen,bY⟩:=oq Vq hM hE hr;have hd:=hE.get t;have Qa:iV st.aV t= .rv v:=by
   cases hg:iV st.aV t<;>rw[hg]at hv<;>simp[Bm]at hv
   rw[hv]
  rw[Qa]at hd;refine⟨v::vs,a.tmps.getD t Go.undef::us,hK,?_,by simp[hlen],fun i r hi=>?_⟩
  .rw[List.mapM_cons,Sem.run_bind];simp only[qA,Sem.run_pure,Result.andThen_ok];rw[Sem.run_bind,dq];rfl
  .cases i with
   |zero=>simp at hi;subst hi;exact⟨_,aI,hd⟩
   |succ i=>simpa using bY i r (by simpa using hi)
 | .cell ad t::r,FF,h,st,ρ,a,w,K,hM,hE,hr=>by
  simp only[mI,N7,Jm]at h;obtain⟨agg,ha,n,hn,r',Vq,h⟩:=h;cases h;simp only[yY]at hr;obtain⟨addr,u,cv,hv,RG,RA,b8⟩:=rA hM ha hn hr (hE.get ad);obtain⟨v,xj,hr⟩:=bc.1 RA;obtain⟨vs,us,hK,dq,hlen,bY⟩:=oq Vq hM hE hr;have Qa:cv= .rv v:=by
   cases cv<;>simp[Bm]at xj
   rw[xj]
  subst Qa;refine⟨v::vs,u::us,hK,?_,by simp[hlen],fun i r hi=>?_⟩
  .rw[List.mapM_cons,Sem.run_bind];simp only[qA,hv,asAddr,Sem.run_bind,Sem.run_pure,Result.andThen_ok,RG];rw[dq];rfl
  .cases i with
   |zero=>simp at hi;subst hi;exact⟨_,aI,b8⟩
   |succ i=>simpa using bY i r (by simpa using hi)
theorem vm{fn:Func}{rs:List Rv}(h:mI P fn.results.toList=some rs){st:St}{ρ:bG}{a:Act}{w:World}{K:CV->Prop}(hM:aA ρ st.mem w)(hE:be ρ w st.aV a.tmps)(hr:yY P st rs fun vs=>K (Oj vs)):∃v r,(results fn a.tmps).run P w= .ok v w/\K r/\bV ρ w r v:=by
 obtain⟨vs,us,hK,dq,hlen,bY⟩:=oq h hM hE hr;have vK:(fn.results.mapM (qA a.tmps)).run P w= .ok us.toArray w:=by rw[Array.mapM_eq_mapM_toList,Sem.run_map,dq];rfl
 rw[B0,Sem.run_bind,vK];refine⟨_,_,rfl,hK,?_⟩
 match vs,us,hlen,bY with
 | [r],[u],_,bY=>
  obtain⟨u',hu,hd⟩:=bY 0 r aI;simp at hu;subst hu;exact hd
 | [],[],_,bY=>exact⟨[],rfl,rfl,aI⟩
 |r1::r2::rs,u1::u2::us,hlen,bY=>
  refine⟨u1::u2::us,?_,hlen,bY⟩;simp
theorem i5{f:Nat}{fn:Func}{lf:LF}{args:List CV}{m:Mem}{K:CV->Mem->Prop}(hf:P.funcs[f]? =some fn)(hl:bs P fn=some lf.er)(hn:(fn.name== "runtime.NumGoroutine")=false)(hle:args.length<=lf.n)(h:body P lf args m K):aq P f args m K:=by
 simp only[bs,LF.er,N7,Jm,Wm,LF.mk.injEq]at hl;obtain⟨rs,OM,c,hc,lc0,pY,og,Vr,RH⟩:=hl;subst RH Vr;obtain⟨lfn,Zn,lc⟩:=lf;simp only at og OM pY;subst og;refine⟨⟨fn,hf,by simp[hc],hn⟩,fun ρ w vs hM hlen bY=>?_⟩
 simp only[body,ei,gy,cf,fb]at h;simp only at hle;have hI:Inv w.heap.size ρ m w ⟨args++List.replicate (fn.ntmps-args.length) .undef,m⟩ ρ {tmps:=vs.toArray++Array.replicate (fn.ntmps-vs.toArray.size) Go.undef,defers:=[]} w:=by
  refine⟨Ext.refl _ _ _,hM,⟨by simp[hlen],fun i c hi=>?_⟩,BS.nil,Pq _,Pq _⟩
  rcases Wj i args.length with aE|eu
  .rw[Tz aE]at hi;obtain⟨v,hv,hd⟩:=bY i c hi;refine⟨v,?_,hd⟩;rw[abk (by simp[hlen];exact aE)]
   simpa using hv
  .rw[SF eu,abF]at hi;split at hi
   .rename_i aE;cases hi;refine⟨Go.undef,?_,rfl⟩;rw[Array.getElem?_append_right (by simp[hlen];exact eu),Array.getElem?_replicate,if_pos (by simp[hlen];exact aE)]
   .cases hi
 refine(callsIn_wide (n:=0)).1 (callsIn_of_wp_marks (F:=Fence.wide) hf hc trivial (wpIn_mono (Ij lc none (.inl rfl) _ ρ m w hM.n c _ _ ρ _ w pY h hI) fun e a' w' hp=>?_))
 obtain⟨ex,ib,ρ',he,hK,nF⟩:=hp;have iu:yY P ib Zn (fun vs=>K (Oj vs) ib.mem)->LeavesInM Fence.wide 0 P fn a'.tmps (fun e w'=>∃RI r m' ρ',e=Ending.returned RI/\K r m'/\aA ρ' m' w'/\bV ρ' w' r RI/\Ext ρ m w ρ' m' w') a'.defers .returning w':=fun hr=>by
  obtain⟨Ds,h1,h2,h3⟩:=nF.defers;rw[h1];refine pi rfl Ds w' h2 h3 nF.mem nF.aV nF.ext fun w2 BX A8 TT=>?_
  obtain⟨v,r,dq,Zo,hd⟩:=vm (K:=fun r=>K r ib.mem) OM BX A8 hr
  exact⟨v,dq,v,r,ib.mem,ρ',rfl,Zo,BX,hd,TT⟩
 cases e<;>simp[zi]at he<;>subst he
 .exact iu hK
 .exact hK.elim
 .exact iu hK
theorem Lu:∀(c:Code)(lc:LC),dx P c=some lc->lc.er=lc:=by
 intro c
 induction c with
 |skip=>intro lc h;simp[dx]at h;subst h;rfl
 |region id ops bU=>
  intro lc h;cases bU with
  |true=>
   simp only[dx,N7,Jm]at h;obtain⟨bO,_,Ux,_,h⟩:=h;cases h;rfl
  |false=>
   simp only[dx,N7,Jm]at h;obtain⟨bO,_,h⟩:=h;cases h;rfl
 |seq x y OH Ie=>
  intro lc h;simp only[dx,N7,Jm]at h;obtain⟨lx,hx,ly,hy,h⟩:=h;cases h;simp only[LC.er,OH lx hx,Ie ly hy]
 |cond x y z Ie Vp=>
  intro lc h;simp only[dx,N7,Jm]at h;obtain⟨x',_,ly,hy,lz,hz,h⟩:=h;cases h;simp only[LC.er,Ie ly hy,Vp lz hz]
 |block id b ih=>
  intro lc h;simp only[dx,N7,Jm]at h;obtain⟨lb,hb,h⟩:=h;cases h;simp only[LC.er,ih lb hb]
 |loop b ih=>
  intro lc h;simp only[dx,N7,Jm]at h;obtain⟨lb,hb,h⟩:=h;cases h;simp only[LC.er,ih lb hb]
 |exit id=>intro lc h;simp[dx]at h;subst h;rfl
 |ret=>intro lc h;simp[dx]at h;subst h;rfl
 |rangeFunc f ps x y OH Ie=>
  intro lc h;simp only[dx,N7]at h;split at h
  case h_2=>cases h
  simp only[Jm]at h;obtain⟨lx,hx,ly,hy,h⟩:=h;split at h
  case isFalse=>cases h
  simp only[Jm]at h;obtain⟨x',_,h⟩:=h;cases h;simp only[LC.er,OH lx hx,Ie ly hy]
 |_=>intro lc h;simp[dx]at h
theorem lJ{f:Nat}{fn:Func}{lf:LF}{args:List CV}{m:Mem}{K:CV->Mem->Prop}(hf:P.funcs[f]? =some fn)(hl:bs P fn=some lf)(hn:(fn.name== "runtime.NumGoroutine")=false)(hle:args.length<=lf.n)(h:body P lf args m K):aq P f args m K:=by
 refine i5 hf ?_ hn hle h;have TU:=hl;simp only[bs,N7,Jm]at hl;obtain⟨rs,OM,c,hc,lc,pY,hl⟩:=hl;cases hl;rw[TU];simp only[LF.er,Lu c lc pY]
end
end Go.AM
