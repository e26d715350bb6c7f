/- Part 11 of 41: what the law stands on. -/
import Derived.Test.YthagjdhjmamakaaGreatDoorT10
set_option linter.unusedVariables false
set_option linter.unusedSimpArgs false
set_option linter.unnecessarySimpa false
set_option maxRecDepth 100000
set_option maxHeartbeats 64000000
namespace Go.AM
section
variable {P:Program} {N:Nat} {ρ0:bH} {m0:Mem} {w0:World}
structure RE(ρ:bH)(m:Mem)(w w':World):Prop where
 size:w.heap.size<=w'.heap.size
 S:∀b off,ρ.S b->w'.cell? ⟨b,off,none⟩=w.cell? ⟨b,off,none⟩
 a8:∀k,Live ρ m k->w'.heap[(ρ.aO k).b]? =w.heap[(ρ.aO k).b]?
 maps:∀b es ck,ρ.S b->w.heap[b]? =some (.map es ck)->w'.heap[b]? =some (.map es ck)
theorem cZ.zL{S:Nat->Prop}{w w':World}(hw:∀b off,S b->w'.cell? ⟨b,off,none⟩=w.cell? ⟨b,off,none⟩){d:Dt}{v:Value}(h:cZ S w d v):cZ S w' d v:=by
 induction h with
 |val v h=>exact .val v h
 |no a=>exact .no a
 |nil esz a cap hc=>exact .nil esz a cap hc
 |sl esz elems b off cap u hb hl bl dj hc hd ih=>
  exact .sl esz elems b off cap u hb hl bl dj (fun i cs j d hi hj=>(hw b _ hb).trans (hc i cs j d hi hj)) ih
theorem br.zL{ρ:bH}{m:Mem}{w w':World}(x:RE ρ m w w'){pos:Option (Nat×Nat×Nat)}{c:CC}{v:Value}(h:br ρ w pos c v):br ρ w' pos c v:=by
 cases c<;>simp only[br]at h⊢
 case aa=>exact h.zL x.S
 case pk cs=>
  obtain⟨b,off,hv,hb,hc⟩:=h;exact⟨b,off,hv,hb,fun j d hj=>let⟨u,hu,hd⟩:=hc j d hj;⟨u,(x.S b _ hb).trans hu,hd.zL x.S⟩⟩
 all_goals exact h
theorem dy.zL{ρ:bH}{m:Mem}{w w':World}(x:RE ρ m w w'){r:RV}{v:Value}(h:dy ρ w r v):dy ρ w' r v:=by
 cases r with
 |one c=>exact br.zL x h
 |agg cs=>
  obtain⟨vs,hv,hl,hc⟩:=h;exact⟨vs,hv,hl,fun i c hi=>let⟨u,hu,hd⟩:=hc i c hi;⟨u,hu,hd.zL x⟩⟩
theorem bW.zL{ρ:bH}{m:Mem}{w w':World}(x:RE ρ m w w'){r:CV}{v:Value}(h:bW ρ w r v):bW ρ w' r v:=by
 cases r with
 |aq=>trivial
 |undef=>exact h
 |rv r=>exact dy.zL x h
 |bG rs=>
  obtain⟨vs,hv,hl,hc⟩:=h;exact⟨vs,hv,hl,fun i c hi=>let⟨u,hu,hd⟩:=hc i c hi;⟨u,hu,hd.zL x⟩⟩
theorem aC.zL{ρ:bH}{m:Mem}{w w':World}(hM:aC ρ m w)(h:RE ρ m w w'):aC ρ m w':=by
 refine⟨hM.n,fun b hb=>aaf (hM.S b hb) h.size,fun k hk=>⟨aaf (hM.a8 k hk).1 h.size,(hM.a8 k hk).2⟩,hM.inj,fun id b hb=>?_,fun id i j esz el ho bl=>?_⟩
 .have h1:=hM.bk id b hb;cases b with
  |aZ=>trivial
  |var cs=>
   obtain⟨cur,bU,h2⟩:=h1;exact⟨cur,bU.dz (h.a8 (.ap id) ⟨_,hb,aK,aK⟩),fun j c hj=>let⟨u,hu,hd⟩:=h2 j c hj;⟨u,hu,hd.zL h⟩⟩
  |row esz elems=>
   obtain⟨h2,h3,h4,h5,h6⟩:=h1;refine⟨h2,h3,h4,h5,fun hp=>?_⟩
   obtain⟨cur,bU,h7,h8⟩:=h6 hp;exact⟨cur,bU.dz (h.a8 (.ap id) ⟨_,hb,aK,fun _=>hp⟩),h7,fun i cs j c hi hj=>let⟨u,hu,hd⟩:=h8 i cs j c hi hj;⟨u,hu,hd.zL h⟩⟩
  |mp es=>
   obtain⟨cJ,ck,h2,h3,h4⟩:=h1;exact⟨cJ,ck,⟨(h.a8 (.ap id) ⟨_,hb,aK,aK⟩).trans h2.1,h2.2⟩,h3,fun i e he=>let⟨e',sh,hk,hd⟩:=h4 i e he;⟨e',sh,hk,hd.zL h⟩⟩
  |it cur left=>
   obtain⟨mb,seen,ck,cJ,h2,h3,h4,h5,h6⟩:=h1;exact⟨mb,seen,ck,cJ,(h.a8 (.ap id) ⟨_,hb,aK,aK⟩).trans h2,h3,h4,h.maps mb cJ ck h4 h5,h6⟩
 .obtain⟨cur,bU,h2,h3,h4⟩:=hM.gp id i j esz el ho bl;exact⟨cur,bU.dz (h.a8 (.sub id i j) ⟨⟨_,_,ho⟩,bl⟩),h2,h3,fun i cs j d hi hj=>let⟨u,hu,hd⟩:=h4 i cs j d hi hj;⟨u,hu,hd.zL h.S⟩⟩
theorem be.zL{ρ:bH}{m:Mem}{w w':World}(x:RE ρ m w w'){aU:List CV}{tmps:Array Value}(hE:be ρ w aU tmps):be ρ w' aU tmps:=
 ⟨hE.size,fun i c hi=>let⟨v,hv,hd⟩:=hE.j7 i c hi;⟨v,hv,hd.zL x⟩⟩
theorem pP{fn:Func}{tmps:Array Value}{R:Ending->World->Prop}{ρ:bH}{m:Mem}{aU:List CV}(hN:N=w0.heap.size):∀(Ds:List Nat)(w:World),Ds.Nodup->
  (∀D,D∈Ds->N<=D/\ρ.S D/\w.heap[D]? =some (.deferred (some [])))->aC ρ m w->be ρ w aU tmps->Ext ρ0 m0 w0 ρ m w->
  (∀w',aC ρ m w'->be ρ w' aU tmps->Ext ρ0 m0 w0 ρ m w'->∃v,(results fn tmps).run P w'= .ok v w'/\R (.returned v) w')->
  LeavesInM Fence.wide 0 P fn tmps R (Ds.map fun D=>{target:= .collected D,args:= #[]}) .returning w
 | [],w,_,_,hM,hE,hx,h=>by obtain⟨v,h1,h2⟩:=h w hM hE hx;exact⟨v,h1,h2⟩
 |D::Ds,w,hn,hD,hM,hE,hx,h=>by
  obtain⟨oO,P5⟩:=abh.1 hn;obtain⟨d1,d2,d3⟩:=hD D aK;have aF:=(aac.1 d3).1;have hc:RE ρ m w (w.putObj D (.deferred none)):=by
   refine⟨aK,fun b off hS=>?_,fun k hk=>World.putObj_heap_other fun e=>(hM.a8 k hk).2 (e▸d2),fun b es ck hS SZ=>by
    have hb:b≠D:=fun e=>by subst e;rw[d3]at SZ;cases SZ
    rw[World.putObj_heap_other hb];exact SZ⟩
   by_cases hb:b=D
   .subst hb;simp only[World.cell?,d3,World.putObj_heap_same aF]
   .simp only[World.cell?,World.putObj_heap_other hb]
  refine⟨aK,.inl ⟨D,_,rfl,run_takeDeferred d3,?_⟩⟩;refine pP hN Ds _ P5 (fun D' So=>?_) (hM.zL hc) (hE.zL hc) ?_ h
  .obtain⟨e1,e2,e3⟩:=hD D' (by simp[So])
   exact⟨e1,e2,(World.putObj_heap_other (by rintro rfl;exact oO So)).trans e3⟩
  .exact⟨hx.n,hx.aO,hx.S,hx.S',hx.a8,fun b hb hk=>(World.putObj_heap_other om).trans (hx.frame b hb hk),by simpa using hx.size,hx.os,hx.tape,hx.output⟩
end
section
variable {P:Program} {N:Nat} {ρ0:bH} {m0:Mem} {w0:World}
theorem Ft{K:Ex->St->Prop}:¬LetsOut (yi N ρ0 m0 w0 K):=by rintro⟨a,w,ex,st,ρ,he,_⟩;simp[Ak]at he
theorem Fu:∀lc:LC,lc.er.po=lc.po:=by
 intro lc
 induction lc<;>simp_all[LC.er,LC.po]
theorem Av{l:Nat}{n0:Nat}{st:St}{ρ:bH}{act:Act}{W:World}{fn:FuncId}{rec0:Loop}{p:Nat}{la lb:LC}{ca cb:Code}{y:ByteArray}{K:Ex->St->Prop}(Py:∀(ρ0:bH)(m0:Mem)(w0:World)(K:Ex->St->Prop)(st:St)(ρ:bH)(a:Act)(w:World),ρ0.n=m0.length->aw P m0.length la K st->Inv 0 ρ0 m0 w0 st ρ a w->ca.wpIn (FR (some l)) 0 P (yi 0 ρ0 m0 w0 K) a w)(Pz:∀(ρ0:bH)(m0:Mem)(w0:World)(K:Ex->St->Prop)(st:St)(ρ:bH)(a:Act)(w:World),ρ0.n=m0.length->aw P m0.length lb K st->Inv 0 ρ0 m0 w0 st ρ a w->cb.wpIn (FR (some l)) 0 P (yi 0 ρ0 m0 w0 K) a w)(hr:rec0.state= .ready/\rec0.pending=none/\rec0.fn=fn/\rec0.tmps=act.tmps/\rec0.params= #[p]/\rec0.assign=ca/\rec0.body=cb)(hI:Inv N ρ0 m0 w0 st ρ act W)(hl:W.heap[l]? =some (.loop rec0))(C3:oS ρ st.mem l)(Vn:w0.heap.size<=l)(h:oJ st.mem fun n1=>aw P n1 la (fun ex s2=>match ex with
    | .normal=>oJ s2.mem fun n2=>aw P n2 lb K s2
    |_=>False) ⟨a7 st.aU p (dk y),st.mem⟩):
  Ol P l #[.string y] W fun e W'=>∃ex im ρ' jump,K ex im/\Inv N ρ0 m0 w0 ⟨st.aU,im.mem⟩ ρ' act W'/\e= .returned (.bool jump.isNone)/\
   W'.heap[l]? =some (.loop {rec0 with state:=if jump.isNone then .ready else .done,pending:=jump})/\
   ((jump=none/\ex= .normal)\/(jump=some .ret/\ex= .ret)\/∃id,jump=some (.exit id)/\ex= .exit id)/\
   (∀b,b<W.heap.size->b≠l->oS ρ st.mem b->oS ρ' im.mem b/\W'.heap[b]? =W.heap[b]?)/\oS ρ' im.mem l/\W.heap.size<=W'.heap.size:=by
 obtain⟨r1,r2,r3,r4,r5,r6,r7⟩:=hr;have hy:=run_yield (P:=P) (args:= #[.string y]) hl (by rw[r5];rfl)
 rw[r3,r4,r5,r6,r7]at hy;refine⟨_,_,_,_,hy,?_⟩;have aF:l<W.heap.size:=(aac.1 hl).1;simp only[gI]at h;have hRo:RoundIn Fence.wide 0 P l fn (act.tmps.setIfInBounds p (.string y)) ca cb W fun e W'=>∃ex im ρ' jump,K ex im/\Inv N ρ0 m0 w0 ⟨st.aU,im.mem⟩ ρ' act W'/\e= .returned (.bool jump.isNone)/\
   W'.heap[l]? =some (.loop {rec0 with state:=if jump.isNone then .ready else .done,pending:=jump})/\
   ((jump=none/\ex= .normal)\/(jump=some .ret/\ex= .ret)\/∃id,jump=some (.exit id)/\ex= .exit id)/\
   (∀b,b<W.heap.size->b≠l->oS ρ st.mem b->oS ρ' im.mem b/\W'.heap[b]? =W.heap[b]?)/\oS ρ' im.mem l/\W.heap.size<=W'.heap.size:=by
  refine roundIn_of_wpIn trivial ?_;have wg:be ρ W (a7 st.aU p (dk y)) (act.tmps.setIfInBounds p (.string y)):=by rw[bg];exact hI.aU.set (cZ.val _ rfl:bW ρ W (dk y) (.string y))
  have Wz:Inv 0 ρ st.mem W ⟨a7 st.aU p (dk y),st.mem⟩ ρ {tmps:=act.tmps.setIfInBounds p (.string y),defers:=[]} W:=
   ⟨Ext.refl _ _ _,hI.mem,wg,C0.nil,XL _,QN _⟩
  have Zc:=Py ρ st.mem W _ _ ρ _ W hI.mem.n h Wz;rw[Fs]at Zc;refine wpIn_mono Zc fun e a1 W1 hp=>?_
  obtain⟨ex,s2,ρ2,he,hK,GZ⟩:=hp;cases e<;>simp[Ak]at he<;>subst he<;>simp only at hK
  simp only[Exit.then];have Ac:W1.heap[l]? =some (.loop rec0):=(GZ.ext.frame l aF C3.2).trans hl;have Jz:oS ρ2 s2.mem l:=C3.ext GZ.ext aF;have S0:l<W1.heap.size:=(aac.1 Ac).1;refine⟨_,run_beginRound Ac r1,?_⟩;obtain⟨W2,OC⟩:∃W2,W1.putObj l (.loop {rec0 with state:= .busy})=W2:=⟨_,rfl⟩
  rw[OC];have uv:tk ρ2 s2.mem W1 W2:=by rw[<-OC];exact tk.put Jz _
  have C5:=GZ.mem.tm uv;have WA:Inv 0 ρ2 s2.mem W2 s2 ρ2 a1 W2:=⟨Ext.refl _ _ _,C5,GZ.aU.cF uv.cF,GZ.defers.tm uv,XL _,QN _⟩;have Zd:=Pz ρ2 s2.mem W2 _ _ ρ2 _ W2 C5.n hK WA;rw[Fs]at Zd;refine wpIn_mono Zd fun e a3 W3 hp=>?_
  obtain⟨ex,s3,ρ3,he,hK3,Ml⟩:=hp;have Ar:l<W2.heap.size:=by rw[<-OC];simpa using S0
  have Ze:W3.heap[l]? =some (.loop {rec0 with state:= .busy}):=by rw[Ml.ext.frame l Ar Jz.2,<-OC];exact World.putObj_heap_same S0
  have WB:l<W3.heap.size:=(aac.1 Ze).1;have OD:oS ρ3 s3.mem l:=Jz.ext Ml.ext Ar;have hU:∀(jump:Option Code),((jump=none/\ex= .normal)\/(jump=some .ret/\ex= .ret)\/∃id,jump=some (.exit id)/\ex= .exit id)->
    ∃v w',(Instr.endRound l jump).run P W3= .ok v w'/\∃ex im ρ' jump,K ex im/\Inv N ρ0 m0 w0 ⟨st.aU,im.mem⟩ ρ' act w'/\Ending.returned v= .returned (.bool jump.isNone)/\
     w'.heap[l]? =some (.loop {rec0 with state:=if jump.isNone then .ready else .done,pending:=jump})/\
     ((jump=none/\ex= .normal)\/(jump=some .ret/\ex= .ret)\/∃id,jump=some (.exit id)/\ex= .exit id)/\
     (∀b,b<W.heap.size->b≠l->oS ρ st.mem b->oS ρ' im.mem b/\w'.heap[b]? =W.heap[b]?)/\oS ρ' im.mem l/\W.heap.size<=w'.heap.size:=by
   intro jump hj;have WC:=run_endRound (P:=P) jump Ze;refine⟨_,_,WC,ex,s3,ρ3,jump,hK3,?_,rfl,World.putObj_heap_same WB,hj,fun b hb P6 ho=>?_,OD,?_⟩
   .have x1:Ext ρ0 m0 w0 ρ2 s2.mem W1:=hI.ext.trans GZ.ext;have x2:Ext ρ0 m0 w0 ρ2 s2.mem W2:=by rw[<-OC];exact⟨x1.n,x1.aO,x1.S,x1.S',x1.a8,fun b hb hk=>(World.putObj_heap_other om).trans (x1.frame b hb hk),by simpa using x1.size,x1.os,x1.tape,x1.output⟩
    have x3:Ext ρ0 m0 w0 ρ3 s3.mem W3:=x2.trans Ml.ext;have e1:be ρ2 W1 st.aU act.tmps:=hI.aU.ext hI.mem GZ.ext;have e3:be ρ3 W3 st.aU act.tmps:=(e1.cF uv.cF).ext C5 Ml.ext;have d3:C0 N ρ3 W3 act.defers:=((hI.defers.ext hI.mem GZ.ext).tm uv).ext C5 Ml.ext;have hI5:Inv N ρ0 m0 w0 ⟨st.aU,s3.mem⟩ ρ3 act W3:=⟨x3,Ml.mem,e3,d3,hI.hN,aaC hI.n0 (aaC GZ.n0 Ml.n0)⟩;exact hI5.put OD Vn _
   .have nV:oS ρ2 s2.mem b:=ho.ext GZ.ext hb;have PI:b<W1.heap.size:=aaf hb GZ.ext.size;have nf:b<W2.heap.size:=by rw[<-OC];simpa using PI
    refine⟨nV.ext Ml.ext nf,?_⟩;rw[World.putObj_heap_other P6,Ml.ext.frame b nf nV.2,<-OC,World.putObj_heap_other P6,GZ.ext.frame b hb ho.2]
   .have h1:=GZ.ext.size;have h2:W1.heap.size=W2.heap.size:=by rw[<-OC];simp
    have h3:=Ml.ext.size;simp only[World.putObj_size];omega
  cases e<;>simp[Ak]at he<;>subst he
  .exact hU none (.inl ⟨rfl,rfl⟩)
  .rename_i id;exact hU (some (.exit id)) (.inr (.inr ⟨id,rfl,rfl⟩))
  .exact hU (some .ret) (.inr (.inl ⟨rfl,rfl⟩))
 have hz:(#[p].zip #[Value.string y]).foldl (fun tmps x=>tmps.setIfInBounds x.1 x.2) act.tmps=act.tmps.setIfInBounds p (.string y):=aK
 exact hz▸hRo
theorem Inv.S1{st:St}{ρ:bH}{a:Act}{w w':World}(hI:Inv N ρ0 m0 w0 st ρ a w)(h:tk ρ st.mem w w')(hb:∀b,b<w0.heap.size->(∀k,Live ρ0 m0 k->(ρ0.aO k).b≠b)->w'.heap[b]? =w.heap[b]?)(ho:w'.os=w.os)(ht:w'.tape=w.tape)(hu:w'.output=w.output):Inv N ρ0 m0 w0 st ρ a w':=
 ⟨⟨hI.ext.n,hI.ext.aO,hI.ext.S,hI.ext.S',hI.ext.a8,fun b qY hk=>(hb b qY hk).trans (hI.ext.frame b qY hk),aaC hI.ext.size h.size,ho.trans hI.ext.os,ht.trans hI.ext.tape,hu.trans hI.ext.output⟩,
  hI.mem.tm h,hI.aU.cF h.cF,hI.defers.tm h,hI.hN,hI.n0⟩
theorem aC.WD{ρ:bH}{m:Mem}{w:World}{D:Nat}(hM:aC ρ m w)(hD:D<w.heap.size)(hl:∀k,Live ρ m k->(ρ.aO k).b≠D):aC {ρ with S:=fun b=>ρ.S b\/b=D} m w:=by
 have g:ij ρ w {ρ with S:=fun b=>ρ.S b\/b=D} w:=⟨QN _,fun _ _=>rfl,fun _ h=>.inl h,fun _ _=>rfl⟩
 have dG:∀k,Live {ρ with S:=fun b=>ρ.S b\/b=D} m k↔Live ρ m k:=fun k=>by cases k<;>rfl
 refine⟨hM.n,fun b hb=>?_,fun k hk=>⟨(hM.a8 k ((dG k).1 hk)).1,?_⟩,fun k k' hk gC e=>hM.inj k k' ((dG k).1 hk) ((dG k').1 gC) e,fun id b hb=>?_,fun id i j esz el ho bl=>?_⟩
 .rcases hb with hb|rfl
  .exact hM.S b hb
  .exact hD
 .rintro(hs|hs)
  .exact(hM.a8 k ((dG k).1 hk)).2 hs
  .exact hl k ((dG k).1 hk) hs
 .have h1:=hM.bk id b hb;cases b with
  |aZ=>trivial
  |var cs=>
   obtain⟨cur,bU,h2⟩:=h1;exact⟨cur,bU,fun j c hj=>let⟨u,hu,hd⟩:=h2 j c hj;⟨u,hu,br.cF g aK hd⟩⟩
  |row esz elems=>
   obtain⟨h2,h3,h4,h5,h6⟩:=h1;refine⟨h2,h3,h4,h5,fun hp=>?_⟩
   obtain⟨cur,bU,h7,h8⟩:=h6 hp;exact⟨cur,bU,h7,fun i cs j c hi hj=>let⟨u,hu,hd⟩:=h8 i cs j c hi hj;⟨u,hu,br.cF g (by intro i3 i' j' e';cases e';rw[hM.n];exact(Hy.1 hb).1) hd⟩⟩
  |mp es=>
   obtain⟨cJ,ck,h2,h3,h4⟩:=h1;exact⟨cJ,ck,h2,h3,fun i e he=>let⟨e',sh,hk,hd⟩:=h4 i e he;⟨e',sh,hk,dy.cF g hd⟩⟩
  |it cur left=>
   obtain⟨mb,seen,ck,cJ,h2,h3,h4,h5,h6⟩:=h1;exact⟨mb,seen,ck,cJ,h2,h3,g.S _ h4,(g.heap mb h4).trans h5,h6⟩
 .obtain⟨cur,bU,h2,h3,h4⟩:=hM.gp id i j esz el ho bl;exact⟨cur,bU,h2,h3,fun i cs j d hi hj=>let⟨u,hu,hd⟩:=h4 i cs j d hi hj;⟨u,hu,cZ.mono g.S g.heap hd⟩⟩
theorem Live.gY{ρ:bH}{m:Mem}{iZ:List Nat}{k:kW}(h:Live ρ (ov m iZ) k):Live ρ m k/\k.id∉iZ:=by
 cases k with
 |ap id=>
  obtain⟨bk,h1,h2,h3⟩:=h;rcases lG m iZ id bk h1 with rfl|⟨h4,h5⟩
  .exact absurd rfl h2
  .exact⟨⟨bk,h4,h2,h3⟩,h5⟩
 |sub id i j=>
  obtain⟨⟨esz,elems,es,rows,cs,h1,h2,h3⟩,h4⟩:=h;rcases lG m iZ id _ h1 with h5|⟨h5,h6⟩
  .cases h5
  .exact⟨⟨⟨esz,elems,es,rows,cs,h5,h2,h3⟩,h4⟩,h6⟩
theorem aC.gY{ρ:bH}{m:Mem}{w:World}(hM:aC ρ m w)(iZ:List Nat):aC ρ (ov m iZ) w:=by
 refine⟨by rw[rd];exact hM.n,hM.S,fun k hk=>hM.a8 k hk.gY.1,fun k k' hk gC=>hM.inj k k' hk.gY.1 gC.gY.1,fun id b hb=>?_,fun id i j esz el ho bl=>?_⟩
 .rcases lG m iZ id b hb with rfl|⟨h,_⟩
  .trivial
  .exact hM.bk id b h
 .obtain⟨es,rows,cs,h1,h2,h3⟩:=ho;rcases lG m iZ id _ h1 with h5|⟨h5,_⟩
  .cases h5
  .exact hM.gp id i j esz el ⟨es,rows,cs,h5,h2,h3⟩ bl
theorem Inv.gY{st:St}{ρ:bH}{a:Act}{w:World}(hI:Inv N ρ0 m0 w0 st ρ a w)(iZ:List Nat):Inv N ρ0 m0 w0 ⟨st.aU,ov st.mem iZ⟩ ρ a w:=
 ⟨⟨hI.ext.n,hI.ext.aO,hI.ext.S,hI.ext.S',fun k hk=>hI.ext.a8 k hk.gY.1,hI.ext.frame,hI.ext.size,hI.ext.os,hI.ext.tape,hI.ext.output⟩,
  hI.mem.gY iZ,hI.aU,hI.defers,hI.hN,by rw[rd];exact hI.n0⟩
theorem C6{x:X}{f:Operand}{p:Nat}{ps:Array Tmp}{la lb:LC}{ca cb:Code}{K:Ex->St->Prop}{st:St}{ρ:bH}{a:Act}{w:World}(kG:ρ0.n=m0.length)(pi:ps= #[p])(hx:bh f=some x)(Py:∀(l:Nat)(ρ0:bH)(m0:Mem)(w0:World)(K:Ex->St->Prop)(st:St)(ρ:bH)(a:Act)(w:World),ρ0.n=m0.length->aw P m0.length la K st->Inv 0 ρ0 m0 w0 st ρ a w->ca.wpIn (FR (some l)) 0 P (yi 0 ρ0 m0 w0 K) a w)(Pz:∀(l:Nat)(ρ0:bH)(m0:Mem)(w0:World)(K:Ex->St->Prop)(st:St)(ρ:bH)(a:Act)(w:World),ρ0.n=m0.length->aw P m0.length lb K st->Inv 0 ρ0 m0 w0 st ρ a w->cb.wpIn (FR (some l)) 0 P (yi 0 ρ0 m0 w0 K) a w)(h:aw P m0.length (.v7 x p la lb) K st)(hI:Inv N ρ0 m0 w0 st ρ a w):(Code.rangeFunc f ps ca cb).wpIn (FR none) 0 P (yi N ρ0 m0 w0 K) a w:=by
 obtain⟨gf,iZ,cs,xs,α,J,S,WE,Jn,⟨qJ,eL⟩,WG,⟨x0,hJ0,RF⟩,C7,S2⟩:=h;have hd:=aN hI.aU hx;rw[WE]at hd;obtain⟨gK,hv⟩:=hd;rw[MN];refine wpIn_rangeFunc fun fn _=>?_
 obtain⟨rec0,yo⟩:∃rec0:Loop,rec0={state:= .ready,pending:=none,fn,tmps:=a.tmps,params:=ps,assign:=ca,body:=cb,defers:=w.heap.size}:=⟨_,rfl⟩;obtain⟨W1,zM⟩:∃W1,(w.alloc (.deferred (some []))).alloc (.loop rec0)=W1:=⟨_,rfl⟩;have S3:W1.heap.size=w.heap.size+2:=by rw[<-zM];simp
 have hold:∀b,b<w.heap.size->W1.heap[b]? =w.heap[b]? :=fun b hb=>by
  rw[<-zM];exact(Go.RowKit.Below.heap_alloc _ _ _ (by simp;omega)).trans (Go.RowKit.Below.heap_alloc _ _ _ hb)
 have Zf:W1.heap[w.heap.size+1]? =some (.loop rec0):=by rw[<-zM];have:=World.alloc_heap_new (w.alloc (.deferred (some []))) (.loop rec0);rwa [World.size_alloc]at this
 have S4:W1.heap[w.heap.size]? =some (.deferred (some [])):=by rw[<-zM];exact(Go.RowKit.Below.heap_alloc _ _ _ aK).trans (World.alloc_heap_new w _)
 have Sl:W1.os=w.os/\W1.tape=w.tape/\W1.output=w.output:=by rw[<-zM];exact⟨rfl,rfl,rfl⟩
 obtain⟨⟨Zg,hgf,Zh,Mm⟩,hT⟩:=WG;have WH:Zg.body≠none:=by intro e;rw[e]at Zh;cases Zh
 have WI:Zg.name≠ "runtime.NumGoroutine" :=by intro e;rw[e]at Mm;simp at Mm
 obtain⟨as,has⟩:∃as:List (Nat×Nat),as=iZ.map fun id=>((ρ.aO (.ap id)).b,(ρ.aO (.ap id)).au):=⟨_,rfl⟩
 have WJ:(iZ.map fun id=>Value.pointer (some ⟨(ρ.aO (.ap id)).b,(ρ.aO (.ap id)).au,none⟩))=pw as:=by rw[has,pw,aaN];rfl
 rw[WJ]at hv;have S5:tk ρ st.mem w W1:=⟨om,fun b hb=>hold b (hI.mem.S b hb),fun k hk=>hold _ (hI.mem.a8 k hk).1⟩
 have Fv:Inv N ρ0 m0 w0 st ρ a W1:=hI.tm S5 (fun b hb=>hold b (aaf hb hI.ext.size)) Sl.1 Sl.2.1 Sl.2.2
 let ρ1:bH:={ρ with S:=fun b=>ρ.S b\/b=w.heap.size}
 let act:Act:={a with defers:=[{target:= .collected w.heap.size,args:= #[]}]++a.defers}
 have aF:∀k,Live ρ st.mem k->(ρ.aO k).b<w.heap.size:=fun k hk=>(hI.mem.a8 k hk).1
 have dG:∀(m:Mem)k,Live ρ1 m k↔Live ρ m k:=fun m k=>by cases k<;>rfl
 have g1:ij ρ W1 ρ1 W1:=⟨QN _,fun _ _=>rfl,fun _ h=>.inl h,fun _ _=>rfl⟩
 have hIb:Inv N ρ0 m0 w0 st ρ1 act W1:=by
  refine⟨⟨Fv.ext.n,Fv.ext.aO,fun b hb=>.inl (Fv.ext.S b hb),fun b hb=>?_,fun k hk=>Fv.ext.a8 k ((dG _ k).1 hk),Fv.ext.frame,Fv.ext.size,Fv.ext.os,Fv.ext.tape,Fv.ext.output⟩,
   Fv.mem.WD om (fun k hk e=>by have:=aF k hk;omega),Fv.aU.cF g1,?_,hI.hN,hI.n0⟩
  .rcases hb with hb|rfl
   .exact Fv.ext.S' b hb
   .exact .inr (.inl hI.ext.size)
  .obtain⟨Ds,h1,h2,h3⟩:=Fv.defers;refine⟨w.heap.size::Ds,by simp[act,h1],abh.2 ⟨fun hm=>?_,h2⟩,fun D hD=>?_⟩
   .have:=hI.mem.S _ (h3 _ hm).2.1;omega
   .rcases aad.1 hD with rfl|hD
    .exact⟨aaC hI.hN hI.ext.size,.inr rfl,S4⟩
    .exact⟨(h3 D hD).1,.inl (h3 D hD).2.1,(h3 D hD).2.2⟩
 have hIc:=hIb.gY iZ;have S6:oS ρ1 (ov st.mem iZ) (w.heap.size+1):=by
  refine⟨?_,fun k hk e=>?_⟩
  .rintro(hs|hs)
   .have:=hI.mem.S _ hs;omega
   .omega
  .have:=aF k ((dG _ k).1 hk).gY.1;have h2:(ρ1.aO k).b=(ρ.aO k).b:=rfl;omega
 obtain⟨S7,RG⟩:=sL Jn;have cQ:∀id,id∈iZ->Live ρ st.mem (.ap id):=fun id hid=>by
  obtain⟨i,hi⟩:=Xz hid;have aF:i<cs.length:=by rw[<-S7];exact(Hy.1 hi).1
  obtain⟨h1,_⟩:=RG i id _ hi (tq aF);exact⟨_,h1,aK,aK⟩
 have S8:∀b,b∈as.map (·.1)->oS ρ1 (ov st.mem iZ) b:=by
  intro b hb;rw[has,aaN]at hb;obtain⟨id,hid,rfl⟩:=aae.1 hb;have hL:=cQ id hid;refine⟨?_,fun k hk e=>?_⟩
  .rintro(hs|hs)
   .exact(hI.mem.a8 _ hL).2 hs
   .have:=aF _ hL;simp only[Function.comp]at hs;omega
  .have i4:=(dG _ k).1 hk;have:=hI.mem.inj k _ i4.gY.1 hL e;subst this;exact i4.gY.2 hid
 obtain⟨ρ2,hId,OE⟩:=hIc.view kG RF;have WK:as.length=cs.length:=by rw[has,LW,S7]
 have WL:(as.map (·.1)).Nodup:=by
  rw[has,aaN];have key:∀l:List Nat,(∀id,id∈l->id∈iZ)->l.Nodup->(l.map fun id=>(ρ.aO (.ap id)).b).Nodup:=by
   intro l
   induction l with
   |nil=>intro _ _;exact List.nodup_nil
   |cons id r ih=>
    intro hm hn;obtain⟨oO,P5⟩:=abh.1 hn;refine abh.2 ⟨fun hb=>?_,ih (fun id h=>hm id (by simp[h])) P5⟩
    obtain⟨i3,JA,e⟩:=aae.1 hb;have:=hI.mem.inj _ _ (cQ i3 (hm i3 (by simp[JA]))) (cQ id (hm id aK)) e
    cases this;exact oO JA
  exact key iZ (fun _ h=>h) qJ
 have OF:∀b,b∈as.map (·.1)->b<w.heap.size:=by intro b hb;rw[has,aaN]at hb;obtain⟨id,hid,rfl⟩:=aae.1 hb;exact aF _ (cQ id hid)
 have WM:∀b,b∈as.map (·.1)->w0.heap.size<=b\/∃k0,Live ρ0 m0 k0/\(ρ0.aO k0).b=b:=by intro b hb;rw[has,aaN]at hb;obtain⟨id,hid,rfl⟩:=aae.1 hb;exact hI.ext.a8 _ (cQ id hid)
 have MQ:∀a0,a0∈as->a0.1∈as.map (·.1):=fun a0 h0=>aae.2 ⟨a0,h0,rfl⟩
 let Jw:Nat->World->Prop:=fun k W=>∃y ρ',J k y/\Inv N ρ0 m0 w0 (S y) ρ' act W/\oS ρ' (S y).mem (w.heap.size+1)/\(∀b,b∈as.map (·.1)->oS ρ' (S y).mem b)/\
  W.heap[w.heap.size+1]? =some (.loop rec0)
 let Jx:World->Prop:=fun W=>∃c ex im ρ',K ex im/\Inv N ρ0 m0 w0 im ρ' act W/\oS ρ' im.mem (w.heap.size+1)/\(∀b,b∈as.map (·.1)->oS ρ' im.mem b)/\
  ((c= .ret/\ex= .ret)\/∃id,c= .exit id/\ex= .exit id)/\W.heap[w.heap.size+1]? =some (.loop {rec0 with state:= .done,pending:=some c})
 have OG:∀(im:St)(ρ':bH)(o:Obj)(W W':World),Inv N ρ0 m0 w0 im ρ' act W->(∀b,b∈as.map (·.1)->oS ρ' im.mem b)->W.heap[w.heap.size+1]? =some o->
   W.heap.size<=W'.heap.size->(∀b,b<W.heap.size->(∀a,a∈as->b≠a.1)->W'.heap[b]? =W.heap[b]?)->W'.os=W.os->W'.tape=W.tape->W'.output=W.output->
   Inv N ρ0 m0 w0 im ρ' act W'/\W'.heap[w.heap.size+1]? =some o:=by
  intro im ρ' o W W' hI ho hl hs hb h1 h2 h3;refine⟨hI.S1 ⟨hs,fun b hS=>hb b (hI.mem.S b hS) fun a ha e=>(ho _ (MQ a ha)).1 (e▸hS),fun k hk=>hb _ (hI.mem.a8 k hk).1 fun a ha e=>(ho _ (MQ a ha)).2 k hk e⟩
   (fun b qY hk=>hb b (aaf qY hI.ext.size) fun a ha e=>?_) h1 h2 h3,?_⟩
  .rcases WM _ (MQ a ha)with h|⟨k0,h0,e0⟩
   .omega
   .exact hk k0 h0 (e0.trans e.symm)
  .rw[hb _ (aac.1 hl).1 fun a ha e=>?_]
   .exact hl
   .have:=OF _ (MQ a ha);omega
 have main:=hT (w.heap.size+1) as W1 Jw Jx WK WL
  (fun i a0 v hi hv=>by
   rw[has,O6]at hi;cases hid:iZ[i]? with
   |none=>rw[hid]at hi;cases hi
   |some id=>
    rw[hid]at hi;simp only[XS,XQ]at hi;subst hi;obtain⟨hm,iI⟩:=RG i id v hid hv;obtain⟨cur,bU,iJ⟩:=Fv.mem.bk id _ hm;obtain⟨u,hu,b9⟩:=iJ 0 _ rfl;have ti:u=v:=by
     cases b9 with
     |val _ _=>rfl
     |no _=>simp[cI]at iI
    subst ti;exact⟨by rw[bU.cell];simpa using hu,bU.jD (by have:=(aac.1 hu).1;simpa using this)⟩)
  (fun k W W'⟨y,ρ',h1,h2,h3,h4,h5⟩hs hb e1 e2 e3=>by obtain⟨q1,q2⟩:=OG _ _ _ W W' h2 h4 h5 hs hb e1 e2 e3;exact⟨y,ρ',h1,q1,h3,h4,q2⟩)
  (fun W W'⟨c,ex,im,ρ',h0,h2,h3,h4,h6,h5⟩hs hb e1 e2 e3=>by obtain⟨q1,q2⟩:=OG _ _ _ W W' h2 h4 h5 hs hb e1 e2 e3;exact⟨c,ex,im,ρ',h0,q1,h3,h4,h6,q2⟩)
  (fun k y W hk⟨z,ρ',h1,h2,h3,h4,h5⟩=>by
   have hr:=C7 k y z hk h1;have P7:=Av (Py _) (Pz _) (l:=w.heap.size+1) (n0:=0) (rec0:=rec0) (act:=act) (fn:=fn) (p:=p) (by rw[yo];exact⟨rfl,rfl,rfl,rfl,pi,rfl,rfl⟩) h2 h5 h3
    (by have:=hI.ext.size;omega) hr
   obtain⟨f1,t1,a1,b1,hy,hR⟩:=P7;refine⟨f1,t1,a1,b1,hy,hR.mono fun e W' hp=>?_⟩
   obtain⟨ex,im,ρ3,jump,hK,hIn,he,hl,hj,WN,Aw,dj⟩:=hp;have Vo:∀b,b∈as.map (·.1)->oS ρ3 im.mem b/\W'.heap[b]? =W.heap[b]? :=fun b hb=>by have aF:=OF b hb;have Ar:w.heap.size+1<W.heap.size:=(aac.1 h5).1;exact WN b om om (h4 b hb)
   rcases hj with⟨rfl,rfl⟩|⟨rfl,rfl⟩|⟨id,rfl,rfl⟩
   .left;obtain⟨z',Se,SA⟩:=hK;obtain⟨ρ4,hIv,Vp⟩:=hIn.view kG SA;refine⟨he,⟨z',ρ4,Se,hIv,Vp _ Aw,fun b hb=>Vp b (Vo b hb).1,?_⟩,dj,fun a ha=>(Vo a.1 (aae.2 ⟨a,ha,rfl⟩)).2⟩
    rw[hl,yo];rfl
   .right;exact⟨he,.ret,.ret,_,ρ3,hK,hIn,Aw,fun b hb=>(Vo b hb).1,.inl ⟨rfl,rfl⟩,hl⟩
   .right;exact⟨he,.exit id,.exit id,_,ρ3,hK,hIn,Aw,fun b hb=>(Vo b hb).1,.inr ⟨id,rfl,rfl⟩,hl⟩)
  ⟨x0,ρ2,hJ0,hId,OE _ S6,fun b hb=>OE b (S8 b hb),Zf⟩
 refine⟨w.heap.size+1,[{target:= .collected w.heap.size,args:= #[]}],W1,{target:= .fn (.func gf) (pw as).toArray,args:= #[.func (.yield (w.heap.size+1)) #[] #[]]},W1,gf,
  #[.func (.yield (w.heap.size+1)) #[] #[]]++(pw as).toArray,W1,?_,?_,fun _ _=>trivial,?_,by simp[Fence.wide],?_⟩
 .rw[<-zM,yo];exact run_enterLoop_outer _ _ _ _ _
 .simp only[resolve,hv];simp[go_sem]
 .simp[invoke,callFunc,hgf,WI,WH]
 .refine main.mono fun e W' hp=>?_
  obtain⟨⟨v,rfl⟩,hp⟩:=hp;rcases hp with⟨y,ρ',h1,h2,h3,h4,h5⟩|⟨c,ex,im,ρ',h0,h2,h3,h4,h6,h5⟩
  .refine⟨none,_,by have:=run_endLoop (P:=P) h5 (by rw[yo];simp);rw[yo]at this;exact this,?_⟩
   exact⟨.normal,S y,ρ',rfl,S2 y h1,h2.put h3 (by have:=hI.ext.size;omega) _⟩
  .refine⟨some c,_,by have:=run_endLoop (P:=P) h5 (by simp);exact this,?_⟩
   have S9:=h2.put h3 (by have:=hI.ext.size;omega) (.loop {rec0 with state:= .exhausted,pending:=some c})
   rcases h6 with⟨rfl,rfl⟩|⟨id,rfl,rfl⟩
   .exact wpIn_ret ⟨.ret,im,ρ',rfl,h0,S9⟩
   .exact wpIn_exit ⟨.exit id,im,ρ',rfl,h0,S9⟩
end
section
variable {P:Program} {N:Nat} {ρ0:bH} {m0:Mem} {w0:World}
theorem jk{f:Operand}{ps:Array Tmp}{x y:Code}{lc:LC}(h:dA P (.rangeFunc f ps x y)=some lc):∃x' p la lb,lc= .v7 x' p la lb:=by
 simp only[dA,Pq]at h;split at h
 case h_2=>cases h
 simp only[KG]at h;obtain⟨lx,hx,ly,hy,h⟩:=h;split at h
 case isFalse=>cases h
 simp only[KG]at h;obtain⟨x',_,h⟩:=h;cases h;exact⟨_,_,_,_,rfl⟩
theorem JB:∀(lc:LC)(r:Option Nat)(yp:r=none\/lc.po=true)(N:Nat)(ρ0:bH)(m0:Mem)(w0:World)(kG:ρ0.n=m0.length)(c:Code)(K:Ex->St->Prop)(st:St)(ρ:bH)(a:Act)(w:World),
  dA P c=some lc.er->aw P m0.length lc K st->Inv N ρ0 m0 w0 st ρ a w->c.wpIn (FR r) 0 P (yi N ρ0 m0 w0 K) a w:=by
 intro lc
 induction lc with
 |cL b ih=>
  intro r yp N ρ0 m0 w0 kG c K st ρ a w hl h hI;obtain⟨s',hv,h⟩:=h;obtain⟨ρ',ol⟩:=hI.I5 kG hv;exact ih r yp N ρ0 m0 w0 kG c K s' ρ' a w hl h ol
 |skip=>
  intro r yp N ρ0 m0 w0 kG c K st ρ a w hl h hI;cases c with
  |skip=>exact wpIn_skip ⟨_,st,ρ,rfl,h,hI⟩
  |region id ops bT=>cases bT<;>simp[dA,LC.er,KG]at hl
  |rangeFunc f ps ca cb=>obtain⟨_,_,_,_,e⟩:=jk hl;simp[LC.er]at e
  |_=>simp[dA,LC.er,KG]at hl
 |ai WO=>
  intro r yp N ρ0 m0 w0 kG c K st ρ a w hl h hI;cases c with
  |region id ops bT=>
   cases bT with
   |true=>simp[dA,LC.er,KG]at hl
   |false=>
    simp only[dA,LC.er,Pq,KG]at hl;obtain⟨bO,ym,hl⟩:=hl;cases hl;refine wpIn_region (gN (uu ym) Ft _ _ _ ?_);have:=ur (Q:=yi N ρ0 m0 w0 K) (K:=Gy K) (fun aU m ρ a w hK hI=>⟨_,_,ρ,rfl,hK,hI⟩) ops.toList 0 _ st.aU st.mem ρ a w rfl ym h hI
    simpa[List.range_eq_range']using this
  |rangeFunc f ps ca cb=>obtain⟨_,_,_,_,e⟩:=jk hl;simp[LC.er]at e
  |_=>simp[dA,LC.er,KG]at hl
 |bT WO VY=>
  intro r yp N ρ0 m0 w0 kG c K st ρ a w hl h hI;cases c with
  |region id ops bT=>
   cases bT with
   |true=>
    simp only[dA,LC.er,Pq,KG]at hl;obtain⟨bO,ym,hl⟩:=hl;obtain⟨oI,hs,hl⟩:=hl;cases hl;refine wpIn_region_draw fun t=>gN (uu ym) Ft _ _ _ ?_
    exact yn (Q:=yi N ρ0 m0 w0 K) (K:=K) (fun aU m ρ a w hK hI=>⟨_,_,ρ,rfl,hK,hI⟩) ym hs h hI t
   |false=>simp[dA,LC.er,KG]at hl
  |rangeFunc f ps ca cb=>obtain⟨_,_,_,_,e⟩:=jk hl;simp[LC.er]at e
  |_=>simp[dA,LC.er,KG]at hl
 |seq lx ly P2 Jv=>
  intro r yp N ρ0 m0 w0 kG c K st ρ a w hl h hI;cases c with
  |seq x y=>
   simp only[dA,LC.er,Pq,KG,XQ,LC.seq.injEq]at hl;obtain⟨lx',hx,ly',hy,rfl,rfl⟩:=hl;refine wpIn_seq (wpIn_mono (P2 r (yp.imp id fun h=>(abA.1 h).1) N ρ0 m0 w0 kG x _ st ρ a w hx h hI) fun e a' w' hp=>?_)
   obtain⟨ex,im,ρ',he,hK,ol⟩:=hp;cases e<;>simp[Ak]at he<;>subst he
   .exact Jv r (yp.imp id fun h=>(abA.1 h).2) N ρ0 m0 w0 kG y K im ρ' a' w' hy hK ol
   .exact⟨_,im,ρ',rfl,hK,ol⟩
   .exact⟨_,im,ρ',rfl,hK,ol⟩
  |region id ops bT=>cases bT<;>simp[dA,LC.er,KG]at hl
  |rangeFunc f ps ca cb=>obtain⟨_,_,_,_,e⟩:=jk hl;simp[LC.er]at e
  |_=>simp[dA,LC.er,KG]at hl
 |cond x0 ly0 lz0 Jv WQ=>
  intro r yp N ρ0 m0 w0 kG c K st ρ a w hl h hI;cases c with
  |cond x y z=>
   simp only[dA,LC.er,Pq,KG,XQ,LC.cond.injEq]at hl;obtain⟨x',hx,ly,hy,lz,hz,rfl,rfl,rfl⟩:=hl;have hd:=aN hI.aU hx;simp only[aw]at h;split at h
   .rename_i t th;rw[th]at hd;have ht:=(bJ hd).1;have pJ:∀b,t=b->PA x' (aA b) st.aU=st.aU:=fun b hb=>by
     subst hb;cases x' with
     |t n=>exact yl th
     |c v=>rfl
    refine wpIn_cond ht ?_;rcases cj.1 h with⟨rfl,h⟩|⟨rfl,h⟩
    .simp only[ew,pJ true rfl]at h;exact Jv r (yp.imp id fun h=>(abA.1 h).1) N ρ0 m0 w0 kG y K st ρ a w hy h hI
    .simp only[ew,pJ false rfl]at h;exact WQ r (yp.imp id fun h=>(abA.1 h).2) N ρ0 m0 w0 kG z K st ρ a w hz h hI
   .exact h.elim
  |region id ops bT=>cases bT<;>simp[dA,LC.er,KG]at hl
  |rangeFunc f ps ca cb=>obtain⟨_,_,_,_,e⟩:=jk hl;simp[LC.er]at e
  |_=>simp[dA,LC.er,KG]at hl
 |block id0 Zi ih=>
  intro r yp N ρ0 m0 w0 kG c K st ρ a w hl h hI;cases c with
  |block id b=>
   simp only[dA,LC.er,Pq,KG,XQ,LC.block.injEq]at hl;obtain⟨lb,hb,rfl,rfl⟩:=hl;refine wpIn_block (wpIn_mono (ih r yp N ρ0 m0 w0 kG b _ st ρ a w hb h hI) fun e a' w' hp=>?_)
   obtain⟨ex,im,ρ',he,hK,ol⟩:=hp;cases e<;>simp[Ak]at he<;>subst he
   .exact⟨_,im,ρ',rfl,hK,ol⟩
   .rename_i i3;simp only[Cx]at hK;simp only[Exit.inBlock];rcases cj.1 hK with⟨hid,hK⟩|⟨hid,hK⟩
    .rw[if_pos (XM hid)];exact⟨_,im,ρ',rfl,hK,ol⟩
    .rw[if_neg (abv hid)];exact⟨_,im,ρ',rfl,hK,ol⟩
   .exact⟨_,im,ρ',rfl,hK,ol⟩
  |region id ops bT=>cases bT<;>simp[dA,LC.er,KG]at hl
  |rangeFunc f ps ca cb=>obtain⟨_,_,_,_,e⟩:=jk hl;simp[LC.er]at e
  |_=>simp[dA,LC.er,KG]at hl
 |loop Zi ih=>
  intro r yp N ρ0 m0 w0 kG c K st ρ a w hl h hI;cases c with
  |loop b=>
   simp only[dA,LC.er,Pq,KG,XQ,LC.loop.injEq]at hl;obtain⟨lb,hb,rfl⟩:=hl;obtain⟨α,J,S,μ,⟨a1,hJ1,Vq⟩,C7⟩:=h;obtain⟨ρ1,Wz⟩:=hI.I5 kG Vq;refine tj (γ:=α) (I:=fun x a w=>J x/\∃ρ,Inv N ρ0 m0 w0 (S x) ρ a w) (μ:=μ) a1 ⟨hJ1,ρ1,Wz⟩ fun x a w⟨hJ,ρ,hI⟩=>?_
   refine wpIn_mono (ih r yp N ρ0 m0 w0 kG b _ (S x) ρ a w hb (C7 x hJ) hI) fun e a' w' hp=>?_
   obtain⟨ex,im,ρ',he,hK,ol⟩:=hp;cases e<;>simp[Ak]at he<;>subst he
   .obtain⟨x3,hJ3,aF,hw3⟩:=hK;obtain⟨ρ3,WA⟩:=ol.I5 kG hw3;exact⟨x3,⟨hJ3,ρ3,WA⟩,aF⟩
   .exact⟨_,im,ρ',rfl,hK,ol⟩
   .exact⟨_,im,ρ',rfl,hK,ol⟩
  |region id ops bT=>cases bT<;>simp[dA,LC.er,KG]at hl
  |rangeFunc f ps ca cb=>obtain⟨_,_,_,_,e⟩:=jk hl;simp[LC.er]at e
  |_=>simp[dA,LC.er,KG]at hl
 |exit id0=>
  intro r yp N ρ0 m0 w0 kG c K st ρ a w hl h hI;cases c with
  |exit id=>
   simp[dA,LC.er]at hl;subst hl;exact wpIn_exit ⟨_,st,ρ,rfl,h,hI⟩
  |region id ops bT=>cases bT<;>simp[dA,LC.er,KG]at hl
  |rangeFunc f ps ca cb=>obtain⟨_,_,_,_,e⟩:=jk hl;simp[LC.er]at e
  |_=>simp[dA,LC.er,KG]at hl
 |ret=>
  intro r yp N ρ0 m0 w0 kG c K st ρ a w hl h hI;cases c with
  |ret=>exact wpIn_ret ⟨_,st,ρ,rfl,h,hI⟩
  |region id ops bT=>cases bT<;>simp[dA,LC.er,KG]at hl
  |rangeFunc f ps ca cb=>obtain⟨_,_,_,_,e⟩:=jk hl;simp[LC.er]at e
  |_=>simp[dA,LC.er,KG]at hl
 |v7 x0 p la0 Zi Py Pz=>
  intro r yp N ρ0 m0 w0 kG c K st ρ a w hl h hI;have Zj:r=none:=yp.resolve_right (by simp[LC.po])
  subst Zj;cases c with
  |rangeFunc f ps ca cb=>
   simp only[dA,LC.er,Pq]at hl;split at hl
   case h_2=>cases hl
   rename_i p' pi;simp only[KG]at hl;obtain⟨la,hla,lb,WJ,hl⟩:=hl;split at hl
   case isFalse=>cases hl
   rename_i iV;simp only[KG,XQ,LC.v7.injEq]at hl;obtain⟨x',hx,rfl,rfl,rfl,rfl⟩:=hl;rw[T6,Fu,Fu]at iV;exact C6 kG (by apply aaX;simpa using pi) hx (fun l ρ0 m0 w0 K st ρ a w hM h hI=>Py (some l) (.inr iV.1) 0 ρ0 m0 w0 hM ca K st ρ a w hla h hI)
    (fun l ρ0 m0 w0 K st ρ a w hM h hI=>Pz (some l) (.inr iV.2) 0 ρ0 m0 w0 hM cb K st ρ a w WJ h hI) h hI
  |region id ops bT=>cases bT<;>simp[dA,LC.er,KG]at hl
  |_=>simp[dA,LC.er,KG]at hl
def re(tmps:Array Value):ResultVar->Sem Value
 | .tmp t=>pure (tmps.getD t Go.undef)
 | .cell ad t=>do loadVar t (<-asAddr (tmps.getD ad Go.undef))
theorem C8(fn:Func)(tmps:Array Value):results fn tmps=(do let vs<-fn.results.mapM (re tmps);pure (if h:vs.size=1 then vs[0]else .tuple vs)):=by
 unfold results;have e:(fun(r:ResultVar)=>match r with
  | .tmp t=>(pure (tmps.getD t Go.undef):Sem Value)
  | .cell ad t=>do loadVar t (<-asAddr (tmps.getD ad Go.undef)))=re tmps:=by
  funext r;cases r<;>rfl
 rw[<-e];rfl
theorem oT:∀{rs:List ResultVar}{G0:List Rv},na P rs=some G0->∀{st:St}{ρ:bH}{a:Act}{w:World}{K:List RV->Prop},
  aC ρ st.mem w->be ρ w st.aU a.tmps->zW P st G0 K->
  ∃(vs:List RV)(us:List Value),K vs/\(rs.mapM (re a.tmps)).run P w= .ok us w/\
   us.length=vs.length/\∀(i:Nat)r,vs[i]? =some r->∃u,us[i]? =some u/\dy ρ w r u
 | [],G0,h,st,ρ,a,w,K,hM,hE,hr=>by simp[na]at h;subst h;exact⟨[],[],hr,rfl,rfl,aK⟩
 | .tmp t::r,G0,h,st,ρ,a,w,K,hM,hE,hr=>by
  simp only[na,Pq,KG]at h;obtain⟨r',WR,h⟩:=h;cases h;simp only[zW]at hr;obtain⟨v,hv,hr⟩:=bc.1 hr;obtain⟨vs,us,hK,du,hlen,bY⟩:=oT WR hM hE hr;have hd:=hE.get t;have RC:jd st.aU t= .rv v:=by
   cases hg:jd st.aU t<;>rw[hg]at hv<;>simp[Cr]at hv
   rw[hv]
  rw[RC]at hd;refine⟨v::vs,a.tmps.getD t Go.undef::us,hK,?_,by simp[hlen],fun i r hi=>?_⟩
  .rw[List.mapM_cons,Sem.run_bind];simp only[re,Sem.run_pure,Result.andThen_ok];rw[Sem.run_bind,du];rfl
  .cases i with
   |zero=>simp at hi;subst hi;exact⟨_,aK,hd⟩
   |succ i=>simpa using bY i r (by simpa using hi)
 | .cell ad t::r,G0,h,st,ρ,a,w,K,hM,hE,hr=>by
  simp only[na,Pq,KG]at h;obtain⟨agg,ha,n,hn,r',WR,h⟩:=h;cases h;simp only[zW]at hr;obtain⟨addr,u,cv,hv,Ta,S4,b9⟩:=si hM ha hn hr (hE.get ad);obtain⟨v,ye,hr⟩:=bc.1 S4;obtain⟨vs,us,hK,du,hlen,bY⟩:=oT WR hM hE hr;have RC:cv= .rv v:=by
   cases cv<;>simp[Cr]at ye
   rw[ye]
  subst RC;refine⟨v::vs,u::us,hK,?_,by simp[hlen],fun i r hi=>?_⟩
  .rw[List.mapM_cons,Sem.run_bind];simp only[re,hv,asAddr,Sem.run_bind,Sem.run_pure,Result.andThen_ok,Ta];rw[du];rfl
  .cases i with
   |zero=>simp at hi;subst hi;exact⟨_,aK,b9⟩
   |succ i=>simpa using bY i r (by simpa using hi)
theorem wo{fn:Func}{rs:List Rv}(h:na P fn.results.toList=some rs){st:St}{ρ:bH}{a:Act}{w:World}{K:CV->Prop}(hM:aC ρ st.mem w)(hE:be ρ w st.aU a.tmps)(hr:zW P st rs fun vs=>K (PD vs)):∃v r,(results fn a.tmps).run P w= .ok v w/\K r/\bW ρ w r v:=by
 obtain⟨vs,us,hK,du,hlen,bY⟩:=oT h hM hE hr;have wR:(fn.results.mapM (re a.tmps)).run P w= .ok us.toArray w:=by rw[Array.mapM_eq_mapM_toList,Sem.run_map,du];rfl
 rw[C8,Sem.run_bind,wR];refine⟨_,_,rfl,hK,?_⟩
 match vs,us,hlen,bY with
 | [r],[u],_,bY=>
  obtain⟨u',hu,hd⟩:=bY 0 r aK;simp at hu;subst hu;exact hd
 | [],[],_,bY=>exact⟨[],rfl,rfl,aK⟩
 |r1::r2::rs,u1::u2::us,hlen,bY=>
  refine⟨u1::u2::us,?_,hlen,bY⟩;simp
theorem fL{f:Nat}{fn:Func}{lf:LF}{args:List CV}{m:Mem}{K:CV->Mem->Prop}(hf:P.funcs[f]? =some fn)(hl:bq P fn=some lf.er)(hn:(fn.name== "runtime.NumGoroutine")=false)(hle:args.length<=lf.n)(h:body P lf args m K):ar P f args m K:=by
 simp only[bq,LF.er,Pq,KG,XQ,LF.mk.injEq]at hl;obtain⟨rs,P7,c,hc,lc0,qI,oO,WS,Tc⟩:=hl;subst Tc WS;obtain⟨lfn,lfr,lc⟩:=lf;simp only at oO P7 qI;subst oO;refine⟨⟨fn,hf,by simp[hc],hn⟩,fun ρ w vs hM hlen bY=>?_⟩
 simp only[body,ew,gI,cg,fk]at h;simp only at hle;have hI:Inv w.heap.size ρ m w ⟨args++List.replicate (fn.ntmps-args.length) .undef,m⟩ ρ {tmps:=vs.toArray++Array.replicate (fn.ntmps-vs.toArray.size) Go.undef,defers:=[]} w:=by
  refine⟨Ext.refl _ _ _,hM,⟨by simp[hlen],fun i c hi=>?_⟩,C0.nil,QN _,QN _⟩
  rcases XN i args.length with aF|ef
  .rw[VO aF]at hi;obtain⟨v,hv,hd⟩:=bY i c hi;refine⟨v,?_,hd⟩;rw[abm (by simp[hlen];exact aF)]
   simpa using hv
  .rw[UX ef,abO]at hi;split at hi
   .rename_i aF;cases hi;refine⟨Go.undef,?_,rfl⟩;rw[Array.getElem?_append_right (by simp[hlen];exact ef),Array.getElem?_replicate,if_pos (by simp[hlen];exact aF)]
   .cases hi
 refine(callsIn_wide (n:=0)).1 (callsIn_of_wp_marks (F:=Fence.wide) hf hc trivial (wpIn_mono (JB lc none (.inl rfl) _ ρ m w hM.n c _ _ ρ _ w qI h hI) fun e a' w' hp=>?_))
 obtain⟨ex,im,ρ',he,hK,ol⟩:=hp;have hU:zW P im lfr (fun vs=>K (PD vs) im.mem)->LeavesInM Fence.wide 0 P fn a'.tmps (fun e w'=>∃Td r m' ρ',e=Ending.returned Td/\K r m'/\aC ρ' m' w'/\bW ρ' w' r Td/\Ext ρ m w ρ' m' w') a'.defers .returning w':=fun hr=>by
  obtain⟨Ds,h1,h2,h3⟩:=ol.defers;rw[h1];refine pP rfl Ds w' h2 h3 ol.mem ol.aU ol.ext fun w2 C5 zG Vm=>?_
  obtain⟨v,r,du,hKr,hd⟩:=wo (K:=fun r=>K r im.mem) P7 C5 zG hr
  exact⟨v,du,v,r,im.mem,ρ',rfl,hKr,C5,hd,Vm⟩
 cases e<;>simp[Ak]at he<;>subst he
 .exact hU hK
 .exact hK.elim
 .exact hU hK
theorem MR:∀(c:Code)(lc:LC),dA P c=some lc->lc.er=lc:=by
 intro c
 induction c with
 |skip=>intro lc h;simp[dA]at h;subst h;rfl
 |region id ops bT=>
  intro lc h;cases bT with
  |true=>
   simp only[dA,Pq,KG]at h;obtain⟨bO,_,VY,_,h⟩:=h;cases h;rfl
  |false=>
   simp only[dA,Pq,KG]at h;obtain⟨bO,_,h⟩:=h;cases h;rfl
 |seq x y P2 Jv=>
  intro lc h;simp only[dA,Pq,KG]at h;obtain⟨lx,hx,ly,hy,h⟩:=h;cases h;simp only[LC.er,P2 lx hx,Jv ly hy]
 |cond x y z Jv WQ=>
  intro lc h;simp only[dA,Pq,KG]at h;obtain⟨x',_,ly,hy,lz,hz,h⟩:=h;cases h;simp only[LC.er,Jv ly hy,WQ lz hz]
 |block id b ih=>
  intro lc h;simp only[dA,Pq,KG]at h;obtain⟨lb,hb,h⟩:=h;cases h;simp only[LC.er,ih lb hb]
 |loop b ih=>
  intro lc h;simp only[dA,Pq,KG]at h;obtain⟨lb,hb,h⟩:=h;cases h;simp only[LC.er,ih lb hb]
 |exit id=>intro lc h;simp[dA]at h;subst h;rfl
 |ret=>intro lc h;simp[dA]at h;subst h;rfl
 |rangeFunc f ps x y P2 Jv=>
  intro lc h;simp only[dA,Pq]at h;split at h
  case h_2=>cases h
  simp only[KG]at h;obtain⟨lx,hx,ly,hy,h⟩:=h;split at h
  case isFalse=>cases h
  simp only[KG]at h;obtain⟨x',_,h⟩:=h;cases h;simp only[LC.er,P2 lx hx,Jv ly hy]
 |_=>intro lc h;simp[dA]at h
theorem l7{f:Nat}{fn:Func}{lf:LF}{args:List CV}{m:Mem}{K:CV->Mem->Prop}(hf:P.funcs[f]? =some fn)(hl:bq P fn=some lf)(hn:(fn.name== "runtime.NumGoroutine")=false)(hle:args.length<=lf.n)(h:body P lf args m K):ar P f args m K:=by
 refine fL hf ?_ hn hle h;have Vn:=hl;simp only[bq,Pq,KG]at hl;obtain⟨rs,P7,c,hc,lc,qI,hl⟩:=hl;cases hl;rw[Vn];simp only[LF.er,MR c lc qI]
end
end Go.AM
