/- Part 11 of 43: what the law stands on. -/
import Derived.Test.YtojhmadmlnfpcaaGreatDoorK10
set_option linter.unusedVariables false
set_option linter.unusedSimpArgs false
set_option linter.unnecessarySimpa false
set_option maxRecDepth 100000
set_option maxHeartbeats 64000000
namespace Go.AM
section
variable {P:Program} {N:Nat} {ρ0:bL} {m0:Mem} {w0:World}
structure Tk(ρ:bL)(m:Mem)(w w':World):Prop where
 size:w.heap.size<=w'.heap.size
 S:∀b off,ρ.S b->w'.cell? ⟨b,off,none⟩=w.cell? ⟨b,off,none⟩
 aV:∀k,Live ρ m k->w'.heap[(ρ.aR k).b]? =w.heap[(ρ.aR k).b]?
 maps:∀b es ck,ρ.S b->w.heap[b]? =some (.map es ck)->w'.heap[b]? =some (.map es ck)
theorem dz.Bm{S:Nat->Prop}{w w':World}(hw:∀b off,S b->w'.cell? ⟨b,off,none⟩=w.cell? ⟨b,off,none⟩){d:Dt}{v:Value}(h:dz S w d v):dz S w' d v:=by
 induction h with
 |val v h=>exact .val v h
 |no a=>exact .no a
 |nil esz a cap hc=>exact .nil esz a cap hc
 |sl esz elems b off cap u hb hl bp dI hc hd ih=>
  exact .sl esz elems b off cap u hb hl bp dI (fun i cs j d hi hj=>(hw b _ hb).trans (hc i cs j d hi hj)) ih
theorem bz.Bm{ρ:bL}{m:Mem}{w w':World}(x:Tk ρ m w w'){pos:Option (Nat×Nat×Nat)}{c:CC}{v:Value}(h:bz ρ w pos c v):bz ρ w' pos c v:=by
 cases c<;>simp only[bz]at h⊢
 case aa=>exact h.Bm x.S
 case qx cs=>
  obtain⟨b,off,hv,hb,hc⟩:=h;exact⟨b,off,hv,hb,fun j d hj=>let⟨u,hu,hd⟩:=hc j d hj;⟨u,(x.S b _ hb).trans hu,hd.Bm x.S⟩⟩
 all_goals exact h
theorem dW.Bm{ρ:bL}{m:Mem}{w w':World}(x:Tk ρ m w w'){r:RV}{v:Value}(h:dW ρ w r v):dW ρ w' r v:=by
 cases r with
 |one c=>exact bz.Bm x h
 |agg cs=>
  obtain⟨vs,hv,hl,hc⟩:=h;exact⟨vs,hv,hl,fun i c hi=>let⟨u,hu,hd⟩:=hc i c hi;⟨u,hu,hd.Bm x⟩⟩
theorem b8.Bm{ρ:bL}{m:Mem}{w w':World}(x:Tk ρ m w w'){r:CV}{v:Value}(h:b8 ρ w r v):b8 ρ w' r v:=by
 cases r with
 |ap=>trivial
 |undef=>exact h
 |rv r=>exact dW.Bm x h
 |bF rs=>
  obtain⟨vs,hv,hl,hc⟩:=h;exact⟨vs,hv,hl,fun i c hi=>let⟨u,hu,hd⟩:=hc i c hi;⟨u,hu,hd.Bm x⟩⟩
theorem aH.Bm{ρ:bL}{m:Mem}{w w':World}(hM:aH ρ m w)(h:Tk ρ m w w'):aH ρ m w':=by
 refine⟨hM.n,fun b hb=>aaH (hM.S b hb) h.size,fun k hk=>⟨aaH (hM.aV k hk).1 h.size,(hM.aV k hk).2⟩,hM.inj,fun id b hb=>?_,fun id i j esz el ho bp=>?_⟩
 .have h1:=hM.bk id b hb;cases b with
  |bh=>trivial
  |var cs=>
   obtain⟨cur,b9,h2⟩:=h1;exact⟨cur,b9.dK (h.aV (.au id) ⟨_,hb,aG,aG⟩),fun j c hj=>let⟨u,hu,hd⟩:=h2 j c hj;⟨u,hu,hd.Bm h⟩⟩
  |row esz elems=>
   obtain⟨h2,h3,h4,h5,h6⟩:=h1;refine⟨h2,h3,h4,h5,fun hp=>?_⟩
   obtain⟨cur,b9,h7,h8⟩:=h6 hp;exact⟨cur,b9.dK (h.aV (.au id) ⟨_,hb,aG,fun _=>hp⟩),h7,fun i cs j c hi hj=>let⟨u,hu,hd⟩:=h8 i cs j c hi hj;⟨u,hu,hd.Bm h⟩⟩
  |mp es=>
   obtain⟨cV,ck,h2,h3,h4⟩:=h1;exact⟨cV,ck,⟨(h.aV (.au id) ⟨_,hb,aG,aG⟩).trans h2.1,h2.2⟩,h3,fun i e he=>let⟨e',tE,hk,hd⟩:=h4 i e he;⟨e',tE,hk,hd.Bm h⟩⟩
  |it cur left=>
   obtain⟨mb,seen,ck,cV,h2,h3,h4,h5,h6⟩:=h1;exact⟨mb,seen,ck,cV,(h.aV (.au id) ⟨_,hb,aG,aG⟩).trans h2,h3,h4,h.maps mb cV ck h4 h5,h6⟩
 .obtain⟨cur,b9,h2,h3,h4⟩:=hM.gX id i j esz el ho bp;exact⟨cur,b9.dK (h.aV (.sub id i j) ⟨⟨_,_,ho⟩,bp⟩),h2,h3,fun i cs j d hi hj=>let⟨u,hu,hd⟩:=h4 i cs j d hi hj;⟨u,hu,hd.Bm h.S⟩⟩
theorem bj.Bm{ρ:bL}{m:Mem}{w w':World}(x:Tk ρ m w w'){aY:List CV}{tmps:Array Value}(hE:bj ρ w aY tmps):bj ρ w' aY tmps:=
 ⟨hE.size,fun i c hi=>let⟨v,hv,hd⟩:=hE.lg i c hi;⟨v,hv,hd.Bm x⟩⟩
theorem q0{fn:Func}{tmps:Array Value}{R:Ending->World->Prop}{ρ:bL}{m:Mem}{aY:List CV}(hN:N=w0.heap.size):∀(Ds:List Nat)(w:World),Ds.Nodup->
  (∀D,D∈Ds->N<=D/\ρ.S D/\w.heap[D]? =some (.deferred (some [])))->aH ρ m w->bj ρ w aY tmps->Ext ρ0 m0 w0 ρ m w->
  (∀w',aH ρ m w'->bj ρ w' aY tmps->Ext ρ0 m0 w0 ρ m w'->∃v,(results fn tmps).run P w'= .ok v w'/\R (.returned v) w')->
  LeavesInM Fence.wide 0 P fn tmps R (Ds.map fun D=>{target:= .collected D,args:= #[]}) .returning w
 | [],w,_,_,hM,hE,hx,h=>by obtain⟨v,h1,h2⟩:=h w hM hE hx;exact⟨v,h1,h2⟩
 |D::Ds,w,hn,hD,hM,hE,hx,h=>by
  obtain⟨pJ,RS⟩:=abH.1 hn;obtain⟨d1,d2,d3⟩:=hD D aG;have aC:=(aaF.1 d3).1;have hc:Tk ρ m w (w.putObj D (.deferred none)):=by
   refine⟨aG,fun b off hS=>?_,fun k hk=>World.putObj_heap_other fun e=>(hM.aV k hk).2 (e▸d2),fun b es ck hS RT=>by
    have hb:b≠D:=fun e=>by subst e;rw[d3]at RT;cases RT
    rw[World.putObj_heap_other hb];exact RT⟩
   by_cases hb:b=D
   .subst hb;simp only[World.cell?,d3,World.putObj_heap_same aC]
   .simp only[World.cell?,World.putObj_heap_other hb]
  refine⟨aG,.inl ⟨D,_,rfl,run_takeDeferred d3,?_⟩⟩;refine q0 hN Ds _ RS (fun D' T5=>?_) (hM.Bm hc) (hE.Bm hc) ?_ h
  .obtain⟨e1,e2,e3⟩:=hD D' (by simp[T5])
   exact⟨e1,e2,(World.putObj_heap_other (by rintro rfl;exact pJ T5)).trans e3⟩
  .exact⟨hx.n,hx.aR,hx.S,hx.S',hx.aV,fun b hb hk=>(World.putObj_heap_other om).trans (hx.frame b hb hk),by simpa using hx.size,hx.os,hx.tape,hx.output⟩
end
section
variable {P:Program} {N:Nat} {ρ0:bL} {m0:Mem} {w0:World}
theorem GY{K:Ex->St->Prop}:¬LetsOut (zI N ρ0 m0 w0 K):=by rintro⟨a,w,ex,st,ρ,he,_⟩;simp[BR]at he
theorem GZ:∀lc:LC,lc.er.qA=lc.qA:=by
 intro lc
 induction lc<;>simp_all[LC.er,LC.qA]
theorem B0{l:Nat}{n0:Nat}{st:St}{ρ:bL}{act:Act}{W:World}{fn:FuncId}{rec0:Loop}{p:Nat}{la lb:LC}{ca cb:Code}{y:ByteArray}{K:Ex->St->Prop}(Ro:∀(ρ0:bL)(m0:Mem)(w0:World)(K:Ex->St->Prop)(st:St)(ρ:bL)(a:Act)(w:World),ρ0.n=m0.length->aw P m0.length la K st->Inv 0 ρ0 m0 w0 st ρ a w->ca.wpIn (FR (some l)) 0 P (zI 0 ρ0 m0 w0 K) a w)(Rp:∀(ρ0:bL)(m0:Mem)(w0:World)(K:Ex->St->Prop)(st:St)(ρ:bL)(a:Act)(w:World),ρ0.n=m0.length->aw P m0.length lb K st->Inv 0 ρ0 m0 w0 st ρ a w->cb.wpIn (FR (some l)) 0 P (zI 0 ρ0 m0 w0 K) a w)(hr:rec0.state= .ready/\rec0.pending=none/\rec0.fn=fn/\rec0.tmps=act.tmps/\rec0.params= #[p]/\rec0.assign=ca/\rec0.body=cb)(hI:Inv N ρ0 m0 w0 st ρ act W)(hl:W.heap[l]? =some (.loop rec0))(Eu:pO ρ st.mem l)(WR:w0.heap.size<=l)(h:pC st.mem fun n1=>aw P n1 la (fun ex s2=>match ex with
    | .normal=>pC s2.mem fun n2=>aw P n2 lb K s2
    |_=>False) ⟨ba st.aY p (eM y),st.mem⟩):
  Qk P l #[.string y] W fun e W'=>∃ex iY ρ' jump,K ex iY/\Inv N ρ0 m0 w0 ⟨st.aY,iY.mem⟩ ρ' act W'/\e= .returned (.bool jump.isNone)/\
   W'.heap[l]? =some (.loop {rec0 with state:=if jump.isNone then .ready else .done,pending:=jump})/\
   ((jump=none/\ex= .normal)\/(jump=some .ret/\ex= .ret)\/∃id,jump=some (.exit id)/\ex= .exit id)/\
   (∀b,b<W.heap.size->b≠l->pO ρ st.mem b->pO ρ' iY.mem b/\W'.heap[b]? =W.heap[b]?)/\pO ρ' iY.mem l/\W.heap.size<=W'.heap.size:=by
 obtain⟨r1,r2,r3,r4,r5,r6,r7⟩:=hr;have hy:=run_yield (P:=P) (args:= #[.string y]) hl (by rw[r5];rfl)
 rw[r3,r4,r5,r6,r7]at hy;refine⟨_,_,_,_,hy,?_⟩;have aC:l<W.heap.size:=(aaF.1 hl).1;simp only[ip]at h;have hRo:RoundIn Fence.wide 0 P l fn (act.tmps.setIfInBounds p (.string y)) ca cb W fun e W'=>∃ex iY ρ' jump,K ex iY/\Inv N ρ0 m0 w0 ⟨st.aY,iY.mem⟩ ρ' act W'/\e= .returned (.bool jump.isNone)/\
   W'.heap[l]? =some (.loop {rec0 with state:=if jump.isNone then .ready else .done,pending:=jump})/\
   ((jump=none/\ex= .normal)\/(jump=some .ret/\ex= .ret)\/∃id,jump=some (.exit id)/\ex= .exit id)/\
   (∀b,b<W.heap.size->b≠l->pO ρ st.mem b->pO ρ' iY.mem b/\W'.heap[b]? =W.heap[b]?)/\pO ρ' iY.mem l/\W.heap.size<=W'.heap.size:=by
  refine roundIn_of_wpIn trivial ?_;have zE:bj ρ W (ba st.aY p (eM y)) (act.tmps.setIfInBounds p (.string y)):=by rw[bn];exact hI.aY.set (dz.val _ rfl:b8 ρ W (eM y) (.string y))
  have X6:Inv 0 ρ st.mem W ⟨ba st.aY p (eM y),st.mem⟩ ρ {tmps:=act.tmps.setIfInBounds p (.string y),defers:=[]} W:=
   ⟨Ext.refl _ _ _,hI.mem,zE,Er.nil,aao _,aaj _⟩
  have hwa:=Ro ρ st.mem W _ _ ρ _ W hI.mem.n h X6;rw[GX]at hwa;refine wpIn_mono hwa fun e a1 W1 hp=>?_
  obtain⟨ex,s2,ρ2,he,hK,Iw⟩:=hp;cases e<;>simp[BR]at he<;>subst he<;>simp only at hK
  simp only[Exit.then];have BI:W1.heap[l]? =some (.loop rec0):=(Iw.ext.frame l aC Eu.2).trans hl;have Le:pO ρ2 s2.mem l:=Eu.ext Iw.ext aC;have UD:l<W1.heap.size:=(aaF.1 BI).1;refine⟨_,run_beginRound BI r1,?_⟩;obtain⟨W2,Qy⟩:∃W2,W1.putObj l (.loop {rec0 with state:= .busy})=W2:=⟨_,rfl⟩
  rw[Qy];have vE:uo ρ2 s2.mem W1 W2:=by rw[<-Qy];exact uo.put Le _
  have Ew:=Iw.mem.uq vE;have X7:Inv 0 ρ2 s2.mem W2 s2 ρ2 a1 W2:=⟨Ext.refl _ _ _,Ew,Iw.aY.cM vE.cM,Iw.defers.uq vE,aao _,aaj _⟩;have hwb:=Rp ρ2 s2.mem W2 _ _ ρ2 _ W2 Ew.n hK X7;rw[GX]at hwb;refine wpIn_mono hwb fun e a3 W3 hp=>?_
  obtain⟨ex,s3,ρ3,he,hK3,Oa⟩:=hp;have BX:l<W2.heap.size:=by rw[<-Qy];simpa using UD
  have hl3:W3.heap[l]? =some (.loop {rec0 with state:= .busy}):=by rw[Oa.ext.frame l BX Le.2,<-Qy];exact World.putObj_heap_same UD
  have X8:l<W3.heap.size:=(aaF.1 hl3).1;have Qz:pO ρ3 s3.mem l:=Le.ext Oa.ext BX;have fS:∀(jump:Option Code),((jump=none/\ex= .normal)\/(jump=some .ret/\ex= .ret)\/∃id,jump=some (.exit id)/\ex= .exit id)->
    ∃v w',(Instr.endRound l jump).run P W3= .ok v w'/\∃ex iY ρ' jump,K ex iY/\Inv N ρ0 m0 w0 ⟨st.aY,iY.mem⟩ ρ' act w'/\Ending.returned v= .returned (.bool jump.isNone)/\
     w'.heap[l]? =some (.loop {rec0 with state:=if jump.isNone then .ready else .done,pending:=jump})/\
     ((jump=none/\ex= .normal)\/(jump=some .ret/\ex= .ret)\/∃id,jump=some (.exit id)/\ex= .exit id)/\
     (∀b,b<W.heap.size->b≠l->pO ρ st.mem b->pO ρ' iY.mem b/\w'.heap[b]? =W.heap[b]?)/\pO ρ' iY.mem l/\W.heap.size<=w'.heap.size:=by
   intro jump hj;have OK:=run_endRound (P:=P) jump hl3;refine⟨_,_,OK,ex,s3,ρ3,jump,hK3,?_,rfl,World.putObj_heap_same X8,hj,fun b hb RU ho=>?_,Qz,?_⟩
   .have x1:Ext ρ0 m0 w0 ρ2 s2.mem W1:=hI.ext.trans Iw.ext;have x2:Ext ρ0 m0 w0 ρ2 s2.mem W2:=by rw[<-Qy];exact⟨x1.n,x1.aR,x1.S,x1.S',x1.aV,fun b hb hk=>(World.putObj_heap_other om).trans (x1.frame b hb hk),by simpa using x1.size,x1.os,x1.tape,x1.output⟩
    have x3:Ext ρ0 m0 w0 ρ3 s3.mem W3:=x2.trans Oa.ext;have e1:bj ρ2 W1 st.aY act.tmps:=hI.aY.ext hI.mem Iw.ext;have e3:bj ρ3 W3 st.aY act.tmps:=(e1.cM vE.cM).ext Ew Oa.ext;have d3:Er N ρ3 W3 act.defers:=((hI.defers.ext hI.mem Iw.ext).uq vE).ext Ew Oa.ext;have hI5:Inv N ρ0 m0 w0 ⟨st.aY,s3.mem⟩ ρ3 act W3:=⟨x3,Oa.mem,e3,d3,hI.hN,aa0 hI.n0 (aa0 Iw.n0 Oa.n0)⟩;exact hI5.put Qz WR _
   .have oM:pO ρ2 s2.mem b:=ho.ext Iw.ext hb;have Ry:b<W1.heap.size:=aaH hb Iw.ext.size;have jD:b<W2.heap.size:=by rw[<-Qy];simpa using Ry
    refine⟨oM.ext Oa.ext jD,?_⟩;rw[World.putObj_heap_other RU,Oa.ext.frame b jD oM.2,<-Qy,World.putObj_heap_other RU,Iw.ext.frame b hb ho.2]
   .have h1:=Iw.ext.size;have h2:W1.heap.size=W2.heap.size:=by rw[<-Qy];simp
    have h3:=Oa.ext.size;simp only[World.putObj_size];omega
  cases e<;>simp[BR]at he<;>subst he
  .exact fS none (.inl ⟨rfl,rfl⟩)
  .rename_i id;exact fS (some (.exit id)) (.inr (.inr ⟨id,rfl,rfl⟩))
  .exact fS (some .ret) (.inr (.inl ⟨rfl,rfl⟩))
 have hz:(#[p].zip #[Value.string y]).foldl (fun tmps x=>tmps.setIfInBounds x.1 x.2) act.tmps=act.tmps.setIfInBounds p (.string y):=aG
 exact hz▸hRo
theorem Inv.UE{st:St}{ρ:bL}{a:Act}{w w':World}(hI:Inv N ρ0 m0 w0 st ρ a w)(h:uo ρ st.mem w w')(hb:∀b,b<w0.heap.size->(∀k,Live ρ0 m0 k->(ρ0.aR k).b≠b)->w'.heap[b]? =w.heap[b]?)(ho:w'.os=w.os)(ht:w'.tape=w.tape)(hu:w'.output=w.output):Inv N ρ0 m0 w0 st ρ a w':=
 ⟨⟨hI.ext.n,hI.ext.aR,hI.ext.S,hI.ext.S',hI.ext.aV,fun b sb hk=>(hb b sb hk).trans (hI.ext.frame b sb hk),aa0 hI.ext.size h.size,ho.trans hI.ext.os,ht.trans hI.ext.tape,hu.trans hI.ext.output⟩,
  hI.mem.uq h,hI.aY.cM h.cM,hI.defers.uq h,hI.hN,hI.n0⟩
theorem aH.X9{ρ:bL}{m:Mem}{w:World}{D:Nat}(hM:aH ρ m w)(hD:D<w.heap.size)(hl:∀k,Live ρ m k->(ρ.aR k).b≠D):aH {ρ with S:=fun b=>ρ.S b\/b=D} m w:=by
 have g:iT ρ w {ρ with S:=fun b=>ρ.S b\/b=D} w:=⟨aaj _,fun _ _=>rfl,fun _ h=>.inl h,fun _ _=>rfl⟩
 have dh:∀k,Live {ρ with S:=fun b=>ρ.S b\/b=D} m k↔Live ρ m k:=fun k=>by cases k<;>rfl
 refine⟨hM.n,fun b hb=>?_,fun k hk=>⟨(hM.aV k ((dh k).1 hk)).1,?_⟩,fun k k' hk ij e=>hM.inj k k' ((dh k).1 hk) ((dh k').1 ij) e,fun id b hb=>?_,fun id i j esz el ho bp=>?_⟩
 .rcases hb with hb|rfl
  .exact hM.S b hb
  .exact hD
 .rintro(hs|hs)
  .exact(hM.aV k ((dh k).1 hk)).2 hs
  .exact hl k ((dh k).1 hk) hs
 .have h1:=hM.bk id b hb;cases b with
  |bh=>trivial
  |var cs=>
   obtain⟨cur,b9,h2⟩:=h1;exact⟨cur,b9,fun j c hj=>let⟨u,hu,hd⟩:=h2 j c hj;⟨u,hu,bz.cM g aG hd⟩⟩
  |row esz elems=>
   obtain⟨h2,h3,h4,h5,h6⟩:=h1;refine⟨h2,h3,h4,h5,fun hp=>?_⟩
   obtain⟨cur,b9,h7,h8⟩:=h6 hp;exact⟨cur,b9,h7,fun i cs j c hi hj=>let⟨u,hu,hd⟩:=h8 i cs j c hi hj;⟨u,hu,bz.cM g (by intro jL i' j' e';cases e';rw[hM.n];exact(aac.1 hb).1) hd⟩⟩
  |mp es=>
   obtain⟨cV,ck,h2,h3,h4⟩:=h1;exact⟨cV,ck,h2,h3,fun i e he=>let⟨e',tE,hk,hd⟩:=h4 i e he;⟨e',tE,hk,dW.cM g hd⟩⟩
  |it cur left=>
   obtain⟨mb,seen,ck,cV,h2,h3,h4,h5,h6⟩:=h1;exact⟨mb,seen,ck,cV,h2,h3,g.S _ h4,(g.heap mb h4).trans h5,h6⟩
 .obtain⟨cur,b9,h2,h3,h4⟩:=hM.gX id i j esz el ho bp;exact⟨cur,b9,h2,h3,fun i cs j d hi hj=>let⟨u,hu,hd⟩:=h4 i cs j d hi hj;⟨u,hu,dz.mono g.S g.heap hd⟩⟩
theorem Live.iJ{ρ:bL}{m:Mem}{jK:List Nat}{k:lT}(h:Live ρ (o8 m jK) k):Live ρ m k/\k.id∉jK:=by
 cases k with
 |au id=>
  obtain⟨bk,h1,h2,h3⟩:=h;rcases mw m jK id bk h1 with rfl|⟨h4,h5⟩
  .exact absurd rfl h2
  .exact⟨⟨bk,h4,h2,h3⟩,h5⟩
 |sub id i j=>
  obtain⟨⟨esz,elems,es,rows,cs,h1,h2,h3⟩,h4⟩:=h;rcases mw m jK id _ h1 with h5|⟨h5,h6⟩
  .cases h5
  .exact⟨⟨⟨esz,elems,es,rows,cs,h5,h2,h3⟩,h4⟩,h6⟩
theorem aH.iJ{ρ:bL}{m:Mem}{w:World}(hM:aH ρ m w)(jK:List Nat):aH ρ (o8 m jK) w:=by
 refine⟨by rw[so];exact hM.n,hM.S,fun k hk=>hM.aV k hk.iJ.1,fun k k' hk ij=>hM.inj k k' hk.iJ.1 ij.iJ.1,fun id b hb=>?_,fun id i j esz el ho bp=>?_⟩
 .rcases mw m jK id b hb with rfl|⟨h,_⟩
  .trivial
  .exact hM.bk id b h
 .obtain⟨es,rows,cs,h1,h2,h3⟩:=ho;rcases mw m jK id _ h1 with h5|⟨h5,_⟩
  .cases h5
  .exact hM.gX id i j esz el ⟨es,rows,cs,h5,h2,h3⟩ bp
theorem Inv.iJ{st:St}{ρ:bL}{a:Act}{w:World}(hI:Inv N ρ0 m0 w0 st ρ a w)(jK:List Nat):Inv N ρ0 m0 w0 ⟨st.aY,o8 st.mem jK⟩ ρ a w:=
 ⟨⟨hI.ext.n,hI.ext.aR,hI.ext.S,hI.ext.S',fun k hk=>hI.ext.aV k hk.iJ.1,hI.ext.frame,hI.ext.size,hI.ext.os,hI.ext.tape,hI.ext.output⟩,
  hI.mem.iJ jK,hI.aY,hI.defers,hI.hN,by rw[so];exact hI.n0⟩
theorem Ey{x:X}{f:Operand}{p:Nat}{ps:Array Tmp}{la lb:LC}{ca cb:Code}{K:Ex->St->Prop}{st:St}{ρ:bL}{a:Act}{w:World}(lH:ρ0.n=m0.length)(qq:ps= #[p])(hx:bo f=some x)(Ro:∀(l:Nat)(ρ0:bL)(m0:Mem)(w0:World)(K:Ex->St->Prop)(st:St)(ρ:bL)(a:Act)(w:World),ρ0.n=m0.length->aw P m0.length la K st->Inv 0 ρ0 m0 w0 st ρ a w->ca.wpIn (FR (some l)) 0 P (zI 0 ρ0 m0 w0 K) a w)(Rp:∀(l:Nat)(ρ0:bL)(m0:Mem)(w0:World)(K:Ex->St->Prop)(st:St)(ρ:bL)(a:Act)(w:World),ρ0.n=m0.length->aw P m0.length lb K st->Inv 0 ρ0 m0 w0 st ρ a w->cb.wpIn (FR (some l)) 0 P (zI 0 ρ0 m0 w0 K) a w)(h:aw P m0.length (.xL x p la lb) K st)(hI:Inv N ρ0 m0 w0 st ρ a w):(Code.rangeFunc f ps ca cb).wpIn (FR none) 0 P (zI N ρ0 m0 w0 K) a w:=by
 obtain⟨gf,jK,cs,xs,α,J,S,Ya,K5,⟨nY,eW⟩,Yb,⟨x0,hJ0,Tl⟩,Ez,UF⟩:=h;have hd:=aP hI.aY hx;rw[Ya]at hd;obtain⟨gZ,hv⟩:=hd;rw[OH];refine wpIn_rangeFunc fun fn _=>?_
 obtain⟨rec0,zP⟩:∃rec0:Loop,rec0={state:= .ready,pending:=none,fn,tmps:=a.tmps,params:=ps,assign:=ca,body:=cb,defers:=w.heap.size}:=⟨_,rfl⟩;obtain⟨W1,Bn⟩:∃W1,(w.alloc (.deferred (some []))).alloc (.loop rec0)=W1:=⟨_,rfl⟩;have UG:W1.heap.size=w.heap.size+2:=by rw[<-Bn];simp
 have hold:∀b,b<w.heap.size->W1.heap[b]? =w.heap[b]? :=fun b hb=>by
  rw[<-Bn];exact(Go.RowKit.Below.heap_alloc _ _ _ (by simp;omega)).trans (Go.RowKit.Below.heap_alloc _ _ _ hb)
 have hL1:W1.heap[w.heap.size+1]? =some (.loop rec0):=by rw[<-Bn];have:=World.alloc_heap_new (w.alloc (.deferred (some []))) (.loop rec0);rwa [World.size_alloc]at this
 have UH:W1.heap[w.heap.size]? =some (.deferred (some [])):=by rw[<-Bn];exact(Go.RowKit.Below.heap_alloc _ _ _ aG).trans (World.alloc_heap_new w _)
 have T1:W1.os=w.os/\W1.tape=w.tape/\W1.output=w.output:=by rw[<-Bn];exact⟨rfl,rfl,rfl⟩
 obtain⟨⟨gfn,hgf,hgb,Oc⟩,hT⟩:=Yb;have Yc:gfn.body≠none:=by intro e;rw[e]at hgb;cases hgb
 have Yd:gfn.name≠ "runtime.NumGoroutine" :=by intro e;rw[e]at Oc;simp at Oc
 obtain⟨as,has⟩:∃as:List (Nat×Nat),as=jK.map fun id=>((ρ.aR (.au id)).b,(ρ.aR (.au id)).ax):=⟨_,rfl⟩
 have Ye:(jK.map fun id=>Value.pointer (some ⟨(ρ.aR (.au id)).b,(ρ.aR (.au id)).ax,none⟩))=qF as:=by rw[has,qF,abd];rfl
 rw[Ye]at hv;have UI:uo ρ st.mem w W1:=⟨om,fun b hb=>hold b (hI.mem.S b hb),fun k hk=>hold _ (hI.mem.aV k hk).1⟩
 have G0:Inv N ρ0 m0 w0 st ρ a W1:=hI.uq UI (fun b hb=>hold b (aaH hb hI.ext.size)) T1.1 T1.2.1 T1.2.2
 let ρ1:bL:={ρ with S:=fun b=>ρ.S b\/b=w.heap.size}
 let act:Act:={a with defers:=[{target:= .collected w.heap.size,args:= #[]}]++a.defers}
 have aC:∀k,Live ρ st.mem k->(ρ.aR k).b<w.heap.size:=fun k hk=>(hI.mem.aV k hk).1
 have dh:∀(m:Mem)k,Live ρ1 m k↔Live ρ m k:=fun m k=>by cases k<;>rfl
 have g1:iT ρ W1 ρ1 W1:=⟨aaj _,fun _ _=>rfl,fun _ h=>.inl h,fun _ _=>rfl⟩
 have hIb:Inv N ρ0 m0 w0 st ρ1 act W1:=by
  refine⟨⟨G0.ext.n,G0.ext.aR,fun b hb=>.inl (G0.ext.S b hb),fun b hb=>?_,fun k hk=>G0.ext.aV k ((dh _ k).1 hk),G0.ext.frame,G0.ext.size,G0.ext.os,G0.ext.tape,G0.ext.output⟩,
   G0.mem.X9 om (fun k hk e=>by have:=aC k hk;omega),G0.aY.cM g1,?_,hI.hN,hI.n0⟩
  .rcases hb with hb|rfl
   .exact G0.ext.S' b hb
   .exact .inr (.inl hI.ext.size)
  .obtain⟨Ds,h1,h2,h3⟩:=G0.defers;refine⟨w.heap.size::Ds,by simp[act,h1],abH.2 ⟨fun hm=>?_,h2⟩,fun D hD=>?_⟩
   .have:=hI.mem.S _ (h3 _ hm).2.1;omega
   .rcases aaJ.1 hD with rfl|hD
    .exact⟨aa0 hI.hN hI.ext.size,.inr rfl,UH⟩
    .exact⟨(h3 D hD).1,.inl (h3 D hD).2.1,(h3 D hD).2.2⟩
 have hIc:=hIb.iJ jK;have UJ:pO ρ1 (o8 st.mem jK) (w.heap.size+1):=by
  refine⟨?_,fun k hk e=>?_⟩
  .rintro(hs|hs)
   .have:=hI.mem.S _ hs;omega
   .omega
  .have:=aC k ((dh _ k).1 hk).iJ.1;have h2:(ρ1.aR k).b=(ρ.aR k).b:=rfl;omega
 obtain⟨UK,Tm⟩:=tW K5;have dg:∀id,id∈jK->Live ρ st.mem (.au id):=fun id hid=>by
  obtain⟨i,hi⟩:=aam hid;have aC:i<cs.length:=by rw[<-UK];exact(aac.1 hi).1
  obtain⟨h1,_⟩:=Tm i id _ hi (aab aC);exact⟨_,h1,aG,aG⟩
 have UL:∀b,b∈as.map (·.1)->pO ρ1 (o8 st.mem jK) b:=by
  intro b hb;rw[has,abd]at hb;obtain⟨id,hid,rfl⟩:=aay.1 hb;have hL:=dg id hid;refine⟨?_,fun k hk e=>?_⟩
  .rintro(hs|hs)
   .exact(hI.mem.aV _ hL).2 hs
   .have:=aC _ hL;simp only[Function.comp]at hs;omega
  .have jM:=(dh _ k).1 hk;have:=hI.mem.inj k _ jM.iJ.1 hL e;subst this;exact jM.iJ.2 hid
 obtain⟨ρ2,hId,QA⟩:=hIc.view lH Tl;have Yf:as.length=cs.length:=by rw[has,aad,UK]
 have Yg:(as.map (·.1)).Nodup:=by
  rw[has,abd];have key:∀l:List Nat,(∀id,id∈l->id∈jK)->l.Nodup->(l.map fun id=>(ρ.aR (.au id)).b).Nodup:=by
   intro l
   induction l with
   |nil=>intro _ _;exact List.nodup_nil
   |cons id r ih=>
    intro hm hn;obtain⟨pJ,RS⟩:=abH.1 hn;refine abH.2 ⟨fun hb=>?_,ih (fun id h=>hm id (by simp[h])) RS⟩
    obtain⟨jL,Lg,e⟩:=aay.1 hb;have:=hI.mem.inj _ _ (dg jL (hm jL (by simp[Lg]))) (dg id (hm id aG)) e
    cases this;exact pJ Lg
  exact key jK (fun _ h=>h) nY
 have QB:∀b,b∈as.map (·.1)->b<w.heap.size:=by intro b hb;rw[has,abd]at hb;obtain⟨id,hid,rfl⟩:=aay.1 hb;exact aC _ (dg id hid)
 have Yh:∀b,b∈as.map (·.1)->w0.heap.size<=b\/∃k0,Live ρ0 m0 k0/\(ρ0.aR k0).b=b:=by intro b hb;rw[has,abd]at hb;obtain⟨id,hid,rfl⟩:=aay.1 hb;exact hI.ext.aV _ (dg id hid)
 have OL:∀a0,a0∈as->a0.1∈as.map (·.1):=fun a0 h0=>aay.2 ⟨a0,h0,rfl⟩
 let Jw:Nat->World->Prop:=fun k W=>∃y ρ',J k y/\Inv N ρ0 m0 w0 (S y) ρ' act W/\pO ρ' (S y).mem (w.heap.size+1)/\(∀b,b∈as.map (·.1)->pO ρ' (S y).mem b)/\
  W.heap[w.heap.size+1]? =some (.loop rec0)
 let Jx:World->Prop:=fun W=>∃c ex iY ρ',K ex iY/\Inv N ρ0 m0 w0 iY ρ' act W/\pO ρ' iY.mem (w.heap.size+1)/\(∀b,b∈as.map (·.1)->pO ρ' iY.mem b)/\
  ((c= .ret/\ex= .ret)\/∃id,c= .exit id/\ex= .exit id)/\W.heap[w.heap.size+1]? =some (.loop {rec0 with state:= .done,pending:=some c})
 have QE:∀(iY:St)(ρ':bL)(o:Obj)(W W':World),Inv N ρ0 m0 w0 iY ρ' act W->(∀b,b∈as.map (·.1)->pO ρ' iY.mem b)->W.heap[w.heap.size+1]? =some o->
   W.heap.size<=W'.heap.size->(∀b,b<W.heap.size->(∀a,a∈as->b≠a.1)->W'.heap[b]? =W.heap[b]?)->W'.os=W.os->W'.tape=W.tape->W'.output=W.output->
   Inv N ρ0 m0 w0 iY ρ' act W'/\W'.heap[w.heap.size+1]? =some o:=by
  intro iY ρ' o W W' hI ho hl hs hb h1 h2 h3;refine⟨hI.UE ⟨hs,fun b hS=>hb b (hI.mem.S b hS) fun a ha e=>(ho _ (OL a ha)).1 (e▸hS),fun k hk=>hb _ (hI.mem.aV k hk).1 fun a ha e=>(ho _ (OL a ha)).2 k hk e⟩
   (fun b sb hk=>hb b (aaH sb hI.ext.size) fun a ha e=>?_) h1 h2 h3,?_⟩
  .rcases Yh _ (OL a ha)with h|⟨k0,h0,e0⟩
   .omega
   .exact hk k0 h0 (e0.trans e.symm)
  .rw[hb _ (aaF.1 hl).1 fun a ha e=>?_]
   .exact hl
   .have:=QB _ (OL a ha);omega
 have main:=hT (w.heap.size+1) as W1 Jw Jx Yf Yg
  (fun i a0 v hi hv=>by
   rw[has,aaf]at hi;cases hid:jK[i]? with
   |none=>rw[hid]at hi;cases hi
   |some id=>
    rw[hid]at hi;simp only[aaC,aaA]at hi;subst hi;obtain⟨hm,gE⟩:=Tm i id v hid hv;obtain⟨cur,b9,jq⟩:=G0.mem.bk id _ hm;obtain⟨u,hu,cn⟩:=jq 0 _ rfl;have ul:u=v:=by
     cases cn with
     |val _ _=>rfl
     |no _=>simp[cT]at gE
    subst ul;exact⟨by rw[b9.cell];simpa using hu,b9.iU (by have:=(aaF.1 hu).1;simpa using this)⟩)
  (fun k W W'⟨y,ρ',h1,h2,h3,h4,h5⟩hs hb e1 e2 e3=>by obtain⟨q1,q2⟩:=QE _ _ _ W W' h2 h4 h5 hs hb e1 e2 e3;exact⟨y,ρ',h1,q1,h3,h4,q2⟩)
  (fun W W'⟨c,ex,iY,ρ',h0,h2,h3,h4,h6,h5⟩hs hb e1 e2 e3=>by obtain⟨q1,q2⟩:=QE _ _ _ W W' h2 h4 h5 hs hb e1 e2 e3;exact⟨c,ex,iY,ρ',h0,q1,h3,h4,h6,q2⟩)
  (fun k y W hk⟨z,ρ',h1,h2,h3,h4,h5⟩=>by
   have hr:=Ez k y z hk h1;have RW:=B0 (Ro _) (Rp _) (l:=w.heap.size+1) (n0:=0) (rec0:=rec0) (act:=act) (fn:=fn) (p:=p) (by rw[zP];exact⟨rfl,rfl,rfl,rfl,qq,rfl,rfl⟩) h2 h5 h3
    (by have:=hI.ext.size;omega) hr
   obtain⟨f1,t1,a1,b1,hy,hR⟩:=RW;refine⟨f1,t1,a1,b1,hy,hR.mono fun e W' hp=>?_⟩
   obtain⟨ex,iY,ρ3,jump,hK,hIn,he,hl,hj,Yi,B2,dI⟩:=hp;have WS:∀b,b∈as.map (·.1)->pO ρ3 iY.mem b/\W'.heap[b]? =W.heap[b]? :=fun b hb=>by have aC:=QB b hb;have BX:w.heap.size+1<W.heap.size:=(aaF.1 h5).1;exact Yi b om om (h4 b hb)
   rcases hj with⟨rfl,rfl⟩|⟨rfl,rfl⟩|⟨id,rfl,rfl⟩
   .left;obtain⟨z',TW,Uh⟩:=hK;obtain⟨ρ4,hIv,WT⟩:=hIn.view lH Uh;refine⟨he,⟨z',ρ4,TW,hIv,WT _ B2,fun b hb=>WT b (WS b hb).1,?_⟩,dI,fun a ha=>(WS a.1 (aay.2 ⟨a,ha,rfl⟩)).2⟩
    rw[hl,zP];rfl
   .right;exact⟨he,.ret,.ret,_,ρ3,hK,hIn,B2,fun b hb=>(WS b hb).1,.inl ⟨rfl,rfl⟩,hl⟩
   .right;exact⟨he,.exit id,.exit id,_,ρ3,hK,hIn,B2,fun b hb=>(WS b hb).1,.inr ⟨id,rfl,rfl⟩,hl⟩)
  ⟨x0,ρ2,hJ0,hId,QA _ UJ,fun b hb=>QA b (UL b hb),hL1⟩
 refine⟨w.heap.size+1,[{target:= .collected w.heap.size,args:= #[]}],W1,{target:= .fn (.func gf) (qF as).toArray,args:= #[.func (.yield (w.heap.size+1)) #[] #[]]},W1,gf,
  #[.func (.yield (w.heap.size+1)) #[] #[]]++(qF as).toArray,W1,?_,?_,fun _ _=>trivial,?_,by simp[Fence.wide],?_⟩
 .rw[<-Bn,zP];exact run_enterLoop_outer _ _ _ _ _
 .simp only[resolve,hv];simp[go_sem]
 .simp[invoke,callFunc,hgf,Yd,Yc]
 .refine main.mono fun e W' hp=>?_
  obtain⟨⟨v,rfl⟩,hp⟩:=hp;rcases hp with⟨y,ρ',h1,h2,h3,h4,h5⟩|⟨c,ex,iY,ρ',h0,h2,h3,h4,h6,h5⟩
  .refine⟨none,_,by have:=run_endLoop (P:=P) h5 (by rw[zP];simp);rw[zP]at this;exact this,?_⟩
   exact⟨.normal,S y,ρ',rfl,UF y h1,h2.put h3 (by have:=hI.ext.size;omega) _⟩
  .refine⟨some c,_,by have:=run_endLoop (P:=P) h5 (by simp);exact this,?_⟩
   have UM:=h2.put h3 (by have:=hI.ext.size;omega) (.loop {rec0 with state:= .exhausted,pending:=some c})
   rcases h6 with⟨rfl,rfl⟩|⟨id,rfl,rfl⟩
   .exact wpIn_ret ⟨.ret,iY,ρ',rfl,h0,UM⟩
   .exact wpIn_exit ⟨.exit id,iY,ρ',rfl,h0,UM⟩
end
section
variable {P:Program} {N:Nat} {ρ0:bL} {m0:Mem} {w0:World}
theorem jW{f:Operand}{ps:Array Tmp}{x y:Code}{lc:LC}(h:dX P (.rangeFunc f ps x y)=some lc):∃x' p la lb,lc= .xL x' p la lb:=by
 simp only[dX,aah]at h;split at h
 case h_2=>cases h
 simp only[aae]at h;obtain⟨lx,hx,ly,hy,h⟩:=h;split at h
 case isFalse=>cases h
 simp only[aae]at h;obtain⟨x',_,h⟩:=h;cases h;exact⟨_,_,_,_,rfl⟩
theorem Lh:∀(lc:LC)(r:Option Nat)(zQ:r=none\/lc.qA=true)(N:Nat)(ρ0:bL)(m0:Mem)(w0:World)(lH:ρ0.n=m0.length)(c:Code)(K:Ex->St->Prop)(st:St)(ρ:bL)(a:Act)(w:World),
  dX P c=some lc.er->aw P m0.length lc K st->Inv N ρ0 m0 w0 st ρ a w->c.wpIn (FR r) 0 P (zI N ρ0 m0 w0 K) a w:=by
 intro lc
 induction lc with
 |cO b ih=>
  intro r zQ N ρ0 m0 w0 lH c K st ρ a w hl h hI;obtain⟨s',hv,h⟩:=h;obtain⟨ρ',oZ⟩:=hI.KK lH hv;exact ih r zQ N ρ0 m0 w0 lH c K s' ρ' a w hl h oZ
 |skip=>
  intro r zQ N ρ0 m0 w0 lH c K st ρ a w hl h hI;cases c with
  |skip=>exact wpIn_skip ⟨_,st,ρ,rfl,h,hI⟩
  |region id ops bQ=>cases bQ<;>simp[dX,LC.er,aae]at hl
  |rangeFunc f ps ca cb=>obtain⟨_,_,_,_,e⟩:=jW hl;simp[LC.er]at e
  |_=>simp[dX,LC.er,aae]at hl
 |ai Yj=>
  intro r zQ N ρ0 m0 w0 lH c K st ρ a w hl h hI;cases c with
  |region id ops bQ=>
   cases bQ with
   |true=>simp[dX,LC.er,aae]at hl
   |false=>
    simp only[dX,LC.er,aah,aae]at hl;obtain⟨bW,zN,hl⟩:=hl;cases hl;refine wpIn_region (iw (vD zN) GY _ _ _ ?_);have:=vB (Q:=zI N ρ0 m0 w0 K) (K:=H3 K) (fun aY m ρ a w hK hI=>⟨_,_,ρ,rfl,hK,hI⟩) ops.toList 0 _ st.aY st.mem ρ a w rfl zN h hI
    simpa[List.range_eq_range']using this
  |rangeFunc f ps ca cb=>obtain⟨_,_,_,_,e⟩:=jW hl;simp[LC.er]at e
  |_=>simp[dX,LC.er,aae]at hl
 |bQ Yj Xx=>
  intro r zQ N ρ0 m0 w0 lH c K st ρ a w hl h hI;cases c with
  |region id ops bQ=>
   cases bQ with
   |true=>
    simp only[dX,LC.er,aah,aae]at hl;obtain⟨bW,zN,hl⟩:=hl;obtain⟨pB,hs,hl⟩:=hl;cases hl;refine wpIn_region_draw fun t=>iw (vD zN) GY _ _ _ ?_
    exact zO (Q:=zI N ρ0 m0 w0 K) (K:=K) (fun aY m ρ a w hK hI=>⟨_,_,ρ,rfl,hK,hI⟩) zN hs h hI t
   |false=>simp[dX,LC.er,aae]at hl
  |rangeFunc f ps ca cb=>obtain⟨_,_,_,_,e⟩:=jW hl;simp[LC.er]at e
  |_=>simp[dX,LC.er,aae]at hl
 |seq lx ly RN Lc=>
  intro r zQ N ρ0 m0 w0 lH c K st ρ a w hl h hI;cases c with
  |seq x y=>
   simp only[dX,LC.er,aah,aae,aaA,LC.seq.injEq]at hl;obtain⟨lx',hx,ly',hy,rfl,rfl⟩:=hl;refine wpIn_seq (wpIn_mono (RN r (zQ.imp id fun h=>(abZ.1 h).1) N ρ0 m0 w0 lH x _ st ρ a w hx h hI) fun e a' w' hp=>?_)
   obtain⟨ex,iY,ρ',he,hK,oZ⟩:=hp;cases e<;>simp[BR]at he<;>subst he
   .exact Lc r (zQ.imp id fun h=>(abZ.1 h).2) N ρ0 m0 w0 lH y K iY ρ' a' w' hy hK oZ
   .exact⟨_,iY,ρ',rfl,hK,oZ⟩
   .exact⟨_,iY,ρ',rfl,hK,oZ⟩
  |region id ops bQ=>cases bQ<;>simp[dX,LC.er,aae]at hl
  |rangeFunc f ps ca cb=>obtain⟨_,_,_,_,e⟩:=jW hl;simp[LC.er]at e
  |_=>simp[dX,LC.er,aae]at hl
 |cond x0 ly0 lz0 Lc Yk=>
  intro r zQ N ρ0 m0 w0 lH c K st ρ a w hl h hI;cases c with
  |cond x y z=>
   simp only[dX,LC.er,aah,aae,aaA,LC.cond.injEq]at hl;obtain⟨x',hx,ly,hy,lz,hz,rfl,rfl,rfl⟩:=hl;have hd:=aP hI.aY hx;simp only[aw]at h;split at h
   .rename_i t rQ;rw[rQ]at hd;have ht:=(bM hd).1;have qU:∀b,t=b->Rq x' (ay b) st.aY=st.aY:=fun b hb=>by
     subst hb;cases x' with
     |t n=>exact zL rQ
     |c v=>rfl
    refine wpIn_cond ht ?_;rcases ct.1 h with⟨rfl,h⟩|⟨rfl,h⟩
    .simp only[eU,qU true rfl]at h;exact Lc r (zQ.imp id fun h=>(abZ.1 h).1) N ρ0 m0 w0 lH y K st ρ a w hy h hI
    .simp only[eU,qU false rfl]at h;exact Yk r (zQ.imp id fun h=>(abZ.1 h).2) N ρ0 m0 w0 lH z K st ρ a w hz h hI
   .exact h.elim
  |region id ops bQ=>cases bQ<;>simp[dX,LC.er,aae]at hl
  |rangeFunc f ps ca cb=>obtain⟨_,_,_,_,e⟩:=jW hl;simp[LC.er]at e
  |_=>simp[dX,LC.er,aae]at hl
 |block id0 lb0 ih=>
  intro r zQ N ρ0 m0 w0 lH c K st ρ a w hl h hI;cases c with
  |block id b=>
   simp only[dX,LC.er,aah,aae,aaA,LC.block.injEq]at hl;obtain⟨lb,hb,rfl,rfl⟩:=hl;refine wpIn_block (wpIn_mono (ih r zQ N ρ0 m0 w0 lH b _ st ρ a w hb h hI) fun e a' w' hp=>?_)
   obtain⟨ex,iY,ρ',he,hK,oZ⟩:=hp;cases e<;>simp[BR]at he<;>subst he
   .exact⟨_,iY,ρ',rfl,hK,oZ⟩
   .rename_i jL;simp only[DY]at hK;simp only[Exit.inBlock];rcases ct.1 hK with⟨hid,hK⟩|⟨hid,hK⟩
    .rw[if_pos (aav hid)];exact⟨_,iY,ρ',rfl,hK,oZ⟩
    .rw[if_neg (abT hid)];exact⟨_,iY,ρ',rfl,hK,oZ⟩
   .exact⟨_,iY,ρ',rfl,hK,oZ⟩
  |region id ops bQ=>cases bQ<;>simp[dX,LC.er,aae]at hl
  |rangeFunc f ps ca cb=>obtain⟨_,_,_,_,e⟩:=jW hl;simp[LC.er]at e
  |_=>simp[dX,LC.er,aae]at hl
 |loop lb0 ih=>
  intro r zQ N ρ0 m0 w0 lH c K st ρ a w hl h hI;cases c with
  |loop b=>
   simp only[dX,LC.er,aah,aae,aaA,LC.loop.injEq]at hl;obtain⟨lb,hb,rfl⟩:=hl;obtain⟨α,J,S,μ,⟨a1,hJ1,WU⟩,Ez⟩:=h;obtain⟨ρ1,X6⟩:=hI.KK lH WU;refine um (γ:=α) (I:=fun x a w=>J x/\∃ρ,Inv N ρ0 m0 w0 (S x) ρ a w) (μ:=μ) a1 ⟨hJ1,ρ1,X6⟩ fun x a w⟨hJ,ρ,hI⟩=>?_
   refine wpIn_mono (ih r zQ N ρ0 m0 w0 lH b _ (S x) ρ a w hb (Ez x hJ) hI) fun e a' w' hp=>?_
   obtain⟨ex,iY,ρ',he,hK,oZ⟩:=hp;cases e<;>simp[BR]at he<;>subst he
   .obtain⟨x3,hJ3,aC,hw3⟩:=hK;obtain⟨ρ3,X7⟩:=oZ.KK lH hw3;exact⟨x3,⟨hJ3,ρ3,X7⟩,aC⟩
   .exact⟨_,iY,ρ',rfl,hK,oZ⟩
   .exact⟨_,iY,ρ',rfl,hK,oZ⟩
  |region id ops bQ=>cases bQ<;>simp[dX,LC.er,aae]at hl
  |rangeFunc f ps ca cb=>obtain⟨_,_,_,_,e⟩:=jW hl;simp[LC.er]at e
  |_=>simp[dX,LC.er,aae]at hl
 |exit id0=>
  intro r zQ N ρ0 m0 w0 lH c K st ρ a w hl h hI;cases c with
  |exit id=>
   simp[dX,LC.er]at hl;subst hl;exact wpIn_exit ⟨_,st,ρ,rfl,h,hI⟩
  |region id ops bQ=>cases bQ<;>simp[dX,LC.er,aae]at hl
  |rangeFunc f ps ca cb=>obtain⟨_,_,_,_,e⟩:=jW hl;simp[LC.er]at e
  |_=>simp[dX,LC.er,aae]at hl
 |ret=>
  intro r zQ N ρ0 m0 w0 lH c K st ρ a w hl h hI;cases c with
  |ret=>exact wpIn_ret ⟨_,st,ρ,rfl,h,hI⟩
  |region id ops bQ=>cases bQ<;>simp[dX,LC.er,aae]at hl
  |rangeFunc f ps ca cb=>obtain⟨_,_,_,_,e⟩:=jW hl;simp[LC.er]at e
  |_=>simp[dX,LC.er,aae]at hl
 |xL x0 p la0 lb0 Ro Rp=>
  intro r zQ N ρ0 m0 w0 lH c K st ρ a w hl h hI;have hr0:r=none:=zQ.resolve_right (by simp[LC.qA])
  subst hr0;cases c with
  |rangeFunc f ps ca cb=>
   simp only[dX,LC.er,aah]at hl;split at hl
   case h_2=>cases hl
   rename_i p' qq;simp only[aae]at hl;obtain⟨la,hla,lb,Ye,hl⟩:=hl;split at hl
   case isFalse=>cases hl
   rename_i jC;simp only[aae,aaA,LC.xL.injEq]at hl;obtain⟨x',hx,rfl,rfl,rfl,rfl⟩:=hl;rw[aap,GZ,GZ]at jC;exact Ey lH (by apply abn;simpa using qq) hx (fun l ρ0 m0 w0 K st ρ a w hM h hI=>Ro (some l) (.inr jC.1) 0 ρ0 m0 w0 hM ca K st ρ a w hla h hI)
    (fun l ρ0 m0 w0 K st ρ a w hM h hI=>Rp (some l) (.inr jC.2) 0 ρ0 m0 w0 hM cb K st ρ a w Ye h hI) h hI
  |region id ops bQ=>cases bQ<;>simp[dX,LC.er,aae]at hl
  |_=>simp[dX,LC.er,aae]at hl
def sq(tmps:Array Value):ResultVar->Sem Value
 | .tmp t=>pure (tmps.getD t Go.undef)
 | .cell ad t=>do loadVar t (<-asAddr (tmps.getD ad Go.undef))
theorem EA(fn:Func)(tmps:Array Value):results fn tmps=(do let vs<-fn.results.mapM (sq tmps);pure (if h:vs.size=1 then vs[0]else .tuple vs)):=by
 unfold results;have e:(fun(r:ResultVar)=>match r with
  | .tmp t=>(pure (tmps.getD t Go.undef):Sem Value)
  | .cell ad t=>do loadVar t (<-asAddr (tmps.getD ad Go.undef)))=sq tmps:=by
  funext r;cases r<;>rfl
 rw[<-e];rfl
theorem pP:∀{rs:List ResultVar}{Ix:List Rv},nT P rs=some Ix->∀{st:St}{ρ:bL}{a:Act}{w:World}{K:List RV->Prop},
  aH ρ st.mem w->bj ρ w st.aY a.tmps->Bz P st Ix K->
  ∃(vs:List RV)(us:List Value),K vs/\(rs.mapM (sq a.tmps)).run P w= .ok us w/\
   us.length=vs.length/\∀(i:Nat)r,vs[i]? =some r->∃u,us[i]? =some u/\dW ρ w r u
 | [],Ix,h,st,ρ,a,w,K,hM,hE,hr=>by simp[nT]at h;subst h;exact⟨[],[],hr,rfl,rfl,aG⟩
 | .tmp t::r,Ix,h,st,ρ,a,w,K,hM,hE,hr=>by
  simp only[nT,aah,aae]at h;obtain⟨r',Yl,h⟩:=h;cases h;simp only[Bz]at hr;obtain⟨v,hv,hr⟩:=be.1 hr;obtain⟨vs,us,hK,dV,hlen,cj⟩:=pP Yl hM hE hr;have hd:=hE.get t;have Ti:jR st.aY t= .rv v:=by
   cases hg:jR st.aY t<;>rw[hg]at hv<;>simp[DQ]at hv
   rw[hv]
  rw[Ti]at hd;refine⟨v::vs,a.tmps.getD t Go.undef::us,hK,?_,by simp[hlen],fun i r hi=>?_⟩
  .rw[List.mapM_cons,Sem.run_bind];simp only[sq,Sem.run_pure,Result.andThen_ok];rw[Sem.run_bind,dV];rfl
  .cases i with
   |zero=>simp at hi;subst hi;exact⟨_,aG,hd⟩
   |succ i=>simpa using cj i r (by simpa using hi)
 | .cell ad t::r,Ix,h,st,ρ,a,w,K,hM,hE,hr=>by
  simp only[nT,aah,aae]at h;obtain⟨agg,ha,n,hn,r',Yl,h⟩:=h;cases h;simp only[Bz]at hr;obtain⟨addr,u,cv,hv,UN,UH,cn⟩:=tF hM ha hn hr (hE.get ad);obtain⟨v,zF,hr⟩:=be.1 UH;obtain⟨vs,us,hK,dV,hlen,cj⟩:=pP Yl hM hE hr;have Ti:cv= .rv v:=by
   cases cv<;>simp[DQ]at zF
   rw[zF]
  subst Ti;refine⟨v::vs,u::us,hK,?_,by simp[hlen],fun i r hi=>?_⟩
  .rw[List.mapM_cons,Sem.run_bind];simp only[sq,hv,asAddr,Sem.run_bind,Sem.run_pure,Result.andThen_ok,UN];rw[dV];rfl
  .cases i with
   |zero=>simp at hi;subst hi;exact⟨_,aG,cn⟩
   |succ i=>simpa using cj i r (by simpa using hi)
theorem xW{fn:Func}{rs:List Rv}(h:nT P fn.results.toList=some rs){st:St}{ρ:bL}{a:Act}{w:World}{K:CV->Prop}(hM:aH ρ st.mem w)(hE:bj ρ w st.aY a.tmps)(hr:Bz P st rs fun vs=>K (Rt vs)):∃v r,(results fn a.tmps).run P w= .ok v w/\K r/\b8 ρ w r v:=by
 obtain⟨vs,us,hK,dV,hlen,cj⟩:=pP h hM hE hr;have yw:(fn.results.mapM (sq a.tmps)).run P w= .ok us.toArray w:=by rw[Array.mapM_eq_mapM_toList,Sem.run_map,dV];rfl
 rw[EA,Sem.run_bind,yw];refine⟨_,_,rfl,hK,?_⟩
 match vs,us,hlen,cj with
 | [r],[u],_,cj=>
  obtain⟨u',hu,hd⟩:=cj 0 r aG;simp at hu;subst hu;exact hd
 | [],[],_,cj=>exact⟨[],rfl,rfl,aG⟩
 |r1::r2::rs,u1::u2::us,hlen,cj=>
  refine⟨u1::u2::us,?_,hlen,cj⟩;simp
theorem mX{f:Nat}{fn:Func}{lf:LF}{args:List CV}{m:Mem}{K:CV->Mem->Prop}(hf:P.funcs[f]? =some fn)(hl:bs P fn=some lf.er)(hn:(fn.name== "runtime.NumGoroutine")=false)(hle:args.length<=lf.n)(h:body P lf args m K):ar P f args m K:=by
 simp only[bs,LF.er,aah,aae,aaA,LF.mk.injEq]at hl;obtain⟨rs,RW,c,hc,lc0,rP,pJ,Ym,UO⟩:=hl;subst UO Ym;obtain⟨lfn,lfr,lc⟩:=lf;simp only at pJ RW rP;subst pJ;refine⟨⟨fn,hf,by simp[hc],hn⟩,fun ρ w vs hM hlen cj=>?_⟩
 simp only[body,eU,ip,cr,fA]at h;simp only at hle;have hI:Inv w.heap.size ρ m w ⟨args++List.replicate (fn.ntmps-args.length) .undef,m⟩ ρ {tmps:=vs.toArray++Array.replicate (fn.ntmps-vs.toArray.size) Go.undef,defers:=[]} w:=by
  refine⟨Ext.refl _ _ _,hM,⟨by simp[hlen],fun i c hi=>?_⟩,Er.nil,aaj _,aaj _⟩
  rcases aaq i args.length with aC|ei
  .rw[aar aC]at hi;obtain⟨v,hv,hd⟩:=cj i c hi;refine⟨v,?_,hd⟩;rw[abK (by simp[hlen];exact aC)]
   simpa using hv
  .rw[aan ei,ace]at hi;split at hi
   .rename_i aC;cases hi;refine⟨Go.undef,?_,rfl⟩;rw[Array.getElem?_append_right (by simp[hlen];exact ei),Array.getElem?_replicate,if_pos (by simp[hlen];exact aC)]
   .cases hi
 refine(callsIn_wide (n:=0)).1 (callsIn_of_wp_marks (F:=Fence.wide) hf hc trivial (wpIn_mono (Lh lc none (.inl rfl) _ ρ m w hM.n c _ _ ρ _ w rP h hI) fun e a' w' hp=>?_))
 obtain⟨ex,iY,ρ',he,hK,oZ⟩:=hp;have fS:Bz P iY lfr (fun vs=>K (Rt vs) iY.mem)->LeavesInM Fence.wide 0 P fn a'.tmps (fun e w'=>∃UP r m' ρ',e=Ending.returned UP/\K r m'/\aH ρ' m' w'/\b8 ρ' w' r UP/\Ext ρ m w ρ' m' w') a'.defers .returning w':=fun hr=>by
  obtain⟨Ds,h1,h2,h3⟩:=oZ.defers;rw[h1];refine q0 rfl Ds w' h2 h3 oZ.mem oZ.aY oZ.ext fun w2 Ew DD WQ=>?_
  obtain⟨v,r,dV,hKr,hd⟩:=xW (K:=fun r=>K r iY.mem) RW Ew DD hr
  exact⟨v,dV,v,r,iY.mem,ρ',rfl,hKr,Ew,hd,WQ⟩
 cases e<;>simp[BR]at he<;>subst he
 .exact fS hK
 .exact hK.elim
 .exact fS hK
theorem OM:∀(c:Code)(lc:LC),dX P c=some lc->lc.er=lc:=by
 intro c
 induction c with
 |skip=>intro lc h;simp[dX]at h;subst h;rfl
 |region id ops bQ=>
  intro lc h;cases bQ with
  |true=>
   simp only[dX,aah,aae]at h;obtain⟨bW,_,Xx,_,h⟩:=h;cases h;rfl
  |false=>
   simp only[dX,aah,aae]at h;obtain⟨bW,_,h⟩:=h;cases h;rfl
 |seq x y RN Lc=>
  intro lc h;simp only[dX,aah,aae]at h;obtain⟨lx,hx,ly,hy,h⟩:=h;cases h;simp only[LC.er,RN lx hx,Lc ly hy]
 |cond x y z Lc Yk=>
  intro lc h;simp only[dX,aah,aae]at h;obtain⟨x',_,ly,hy,lz,hz,h⟩:=h;cases h;simp only[LC.er,Lc ly hy,Yk lz hz]
 |block id b ih=>
  intro lc h;simp only[dX,aah,aae]at h;obtain⟨lb,hb,h⟩:=h;cases h;simp only[LC.er,ih lb hb]
 |loop b ih=>
  intro lc h;simp only[dX,aah,aae]at h;obtain⟨lb,hb,h⟩:=h;cases h;simp only[LC.er,ih lb hb]
 |exit id=>intro lc h;simp[dX]at h;subst h;rfl
 |ret=>intro lc h;simp[dX]at h;subst h;rfl
 |rangeFunc f ps x y RN Lc=>
  intro lc h;simp only[dX,aah]at h;split at h
  case h_2=>cases h
  simp only[aae]at h;obtain⟨lx,hx,ly,hy,h⟩:=h;split at h
  case isFalse=>cases h
  simp only[aae]at h;obtain⟨x',_,h⟩:=h;cases h;simp only[LC.er,RN lx hx,Lc ly hy]
 |_=>intro lc h;simp[dX]at h
theorem vF{f:Nat}{fn:Func}{lf:LF}{args:List CV}{m:Mem}{K:CV->Mem->Prop}(hf:P.funcs[f]? =some fn)(hl:bs P fn=some lf)(hn:(fn.name== "runtime.NumGoroutine")=false)(hle:args.length<=lf.n)(h:body P lf args m K):ar P f args m K:=by
 refine mX hf ?_ hn hle h;have WR:=hl;simp only[bs,aah,aae]at hl;obtain⟨rs,RW,c,hc,lc,rP,hl⟩:=hl;cases hl;rw[WR];simp only[LF.er,OM c lc rP]
end
end Go.AM
