/- Part 10 of 35. -/
import Derived.Test.YtllkfpggoigbaaaGreatDoorS09
set_option linter.unusedVariables false
set_option linter.unusedSimpArgs false
set_option linter.unnecessarySimpa false
set_option maxRecDepth 100000
set_option maxHeartbeats 0
namespace Go.AM
section
variable {P:Program} {N:Nat} {ρ0:bX} {m0:Mem} {w0:World}
theorem IU{K:Ex->St->Prop}:¬LetsOut (BN N ρ0 m0 w0 K):=by rintro⟨a,w,ex,st,ρ,he,_⟩;simp[Dz]at he
theorem IV:∀lc:LC,lc.er.sx=lc.sx:=by
 intro lc
 induction lc<;>simp_all[LC.er,LC.sx]
theorem DH{l:Nat}{n0:Nat}{st:St}{ρ:bX}{act:Act}{W:World}{fn:FuncId}{rec0:Loop}{p:Nat}{la lb:LC}{ca cb:Code}{y:ByteArray}{K:Ex->St->Prop}(Vx:∀(ρ0:bX)(m0:Mem)(w0:World)(K:Ex->St->Prop)(st:St)(ρ:bX)(a:Act)(w:World),ρ0.n=m0.length->aw P m0.length la K st->Inv 0 ρ0 m0 w0 st ρ a w->ca.wpIn (FR (some l)) 0 P (BN 0 ρ0 m0 w0 K) a w)(Vy:∀(ρ0:bX)(m0:Mem)(w0:World)(K:Ex->St->Prop)(st:St)(ρ:bX)(a:Act)(w:World),ρ0.n=m0.length->aw P m0.length lb K st->Inv 0 ρ0 m0 w0 st ρ a w->cb.wpIn (FR (some l)) 0 P (BN 0 ρ0 m0 w0 K) a w)(hr:rec0.state= .ready/\rec0.pending=none/\rec0.fn=fn/\rec0.tmps=act.tmps/\rec0.params= #[p]/\rec0.assign=ca/\rec0.body=cb)(hI:Inv N ρ0 m0 w0 st ρ act W)(hl:W.heap[l]? =some (.loop rec0))(Gh:rL ρ st.mem l)(MX:w0.heap.size<=l)(h:sy st.mem λn1=>aw P n1 la (λex s2=>match ex with
    | .normal=>sy s2.mem λn2=>aw P n2 lb K s2
    |_=>False) ⟨aX st.aY p (dM y),st.mem⟩):
  Ul P l #[.string y] W λe W'=>∃ex jR U' jump,K ex jR/\Inv N ρ0 m0 w0 ⟨st.aY,jR.mem⟩ U' act W'/\e= .returned (.bool jump.isNone)/\
   W'.heap[l]? =some (.loop {rec0 with state:=if jump.isNone then .ready else .done,pending:=jump})/\
   ((jump=none/\ex= .normal)\/(jump=some .ret/\ex= .ret)\/∃id,jump=some (.exit id)/\ex= .exit id)/\
   (∀b,b<W.heap.size->b≠l->rL ρ st.mem b->rL U' jR.mem b/\W'.heap[b]? =W.heap[b]?)/\rL U' jR.mem l/\W.heap.size<=W'.heap.size:=by
 obtain⟨r1,r2,r3,r4,r5,r6,r7⟩:=hr;have hy:=run_yield (P:=P) (args:= #[.string y]) hl (by rw[r5];rfl)
 rw[r3,r4,r5,r6,r7]at hy;refine⟨_,_,_,_,hy,?_⟩;have ax:l<W.heap.size:=(abG.1 hl).1;simp only[kh]at h;have hRo:RoundIn Fence.wide 0 P l fn (act.tmps.setIfInBounds p (.string y)) ca cb W λe W'=>∃ex jR U' jump,K ex jR/\Inv N ρ0 m0 w0 ⟨st.aY,jR.mem⟩ U' act W'/\e= .returned (.bool jump.isNone)/\
   W'.heap[l]? =some (.loop {rec0 with state:=if jump.isNone then .ready else .done,pending:=jump})/\
   ((jump=none/\ex= .normal)\/(jump=some .ret/\ex= .ret)\/∃id,jump=some (.exit id)/\ex= .exit id)/\
   (∀b,b<W.heap.size->b≠l->rL ρ st.mem b->rL U' jR.mem b/\W'.heap[b]? =W.heap[b]?)/\rL U' jR.mem l/\W.heap.size<=W'.heap.size:=by
  refine roundIn_of_wpIn trivial ?_;have BK:bq ρ W (aX st.aY p (dM y)) (act.tmps.setIfInBounds p (.string y)):=by rw[bh];exact hI.aY.set (dx.val _ rfl:cw ρ W (dM y) (.string y))
  have RU:Inv 0 ρ st.mem W ⟨aX st.aY p (dM y),st.mem⟩ ρ {tmps:=act.tmps.setIfInBounds p (.string y),defers:=[]} W:=
   ⟨Ext.refl _ _ _,hI.mem,BK,Ge.nil,WG _,aai _⟩
  have hwa:=Vx ρ st.mem W _ _ ρ _ W hI.mem.n h RU;rw[IT]at hwa;refine wpIn_mono hwa λe a1 W1 hp=>?_
  obtain⟨ex,s2,ρ2,he,hK,zt⟩:=hp;cases e<;>simp[Dz]at he<;>subst he<;>simp only at hK
  simp only[Exit.then];have rH:W1.heap[l]? =some (.loop rec0):=(zt.ext.frame l ax Gh.2).trans hl;have NY:rL ρ2 s2.mem l:=Gh.ext zt.ext ax;have Zd:l<W1.heap.size:=(abG.1 rH).1;refine⟨_,run_beginRound rH r1,?_⟩;obtain⟨W2,Uy⟩:∃W2,W1.putObj l (.loop {rec0 with state:= .busy})=W2:=⟨_,rfl⟩
  rw[Uy];have xJ:wq ρ2 s2.mem W1 W2:=by rw[<-Uy];exact wq.put NY _
  have DI:=zt.mem.wt xJ;have hI3:Inv 0 ρ2 s2.mem W2 s2 ρ2 a1 W2:=⟨Ext.refl _ _ _,DI,zt.aY.cY xJ.cY,zt.defers.wt xJ,WG _,aai _⟩;have hwb:=Vy ρ2 s2.mem W2 _ _ ρ2 _ W2 DI.n hK hI3;rw[IT]at hwb;refine wpIn_mono hwb λe a3 W3 hp=>?_
  obtain⟨ex,s3,ρ3,he,hK3,Q6⟩:=hp;have DE:l<W2.heap.size:=by rw[<-Uy];simpa using Zd
  have hl3:W3.heap[l]? =some (.loop {rec0 with state:= .busy}):=by rw[Q6.ext.frame l DE NY.2,<-Uy];exact World.putObj_heap_same Zd
  have adf:l<W3.heap.size:=(abG.1 hl3).1;have Uz:rL ρ3 s3.mem l:=NY.ext Q6.ext DE;have gu:∀(jump:Option Code),((jump=none/\ex= .normal)\/(jump=some .ret/\ex= .ret)\/∃id,jump=some (.exit id)/\ex= .exit id)->
    ∃v w',(Instr.endRound l jump).run P W3= .ok v w'/\∃ex jR U' jump,K ex jR/\Inv N ρ0 m0 w0 ⟨st.aY,jR.mem⟩ U' act w'/\Ending.returned v= .returned (.bool jump.isNone)/\
     w'.heap[l]? =some (.loop {rec0 with state:=if jump.isNone then .ready else .done,pending:=jump})/\
     ((jump=none/\ex= .normal)\/(jump=some .ret/\ex= .ret)\/∃id,jump=some (.exit id)/\ex= .exit id)/\
     (∀b,b<W.heap.size->b≠l->rL ρ st.mem b->rL U' jR.mem b/\w'.heap[b]? =W.heap[b]?)/\rL U' jR.mem l/\W.heap.size<=w'.heap.size:=by
   intro jump hj;have RW:=run_endRound (P:=P) jump hl3;refine⟨_,_,RW,ex,s3,ρ3,jump,hK3,?_,rfl,World.putObj_heap_same adf,hj,λb hb RX ho=>?_,Uz,?_⟩
   .have x1:Ext ρ0 m0 w0 ρ2 s2.mem W1:=hI.ext.trans zt.ext;have x2:Ext ρ0 m0 w0 ρ2 s2.mem W2:=by rw[<-Uy];exact⟨x1.n,x1.aV,x1.S,x1.S',x1.aF,λb hb hk=>(World.putObj_heap_other om).trans (x1.frame b hb hk),by simpa using x1.size,x1.os,x1.tape,x1.output⟩
    have x3:Ext ρ0 m0 w0 ρ3 s3.mem W3:=x2.trans Q6.ext;have e1:bq ρ2 W1 st.aY act.tmps:=hI.aY.ext hI.mem zt.ext;have e3:bq ρ3 W3 st.aY act.tmps:=(e1.cY xJ.cY).ext DI Q6.ext;have d3:Ge N ρ3 W3 act.defers:=((hI.defers.ext hI.mem zt.ext).wt xJ).ext DI Q6.ext;have hI5:Inv N ρ0 m0 w0 ⟨st.aY,s3.mem⟩ ρ3 act W3:=⟨x3,Q6.mem,e3,d3,hI.hN,abJ hI.n0 (abJ zt.n0 Q6.n0)⟩;exact hI5.put Uz MX _
   .have o0:rL ρ2 s2.mem b:=ho.ext zt.ext hb;have vu:b<W1.heap.size:=abL hb zt.ext.size;have kG:b<W2.heap.size:=by rw[<-Uy];simpa using vu
    refine⟨o0.ext Q6.ext kG,?_⟩;rw[World.putObj_heap_other RX,Q6.ext.frame b kG o0.2,<-Uy,World.putObj_heap_other RX,zt.ext.frame b hb ho.2]
   .have h1:=zt.ext.size;have h2:W1.heap.size=W2.heap.size:=by rw[<-Uy];simp
    have h3:=Q6.ext.size;simp only[World.putObj_size];omega
  cases e<;>simp[Dz]at he<;>subst he
  .exact gu none (.inl ⟨rfl,rfl⟩)
  .rename_i id;exact gu (some (.exit id)) (.inr (.inr ⟨id,rfl,rfl⟩))
  .exact gu (some .ret) (.inr (.inl ⟨rfl,rfl⟩))
 have hz:(#[p].zip #[Value.string y]).foldl (λtmps x=>tmps.setIfInBounds x.1 x.2) act.tmps=act.tmps.setIfInBounds p (.string y):=aD
 exact hz▸hRo
theorem Inv.Ze{st:St}{ρ:bX}{a:Act}{w w':World}(hI:Inv N ρ0 m0 w0 st ρ a w)(h:wq ρ st.mem w w')(hb:∀b,b<w0.heap.size->(∀k,Live ρ0 m0 k->(ρ0.aV k).b≠b)->w'.heap[b]? =w.heap[b]?)(ho:w'.os=w.os)(ht:w'.tape=w.tape)(hu:w'.output=w.output):Inv N ρ0 m0 w0 st ρ a w':=
 ⟨⟨hI.ext.n,hI.ext.aV,hI.ext.S,hI.ext.S',hI.ext.aF,λb uj hk=>(hb b uj hk).trans (hI.ext.frame b uj hk),abJ hI.ext.size h.size,ho.trans hI.ext.os,ht.trans hI.ext.tape,hu.trans hI.ext.output⟩,
  hI.mem.wt h,hI.aY.cY h.cY,hI.defers.wt h,hI.hN,hI.n0⟩
theorem aK.adg{ρ:bX}{m:Mem}{w:World}{D:Nat}(hM:aK ρ m w)(hD:D<w.heap.size)(hl:∀k,Live ρ m k->(ρ.aV k).b≠D):aK {ρ with S:=λb=>ρ.S b\/b=D} m w:=by
 have g:jC ρ w {ρ with S:=λb=>ρ.S b\/b=D} w:=⟨aai _,λ_ _=>rfl,λ_ h=>.inl h,λ_ _=>rfl⟩
 have bO:∀k,Live {ρ with S:=λb=>ρ.S b\/b=D} m k↔Live ρ m k:=λk=>by cases k<;>rfl
 refine⟨hM.n,λb hb=>?_,λk hk=>⟨(hM.aF k ((bO k).1 hk)).1,?_⟩,λk k' hk iG e=>hM.inj k k' ((bO k).1 hk) ((bO k').1 iG) e,λid b hb=>?_,λid i j esz el ho bv=>?_⟩
 .rcases hb with hb|rfl
  .exact hM.S b hb
  .exact hD
 .rintro(hs|hs)
  .exact(hM.aF k ((bO k).1 hk)).2 hs
  .exact hl k ((bO k).1 hk) hs
 .have h1:=hM.bk id b hb;cases b with
  |aE=>trivial
  |var cs=>
   obtain⟨cur,cn,h2⟩:=h1;exact⟨cur,cn,λj c hj=>let⟨u,hu,hd⟩:=h2 j c hj;⟨u,hu,bH.cY g aD hd⟩⟩
  |row esz elems=>
   obtain⟨h2,h3,h4,h5,h6⟩:=h1;refine⟨h2,h3,h4,h5,λhp=>?_⟩
   obtain⟨cur,cn,h7,h8⟩:=h6 hp;exact⟨cur,cn,h7,λi cs j c hi hj=>let⟨u,hu,hd⟩:=h8 i cs j c hi hj;⟨u,hu,bH.cY g (by intro kZ i' j' e';cases e';rw[hM.n];exact(Lw.1 hb).1) hd⟩⟩
  |mp es=>
   obtain⟨fk,ck,h2,h3,h4⟩:=h1;exact⟨fk,ck,h2,h3,λi e he=>let⟨e',vf,hk,hd⟩:=h4 i e he;⟨e',vf,hk,ep.cY g hd⟩⟩
 .obtain⟨cur,cn,h2,h3,h4⟩:=hM.iJ id i j esz el ho bv;exact⟨cur,cn,h2,h3,λi cs j d hi hj=>let⟨u,hu,hd⟩:=h4 i cs j d hi hj;⟨u,hu,dx.mono g.S g.heap hd⟩⟩
theorem Live.jD{ρ:bX}{m:Mem}{kY:List Nat}{k:kN}(h:Live ρ (rb m kY) k):Live ρ m k/\k.id∉kY:=by
 cases k with
 |ay id=>
  obtain⟨bk,h1,h2,h3⟩:=h;rcases nC m kY id bk h1 with rfl|⟨h4,h5⟩
  .exact absurd rfl h2
  .exact⟨⟨bk,h4,h2,h3⟩,h5⟩
 |sub id i j=>
  obtain⟨⟨esz,elems,es,rows,cs,h1,h2,h3⟩,h4⟩:=h;rcases nC m kY id _ h1 with h5|⟨h5,h6⟩
  .cases h5
  .exact⟨⟨⟨esz,elems,es,rows,cs,h5,h2,h3⟩,h4⟩,h6⟩
theorem aK.jD{ρ:bX}{m:Mem}{w:World}(hM:aK ρ m w)(kY:List Nat):aK ρ (rb m kY) w:=by
 refine⟨by rw[ut];exact hM.n,hM.S,λk hk=>hM.aF k hk.jD.1,λk k' hk iG=>hM.inj k k' hk.jD.1 iG.jD.1,λid b hb=>?_,λid i j esz el ho bv=>?_⟩
 .rcases nC m kY id b hb with rfl|⟨h,_⟩
  .trivial
  .exact hM.bk id b h
 .obtain⟨es,rows,cs,h1,h2,h3⟩:=ho;rcases nC m kY id _ h1 with h5|⟨h5,_⟩
  .cases h5
  .exact hM.iJ id i j esz el ⟨es,rows,cs,h5,h2,h3⟩ bv
theorem Inv.jD{st:St}{ρ:bX}{a:Act}{w:World}(hI:Inv N ρ0 m0 w0 st ρ a w)(kY:List Nat):Inv N ρ0 m0 w0 ⟨st.aY,rb st.mem kY⟩ ρ a w:=
 ⟨⟨hI.ext.n,hI.ext.aV,hI.ext.S,hI.ext.S',λk hk=>hI.ext.aF k hk.jD.1,hI.ext.frame,hI.ext.size,hI.ext.os,hI.ext.tape,hI.ext.output⟩,
  hI.mem.jD kY,hI.aY,hI.defers,hI.hN,by rw[ut];exact hI.n0⟩
theorem Gj{x:X}{f:Operand}{p:Nat}{ps:Array Tmp}{la lb:LC}{ca cb:Code}{K:Ex->St->Prop}{st:St}{ρ:bX}{a:Act}{w:World}(mC:ρ0.n=m0.length)(i3:ps= #[p])(hx:bD f=some x)(Vx:∀(l:Nat)(ρ0:bX)(m0:Mem)(w0:World)(K:Ex->St->Prop)(st:St)(ρ:bX)(a:Act)(w:World),ρ0.n=m0.length->aw P m0.length la K st->Inv 0 ρ0 m0 w0 st ρ a w->ca.wpIn (FR (some l)) 0 P (BN 0 ρ0 m0 w0 K) a w)(Vy:∀(l:Nat)(ρ0:bX)(m0:Mem)(w0:World)(K:Ex->St->Prop)(st:St)(ρ:bX)(a:Act)(w:World),ρ0.n=m0.length->aw P m0.length lb K st->Inv 0 ρ0 m0 w0 st ρ a w->cb.wpIn (FR (some l)) 0 P (BN 0 ρ0 m0 w0 K) a w)(h:aw P m0.length (.zC x p la lb) K st)(hI:Inv N ρ0 m0 w0 st ρ a w):(Code.rangeFunc f ps ca cb).wpIn (FR none) 0 P (BN N ρ0 m0 w0 K) a w:=by
 obtain⟨gf,kY,cs,xs,α,J,S,hxe,NO,⟨so,fG⟩,adi,⟨x0,hJ0,C4⟩,Gk,Zf⟩:=h;have hd:=aS hI.aY hx;rw[hxe]at hd;obtain⟨gF,hv⟩:=hd;rw[RR];refine wpIn_rangeFunc λfn _=>?_
 obtain⟨rec0,BU⟩:∃rec0:Loop,rec0={state:= .ready,pending:=none,fn,tmps:=a.tmps,params:=ps,assign:=ca,body:=cb,defers:=w.heap.size}:=⟨_,rfl⟩;obtain⟨W1,C5⟩:∃W1,(w.alloc (.deferred (some []))).alloc (.loop rec0)=W1:=⟨_,rfl⟩;have Zg:W1.heap.size=w.heap.size+2:=by rw[<-C5];simp
 have hold:∀b,b<w.heap.size->W1.heap[b]? =w.heap[b]? :=λb hb=>by
  rw[<-C5];exact(Go.RowKit.Below.heap_alloc _ _ _ (by simp;omega)).trans (Go.RowKit.Below.heap_alloc _ _ _ hb)
 have hL1:W1.heap[w.heap.size+1]? =some (.loop rec0):=by rw[<-C5];have:=World.alloc_heap_new (w.alloc (.deferred (some []))) (.loop rec0);rwa [World.size_alloc]at this
 have Zh:W1.heap[w.heap.size]? =some (.deferred (some [])):=by rw[<-C5];exact(Go.RowKit.Below.heap_alloc _ _ _ aD).trans (World.alloc_heap_new w _)
 have Q2:W1.os=w.os/\W1.tape=w.tape/\W1.output=w.output:=by rw[<-C5];exact⟨rfl,rfl,rfl⟩
 obtain⟨⟨gfn,hgf,hgb,Q7⟩,hT⟩:=adi;have adj:gfn.body≠none:=by intro e;rw[e]at hgb;cases hgb
 have adk:gfn.name≠ "runtime.NumGoroutine" :=by intro e;rw[e]at Q7;simp at Q7
 obtain⟨as,has⟩:∃as:List (Nat×Nat),as=kY.map λid=>((ρ.aV (.ay id)).b,(ρ.aV (.ay id)).aB):=⟨_,rfl⟩
 have hlb:(kY.map λid=>Value.pointer (some ⟨(ρ.aV (.ay id)).b,(ρ.aV (.ay id)).aB,none⟩))=sD as:=by rw[has,sD,acf];rfl
 rw[hlb]at hv;have Zi:wq ρ st.mem w W1:=⟨om,λb hb=>hold b (hI.mem.S b hb),λk hk=>hold _ (hI.mem.aF k hk).1⟩
 have IW:Inv N ρ0 m0 w0 st ρ a W1:=hI.wt Zi (λb hb=>hold b (abL hb hI.ext.size)) Q2.1 Q2.2.1 Q2.2.2
 let ρ1:bX:={ρ with S:=λb=>ρ.S b\/b=w.heap.size}
 let act:Act:={a with defers:=[{target:= .collected w.heap.size,args:= #[]}]++a.defers}
 have ax:∀k,Live ρ st.mem k->(ρ.aV k).b<w.heap.size:=λk hk=>(hI.mem.aF k hk).1
 have bO:∀(m:Mem)k,Live ρ1 m k↔Live ρ m k:=λm k=>by cases k<;>rfl
 have g1:jC ρ W1 ρ1 W1:=⟨aai _,λ_ _=>rfl,λ_ h=>.inl h,λ_ _=>rfl⟩
 have hIb:Inv N ρ0 m0 w0 st ρ1 act W1:=by
  refine⟨⟨IW.ext.n,IW.ext.aV,λb hb=>.inl (IW.ext.S b hb),λb hb=>?_,λk hk=>IW.ext.aF k ((bO _ k).1 hk),IW.ext.frame,IW.ext.size,IW.ext.os,IW.ext.tape,IW.ext.output⟩,
   IW.mem.adg om (λk hk e=>by have:=ax k hk;omega),IW.aY.cY g1,?_,hI.hN,hI.n0⟩
  .rcases hb with hb|rfl
   .exact IW.ext.S' b hb
   .exact .inr (.inl hI.ext.size)
  .obtain⟨Ds,h1,h2,h3⟩:=IW.defers;refine⟨w.heap.size::Ds,by simp[act,h1],adO.2 ⟨λhm=>?_,h2⟩,λD hD=>?_⟩
   .have:=hI.mem.S _ (h3 _ hm).2.1;omega
   .rcases abI.1 hD with rfl|hD
    .exact⟨abJ hI.hN hI.ext.size,.inr rfl,Zh⟩
    .exact⟨(h3 D hD).1,.inl (h3 D hD).2.1,(h3 D hD).2.2⟩
 have hIc:=hIb.jD kY;have Zj:rL ρ1 (rb st.mem kY) (w.heap.size+1):=by
  refine⟨?_,λk hk e=>?_⟩
  .rintro(hs|hs)
   .have:=hI.mem.S _ hs;omega
   .omega
  .have:=ax k ((bO _ k).1 hk).jD.1;have h2:(ρ1.aV k).b=(ρ.aV k).b:=rfl;omega
 obtain⟨Zk,RY⟩:=vI NO;have cZ:∀id,id∈kY->Live ρ st.mem (.ay id):=λid hid=>by
  obtain⟨i,hi⟩:=aak hid;have ax:i<cs.length:=by rw[<-Zk];exact(Lw.1 hi).1
  obtain⟨h1,_⟩:=RY i id _ hi (wy ax);exact⟨_,h1,aD,aD⟩
 have Zl:∀b,b∈as.map (·.1)->rL ρ1 (rb st.mem kY) b:=by
  intro b hb;rw[has,acf]at hb;obtain⟨id,hid,rfl⟩:=abl.1 hb;have hL:=cZ id hid;refine⟨?_,λk hk e=>?_⟩
  .rintro(hs|hs)
   .exact(hI.mem.aF _ hL).2 hs
   .have:=ax _ hL;simp only[Function.comp]at hs;omega
  .have k7:=(bO _ k).1 hk;have:=hI.mem.inj k _ k7.jD.1 hL e;subst this;exact k7.jD.2 hid
 obtain⟨ρ2,hId,UA⟩:=hIc.view mC C4;have adm:as.length=cs.length:=by rw[has,O9,Zk]
 have adn:(as.map (·.1)).Nodup:=by
  rw[has,acf];have key:∀l:List Nat,(∀id,id∈l->id∈kY)->l.Nodup->(l.map λid=>(ρ.aV (.ay id)).b).Nodup:=by
   intro l
   induction l with
   |nil=>intro _ _;exact List.nodup_nil
   |cons id r ih=>
    intro hm hn;obtain⟨po,VV⟩:=adO.1 hn;refine adO.2 ⟨λhb=>?_,ih (λid h=>hm id (by simp[h])) VV⟩
    obtain⟨kZ,NZ,e⟩:=abl.1 hb;have:=hI.mem.inj _ _ (cZ kZ (hm kZ (by simp[NZ]))) (cZ id (hm id aD)) e
    cases this;exact po NZ
  exact key kY (λ_ h=>h) so
 have UB:∀b,b∈as.map (·.1)->b<w.heap.size:=by intro b hb;rw[has,acf]at hb;obtain⟨id,hid,rfl⟩:=abl.1 hb;exact ax _ (cZ id hid)
 have ado:∀b,b∈as.map (·.1)->w0.heap.size<=b\/∃k0,Live ρ0 m0 k0/\(ρ0.aV k0).b=b:=by intro b hb;rw[has,acf]at hb;obtain⟨id,hid,rfl⟩:=abl.1 hb;exact hI.ext.aF _ (cZ id hid)
 have DJ:∀a0,a0∈as->a0.1∈as.map (·.1):=λa0 h0=>abl.2 ⟨a0,h0,rfl⟩
 let Jw:Nat->World->Prop:=λk W=>∃y U',J k y/\Inv N ρ0 m0 w0 (S y) U' act W/\rL U' (S y).mem (w.heap.size+1)/\(∀b,b∈as.map (·.1)->rL U' (S y).mem b)/\
  W.heap[w.heap.size+1]? =some (.loop rec0)
 let Jx:World->Prop:=λW=>∃c ex jR U',K ex jR/\Inv N ρ0 m0 w0 jR U' act W/\rL U' jR.mem (w.heap.size+1)/\(∀b,b∈as.map (·.1)->rL U' jR.mem b)/\
  ((c= .ret/\ex= .ret)\/∃id,c= .exit id/\ex= .exit id)/\W.heap[w.heap.size+1]? =some (.loop {rec0 with state:= .done,pending:=some c})
 have UC:∀(jR:St)(U':bX)(o:Obj)(W W':World),Inv N ρ0 m0 w0 jR U' act W->(∀b,b∈as.map (·.1)->rL U' jR.mem b)->W.heap[w.heap.size+1]? =some o->
   W.heap.size<=W'.heap.size->(∀b,b<W.heap.size->(∀a,a∈as->b≠a.1)->W'.heap[b]? =W.heap[b]?)->W'.os=W.os->W'.tape=W.tape->W'.output=W.output->
   Inv N ρ0 m0 w0 jR U' act W'/\W'.heap[w.heap.size+1]? =some o:=by
  intro jR U' o W W' hI ho hl hs hb h1 h2 h3;refine⟨hI.Ze ⟨hs,λb hS=>hb b (hI.mem.S b hS) λa ha e=>(ho _ (DJ a ha)).1 (e▸hS),λk hk=>hb _ (hI.mem.aF k hk).1 λa ha e=>(ho _ (DJ a ha)).2 k hk e⟩
   (λb uj hk=>hb b (abL uj hI.ext.size) λa ha e=>?_) h1 h2 h3,?_⟩
  .rcases ado _ (DJ a ha)with h|⟨k0,h0,e0⟩
   .omega
   .exact hk k0 h0 (e0.trans e.symm)
  .rw[hb _ (abG.1 hl).1 λa ha e=>?_]
   .exact hl
   .have:=UB _ (DJ a ha);omega
 have main:=hT (w.heap.size+1) as W1 Jw Jx adm adn
  (λi a0 v hi hv=>by
   rw[has,Qu]at hi;cases hid:kY[i]? with
   |none=>rw[hid]at hi;cases hi
   |some id=>
    rw[hid]at hi;simp only[aa3,abe]at hi;subst hi;obtain⟨hm,eF⟩:=RY i id v hid hv;obtain⟨cur,cn,kF⟩:=IW.mem.bk id _ hm;obtain⟨u,hu,cI⟩:=kF 0 _ rfl;have wm:u=v:=by
     cases cI with
     |val _ _=>rfl
     |no _=>simp[dY]at eF
    subst wm;exact⟨by rw[cn.cell];simpa using hu,cn.ry (by have:=(abG.1 hu).1;simpa using this)⟩)
  (λk W W'⟨y,U',h1,h2,h3,h4,h5⟩hs hb e1 e2 e3=>by obtain⟨q1,q2⟩:=UC _ _ _ W W' h2 h4 h5 hs hb e1 e2 e3;exact⟨y,U',h1,q1,h3,h4,q2⟩)
  (λW W'⟨c,ex,jR,U',h0,h2,h3,h4,h6,h5⟩hs hb e1 e2 e3=>by obtain⟨q1,q2⟩:=UC _ _ _ W W' h2 h4 h5 hs hb e1 e2 e3;exact⟨c,ex,jR,U',h0,q1,h3,h4,h6,q2⟩)
  (λk y W hk⟨z,U',h1,h2,h3,h4,h5⟩=>by
   have hr:=Gk k y z hk h1;have VW:=DH (Vx _) (Vy _) (l:=w.heap.size+1) (n0:=0) (rec0:=rec0) (act:=act) (fn:=fn) (p:=p) (by rw[BU];exact⟨rfl,rfl,rfl,rfl,i3,rfl,rfl⟩) h2 h5 h3
    (by have:=hI.ext.size;omega) hr
   obtain⟨f1,t1,a1,b1,hy,hR⟩:=VW;refine⟨f1,t1,a1,b1,hy,hR.mono λe W' hp=>?_⟩
   obtain⟨ex,jR,ρ3,jump,hK,hIn,he,hl,hj,adp,i7,dQ⟩:=hp;have hoc:∀b,b∈as.map (·.1)->rL ρ3 jR.mem b/\W'.heap[b]? =W.heap[b]? :=λb hb=>by have ax:=UB b hb;have DE:w.heap.size+1<W.heap.size:=(abG.1 h5).1;exact adp b om om (h4 b hb)
   rcases hj with⟨rfl,rfl⟩|⟨rfl,rfl⟩|⟨id,rfl,rfl⟩
   .left;obtain⟨z',Ks,Ut⟩:=hK;obtain⟨ρ4,hIv,hov⟩:=hIn.view mC Ut;refine⟨he,⟨z',ρ4,Ks,hIv,hov _ i7,λb hb=>hov b (hoc b hb).1,?_⟩,dQ,λa ha=>(hoc a.1 (abl.2 ⟨a,ha,rfl⟩)).2⟩
    rw[hl,BU];rfl
   .right;exact⟨he,.ret,.ret,_,ρ3,hK,hIn,i7,λb hb=>(hoc b hb).1,.inl ⟨rfl,rfl⟩,hl⟩
   .right;exact⟨he,.exit id,.exit id,_,ρ3,hK,hIn,i7,λb hb=>(hoc b hb).1,.inr ⟨id,rfl,rfl⟩,hl⟩)
  ⟨x0,ρ2,hJ0,hId,UA _ Zj,λb hb=>UA b (Zl b hb),hL1⟩
 refine⟨w.heap.size+1,[{target:= .collected w.heap.size,args:= #[]}],W1,{target:= .fn (.func gf) (sD as).toArray,args:= #[.func (.yield (w.heap.size+1)) #[] #[]]},W1,gf,
  #[.func (.yield (w.heap.size+1)) #[] #[]]++(sD as).toArray,W1,?_,?_,λ_ _=>trivial,?_,by simp[Fence.wide],?_⟩
 .rw[<-C5,BU];exact run_enterLoop_outer _ _ _ _ _
 .simp only[resolve,hv];simp[go_sem]
 .simp[invoke,callFunc,hgf,adk,adj]
 .refine main.mono λe W' hp=>?_
  obtain⟨⟨v,rfl⟩,hp⟩:=hp;rcases hp with⟨y,U',h1,h2,h3,h4,h5⟩|⟨c,ex,jR,U',h0,h2,h3,h4,h6,h5⟩
  .refine⟨none,_,by have:=run_endLoop (P:=P) h5 (by rw[BU];simp);rw[BU]at this;exact this,?_⟩
   exact⟨.normal,S y,U',rfl,Zf y h1,h2.put h3 (by have:=hI.ext.size;omega) _⟩
  .refine⟨some c,_,by have:=run_endLoop (P:=P) h5 (by simp);exact this,?_⟩
   have Zm:=h2.put h3 (by have:=hI.ext.size;omega) (.loop {rec0 with state:= .exhausted,pending:=some c})
   rcases h6 with⟨rfl,rfl⟩|⟨id,rfl,rfl⟩
   .exact wpIn_ret ⟨.ret,jR,U',rfl,h0,Zm⟩
   .exact wpIn_exit ⟨.exit id,jR,U',rfl,h0,Zm⟩
end
section
variable {P:Program} {N:Nat} {ρ0:bX} {m0:Mem} {w0:World}
theorem lw{f:Operand}{ps:Array Tmp}{x y:Code}{lc:LC}(h:d6 P (.rangeFunc f ps x y)=some lc):∃x' p la lb,lc= .zC x' p la lb:=by
 simp only[d6,WE]at h;split at h
 case h_2=>cases h
 simp only[U2]at h;obtain⟨lx,hx,ly,hy,h⟩:=h;split at h
 case isFalse=>cases h
 simp only[U2]at h;obtain⟨x',_,h⟩:=h;cases h;exact⟨_,_,_,_,rfl⟩
theorem N0:∀(lc:LC)(r:Option Nat)(BV:r=none\/lc.sx=true)(N:Nat)(ρ0:bX)(m0:Mem)(w0:World)(mC:ρ0.n=m0.length)(c:Code)(K:Ex->St->Prop)(st:St)(ρ:bX)(a:Act)(w:World),
  d6 P c=some lc.er->aw P m0.length lc K st->Inv N ρ0 m0 w0 st ρ a w->c.wpIn (FR r) 0 P (BN N ρ0 m0 w0 K) a w:=by
 intro lc
 induction lc with
 |q9 b ih=>
  intro r BV N ρ0 m0 w0 mC c K st ρ a w hl h hI;obtain⟨s',hv,h⟩:=h;obtain⟨U',qV⟩:=hI.Nt mC hv;exact ih r BV N ρ0 m0 w0 mC c K s' U' a w hl h qV
 |skip=>
  intro r BV N ρ0 m0 w0 mC c K st ρ a w hl h hI;cases c with
  |skip=>exact wpIn_skip ⟨_,st,ρ,rfl,h,hI⟩
  |region id ops iK=>cases iK<;>simp[d6,LC.er,U2]at hl
  |rangeFunc f ps ca cb=>obtain⟨_,_,_,_,e⟩:=lw hl;simp[LC.er]at e
  |_=>simp[d6,LC.er,U2]at hl
 |qU adq=>
  intro r BV N ρ0 m0 w0 mC c K st ρ a w hl h hI;cases c with
  |region id ops iK=>
   cases iK with
   |true=>simp[d6,LC.er,U2]at hl
   |false=>
    simp only[d6,LC.er,WE,U2]at hl;obtain⟨cg,BS,hl⟩:=hl;cases hl;refine wpIn_region (jc (xI BS) IU _ _ _ ?_);have:=xG (Q:=BN N ρ0 m0 w0 K) (K:=Ko K) (λaY m ρ a w hK hI=>⟨_,_,ρ,rfl,hK,hI⟩) ops.toList 0 _ st.aY st.mem ρ a w rfl BS h hI
    simpa[List.range_eq_range']using this
  |rangeFunc f ps ca cb=>obtain⟨_,_,_,_,e⟩:=lw hl;simp[LC.er]at e
  |_=>simp[d6,LC.er,U2]at hl
 |iK adq sch=>
  intro r BV N ρ0 m0 w0 mC c K st ρ a w hl h hI;cases c with
  |region id ops iK=>
   cases iK with
   |true=>
    simp only[d6,LC.er,WE,U2]at hl;obtain⟨cg,BS,hl⟩:=hl;obtain⟨rA,hs,hl⟩:=hl;cases hl;refine wpIn_region_draw λt=>jc (xI BS) IU _ _ _ ?_
    exact BT (Q:=BN N ρ0 m0 w0 K) (K:=K) (λaY m ρ a w hK hI=>⟨_,_,ρ,rfl,hK,hI⟩) BS hs h hI t
   |false=>simp[d6,LC.er,U2]at hl
  |rangeFunc f ps ca cb=>obtain⟨_,_,_,_,e⟩:=lw hl;simp[LC.er]at e
  |_=>simp[d6,LC.er,U2]at hl
 |seq lx ly VS NW=>
  intro r BV N ρ0 m0 w0 mC c K st ρ a w hl h hI;cases c with
  |seq x y=>
   simp only[d6,LC.er,WE,U2,abe,LC.seq.injEq]at hl;obtain⟨lx',hx,ly',hy,rfl,rfl⟩:=hl;refine wpIn_seq (wpIn_mono (VS r (BV.imp id λh=>(adC.1 h).1) N ρ0 m0 w0 mC x _ st ρ a w hx h hI) λe a' w' hp=>?_)
   obtain⟨ex,jR,U',he,hK,qV⟩:=hp;cases e<;>simp[Dz]at he<;>subst he
   .exact NW r (BV.imp id λh=>(adC.1 h).2) N ρ0 m0 w0 mC y K jR U' a' w' hy hK qV
   .exact⟨_,jR,U',rfl,hK,qV⟩
   .exact⟨_,jR,U',rfl,hK,qV⟩
  |region id ops iK=>cases iK<;>simp[d6,LC.er,U2]at hl
  |rangeFunc f ps ca cb=>obtain⟨_,_,_,_,e⟩:=lw hl;simp[LC.er]at e
  |_=>simp[d6,LC.er,U2]at hl
 |cond x0 ly0 lz0 NW ihz=>
  intro r BV N ρ0 m0 w0 mC c K st ρ a w hl h hI;cases c with
  |cond x y z=>
   simp only[d6,LC.er,WE,U2,abe,LC.cond.injEq]at hl;obtain⟨x',hx,ly,hy,lz,hz,rfl,rfl,rfl⟩:=hl;have hd:=aS hI.aY hx;simp only[aw]at h;split at h
   .rename_i t wj;rw[wj]at hd;have ht:=(bY hd).1;have sO:∀b,t=b->Vz x' (aq b) st.aY=st.aY:=λb hb=>by
     subst hb;cases x' with
     |t n=>exact BQ wj
     |c v=>rfl
    refine wpIn_cond ht ?_;rcases cP.1 h with⟨rfl,h⟩|⟨rfl,h⟩
    .simp only[fq,sO true rfl]at h;exact NW r (BV.imp id λh=>(adC.1 h).1) N ρ0 m0 w0 mC y K st ρ a w hy h hI
    .simp only[fq,sO false rfl]at h;exact ihz r (BV.imp id λh=>(adC.1 h).2) N ρ0 m0 w0 mC z K st ρ a w hz h hI
   .exact h.elim
  |region id ops iK=>cases iK<;>simp[d6,LC.er,U2]at hl
  |rangeFunc f ps ca cb=>obtain⟨_,_,_,_,e⟩:=lw hl;simp[LC.er]at e
  |_=>simp[d6,LC.er,U2]at hl
 |block id0 lb0 ih=>
  intro r BV N ρ0 m0 w0 mC c K st ρ a w hl h hI;cases c with
  |block id b=>
   simp only[d6,LC.er,WE,U2,abe,LC.block.injEq]at hl;obtain⟨lb,hb,rfl,rfl⟩:=hl;refine wpIn_block (wpIn_mono (ih r BV N ρ0 m0 w0 mC b _ st ρ a w hb h hI) λe a' w' hp=>?_)
   obtain⟨ex,jR,U',he,hK,qV⟩:=hp;cases e<;>simp[Dz]at he<;>subst he
   .exact⟨_,jR,U',rfl,hK,qV⟩
   .rename_i kZ;simp only[FM]at hK;simp only[Exit.inBlock];rcases cP.1 hK with⟨hid,hK⟩|⟨hid,hK⟩
    .rw[if_pos (aa1 hid)];exact⟨_,jR,U',rfl,hK,qV⟩
    .rw[if_neg (adu hid)];exact⟨_,jR,U',rfl,hK,qV⟩
   .exact⟨_,jR,U',rfl,hK,qV⟩
  |region id ops iK=>cases iK<;>simp[d6,LC.er,U2]at hl
  |rangeFunc f ps ca cb=>obtain⟨_,_,_,_,e⟩:=lw hl;simp[LC.er]at e
  |_=>simp[d6,LC.er,U2]at hl
 |loop lb0 ih=>
  intro r BV N ρ0 m0 w0 mC c K st ρ a w hl h hI;cases c with
  |loop b=>
   simp only[d6,LC.er,WE,U2,abe,LC.loop.injEq]at hl;obtain⟨lb,hb,rfl⟩:=hl;obtain⟨α,J,S,μ,⟨a1,Zn,hw1⟩,Gk⟩:=h;obtain⟨ρ1,RU⟩:=hI.Nt mC hw1;refine wo (γ:=α) (I:=λx a w=>J x/\∃ρ,Inv N ρ0 m0 w0 (S x) ρ a w) (μ:=μ) a1 ⟨Zn,ρ1,RU⟩ λx a w⟨hJ,ρ,hI⟩=>?_
   refine wpIn_mono (ih r BV N ρ0 m0 w0 mC b _ (S x) ρ a w hb (Gk x hJ) hI) λe a' w' hp=>?_
   obtain⟨ex,jR,U',he,hK,qV⟩:=hp;cases e<;>simp[Dz]at he<;>subst he
   .obtain⟨x3,hJ3,ax,hw3⟩:=hK;obtain⟨ρ3,hI3⟩:=qV.Nt mC hw3;exact⟨x3,⟨hJ3,ρ3,hI3⟩,ax⟩
   .exact⟨_,jR,U',rfl,hK,qV⟩
   .exact⟨_,jR,U',rfl,hK,qV⟩
  |region id ops iK=>cases iK<;>simp[d6,LC.er,U2]at hl
  |rangeFunc f ps ca cb=>obtain⟨_,_,_,_,e⟩:=lw hl;simp[LC.er]at e
  |_=>simp[d6,LC.er,U2]at hl
 |exit id0=>
  intro r BV N ρ0 m0 w0 mC c K st ρ a w hl h hI;cases c with
  |exit id=>
   simp[d6,LC.er]at hl;subst hl;exact wpIn_exit ⟨_,st,ρ,rfl,h,hI⟩
  |region id ops iK=>cases iK<;>simp[d6,LC.er,U2]at hl
  |rangeFunc f ps ca cb=>obtain⟨_,_,_,_,e⟩:=lw hl;simp[LC.er]at e
  |_=>simp[d6,LC.er,U2]at hl
 |ret=>
  intro r BV N ρ0 m0 w0 mC c K st ρ a w hl h hI;cases c with
  |ret=>exact wpIn_ret ⟨_,st,ρ,rfl,h,hI⟩
  |region id ops iK=>cases iK<;>simp[d6,LC.er,U2]at hl
  |rangeFunc f ps ca cb=>obtain⟨_,_,_,_,e⟩:=lw hl;simp[LC.er]at e
  |_=>simp[d6,LC.er,U2]at hl
 |zC x0 p la0 lb0 Vx Vy=>
  intro r BV N ρ0 m0 w0 mC c K st ρ a w hl h hI;have hr0:r=none:=BV.resolve_right (by simp[LC.sx])
  subst hr0;cases c with
  |rangeFunc f ps ca cb=>
   simp only[d6,LC.er,WE]at hl;split at hl
   case h_2=>cases hl
   rename_i p' i3;simp only[U2]at hl;obtain⟨la,hla,lb,hlb,hl⟩:=hl;split at hl
   case isFalse=>cases hl
   rename_i kj;simp only[U2,abe,LC.zC.injEq]at hl;obtain⟨x',hx,rfl,rfl,rfl,rfl⟩:=hl;rw[aaL,IV,IV]at kj;exact Gj mC (by apply acu;simpa using i3) hx (λl ρ0 m0 w0 K st ρ a w hM h hI=>Vx (some l) (.inr kj.1) 0 ρ0 m0 w0 hM ca K st ρ a w hla h hI)
    (λl ρ0 m0 w0 K st ρ a w hM h hI=>Vy (some l) (.inr kj.2) 0 ρ0 m0 w0 hM cb K st ρ a w hlb h hI) h hI
  |region id ops iK=>cases iK<;>simp[d6,LC.er,U2]at hl
  |_=>simp[d6,LC.er,U2]at hl
def uu(tmps:Array Value):ResultVar->Sem Value
 | .tmp t=>pure (tmps.getD t Go.undef)
 | .cell ad t=>do loadVar t (<-asAddr (tmps.getD ad Go.undef))
theorem Gl(fn:Func)(tmps:Array Value):results fn tmps=(do let vs<-fn.results.mapM (uu tmps);pure (if h:vs.size=1 then vs[0]else .tuple vs)):=by
 unfold results;have e:(λ(r:ResultVar)=>match r with
  | .tmp t=>(pure (tmps.getD t Go.undef):Sem Value)
  | .cell ad t=>do loadVar t (<-asAddr (tmps.getD ad Go.undef)))=uu tmps:=by
  funext r;cases r<;>rfl
 rw[<-e];rfl
theorem rM:∀{rs:List ResultVar}{KO:List Rv},ov P rs=some KO->∀{st:St}{ρ:bX}{a:Act}{w:World}{K:List RV->Prop},
  aK ρ st.mem w->bq ρ w st.aY a.tmps->Df P st KO K->
  ∃(vs:List RV)(us:List Value),K vs/\(rs.mapM (uu a.tmps)).run P w= .ok us w/\
   us.length=vs.length/\∀(i:Nat)r,vs[i]? =some r->∃u,us[i]? =some u/\ep ρ w r u
 | [],KO,h,st,ρ,a,w,K,hM,hE,hr=>by simp[ov]at h;subst h;exact⟨[],[],hr,rfl,rfl,aD⟩
 | .tmp t::r,KO,h,st,ρ,a,w,K,hM,hE,hr=>by
  simp only[ov,WE,U2]at h;obtain⟨r',hr',h⟩:=h;cases h;simp only[Df]at hr;obtain⟨v,hv,hr⟩:=bb.1 hr;obtain⟨vs,us,hK,eU,hlen,cD⟩:=rM hr' hM hE hr;have hd:=hE.get t;have X7:lm st.aY t= .rv v:=by
   cases hg:lm st.aY t<;>rw[hg]at hv<;>simp[FF]at hv
   rw[hv]
  rw[X7]at hd;refine⟨v::vs,a.tmps.getD t Go.undef::us,hK,?_,by simp[hlen],λi r hi=>?_⟩
  .rw[List.mapM_cons,Sem.run_bind];simp only[uu,Sem.run_pure,Result.andThen_ok];rw[Sem.run_bind,eU];rfl
  .cases i with
   |zero=>simp at hi;subst hi;exact⟨_,aD,hd⟩
   |succ i=>simpa using cD i r (by simpa using hi)
 | .cell ad t::r,KO,h,st,ρ,a,w,K,hM,hE,hr=>by
  simp only[ov,WE,U2]at h;obtain⟨agg,ha,n,hn,r',hr',h⟩:=h;cases h;simp only[Df]at hr;obtain⟨addr,u,cv,hv,Zo,Zh,cI⟩:=vh hM ha hn hr (hE.get ad);obtain⟨v,zG,hr⟩:=bb.1 Zh;obtain⟨vs,us,hK,eU,hlen,cD⟩:=rM hr' hM hE hr;have X7:cv= .rv v:=by
   cases cv<;>simp[FF]at zG
   rw[zG]
  subst X7;refine⟨v::vs,u::us,hK,?_,by simp[hlen],λi r hi=>?_⟩
  .rw[List.mapM_cons,Sem.run_bind];simp only[uu,hv,asAddr,Sem.run_bind,Sem.run_pure,Result.andThen_ok,Zo];rw[eU];rfl
  .cases i with
   |zero=>simp at hi;subst hi;exact⟨_,aD,cI⟩
   |succ i=>simpa using cD i r (by simpa using hi)
theorem zN{fn:Func}{rs:List Rv}(h:ov P fn.results.toList=some rs){st:St}{ρ:bX}{a:Act}{w:World}{K:CV->Prop}(hM:aK ρ st.mem w)(hE:bq ρ w st.aY a.tmps)(hr:Df P st rs λvs=>K (VB vs)):∃v r,(results fn a.tmps).run P w= .ok v w/\K r/\cw ρ w r v:=by
 obtain⟨vs,us,hK,eU,hlen,cD⟩:=rM h hM hE hr;have Ap:(fn.results.mapM (uu a.tmps)).run P w= .ok us.toArray w:=by rw[Array.mapM_eq_mapM_toList,Sem.run_map,eU];rfl
 rw[Gl,Sem.run_bind,Ap];refine⟨_,_,rfl,hK,?_⟩
 match vs,us,hlen,cD with
 | [r],[u],_,cD=>
  obtain⟨u',hu,hd⟩:=cD 0 r aD;simp at hu;subst hu;exact hd
 | [],[],_,cD=>exact⟨[],rfl,rfl,aD⟩
 |r1::r2::rs,u1::u2::us,hlen,cD=>
  refine⟨u1::u2::us,?_,hlen,cD⟩;simp
theorem lA{f:Nat}{fn:Func}{lf:LF}{args:List CV}{m:Mem}{K:CV->Mem->Prop}(hf:P.funcs[f]? =some fn)(hl:bs P fn=some lf.er)(hn:(fn.name== "runtime.NumGoroutine")=false)(hle:args.length<=lf.n)(h:body P lf args m K):ap P f args m K:=by
 simp only[bs,LF.er,WE,U2,abe,LF.mk.injEq]at hl;obtain⟨rs,VW,c,hc,lc0,tX,po,adt,Zp⟩:=hl;subst Zp adt;obtain⟨lfn,lfr,lc⟩:=lf;simp only at po VW tX;subst po;refine⟨⟨fn,hf,by simp[hc],hn⟩,λρ w vs hM hlen cD=>?_⟩
 simp only[body,fq,kh,cf,fK]at h;simp only at hle;have hI:Inv w.heap.size ρ m w ⟨args++List.replicate (fn.ntmps-args.length) .undef,m⟩ ρ {tmps:=vs.toArray++Array.replicate (fn.ntmps-vs.toArray.size) Go.undef,defers:=[]} w:=by
  refine⟨Ext.refl _ _ _,hM,⟨by simp[hlen],λi c hi=>?_⟩,Ge.nil,aai _,aai _⟩
  rcases aax i args.length with ax|ef
  .rw[aaW ax]at hi;obtain⟨v,hv,hd⟩:=cD i c hi;refine⟨v,?_,hd⟩;rw[ac5 (by simp[hlen];exact ax)]
   simpa using hv
  .rw[aaS ef,adX]at hi;split at hi
   .rename_i ax;cases hi;refine⟨Go.undef,?_,rfl⟩;rw[Array.getElem?_append_right (by simp[hlen];exact ef),Array.getElem?_replicate,if_pos (by simp[hlen];exact ax)]
   .cases hi
 refine(callsIn_wide (n:=0)).1 (callsIn_of_wp_marks (F:=Fence.wide) hf hc trivial (wpIn_mono (N0 lc none (.inl rfl) _ ρ m w hM.n c _ _ ρ _ w tX h hI) λe a' w' hp=>?_))
 obtain⟨ex,jR,U',he,hK,qV⟩:=hp;have gu:Df P jR lfr (λvs=>K (VB vs) jR.mem)->LeavesInM Fence.wide 0 P fn a'.tmps (λe w'=>∃Zq r m' U',e=Ending.returned Zq/\K r m'/\aK U' m' w'/\cw U' w' r Zq/\Ext ρ m w U' m' w') a'.defers .returning w':=λhr=>by
  obtain⟨Ds,h1,h2,h3⟩:=qV.defers;rw[h1];refine sV rfl Ds w' h2 h3 qV.mem qV.aY qV.ext λw2 DI Fr VR=>?_
  obtain⟨v,r,eU,hKr,hd⟩:=zN (K:=λr=>K r jR.mem) VW DI Fr hr
  exact⟨v,eU,v,r,jR.mem,U',rfl,hKr,DI,hd,VR⟩
 cases e<;>simp[Dz]at he<;>subst he
 .exact gu hK
 .exact hK.elim
 .exact gu hK
theorem RZ:∀(c:Code)(lc:LC),d6 P c=some lc->lc.er=lc:=by
 intro c
 induction c with
 |skip=>intro lc h;simp[d6]at h;subst h;rfl
 |region id ops iK=>
  intro lc h;cases iK with
  |true=>
   simp only[d6,WE,U2]at h;obtain⟨cg,_,sch,_,h⟩:=h;cases h;rfl
  |false=>
   simp only[d6,WE,U2]at h;obtain⟨cg,_,h⟩:=h;cases h;rfl
 |seq x y VS NW=>
  intro lc h;simp only[d6,WE,U2]at h;obtain⟨lx,hx,ly,hy,h⟩:=h;cases h;simp only[LC.er,VS lx hx,NW ly hy]
 |cond x y z NW ihz=>
  intro lc h;simp only[d6,WE,U2]at h;obtain⟨x',_,ly,hy,lz,hz,h⟩:=h;cases h;simp only[LC.er,NW ly hy,ihz lz hz]
 |block id b ih=>
  intro lc h;simp only[d6,WE,U2]at h;obtain⟨lb,hb,h⟩:=h;cases h;simp only[LC.er,ih lb hb]
 |loop b ih=>
  intro lc h;simp only[d6,WE,U2]at h;obtain⟨lb,hb,h⟩:=h;cases h;simp only[LC.er,ih lb hb]
 |exit id=>intro lc h;simp[d6]at h;subst h;rfl
 |ret=>intro lc h;simp[d6]at h;subst h;rfl
 |rangeFunc f ps x y VS NW=>
  intro lc h;simp only[d6,WE]at h;split at h
  case h_2=>cases h
  simp only[U2]at h;obtain⟨lx,hx,ly,hy,h⟩:=h;split at h
  case isFalse=>cases h
  simp only[U2]at h;obtain⟨x',_,h⟩:=h;cases h;simp only[LC.er,VS lx hx,NW ly hy]
 |_=>intro lc h;simp[d6]at h
theorem lV{f:Nat}{fn:Func}{lf:LF}{args:List CV}{m:Mem}{K:CV->Mem->Prop}(hf:P.funcs[f]? =some fn)(hl:bs P fn=some lf)(hn:(fn.name== "runtime.NumGoroutine")=false)(hle:args.length<=lf.n)(h:body P lf args m K):ap P f args m K:=by
 refine lA hf ?_ hn hle h;have MX:=hl;simp only[bs,WE,U2]at hl;obtain⟨rs,VW,c,hc,lc,tX,hl⟩:=hl;cases hl;rw[MX];simp only[LF.er,RZ c lc tX]
end
end Go.AM
