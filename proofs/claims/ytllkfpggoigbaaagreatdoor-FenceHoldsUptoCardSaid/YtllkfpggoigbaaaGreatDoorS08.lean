/- Part 8 of 35. -/
import Derived.Test.YtllkfpggoigbaaaGreatDoorS07
set_option linter.unusedVariables false
set_option linter.unusedSimpArgs false
set_option linter.unnecessarySimpa false
set_option maxRecDepth 100000
set_option maxHeartbeats 0
namespace Go.AM
section
variable {P:Program}
def Dz:Exit->Option Ex
 | .normal=>some .normal
 | .exit id=>some (.exit id)
 | .ret=>some .ret
 |_=>none
def Ge(N:Nat)(ρ:bX)(w:World)(ds:List Deferred):Prop:=
 ∃Ds:List Nat,ds=Ds.map (λD=>{target:= .collected D,args:= #[]})/\Ds.Nodup/\∀D,D∈Ds->N<=D/\ρ.S D/\w.heap[D]? =some (.deferred (some []))
theorem Ge.nil{N:Nat}{ρ:bX}{w:World}:Ge N ρ w []:=⟨[],rfl,List.nodup_nil,aD⟩
theorem Ge.ext{N:Nat}{ρ U':bX}{m m':Mem}{w w':World}{ds:List Deferred}(hM:aK ρ m w)(x:Ext ρ m w U' m' w')(h:Ge N ρ w ds):Ge N U' w' ds:=by
 obtain⟨Ds,h1,h2,h3⟩:=h;refine⟨Ds,h1,h2,λD hD=>?_⟩
 obtain⟨g1,g2,g3⟩:=h3 D hD;exact⟨g1,x.S D g2,(x.frame D (hM.S D g2) λk hk e=>(hM.aF k hk).2 (e▸g2)).trans g3⟩
theorem Ge.s{N:Nat}{ρ U':bX}{w:World}{ds:List Deferred}(hS:∀b,ρ.S b->U'.S b)(h:Ge N ρ w ds):Ge N U' w ds:=by obtain⟨Ds,h1,h2,h3⟩:=h;exact⟨Ds,h1,h2,λD hD=>⟨(h3 D hD).1,hS D (h3 D hD).2.1,(h3 D hD).2.2⟩⟩
structure Inv(N:Nat)(ρ0:bX)(m0:Mem)(w0:World)(st:St)(ρ:bX)(a:Act)(w:World):Prop where
 ext:Ext ρ0 m0 w0 ρ st.mem w
 mem:aK ρ st.mem w
 aY:bq ρ w st.aY a.tmps
 defers:Ge N ρ w a.defers
 hN:N<=w0.heap.size
 n0:m0.length<=st.mem.length
def BN(N:Nat)(ρ0:bX)(m0:Mem)(w0:World)(K:Ex->St->Prop)(e:Exit)(a:Act)(w:World):Prop:=
 ∃ex st ρ,Dz e=some ex/\K ex st/\Inv N ρ0 m0 w0 st ρ a w
variable {N:Nat} {ρ0:bX} {m0:Mem} {w0:World}
theorem Inv.step{aY:List CV}{m m':Mem}{ρ U':bX}{a:Act}{w w':World}{d:Option Nat}{c:CV}{v:Value}(h:Inv N ρ0 m0 w0 ⟨aY,m⟩ ρ a w)(hM:aK U' m' w')(hd:cw U' w' c v)(hx:Ext ρ m w U' m' w'){K:List CV->Prop}(hp:put d c aY K):
  ∃fU,K fU/\Inv N ρ0 m0 w0 ⟨fU,m'⟩ U' (a.put d v) w':=by
 obtain⟨fU,hK,hE,hdf⟩:=(h.aY.ext h.mem hx:bq U' w' aY a.tmps).put hd hp;refine⟨fU,hK,h.ext.trans hx,hM,hE,hdf▸h.defers.ext h.mem hx,h.hN,?_⟩;have h1:=h.n0;have h2:=h.mem.n;have h3:=hM.n;have h4:=hx.n;simp only at h1 h2|-;omega
theorem DA{o:Oper}{i:I}{aY:List CV}{m:Mem}{ρ:bX}{a:Act}{w:World}{K:List CV->Mem->Prop}{next:Act->World->Prop}{Q:Exit->Act->World->Prop}(hl:sB P o=some i)(h:Inv N ρ0 m0 w0 ⟨aY,m⟩ ρ a w)(hs:step P i aY m λv m'=>put o.dst v aY λe'=>K e' m')(hn:∀fU m' U' a' w',K fU m'->Inv N ρ0 m0 w0 ⟨fU,m'⟩ U' a' w'->next a' w'):o.wp P a w next Q:=by
 rcases FJ hl with hl|rfl
 case inr=>rw[Rz]at hs;exact hs.elim
 by_cases hc:∃f xs ts,o.op= .call {callee:= .value f,args:=xs,argTypes:=ts}
 .obtain⟨f,xs,ts,eD⟩:=hc;have X5:∃f' IH,i= .call f' IH/\bD f=some f'/\ve xs.toList=some IH:=by unfold xe at hl;rw[eD]at hl;simp only[WE,U2]at hl;obtain⟨f1,hf,xs1,hx,hl⟩:=hl;cases hl;exact⟨f1,xs1,rfl,hf,hx⟩
  obtain⟨f',IH,rfl,hf,hx⟩:=X5;have hd:=aS h.aY hf;simp only[step]at hs;split at hs
  .rename_i g eG hfe;rw[hfe]at hd;obtain⟨NO,hv⟩:=hd;obtain⟨⟨fn,X9,Uv,IM⟩,vC⟩:=hs;obtain⟨e1,e2⟩:=ud h.aY hx;simp only[cf,xn]at vC;have hb:fn.body≠none:=by intro e;rw[e]at Uv;cases Uv
   have RM:fn.name≠ "runtime.NumGoroutine" :=by intro e;rw[e]at IM;simp at IM
   have eU:(execOp a.eval o).run P w= .ok (.enter g (xs.map a.eval++(eG.map λid=>Value.pointer (some ⟨(ρ.aV (.ay id)).b,(ρ.aV (.ay id)).aB,none⟩)).toArray)) w:=by unfold execOp;rw[eD];simp[resolve,hv,Deferred.ofValue,invoke,callFunc,X9,RM,hb]
   unfold Oper.wp;rw[eU,Oper.upon_enter];have BO:=vC ρ w (xs.toList.map a.eval++eG.map λid=>Value.pointer (some ⟨(ρ.aV (.ay id)).b,(ρ.aV (.ay id)).aB,none⟩)) h.mem (by simp[e1]) (λi c hi=>by
    rcases aax i (Iw aY IH).length with ax|ef
    .rw[aaW ax]at hi;obtain⟨v,zG,Fp⟩:=e2 i c hi;exact⟨v,by rw[aaW (by simpa[e1]using ax)];exact zG,Fp⟩
    .rw[aaS ef]at hi;rw[aaS (by simpa[e1]using ef)]
     rw[Qu]at hi;cases hk:eG[i-(Iw aY IH).length]? with
     |none=>rw[hk]at hi;cases hi
     |some id=>
      rw[hk]at hi;simp only[aa3,abe]at hi;subst hi;refine⟨_,by rw[O9,<-e1,Qu,hk];rfl,NO id (Vm hk),aD⟩)
   have dR:(xs.toList.map a.eval++eG.map λid=>Value.pointer (some ⟨(ρ.aV (.ay id)).b,(ρ.aV (.ay id)).aB,none⟩)).toArray=
     xs.map a.eval++(eG.map λid=>Value.pointer (some ⟨(ρ.aV (.ay id)).b,(ρ.aV (.ay id)).aB,none⟩)).toArray:=by
    apply acu;simp
   rw[dR]at BO;refine BO.mono λe w' hR=>?_
   obtain⟨v,r,m',U',rfl,hK,nA,BP,wj⟩:=hR;obtain⟨fU,IN,hI⟩:=h.step (d:=o.dst) nA BP wj hK;exact hn fU m' U' _ w' IN hI
  .exact hs.elim
 .obtain⟨nx,v,w',cv,m',U',hr,RN,hK,nA,BP,wj⟩:=Gc hl (λf xs ts e=>hc ⟨f,xs,ts,e⟩) h.mem h.aY hs
  obtain⟨fU,IN,hI⟩:=h.step (d:=o.dst) nA BP wj hK;unfold Oper.wp;rw[hr];rcases RN with rfl|⟨rfl,rfl⟩
  .exact hn fU m' U' _ w' IN hI
  .exact hn fU m' U' _ w' IN hI
theorem uo{ops:Array Oper}:∀{l:List Oper}{cg:List LO},ns P ops l=some cg->∀(o:Oper)(r:List Oper),l=o::r->∃lo lr,cg=lo::lr/\xf P ops o=some lo/\ns P ops r=some lr:=by rintro l cg h o r rfl;simp only[ns,WE,U2]at h;obtain⟨lo,h1,lr,h2,h3⟩:=h;cases h3;exact⟨lo,lr,rfl,h1,h2⟩
theorem BQ{aY:List CV}{s:Nat}{t:Bool}(h:lm aY s=aq t):aX aY s (aq t)=aY:=by
 rw[bh];rw[mM]at h;cases hg:aY[s]? with
 |none=>rw[hg]at h;cases h
 |some c=>
  rw[hg]at h;simp only[ab7]at h;subst h;exact ab4 λi=>by
   by_cases hi:s=i
   .subst hi;rw[aaj (Lw.1 hg).1,hg]
   .rw[aam hi]
theorem xG{ops:Array Oper}{Q:Exit->Act->World->Prop}{K:List CV->Mem->Prop}(hQ:∀aY m ρ a w,K aY m->Inv N ρ0 m0 w0 ⟨aY,m⟩ ρ a w->Q .normal a w):
  ∀(l:List Oper)(k:Nat)(cg:List LO)(aY:List CV)(m:Mem)(ρ:bX)(a:Act)(w:World),ops.toList.drop k=l->ns P ops l=some cg->Km P cg K aY m->Inv N ρ0 m0 w0 ⟨aY,m⟩ ρ a w->
   wpOps P ops Q (List.range' k l.length) a w
 | [],k,cg,aY,m,ρ,a,w,hl,lv,h,hI=>by simp[ns]at lv;subst lv;exact hQ aY m ρ a w h hI
 |o::r,k,cg,aY,m,ρ,a,w,hl,lv,h,hI=>by
  obtain⟨lo,lr,rfl,h1,h2⟩:=uo lv o r rfl;have km:ops[k]? =some o:=by
   have:(ops.toList.drop k)[0]? =some o:=by rw[hl];rfl
   simpa using this
  have hr:ops.toList.drop (k+1)=r:=by rw[<-List.tail_drop,hl];rfl
  have ih:=λaY m ρ a w=>xG hQ r (k+1) lr aY m ρ a w hr h2
  simp only[xf,WE,U2]at h1;obtain⟨i,hi,g,hg,h1⟩:=h1;cases h1;simp only[aa2,ad7,wpOps,km];have skip:∀(e:List CV),Inv N ρ0 m0 w0 ⟨e,m⟩ ρ a w->(put o.dst .undef e λe'=>Km P lr K e' m)->wpOps P ops Q (List.range' (k+1) r.length) (a.put o.dst Go.undef) w:=λe hIe hp=>by obtain⟨fU,IN,qV⟩:=hIe.step (d:=o.dst) (c:= .undef) (v:=Go.undef) hIe.mem rfl (Ext.refl _ _ _) hp;exact ih _ _ _ _ _ IN qV
  have exec:∀(e:List CV),Inv N ρ0 m0 w0 ⟨e,m⟩ ρ a w->(step P i e m λv m'=>put o.dst v e λe'=>Km P lr K e' m')->o.wp P a w (wpOps P ops Q (List.range' (k+1) r.length)) Q:=λe hIe hp=>
   DA hi hIe hp λfU m' U' a' w' IN qV=>ih _ _ _ _ _ IN qV
  cases IP:o.guard with
  |none=>
   rw[IP]at hg;simp[Nn]at hg;subst hg;have hw:Region.wanted o (yielded ops a.tmps)=true:=by simp[Region.wanted,IP]
   rw[if_pos hw];simp only[Ai,IC,fq]at h;exact .inl (exec aY hI h)
  |some jb=>
   obtain⟨j,kP⟩:=jb;rw[IP]at hg;simp only[Nn,WE,U2]at hg;obtain⟨oj,VK,s,hs,hg⟩:=hg;cases hg;have hy:yielded ops a.tmps j=match a.tmps[s]? with|some (.bool b)=>some b|_=>none:=by simp[yielded,VK,hs];rfl
   simp only[Ai,IC]at h;split at h
   .rename_i ef;have cD:=hI.aY.get s;rw[ef]at cD;have hu:a.tmps[s]? =some Go.undef\/a.tmps[s]? =none:=by
     simp only[cw,ab8]at cD;cases ht:a.tmps[s]? with
     |none=>exact .inr rfl
     |some v=>rw[ht]at cD;simp at cD;exact .inl (by rw[cD])
    have hw:Region.wanted o (yielded ops a.tmps)=false:=by
     simp only[Region.wanted,IP,hy];rcases hu with hu|hu<;>rw[hu]<;>rfl
    rw[if_neg (by simp[hw])]
    exact skip aY hI h
   .rename_i t ef;have cD:=hI.aY.get s;rw[ef]at cD;have ht:a.tmps[s]? =some (.bool t):=by
     have:=(bY cD).1;rw[ab8]at this;cases ht:a.tmps[s]? with
     |none=>rw[ht]at this;cases this
     |some v=>rw[ht]at this;simp at this;rw[this]
    have hw:Region.wanted o (yielded ops a.tmps)=(t==kP):=by simp[Region.wanted,IP,hy,ht]
    have sO:∀b,t=b->aX aY s (aq b)=aY:=λb hb=>by subst hb;exact BQ ef
    rcases cP.1 h with⟨rfl,h⟩|⟨rfl,h⟩
    .simp only[fq,sO true rfl]at h;cases kP with
     |true=>rw[if_pos (by simp[hw])];exact .inl (exec aY hI h)
     |false=>rw[if_neg (by simp[hw])];exact skip aY hI h
    .simp only[fq,sO false rfl]at h;cases kP with
     |false=>rw[if_pos (by simp[hw])];exact .inl (exec aY hI h)
     |true=>rw[if_neg (by simp[hw])];exact skip aY hI h
   .exact h.elim
theorem bH.dF{ρ:bX}{w:World}{pos:Option (Nat×Nat×Nat)}{c:CC}{v:Value}(h:bH ρ w pos c v):c.dF ρ.n:=by
 cases c<;>simp only[bH]at h<;>simp only[CC.dF]
 case ptr=>exact h.1
 case oq=>exact h.1
 case row=>exact h.1
 case map=>exact h.1
 case fn=>exact h.1
theorem ep.dF{ρ:bX}{w:World}{r:RV}{v:Value}(h:ep ρ w r v):r.dF ρ.n:=by
 cases r with
 |one c=>exact bH.dF h
 |agg cs=>
  obtain⟨vs,_,_,hc⟩:=h;intro c sF;obtain⟨i,hi⟩:=aak sF;obtain⟨u,_,hd⟩:=hc i c hi;exact hd.dF
theorem cw.dF{ρ:bX}{w:World}{c:CV}{v:Value}(h:cw ρ w c v):c.dF ρ.n:=by
 cases c with
 |aH=>trivial
 |undef=>trivial
 |rv r=>exact ep.dF h
 |bG rs=>
  obtain⟨vs,_,_,hc⟩:=h;intro r hr;obtain⟨i,hi⟩:=aak hr;obtain⟨u,_,hd⟩:=hc i r hi;exact hd.dF
theorem eS.dF{ρ:bX}{w:World}{id:Nat}{b:Bk}(h:eS ρ w id b):b.dF ρ.n:=by
 cases b with
 |aE=>trivial
 |var cs=>
  obtain⟨cur,_,hc⟩:=h;intro c sF;obtain⟨i,hi⟩:=aak sF;obtain⟨u,_,hd⟩:=hc i c hi;exact hd.dF
 |row esz elems=>
  obtain⟨h1,h2,h3,h4,h5⟩:=h;intro cs fA c sF;obtain⟨i,hi⟩:=aak fA;obtain⟨j,hj⟩:=aak sF;have ax:=(Lw.1 hi).1;obtain⟨cur,_,_,hc⟩:=h5 om;obtain⟨u,_,hd⟩:=hc i cs j c hi hj;exact hd.dF
 |mp es=>
  obtain⟨fk,ck,_,_,hc⟩:=h;intro e he;obtain⟨i,hi⟩:=aak he;obtain⟨e',_,_,hd⟩:=hc i e hi;exact hd.dF
theorem nt.get:∀{m m':Mem},nt m m'->∀(i:Nat)b',m'[i]? =some b'->b'= .aE\/m[i]? =some b'
 |_,_,.nil m,i,b',h=>by simp at h
 |_,_,.cons (b:=b) (b':=b1) (m:=m) (m':=m') h hm,i,b',hi=>by
  cases i with
  |zero=>simp at hi;subst hi;rcases h with rfl|rfl<;>simp
  |succ i=>simpa using hm.get i b' (by simpa using hi)
theorem Nr.ac6{n0:Nat}{s s':St}{ρ:bX}{w:World}(h:Nr n0 s s')(hM:aK ρ s.mem w):∀b,b∈s'.mem->b.dF s'.mem.length:=by
 rcases h.kY with he|hi
 .intro b hb;obtain⟨i,hi⟩:=aak hb;rcases h.mem.get i b hi with rfl|uj
  .trivial
  .have:=(hM.bk i b uj).dF;rw[he,<-hM.n];exact this
 .exact hi
theorem Nr.view{n0:Nat}{s s':St}(hw:Nr n0 s s'):View n0 s s':=by
 refine⟨hw.n0,hw.len,λρ w mC=>?_⟩
 obtain⟨hM,cZ⟩:=mC.Nt hw.mem (hw.ac6 mC);refine⟨{ρ with n:=s'.mem.length},hM,⟨λ_ _=>rfl,λ_ h=>h,λ_ h=>.inl h,λk hk=>⟨k,cZ k hk,rfl⟩⟩,λi c hi=>?_⟩
 rcases hw.aY i c hi with rfl|⟨eM,Nu⟩
 .have ax:i<s.aY.length:=by rw[<-hw.len];exact(Lw.1 hi).1
  exact⟨_,wy ax,λ_ _=>trivial⟩
 .refine⟨c,eM,λv hd=>?_⟩
  have Y1:c.dF s'.mem.length:=by
   rcases Nu with he|Nu
   .rw[he,<-mC.n];exact hd.dF
   .exact Nu
  exact hd.cut Y1
theorem Inv.Nt{st jR:St}{ρ:bX}{a:Act}{w:World}(hI:Inv N ρ0 m0 w0 st ρ a w)(mC:ρ0.n=m0.length)(hw:View m0.length st jR):∃U',Inv N ρ0 m0 w0 jR U' a w:=by
 obtain⟨U',hM,hc,hd⟩:=hw.go ρ w hI.mem;refine⟨U',⟨by rw[mC,hM.n];exact hw.hn,λid hid=>(hc.aV id (by rw[<-mC];exact hid)).trans (hI.ext.aV id hid),λb hb=>hc.S b (hI.ext.S b hb),λb hb=>?_,λk hk=>?_,hI.ext.frame,hI.ext.size,hI.ext.os,hI.ext.tape,hI.ext.output⟩,hM,?_,hI.defers.s hc.S,hI.hN,hw.hn⟩
 .rcases hc.S' b hb with h|⟨k,hk,rfl⟩
  .exact hI.ext.S' b h
  .exact .inr (hI.ext.aF k hk)
 .obtain⟨k0,h0,e0⟩:=hc.aF k hk;rw[<-e0];exact hI.ext.aF k0 h0
 .refine⟨hI.aY.size.trans hw.len.symm,λi c hi=>?_⟩
  obtain⟨c0,sj,NP⟩:=hd i c hi;obtain⟨v,hv,zq⟩:=hI.aY.lR i c0 sj;exact⟨v,hv,NP v zq⟩
end
section
variable {P:Program}
theorem ap.mono{f:Nat}{args:List CV}{m:Mem}{K K':CV->Mem->Prop}(h:ap P f args m K)(hK:∀v m',K v m'->K' v m'):ap P f args m K':=
 ⟨h.1,λρ w vs hM hl hd=>(h.2 ρ w vs hM hl hd).mono λe w'⟨v,r,m',U',he,hk,su⟩=>⟨v,r,m',U',he,hK _ _ hk,su⟩⟩
theorem Gf{i:I}(hq:ub i=true){e:List CV}{m:Mem}{K:CV->Mem->Prop}(h:step P i e m K):
  ∃v,K v m/\∀K':CV->Mem->Prop,K' v m->step P i e m K':=by
 cases i<;>simp[ub,Ag]at hq
 case load agg n a=>
  simp only[step,w8,bb,cP]at h|-;repeat' split at h
  all_goals(try exact h.elim)
  all_goals grind
 all_goals simp only[step,bb,cP]at h|-
 all_goals(repeat' split at h)
 all_goals(try exact h.elim)
 all_goals(try(exact⟨_,h,λ_ h=>h⟩))
 all_goals grind
theorem KM{i:I}(hq:Ag i=true){e:List CV}{m:Mem}{K:CV->Mem->Prop}(h:step P i e m K):
  ∃v,K v m/\∀(m':Mem)(K':CV->Mem->Prop),K' v m'->step P i e m' K':=by
 cases i<;>simp[Ag]at hq
 all_goals simp only[step,bb,cP]at h|-
 all_goals(repeat' split at h)
 all_goals(try exact h.elim)
 all_goals(try(exact⟨_,h,λ_ _ h=>h⟩))
 all_goals grind
theorem Ay{i:I}{e:List CV}{m:Mem}{K K':CV->Mem->Prop}(h:step P i e m K)(hK:∀v m',K v m'->K' v m'):step P i e m K':=by
 cases i
 case call f args=>
  simp only[step]at h|-;split at h
  .exact h.mono hK
  .exact h.elim
 case load agg n a=>
  simp only[step,w8,bb,cP]at h|-;repeat' split at h
  all_goals(try exact h.elim)
  all_goals grind
 case len k x=>
  simp only[step,bb,cP]at h|-;repeat' split at h
  all_goals(try exact h.elim)
  all_goals grind
 all_goals simp only[step,bb,cP,kh,fq]at h|-
 all_goals(try exact hK _ _ h)
 all_goals(try(repeat' split at h))
 all_goals(try exact h.elim)
 all_goals(try exact hK _ _ h)
 all_goals grind
theorem uq{e e':List CV}:∀{xs:List X},(∀x,x∈xs->x.ev e=x.ev e')->Iw e xs=Iw e' xs
 | [],_=>rfl
 |x::r,h=>by simp only[Iw];rw[h x aD,uq λy hy=>h y (by simp[hy])]
theorem vD{e e':List CV}:∀{ps:List (Nat×Nat×X)}{z:List CC},(∀x,x∈ps.map (λp=>p.2.2)->x.ev e=x.ev e')->pu e z ps=pu e' z ps
 | [],_,_=>rfl
 |(o,s,x)::r,z,h=>by
  simp only[pu];rw[h x aD];have ih:=λz=>vD (ps:=r) (z:=z) λy hy=>h y (by simp at hy|-;exact .inr hy)
  simp only[ih]
theorem vE{e e':List CV}{esz:Nat}:∀{ps:List (Nat×X)}{z:List (List CC)},(∀x,x∈ps.map (λp=>p.2)->x.ev e=x.ev e')->vd e esz z ps=vd e' esz z ps
 | [],_,_=>rfl
 |(i,x)::r,z,h=>by
  simp only[vd];rw[h x aD];have ih:=λz=>vE (esz:=esz) (ps:=r) (z:=z) λy hy=>h y (by simp at hy|-;exact .inr hy)
  simp only[ih]
theorem Gg{i:I}{e e':List CV}{m:Mem}{K:CV->Mem->Prop}(hx:∀x,x∈i.xs->x.ev e=x.ev e')(h:step P i e m K):step P i e' m K:=by
 cases i<;>simp only[I.xs,abI,acm,or_false,forall_eq_or_imp,forall_eq]at hx
 case build z ps=>simpa only[step,vD hx]using h
 case XY esz z len ps=>simpa only[step,vE hx]using h
 case fn f eG=>simpa only[step,uq hx]using h
 case call f args=>simpa only[step,hx.1,uq hx.2]using h
 case load agg n a=>simpa only[step,w8,hx]using h
 case rz mx xs=>
  rcases xs with _|⟨x,_|⟨y,_|⟨z,r⟩⟩⟩
  .exact h
  .exact h
  .have h1:=hx x aD;have h2:=hx y aD;simpa only[step,h1,h2]using h
  .exact h
 case Vu esz x lo hi mx=>
  have NQ:∀(o:Option X)(d:Nat),(∀y,y∈o.toList->y.ev e=y.ev e')->lN e o d=lN e' o d:=λo d ho=>by
   cases o with
   |none=>rfl
   |some y=>simp only[lN];rw[ho y aD]
  have hz:∀(o:Option X),(∀y,y∈o.toList->y.ev e=y.ev e')->FG e o=FG e' o:=λo ho=>by
   cases o with
   |none=>rfl
   |some y=>simp only[FG];rw[ho y aD]
  have h1:∀d,lN e lo d=lN e' lo d:=λd=>NQ lo d λy hy=>hx.2 y (by simp[hy])
  have h2:∀d,lN e hi d=lN e' hi d:=λd=>NQ hi d λy hy=>hx.2 y (by simp[hy])
  have h3:FG e hi=FG e' hi:=hz hi λy hy=>hx.2 y (by simp[hy])
  cases mx with
  |none=>simpa only[step,hx.1,h1,h2]using h
  |some y=>
   have h4:y.ev e=y.ev e':=hx.2 y aD;simpa only[step,hx.1,h1,h2,h3,h4]using h
 case Kj x lo hi=>
  have NQ:∀(o:Option X)(d:Nat),(∀y,y∈o.toList->y.ev e=y.ev e')->lN e o d=lN e' o d:=λo d ho=>by
   cases o with
   |none=>rfl
   |some y=>simp only[lN];rw[ho y aD]
  have h1:∀d,lN e lo d=lN e' lo d:=λd=>NQ lo d λy hy=>hx.2 y (by simp[hy])
  have h2:∀d,lN e hi d=lN e' hi d:=λd=>NQ hi d λy hy=>hx.2 y (by simp[hy])
  simpa only[step,hx.1,h1,h2]using h
 case len k x=>
  match k with
  |0=>simpa only[step,hx]using h
  |1=>simpa only[step,hx]using h
  |2=>simpa only[step,hx]using h
  |k+3=>simpa only[step,hx]using h
 all_goals first
  |(simpa only[step,hx,hx.1,hx.2]using h)
  |(simpa only[step,hx]using h)
  |(simpa only[step]using h)
end
end Go.AM
