/- Part 9 of 16. -/
import Derived.Test.YtodckkkbiidffaaGreatDoorH08
import Derived.IntWalk
set_option linter.unusedVariables false
set_option linter.unusedSimpArgs false
set_option maxRecDepth 100000
set_option maxHeartbeats 0
namespace Go.AM
section
variable {P:Program}
theorem aM{t:Bool}{A B:Prop}(ha:t=true->A)(hb:t=false->B): @Bool.rec (λ_=>Prop) B A t:=by
 cases t
 .exact hb rfl
 .exact ha rfl
theorem cE{t:Bool}{A B:Prop}(h:t=true)(ha:A): @Bool.rec (λ_=>Prop) B A t:=by subst h;exact ha
theorem rP{t:Bool}{A B:Prop}(h:t=false)(ha:B): @Bool.rec (λ_=>Prop) B A t:=by subst h;exact ha
theorem af{α:Type}{o:Option α}{K:α->Prop}{x:α}(h:o=some x)(k:K x): @Option.rec α (λ_=>Prop) False K o:=by subst h;exact k
theorem Hr{α:Type}(l:List α)(n:Int):dC l n=if 0<=n then l[n.toNat]? else none:=by
 cases n with
 |ofNat k=>simp[dC,aT]
 |negSucc k=>simp[dC]
theorem bD{α:Type}(l:List α)(k:Nat):dC l (k:Int)=l[k]? :=by simp[Hr]
theorem PY(n:Int)(len:Nat):dQ n len=if 0<=n/\n.toNat<len then some n.toNat else none:=by
 cases n with
 |ofNat k=>
  simp only[dQ];cases h:Nat.blt k len
  .have:¬k<len:=λhh=>by rw[<-abW]at hh;rw[hh]at h;cases h
   simp[this]
  .rw[abW]at h;simp[h]
 |negSucc k=>simp[dQ]
theorem ct{k len:Nat}(h:k<len):dQ (k:Int) len=some k:=by rw[PY,if_pos ⟨om,by simpa using h⟩];simp
inductive mR:List CV->List CV->Prop
 |nil:mR [] []
 |aF {v:CV} {e e':List CV} (h:mR e e'):mR (v::e) (.aF::e')
 |eN {v:CV} {e e':List CV} (h:mR e e'):mR (v::e) (v::e')
theorem mR.len{e e':List CV}(h:mR e e'):e'.length=e.length:=by
 induction h<;>simp[*]
theorem mR.get{e e':List CV}(h:mR e e'):∀(i:Nat)v,e'[i]? =some v->v= .aF\/e[i]? =some v:=by
 induction h with
 |nil=>intro i v h;simp at h
 |aF h ih=>
  intro i v hv;cases i with
  |zero=>simp at hv;exact .inl hv.symm
  |succ i=>simpa using ih i v (by simpa using hv)
 |eN h ih=>
  intro i v hv;cases i with
  |zero=>simp at hv;exact .inr (by simp[hv])
  |succ i=>simpa using ih i v (by simpa using hv)
theorem mR.put{v v':CV}{e e':List CV}(hv:v=v')(h:mR e e'):mR (v::e) (v'::e'):=by subst hv;exact .eN h
theorem nY{n:Nat}(h:n<=9223372036854775807):IntKind.i64.wrap (n:Int)=n:=IntWalk.i64_in n om
theorem cP{k:Nat}(h:k<9223372036854775807):(CV.rv (.one (.ah (.val (.int .i64 (IntKind.i64.wrap ((k:Int)+1)))))))=an .i64 ((k+1:Nat):Int):=by have:=nY (n:=k+1) om;unfold an;rw[<-this];rfl
theorem mI.refl:∀(m:Mem),mI m m
 | []=>.nil []
 |b::r=>.cons (.inl rfl) (mI.refl r)
theorem CH{n0:Nat}{e e':List CV}{m:Mem}(hn:n0<=m.length)(h:mR e e'):View n0 ⟨e,m⟩ ⟨e',m⟩:=
 Lu.view ⟨hn,h.len,λi v hv=>(h.get i v hv).imp id λh=>⟨h,.inl rfl⟩,mI.refl m,.inl rfl⟩
def RJ(i:Nat)(v:CV):List (Nat×CV)->CV
 | []=>v
 |(j,x)::r=>match Nat.beq i j with|true=>x|false=>RJ i v r
def RK(f:List (Nat×CV)):Nat->List CV->(List CV->List CV)->List CV
 |_,[],k=>k []
 |i,v::r,k=>fV (RJ i v f) λv'=>RK f (i+1) r λr'=>k (v'::r')
def CI(e:List CV)(f:List (Nat×CV)):List CV:=RK f 0 e λe=>e
def Ml(m:Mem):List (Nat×Bk)->Mem
 | []=>m
 |(i,v)::r=>aW (Ml m r) i v
theorem Mm{n0:Nat}{b:LC}{K:Ex->St->Prop}{s:St}{α:Type}(J:α->Prop)(f:α->List (Nat×CV))(g:α->List (Nat×Bk))(μ:α->Nat)(a0:α)(h0:J a0)(start:View n0 s ⟨CI s.aX (f a0),Ml s.mem (g a0)⟩)(round:∀a,J a->aw P n0 b (G6 n0 J (λa=>⟨CI s.aX (f a),Ml s.mem (g a)⟩) μ (μ a) K) ⟨CI s.aX (f a),Ml s.mem (g a)⟩):aw P n0 (.loop b) K s:=
 ⟨α,J,λa=>⟨CI s.aX (f a),Ml s.mem (g a)⟩,μ,⟨a0,h0,start⟩,round⟩
end
section
variable {P:Program}
inductive eV(m:Mem):CC->CC->Prop
 |ah (d:Dt):eV m (.ah d) (.ah d)
 |aK (esz:Nat):eV m .aK (.ah (.sl esz []))
 |fn (f:Nat):eV m (.fn f []) (.fn f [])
 |row (id esz lo:Nat) (hi:Option Nat) (elems:List (List CC)) (ds:List (List Dt)) (h:m[id]? =some (.row esz elems)) (hl:elems.length=ds.length)
   (hd:∀(i:Nat)cs es,elems[i]? =some cs->ds[i]? =some es->cs.length=es.length/\∀(j:Nat)c d,cs[j]? =some c->es[j]? =some d->c= .ah d\/∃s e,c= .d5 s e/\d= .sl s e):
   eV m (.row id esz lo hi) (.ah (.sl esz (bV ds lo hi)))
inductive eP(m:Mem):RV->RV->Prop
 |one {c c':CC} (h:eV m c c'):eP m (.one c) (.one c')
 |agg {cs e7:List CC} (hl:cs.length=e7.length) (h:∀(i:Nat)c c',cs[i]? =some c->e7[i]? =some c'->eV m c c'):eP m (.agg cs) (.agg e7)
inductive cL(m:Mem):CV->CV->Prop
 |rv {r r':RV} (h:eP m r r'):cL m (.rv r) (.rv r')
 |bz {rs I8:List RV} (hl:rs.length=I8.length) (h:∀(i:Nat)r r',rs[i]? =some r->I8[i]? =some r'->eP m r r'):cL m (.bz rs) (.bz I8)
def bG.fE(ρ:bG)(ρ1:bG)(m1:Mem):bG:={ρ with S:=λb=>ρ1.S b\/∃k,Live ρ1 m1 k/\(ρ1.aH k).b=b}
theorem rQ{α:Type}(l:List α)(lo:Nat)(hi:Option Nat)(i:Nat)(x:α)(h:(bV l lo hi)[i]? =some x):l[lo+i]? =some x:=by
 rw[jE]at h;rw[aaX]at h;cases hi with
 |none=>exact h
 |some k=>
  simp only at h;rw[aaF]at h;split at h
  .exact h
  .cases h
theorem CJ{α:Type}(l:List α)(lo:Nat)(hi:Option Nat)(h1:lo<=hi.getD l.length)(h2:hi.getD l.length<=l.length):(bV l lo hi).length=hi.getD l.length-lo:=by
 rw[jE];cases hi with
 |none=>simp
 |some k=>simp at h1 h2|-;omega
theorem eV.jD{ρ ρ1:bG}{m1:Mem}{w:World}(hM:ax ρ1 m1 w){c c':CC}(h:eV m1 c c'){v:Value}(hd:bi ρ1 w .none c v):bi (ρ.fE ρ1 m1) w .none c' v:=by
 have mono:∀{d:Dt}{v:Value},de ρ1.S w d v->de (ρ.fE ρ1 m1).S w d v:=λh=>h.mono (λ_ h=>.inl h) (λ_ _=>rfl)
 cases h with
 |ah d=>exact mono hd
 |aK esz=>
  obtain⟨a,rfl⟩:=hd;exact .nil esz a 0 (aan _)
 |fn f=>
  obtain⟨_,rfl⟩:=hd;exact⟨aC,rfl⟩
 |row id esz lo hi elems ds hb hl L9=>
  obtain⟨h1,h2,h3,h4,h5,a,rfl,ha⟩:=hd;obtain⟨g1,g2,g3,g4,g5⟩:=hM.bk id _ hb;have l4:ds.length=(ρ1.aH (.aj id)).len:=om;have hlen:(bV ds lo hi).length=hi.getD (ρ1.aH (.aj id)).len-lo:=by
   rw[<-l4];exact CJ ds lo hi (by rw[l4];exact h2) (by rw[l4];exact h3)
  show de _ w (.sl esz (bV ds lo hi)) _;rw[<-hlen];rcases abz (bV ds lo hi).length with h0|cH
  .rw[h0,aai h0];exact .nil esz a _ om
  .have ia:lo<(ρ1.aH (.aj id)).cap:=om;obtain⟨cur,bW,dj,dG⟩:=g5 om;rw[ha ia];have key:∀(i:Nat)es(j:Nat)d,(bV ds lo hi)[i]? =some es->es[j]? =some d->∃u,w.cell? ⟨(ρ1.aH (.aj id)).b,(ρ1.aH (.aj id)).ar+lo*esz+i*esz+j,.none⟩=some u/\de (ρ.fE ρ1 m1).S w d u:=by
    intro i es j d eH hj;have eY:=rQ ds lo hi i es eH;have aD:lo+i<elems.length:=by rw[hl];exact(JJ.1 eY).1
    have K3:=vl aD;obtain⟨oI,eC⟩:=L9 _ _ _ K3 eY;have d9:j<elems[lo+i].length:=by rw[oI];exact(JJ.1 hj).1
    have RL:=vl d9;obtain⟨u,hu,cu⟩:=dG _ _ _ _ K3 RL;refine⟨u,?_,?_⟩
    .rw[bW.cell,<-hu];congr 1;rw[aaZ];omega
    .rcases eC _ _ _ RL hj with hc|⟨s,e,hc,rfl⟩
     .rw[hc]at cu;exact mono cu
     .rw[hc]at cu RL;obtain⟨j9,i',j',zi,q1,q2,a',rfl,q3⟩:=cu;simp only[aat,acM]at zi;obtain⟨rfl,rfl,rfl⟩:=zi;rcases abz e.length with he|he
      .rw[aai he];exact .nil s a' _ om
      .have jW:dP m1 id (lo+i) j s e:=⟨_,hb,.row K3 RL⟩;obtain⟨gK,Cw,w1,w2,w3⟩:=hM.d5 _ _ _ _ _ jW om;rw[q3 om];have Ax:Live ρ1 m1 (.sub id (lo+i) j):=⟨⟨_,_,jW⟩,om⟩;have ky:∀(i2:Nat)cs(j2:Nat)d2,e[i2]? =some cs->cs[j2]? =some d2->∃u,w.cell? ⟨(ρ1.aH (.sub id (lo+i) j)).b,(ρ1.aH (.sub id (lo+i) j)).ar+i2*s+j2,.none⟩=some u/\de (ρ.fE ρ1 m1).S w d2 u:=by
        intro i2 cs j2 d2 eY lG;obtain⟨u,hu,hd⟩:=w3 i2 cs j2 d2 eY lG;exact⟨u,by rw[Cw.cell];exact hu,mono hd⟩
       exact de.sl s e _ _ _ (λi2 j2=>(w.cell? ⟨(ρ1.aH (.sub id (lo+i) j)).b,(ρ1.aH (.sub id (lo+i) j)).ar+i2*s+j2,.none⟩).getD Go.undef) (.inr ⟨_,Ax,rfl⟩) q1 q2 w2
        (λi2 cs j2 d2 eY lG=>by obtain⟨u,hu,_⟩:=ky i2 cs j2 d2 eY lG;rw[hu];rfl)
        (λi2 cs j2 d2 eY lG=>by obtain⟨u,hu,hd⟩:=ky i2 cs j2 d2 eY lG;rw[hu];exact hd)
   refine de.sl esz (bV ds lo hi) _ _ _ (λi j=>(w.cell? ⟨(ρ1.aH (.aj id)).b,(ρ1.aH (.aj id)).ar+lo*esz+i*esz+j,.none⟩).getD Go.undef) (.inr ⟨.aj id,⟨_,hb,aC,λ_=>om⟩,rfl⟩) om om (λes nV=>?_)
    (λi cs j d eH hj=>by obtain⟨u,hu,_⟩:=key i cs j d eH hj;rw[hu];rfl)
    (λi cs j d eH hj=>by obtain⟨u,hu,hd⟩:=key i cs j d eH hj;rw[hu];exact hd)
   obtain⟨i,eH⟩:=X1 nV;have eY:=rQ ds lo hi i es eH;have aD:lo+i<elems.length:=by rw[hl];exact(JJ.1 eY).1
   have K3:=vl aD;obtain⟨oI,_⟩:=L9 _ _ _ K3 eY;rw[<-oI];exact g4 _ (aar aD)
theorem eP.jD{ρ ρ1:bG}{m1:Mem}{w:World}(hM:ax ρ1 m1 w){c c':RV}(h:eP m1 c c'){v:Value}(hd:df ρ1 w c v):df (ρ.fE ρ1 m1) w c' v:=by
 cases h with
 |one h=>exact h.jD hM hd
 |agg hl h=>
  obtain⟨vs,rfl,h1,h2⟩:=hd;refine⟨vs,rfl,h1.trans hl,λi c' hi=>?_⟩
  rename_i cs e7;have aD:i<cs.length:=by rw[hl];exact(JJ.1 hi).1
  obtain⟨u,hu,hd⟩:=h2 i _ (vl aD);exact⟨u,hu,(h i _ _ (vl aD) hi).jD hM hd⟩
theorem cL.jD{ρ ρ1:bG}{m1:Mem}{w:World}(hM:ax ρ1 m1 w){c c':CV}(h:cL m1 c c'){v:Value}(hd:bZ ρ1 w c v):bZ (ρ.fE ρ1 m1) w c' v:=by
 cases h with
 |rv h=>exact h.jD hM hd
 |bz hl h=>
  obtain⟨vs,rfl,h1,h2⟩:=hd;refine⟨vs,rfl,h1.trans hl,λi c' hi=>?_⟩
  rename_i cs e7;have aD:i<cs.length:=by rw[hl];exact(JJ.1 hi).1
  obtain⟨u,hu,hd⟩:=h2 i _ (vl aD);exact⟨u,hu,(h i _ _ (vl aD) hi).jD hM hd⟩
def CC.dv:CC->Bool
 | .ah _=>true
 | .fn _ []=>true
 |_=>false
def CV.dv:CV->Bool
 | .rv (.one c)=>c.dv
 | .rv (.agg cs)=>cs.all CC.dv
 |_=>false
theorem CC.rR{ρ U':bG}{w:World}{c:CC}{v:Value}(hc:c.dv=true)(hS:∀b,ρ.S b->U'.S b)(h:bi ρ w .none c v):bi U' w .none c v:=by
 cases c
 case ah d=>exact de.mono (S:=ρ.S) (S':=U'.S) (w:=w) (w':=w) hS (λ_ _=>rfl) h
 case fn f eD=>
  cases eD with
  |nil=>exact⟨aC,h.2⟩
  |cons c r=>simp[CC.dv]at hc
 all_goals simp[CC.dv]at hc
theorem CV.rR{ρ U':bG}{w:World}{c:CV}{v:Value}(hc:c.dv=true)(hS:∀b,ρ.S b->U'.S b)(h:bZ ρ w c v):bZ U' w c v:=by
 cases c with
 |rv r=>
  cases r with
  |one c=>exact CC.rR hc hS h
  |agg cs=>
   obtain⟨vs,rfl,h1,h2⟩:=h;refine⟨vs,rfl,h1,λi c hi=>?_⟩
   obtain⟨u,hu,hd⟩:=h2 i c hi;exact⟨u,hu,CC.rR (abA.1 hc c (Sj hi)) hS hd⟩
 |_=>simp[CV.dv]at hc
theorem be{f:Nat}{args:List CV}{m:Mem}{K0 K:CV->Mem->Prop}(h:ap P f args [] K0)(ha:∀c,c∈args->c.dv=true)(hK:∀r m1,K0 r m1->∃r',cL m1 r r'/\K r' m):ap P f args m K:=by
 refine⟨h.1,λρ w vs hM hl hd=>?_⟩
 let ρ0:bG:={n:=0,aH:=λ_=>⟨0,0,0,0⟩,S:=ρ.S}
 have lY:ax ρ0 [] w:={
  n:=rfl
  S:=hM.S
  aP:=λk h=>by have:=h.eK;simp at this
  inj:=λk k' h=>by have:=h.eK;simp at this
  bk:=λid b h=>by simp at h
  d5:=λid i j esz elems h=>by obtain⟨_,h,_⟩:=h;simp at h}
 refine(h.2 ρ0 w vs lY hl λi c hi=>?_).mono λe w'⟨v,r,m1,ρ1,he,hk,rH,u6,hx⟩=>?_
 .obtain⟨v,hv,hd⟩:=hd i c hi;exact⟨v,hv,CV.rR (ρ:=ρ) (U':=ρ0) (ha c (Sj hi)) (λ_ h=>h) hd⟩
 .obtain⟨r',hf,fS⟩:=hK r m1 hk;have jY:∀k,¬Live ρ0 [] k:=λk h=>by have:=h.eK;simp at this
  have vA:∀b,b<w.heap.size->w'.heap[b]? =w.heap[b]? :=λb hb=>hx.frame b hb λk hk=>absurd hk (jY k)
  have hS':∀b,(ρ.fE ρ1 m1).S b->ρ.S b\/w.heap.size<=b:=by
   rintro b (hb|⟨k,hk,rfl⟩)
   .rcases hx.S' b hb with h|h|⟨k,hk,_⟩
    .exact .inl h
    .exact .inr h
    .exact absurd hk (jY k)
   .rcases hx.aP k hk with h|⟨k0,h0,_⟩
    .exact .inr h
    .exact absurd h0 (jY k0)
  have b9:∀k,Live (ρ.fE ρ1 m1) m k↔Live ρ m k:=λk=>by cases k<;>rfl
  have g:iA ρ w (ρ.fE ρ1 m1) w':=⟨T5 _,λ_ _=>rfl,λb hb=>.inl (hx.S b hb),λb hb=>vA b (hM.S b hb)⟩
  refine⟨v,r',m,ρ.fE ρ1 m1,he,fS,⟨hM.n,?_,?_,?_,?_,?_⟩,hf.jD rH u6,⟨T5 _,λ_ _=>rfl,g.S,?_,?_,λb hb _=>vA b hb,hx.size,hx.os,hx.tape,hx.output⟩⟩
  .intro b hb;rcases hb with hb|⟨k,hk,rfl⟩
   .exact rH.S b hb
   .exact(rH.aP k hk).1
  .intro k hk;have h1:=hM.aP k ((b9 k).1 hk);refine⟨aaA h1.1 hx.size,λhS=>?_⟩
   rcases hS' _ hS with h|h
   .exact h1.2 h
   .have:(ρ.aH k).b<w.heap.size:=h1.1;have h':w.heap.size<=(ρ.aH k).b:=h;omega
  .exact λk k' hk fS=>hM.inj k k' ((b9 k).1 hk) ((b9 k').1 fS)
  .intro id b hb;have h1:=hM.bk id b hb;have bW:∀{mk:Prop}cur,((∃k,k.id=id/\Live ρ m k/\(ρ.aH k).b=(ρ.aH (.aj id)).b))->mf mk w (ρ.aH (.aj id)).b cur->mf mk w' (ρ.aH (.aj id)).b cur:=λ{mk}cur _ hc=>hc.dB (vA _ hc.lt)
   cases b with
   |aR=>trivial
   |var cs=>
    obtain⟨cur,bW,h2⟩:=h1;exact⟨cur,bW.dB (vA _ bW.lt),λj c hj=>let⟨u,hu,hd⟩:=h2 j c hj;⟨u,hu,bi.ce g aC hd⟩⟩
   |row esz elems=>
    obtain⟨h2,h3,h4,h5,h6⟩:=h1;refine⟨h2,h3,h4,h5,λhp=>?_⟩
    obtain⟨cur,bW,h7,h8⟩:=h6 hp;exact⟨cur,bW.dB (vA _ bW.lt),h7,λi cs j c hi hj=>let⟨u,hu,hd⟩:=h8 i cs j c hi hj;⟨u,hu,bi.ce g (by intro j9 i' j' e';cases e';rw[hM.n];exact(JJ.1 hb).1) hd⟩⟩
   |mp es=>
    obtain⟨br,ck,h2,h3,h4⟩:=h1;exact⟨br,ck,⟨(vA _ (aaw.1 h2.1).1).trans h2.1,h2.2⟩,h3,λi e he=>let⟨e',mD,hk,hd⟩:=h4 i e he;⟨e',mD,hk,df.ce g hd⟩⟩
   |it cur left=>
    obtain⟨mb,seen,ck,br,h2,h3,h4,h5,h6⟩:=h1;exact⟨mb,seen,ck,br,(vA _ (aaw.1 h2).1).trans h2,h3,g.S _ h4,(g.heap mb h4).trans h5,h6⟩
   |mo esz es so=>exact cI.ce (bk:= .mo esz es so) g (by rw[hM.n];exact(JJ.1 hb).1) (λ_ _=>by obtain⟨br,ck,h2,_⟩:=h1;exact vA _ (aaw.1 h2.1).1) h1
   |iw mid gZ seen=>exact cI.ce (bk:= .iw mid gZ seen) g (by rw[hM.n];exact(JJ.1 hb).1) (λ_ _=>by obtain⟨_,_,s,h2,_⟩:=h1;exact vA _ (aaw.1 h2).1) h1
  .intro id i j esz el ho bc;obtain⟨cur,bW,h2,h3,h4⟩:=hM.d5 id i j esz el ho bc;exact⟨cur,bW.dB (vA _ bW.lt),h2,h3,λi cs j d hi hj=>let⟨u,hu,hd⟩:=h4 i cs j d hi hj;⟨u,hu,de.mono g.S g.heap hd⟩⟩
  .intro b hb;rcases hS' b hb with h|h
   .exact .inl h
   .exact .inr (.inl h)
  .intro k hk;exact .inr ⟨k,(b9 k).1 hk,rfl⟩
def RV.dv:RV->Bool
 | .one c=>c.dv
 | .agg cs=>cs.all CC.dv
def CV.CK:CV->Bool
 | .rv r=>r.dv
 | .bz rs=>rs.all RV.dv
 |_=>false
theorem eV.self{m:Mem}{c:CC}(h:c.dv=true):eV m c c:=by
 cases c
 case ah d=>exact .ah _
 case fn f eD=>
  cases eD with
  |nil=>exact .fn f
  |cons c r=>simp[CC.dv]at h
 all_goals simp[CC.dv]at h
theorem eP.self{m:Mem}{r:RV}(h:r.dv=true):eP m r r:=by
 cases r with
 |one c=>exact .one (eV.self h)
 |agg cs=>
  refine .agg rfl λi c c' h1 h2=>?_
  rw[h1]at h2;cases h2;exact eV.self (abA.1 h c (Sj h1))
theorem cL.self{m:Mem}{v:CV}(h:v.CK=true):cL m v v:=by
 cases v with
 |rv r=>exact .rv (eP.self h)
 |bz rs=>
  refine .bz rfl λi c c' h1 h2=>?_
  rw[h1]at h2;cases h2;exact eP.self (abA.1 h c (Sj h1))
 |_=>simp[CV.CK]at h
theorem bA{f:Nat}{fn:Func}{lf:LF}{args:List CV}{r0:CV}(hf:P.funcs[f]? =some fn)(hl:bw P fn=some lf)(hn:(fn.name== "runtime.NumGoroutine")=false)(hle:args.length<=lf.n)(h:body P lf args [] λr _=>r=r0)(ha:args.all CV.dv=true)(hr:r0.CK=true){m:Mem}{K:CV->Mem->Prop}(hK:K r0 m):ap P f args m K:=
 be (wC hf hl hn hle h) (λc hc=>abA.1 ha c hc) λr m1 he=>⟨r0,by subst he;exact .self hr,hK⟩
theorem uS{f:Nat}{fn:Func}{lf:LF}{args:List CV}{r0:CV}(hf:P.funcs[f]? =some fn)(hl:bw P fn=some lf.er)(hn:(fn.name== "runtime.NumGoroutine")=false)(hle:args.length<=lf.n)(h:body P lf args [] λr _=>r=r0)(ha:args.all CV.dv=true)(hr:r0.CK=true){m:Mem}{K:CV->Mem->Prop}(hK:K r0 m):ap P f args m K:=
 be (nG hf hl hn hle h) (λc hc=>abA.1 ha c hc) λr m1 he=>⟨r0,by subst he;exact .self hr,hK⟩
theorem eV.eW{m:Mem}{id esz:Nat}{ds:List (List Dt)}(h:m[id]? =some (.row esz (ds.map λes=>es.map .ah)))(lo:Nat)(hi:Option Nat):eV m (.row id esz lo hi) (.ah (.sl esz (bV ds lo hi))):=by
 refine .row id esz lo hi _ ds h aC λi cs es h1 h2=>?_
 rw[Sf,h2]at h1;cases h1;refine⟨aC,λj c d h3 h4=>.inl ?_⟩
 rw[Sf,h4]at h3;cases h3;rfl
end
end Go.AM
