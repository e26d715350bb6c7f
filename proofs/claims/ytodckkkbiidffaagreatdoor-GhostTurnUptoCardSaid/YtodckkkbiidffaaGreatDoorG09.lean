/- Part 9 of 16. -/
import Derived.Test.YtodckkkbiidffaaGreatDoorG08
import Derived.IntWalk
set_option linter.unusedVariables false
set_option linter.unusedSimpArgs false
set_option maxRecDepth 100000
set_option maxHeartbeats 0
namespace Go.AM
section
variable {P:Program}
theorem aM{t:Bool}{A B:Prop}(ha:t=true->A)(hb:t=false->B): @Bool.rec (λ_=>Prop) B A t:=by
 cases t
 .exact hb rfl
 .exact ha rfl
theorem cA{t:Bool}{A B:Prop}(h:t=true)(ha:A): @Bool.rec (λ_=>Prop) B A t:=by subst h;exact ha
theorem pL{t:Bool}{A B:Prop}(h:t=false)(ha:B): @Bool.rec (λ_=>Prop) B A t:=by subst h;exact ha
theorem ag{α:Type}{o:Option α}{K:α->Prop}{x:α}(h:o=some x)(k:K x): @Option.rec α (λ_=>Prop) False K o:=by subst h;exact k
theorem GW{α:Type}(l:List α)(n:Int):dx l n=if 0<=n then l[n.toNat]? else none:=by
 cases n with
 |ofNat k=>simp[dx,aT]
 |negSucc k=>simp[dx]
theorem bA{α:Type}(l:List α)(k:Nat):dx l (k:Int)=l[k]? :=by simp[GW]
theorem Ph(n:Int)(len:Nat):dN n len=if 0<=n/\n.toNat<len then some n.toNat else none:=by
 cases n with
 |ofNat k=>
  simp only[dN];cases h:Nat.blt k len
  .have:¬k<len:=λhh=>by rw[<-abL]at hh;rw[hh]at h;cases h
   simp[this]
  .rw[abL]at h;simp[h]
 |negSucc k=>simp[dN]
theorem cr{k len:Nat}(h:k<len):dN (k:Int) len=some k:=by rw[Ph,if_pos ⟨om,by simpa using h⟩];simp
inductive mI:List CV->List CV->Prop
 |nil:mI [] []
 |ap {v:CV} {e e':List CV} (h:mI e e'):mI (v::e) (.ap::e')
 |eE {v:CV} {e e':List CV} (h:mI e e'):mI (v::e) (v::e')
theorem mI.len{e e':List CV}(h:mI e e'):e'.length=e.length:=by
 induction h<;>simp[*]
theorem mI.get{e e':List CV}(h:mI e e'):∀(i:Nat)v,e'[i]? =some v->v= .ap\/e[i]? =some v:=by
 induction h with
 |nil=>intro i v h;simp at h
 |ap h ih=>
  intro i v hv;cases i with
  |zero=>simp at hv;exact .inl hv.symm
  |succ i=>simpa using ih i v (by simpa using hv)
 |eE h ih=>
  intro i v hv;cases i with
  |zero=>simp at hv;exact .inr (by simp[hv])
  |succ i=>simpa using ih i v (by simpa using hv)
theorem mI.put{v v':CV}{e e':List CV}(hv:v=v')(h:mI e e'):mI (v::e) (v'::e'):=by subst hv;exact .eE h
theorem nI{n:Nat}(h:n<=9223372036854775807):IntKind.i64.wrap (n:Int)=n:=IntWalk.i64_in n om
theorem aN{k:Nat}(h:k<9223372036854775807):(CV.rv (.one (.aa (.val (.int .i64 (IntKind.i64.wrap ((k:Int)+1)))))))=an .i64 ((k+1:Nat):Int):=by have:=nI (n:=k+1) om;unfold an;rw[<-this];rfl
theorem mB.refl:∀(m:Mem),mB m m
 | []=>.nil []
 |b::r=>.cons (.inl rfl) (mB.refl r)
theorem Ck{n0:Nat}{e e':List CV}{m:Mem}(hn:n0<=m.length)(h:mI e e'):View n0 ⟨e,m⟩ ⟨e',m⟩:=
 KM.view ⟨hn,h.len,λi v hv=>(h.get i v hv).imp id λh=>⟨h,.inl rfl⟩,mB.refl m,.inl rfl⟩
def Q9(i:Nat)(v:CV):List (Nat×CV)->CV
 | []=>v
 |(j,x)::r=>match Nat.beq i j with|true=>x|false=>Q9 i v r
def Ra(f:List (Nat×CV)):Nat->List CV->(List CV->List CV)->List CV
 |_,[],k=>k []
 |i,v::r,k=>fV (Q9 i v f) λv'=>Ra f (i+1) r λr'=>k (v'::r')
def Cm(e:List CV)(f:List (Nat×CV)):List CV:=Ra f 0 e λe=>e
def Lx(m:Mem):List (Nat×Bk)->Mem
 | []=>m
 |(i,v)::r=>aW (Lx m r) i v
theorem Ly{n0:Nat}{b:LC}{K:Ex->St->Prop}{s:St}{α:Type}(J:α->Prop)(f:α->List (Nat×CV))(g:α->List (Nat×Bk))(μ:α->Nat)(a0:α)(h0:J a0)(start:View n0 s ⟨Cm s.aX (f a0),Lx s.mem (g a0)⟩)(round:∀a,J a->aw P n0 b (GA n0 J (λa=>⟨Cm s.aX (f a),Lx s.mem (g a)⟩) μ (μ a) K) ⟨Cm s.aX (f a),Lx s.mem (g a)⟩):aw P n0 (.loop b) K s:=
 ⟨α,J,λa=>⟨Cm s.aX (f a),Lx s.mem (g a)⟩,μ,⟨a0,h0,start⟩,round⟩
end
section
variable {P:Program}
inductive eT(m:Mem):CC->CC->Prop
 |aa (d:Dt):eT m (.aa d) (.aa d)
 |aO (esz:Nat):eT m .aO (.aa (.sl esz []))
 |fn (f:Nat):eT m (.fn f []) (.fn f [])
 |row (id esz lo:Nat) (hi:Option Nat) (elems:List (List CC)) (ds:List (List Dt)) (h:m[id]? =some (.row esz elems)) (hl:elems.length=ds.length)
   (hd:∀(i:Nat)cs es,elems[i]? =some cs->ds[i]? =some es->cs.length=es.length/\∀(j:Nat)c d,cs[j]? =some c->es[j]? =some d->c= .aa d\/∃s e,c= .dV s e/\d= .sl s e):
   eT m (.row id esz lo hi) (.aa (.sl esz (bV ds lo hi)))
inductive e7(m:Mem):RV->RV->Prop
 |one {c c':CC} (h:eT m c c'):e7 m (.one c) (.one c')
 |agg {cs eR:List CC} (hl:cs.length=eR.length) (h:∀(i:Nat)c c',cs[i]? =some c->eR[i]? =some c'->eT m c c'):e7 m (.agg cs) (.agg eR)
inductive cQ(m:Mem):CV->CV->Prop
 |rv {r r':RV} (h:e7 m r r'):cQ m (.rv r) (.rv r')
 |bz {rs It:List RV} (hl:rs.length=It.length) (h:∀(i:Nat)r r',rs[i]? =some r->It[i]? =some r'->e7 m r r'):cQ m (.bz rs) (.bz It)
def bF.fy(U:bF)(ρ1:bF)(m1:Mem):bF:={U with S:=λb=>ρ1.S b\/∃k,Live ρ1 m1 k/\(ρ1.aH k).b=b}
theorem rA{α:Type}(l:List α)(lo:Nat)(hi:Option Nat)(i:Nat)(x:α)(h:(bV l lo hi)[i]? =some x):l[lo+i]? =some x:=by
 rw[jv]at h;rw[abp]at h;cases hi with
 |none=>exact h
 |some k=>
  simp only at h;rw[aa8]at h;split at h
  .exact h
  .cases h
theorem Cn{α:Type}(l:List α)(lo:Nat)(hi:Option Nat)(h1:lo<=hi.getD l.length)(h2:hi.getD l.length<=l.length):(bV l lo hi).length=hi.getD l.length-lo:=by
 rw[jv];cases hi with
 |none=>simp
 |some k=>simp at h1 h2|-;omega
theorem eT.jR{U ρ1:bF}{m1:Mem}{w:World}(hM:au ρ1 m1 w){c c':CC}(h:eT m1 c c'){v:Value}(hd:bh ρ1 w .none c v):bh (U.fy ρ1 m1) w .none c' v:=by
 have mono:∀{d:Dt}{v:Value},c7 ρ1.S w d v->c7 (U.fy ρ1 m1).S w d v:=λh=>h.mono (λ_ h=>.inl h) (λ_ _=>rfl)
 cases h with
 |aa d=>exact mono hd
 |aO esz=>
  obtain⟨a,rfl⟩:=hd;exact .nil esz a 0 (aaj _)
 |fn f=>
  obtain⟨_,rfl⟩:=hd;exact⟨aC,rfl⟩
 |row id esz lo hi elems ds hb hl Lm=>
  obtain⟨h1,h2,h3,h4,h5,a,rfl,ha⟩:=hd;obtain⟨g1,g2,g3,g4,g5⟩:=hM.bk id _ hb;have lT:ds.length=(ρ1.aH (.al id)).len:=om;have hlen:(bV ds lo hi).length=hi.getD (ρ1.aH (.al id)).len-lo:=by
   rw[<-lT];exact Cn ds lo hi (by rw[lT];exact h2) (by rw[lT];exact h3)
  show c7 _ w (.sl esz (bV ds lo hi)) _;rw[<-hlen];rcases abu (bV ds lo hi).length with h0|cH
  .rw[h0,aag h0];exact .nil esz a _ om
  .have gY:lo<(ρ1.aH (.al id)).cap:=om;obtain⟨cur,bT,dn,dD⟩:=g5 om;rw[ha gY];have key:∀(i:Nat)es(j:Nat)d,(bV ds lo hi)[i]? =some es->es[j]? =some d->∃u,w.cell? ⟨(ρ1.aH (.al id)).b,(ρ1.aH (.al id)).ar+lo*esz+i*esz+j,.none⟩=some u/\c7 (U.fy ρ1 m1).S w d u:=by
    intro i es j d ew hj;have eO:=rA ds lo hi i es ew;have aD:lo+i<elems.length:=by rw[hl];exact(I4.1 eO).1
    have Kh:=uX aD;obtain⟨oh,eB⟩:=Lm _ _ _ Kh eO;have d8:j<elems[lo+i].length:=by rw[oh];exact(I4.1 hj).1
    have Rb:=uX d8;obtain⟨u,hu,ct⟩:=dD _ _ _ _ Kh Rb;refine⟨u,?_,?_⟩
    .rw[bT.cell,<-hu];congr 1;rw[abr];omega
    .rcases eB _ _ _ Rb hj with hc|⟨s,e,hc,rfl⟩
     .rw[hc]at ct;exact mono ct
     .rw[hc]at ct Rb;obtain⟨jX,i',j',yT,q1,q2,a',rfl,q3⟩:=ct;simp only[aam,acz]at yT;obtain⟨rfl,rfl,rfl⟩:=yT;rcases abu e.length with he|he
      .rw[aag he];exact .nil s a' _ om
      .have jQ:dM m1 id (lo+i) j s e:=⟨_,hb,.row Kh Rb⟩;obtain⟨gH,Ca,w1,w2,w3⟩:=hM.dV _ _ _ _ _ jQ om;rw[q3 om];have B6:Live ρ1 m1 (.sub id (lo+i) j):=⟨⟨_,_,jQ⟩,om⟩;have ky:∀(i2:Nat)cs(j2:Nat)d2,e[i2]? =some cs->cs[j2]? =some d2->∃u,w.cell? ⟨(ρ1.aH (.sub id (lo+i) j)).b,(ρ1.aH (.sub id (lo+i) j)).ar+i2*s+j2,.none⟩=some u/\c7 (U.fy ρ1 m1).S w d2 u:=by
        intro i2 cs j2 d2 eO lA;obtain⟨u,hu,hd⟩:=w3 i2 cs j2 d2 eO lA;exact⟨u,by rw[Ca.cell];exact hu,mono hd⟩
       exact c7.sl s e _ _ _ (λi2 j2=>(w.cell? ⟨(ρ1.aH (.sub id (lo+i) j)).b,(ρ1.aH (.sub id (lo+i) j)).ar+i2*s+j2,.none⟩).getD Go.undef) (.inr ⟨_,B6,rfl⟩) q1 q2 w2
        (λi2 cs j2 d2 eO lA=>by obtain⟨u,hu,_⟩:=ky i2 cs j2 d2 eO lA;rw[hu];rfl)
        (λi2 cs j2 d2 eO lA=>by obtain⟨u,hu,hd⟩:=ky i2 cs j2 d2 eO lA;rw[hu];exact hd)
   refine c7.sl esz (bV ds lo hi) _ _ _ (λi j=>(w.cell? ⟨(ρ1.aH (.al id)).b,(ρ1.aH (.al id)).ar+lo*esz+i*esz+j,.none⟩).getD Go.undef) (.inr ⟨.al id,⟨_,hb,aC,λ_=>om⟩,rfl⟩) om om (λes nX=>?_)
    (λi cs j d ew hj=>by obtain⟨u,hu,_⟩:=key i cs j d ew hj;rw[hu];rfl)
    (λi cs j d ew hj=>by obtain⟨u,hu,hd⟩:=key i cs j d ew hj;rw[hu];exact hd)
   obtain⟨i,ew⟩:=Xt nX;have eO:=rA ds lo hi i es ew;have aD:lo+i<elems.length:=by rw[hl];exact(I4.1 eO).1
   have Kh:=uX aD;obtain⟨oh,_⟩:=Lm _ _ _ Kh eO;rw[<-oh];exact g4 _ (aal aD)
theorem e7.jR{U ρ1:bF}{m1:Mem}{w:World}(hM:au ρ1 m1 w){c c':RV}(h:e7 m1 c c'){v:Value}(hd:dq ρ1 w c v):dq (U.fy ρ1 m1) w c' v:=by
 cases h with
 |one h=>exact h.jR hM hd
 |agg hl h=>
  obtain⟨vs,rfl,h1,h2⟩:=hd;refine⟨vs,rfl,h1.trans hl,λi c' hi=>?_⟩
  rename_i cs eR;have aD:i<cs.length:=by rw[hl];exact(I4.1 hi).1
  obtain⟨u,hu,hd⟩:=h2 i _ (uX aD);exact⟨u,hu,(h i _ _ (uX aD) hi).jR hM hd⟩
theorem cQ.jR{U ρ1:bF}{m1:Mem}{w:World}(hM:au ρ1 m1 w){c c':CV}(h:cQ m1 c c'){v:Value}(hd:bZ ρ1 w c v):bZ (U.fy ρ1 m1) w c' v:=by
 cases h with
 |rv h=>exact h.jR hM hd
 |bz hl h=>
  obtain⟨vs,rfl,h1,h2⟩:=hd;refine⟨vs,rfl,h1.trans hl,λi c' hi=>?_⟩
  rename_i cs eR;have aD:i<cs.length:=by rw[hl];exact(I4.1 hi).1
  obtain⟨u,hu,hd⟩:=h2 i _ (uX aD);exact⟨u,hu,(h i _ _ (uX aD) hi).jR hM hd⟩
def CC.du:CC->Bool
 | .aa _=>true
 | .fn _ []=>true
 |_=>false
def CV.du:CV->Bool
 | .rv (.one c)=>c.du
 | .rv (.agg cs)=>cs.all CC.du
 |_=>false
theorem CC.rB{U U':bF}{w:World}{c:CC}{v:Value}(hc:c.du=true)(hS:∀b,U.S b->U'.S b)(h:bh U w .none c v):bh U' w .none c v:=by
 cases c
 case aa d=>exact c7.mono (S:=U.S) (S':=U'.S) (w:=w) (w':=w) hS (λ_ _=>rfl) h
 case fn f eh=>
  cases eh with
  |nil=>exact⟨aC,h.2⟩
  |cons c r=>simp[CC.du]at hc
 all_goals simp[CC.du]at hc
theorem CV.rB{U U':bF}{w:World}{c:CV}{v:Value}(hc:c.du=true)(hS:∀b,U.S b->U'.S b)(h:bZ U w c v):bZ U' w c v:=by
 cases c with
 |rv r=>
  cases r with
  |one c=>exact CC.rB hc hS h
  |agg cs=>
   obtain⟨vs,rfl,h1,h2⟩:=h;refine⟨vs,rfl,h1,λi c hi=>?_⟩
   obtain⟨u,hu,hd⟩:=h2 i c hi;exact⟨u,hu,CC.rB (aby.1 hc c (RD hi)) hS hd⟩
 |_=>simp[CV.du]at hc
theorem bg{f:Nat}{args:List CV}{m:Mem}{K0 K:CV->Mem->Prop}(h:aq P f args [] K0)(ha:∀c,c∈args->c.du=true)(hK:∀r m1,K0 r m1->∃r',cQ m1 r r'/\K r' m):aq P f args m K:=by
 refine⟨h.1,λU w vs hM hl hd=>?_⟩
 let ρ0:bF:={n:=0,aH:=λ_=>⟨0,0,0,0⟩,S:=U.S}
 have lR:au ρ0 [] w:={
  n:=rfl
  S:=hM.S
  aQ:=λk h=>by have:=h.eC;simp at this
  inj:=λk k' h=>by have:=h.eC;simp at this
  bk:=λid b h=>by simp at h
  dV:=λid i j esz elems h=>by obtain⟨_,h,_⟩:=h;simp at h}
 refine(h.2 ρ0 w vs lR hl λi c hi=>?_).mono λe w'⟨v,r,m1,ρ1,he,hk,rk,uM,hx⟩=>?_
 .obtain⟨v,hv,hd⟩:=hd i c hi;exact⟨v,hv,CV.rB (U:=U) (U':=ρ0) (ha c (RD hi)) (λ_ h=>h) hd⟩
 .obtain⟨r',hf,fU⟩:=hK r m1 hk;have jT:∀k,¬Live ρ0 [] k:=λk h=>by have:=h.eC;simp at this
  have va:∀b,b<w.heap.size->w'.heap[b]? =w.heap[b]? :=λb hb=>hx.frame b hb λk hk=>absurd hk (jT k)
  have hS':∀b,(U.fy ρ1 m1).S b->U.S b\/w.heap.size<=b:=by
   rintro b (hb|⟨k,hk,rfl⟩)
   .rcases hx.S' b hb with h|h|⟨k,hk,_⟩
    .exact .inl h
    .exact .inr h
    .exact absurd hk (jT k)
   .rcases hx.aQ k hk with h|⟨k0,h0,_⟩
    .exact .inr h
    .exact absurd h0 (jT k0)
  have b7:∀k,Live (U.fy ρ1 m1) m k↔Live U m k:=λk=>by cases k<;>rfl
  have g:iz U w (U.fy ρ1 m1) w':=⟨Ts _,λ_ _=>rfl,λb hb=>.inl (hx.S b hb),λb hb=>va b (hM.S b hb)⟩
  refine⟨v,r',m,U.fy ρ1 m1,he,fU,⟨hM.n,?_,?_,?_,?_,?_⟩,hf.jR rk uM,⟨Ts _,λ_ _=>rfl,g.S,?_,?_,λb hb _=>va b hb,hx.size,hx.os,hx.tape,hx.output⟩⟩
  .intro b hb;rcases hb with hb|⟨k,hk,rfl⟩
   .exact rk.S b hb
   .exact(rk.aQ k hk).1
  .intro k hk;have h1:=hM.aQ k ((b7 k).1 hk);refine⟨aa0 h1.1 hx.size,λhS=>?_⟩
   rcases hS' _ hS with h|h
   .exact h1.2 h
   .have:(U.aH k).b<w.heap.size:=h1.1;have h':w.heap.size<=(U.aH k).b:=h;omega
  .exact λk k' hk fU=>hM.inj k k' ((b7 k).1 hk) ((b7 k').1 fU)
  .intro id b hb;have h1:=hM.bk id b hb;have bT:∀{mk:Prop}cur,((∃k,k.id=id/\Live U m k/\(U.aH k).b=(U.aH (.al id)).b))->l6 mk w (U.aH (.al id)).b cur->l6 mk w' (U.aH (.al id)).b cur:=λ{mk}cur _ hc=>hc.dv (va _ hc.lt)
   cases b with
   |aS=>trivial
   |var cs=>
    obtain⟨cur,bT,h2⟩:=h1;exact⟨cur,bT.dv (va _ bT.lt),λj c hj=>let⟨u,hu,hd⟩:=h2 j c hj;⟨u,hu,bh.cm g aC hd⟩⟩
   |row esz elems=>
    obtain⟨h2,h3,h4,h5,h6⟩:=h1;refine⟨h2,h3,h4,h5,λhp=>?_⟩
    obtain⟨cur,bT,h7,h8⟩:=h6 hp;exact⟨cur,bT.dv (va _ bT.lt),h7,λi cs j c hi hj=>let⟨u,hu,hd⟩:=h8 i cs j c hi hj;⟨u,hu,bh.cm g (by intro jX i' j' e';cases e';rw[hM.n];exact(I4.1 hb).1) hd⟩⟩
   |mp es=>
    obtain⟨bx,ck,h2,h3,h4⟩:=h1;exact⟨bx,ck,⟨(va _ (aap.1 h2.1).1).trans h2.1,h2.2⟩,h3,λi e he=>let⟨e',mr,hk,hd⟩:=h4 i e he;⟨e',mr,hk,dq.cm g hd⟩⟩
   |it cur left=>
    obtain⟨mb,seen,ck,bx,h2,h3,h4,h5,h6⟩:=h1;exact⟨mb,seen,ck,bx,(va _ (aap.1 h2).1).trans h2,h3,g.S _ h4,(g.heap mb h4).trans h5,h6⟩
   |mo esz es so=>exact cI.cm (bk:= .mo esz es so) g (by rw[hM.n];exact(I4.1 hb).1) (λ_ _=>by obtain⟨bx,ck,h2,_⟩:=h1;exact va _ (aap.1 h2.1).1) h1
   |iw mid gU seen=>exact cI.cm (bk:= .iw mid gU seen) g (by rw[hM.n];exact(I4.1 hb).1) (λ_ _=>by obtain⟨_,_,s,h2,_⟩:=h1;exact va _ (aap.1 h2).1) h1
  .intro id i j esz el ho bc;obtain⟨cur,bT,h2,h3,h4⟩:=hM.dV id i j esz el ho bc;exact⟨cur,bT.dv (va _ bT.lt),h2,h3,λi cs j d hi hj=>let⟨u,hu,hd⟩:=h4 i cs j d hi hj;⟨u,hu,c7.mono g.S g.heap hd⟩⟩
  .intro b hb;rcases hS' b hb with h|h
   .exact .inl h
   .exact .inr (.inl h)
  .intro k hk;exact .inr ⟨k,(b7 k).1 hk,rfl⟩
def RV.du:RV->Bool
 | .one c=>c.du
 | .agg cs=>cs.all CC.du
def CV.Co:CV->Bool
 | .rv r=>r.du
 | .bz rs=>rs.all RV.du
 |_=>false
theorem eT.self{m:Mem}{c:CC}(h:c.du=true):eT m c c:=by
 cases c
 case aa d=>exact .aa _
 case fn f eh=>
  cases eh with
  |nil=>exact .fn f
  |cons c r=>simp[CC.du]at h
 all_goals simp[CC.du]at h
theorem e7.self{m:Mem}{r:RV}(h:r.du=true):e7 m r r:=by
 cases r with
 |one c=>exact .one (eT.self h)
 |agg cs=>
  refine .agg rfl λi c c' h1 h2=>?_
  rw[h1]at h2;cases h2;exact eT.self (aby.1 h c (RD h1))
theorem cQ.self{m:Mem}{v:CV}(h:v.Co=true):cQ m v v:=by
 cases v with
 |rv r=>exact .rv (e7.self h)
 |bz rs=>
  refine .bz rfl λi c c' h1 h2=>?_
  rw[h1]at h2;cases h2;exact e7.self (aby.1 h c (RD h1))
 |_=>simp[CV.Co]at h
theorem bv{f:Nat}{fn:Func}{lf:LF}{args:List CV}{r0:CV}(hf:P.funcs[f]? =some fn)(hl:bu P fn=some lf)(hn:(fn.name== "runtime.NumGoroutine")=false)(hle:args.length<=lf.n)(h:body P lf args [] λr _=>r=r0)(ha:args.all CV.du=true)(hr:r0.Co=true){m:Mem}{K:CV->Mem->Prop}(hK:K r0 m):aq P f args m K:=
 bg (wd hf hl hn hle h) (λc hc=>aby.1 ha c hc) λr m1 he=>⟨r0,by subst he;exact .self hr,hK⟩
theorem uA{f:Nat}{fn:Func}{lf:LF}{args:List CV}{r0:CV}(hf:P.funcs[f]? =some fn)(hl:bu P fn=some lf.er)(hn:(fn.name== "runtime.NumGoroutine")=false)(hle:args.length<=lf.n)(h:body P lf args [] λr _=>r=r0)(ha:args.all CV.du=true)(hr:r0.Co=true){m:Mem}{K:CV->Mem->Prop}(hK:K r0 m):aq P f args m K:=
 bg (nk hf hl hn hle h) (λc hc=>aby.1 ha c hc) λr m1 he=>⟨r0,by subst he;exact .self hr,hK⟩
theorem eT.eU{m:Mem}{id esz:Nat}{ds:List (List Dt)}(h:m[id]? =some (.row esz (ds.map λes=>es.map .aa)))(lo:Nat)(hi:Option Nat):eT m (.row id esz lo hi) (.aa (.sl esz (bV ds lo hi))):=by
 refine .row id esz lo hi _ ds h aC λi cs es h1 h2=>?_
 rw[RA,h2]at h1;cases h1;refine⟨aC,λj c d h3 h4=>.inl ?_⟩
 rw[RA,h4]at h3;cases h3;rfl
end
end Go.AM
