/- Part 9 of 16. -/
import Derived.Test.YtodckkkbiidffaaGreatDoorK08
import Derived.IntWalk
set_option linter.unusedVariables false
set_option linter.unusedSimpArgs false
set_option maxRecDepth 100000
set_option maxHeartbeats 0
namespace Go.AM
section
variable {P:Program}
theorem aG{t:Bool}{A B:Prop}(ha:t=true->A)(hb:t=false->B): @Bool.rec (λ_=>Prop) B A t:=by
 cases t
 .exact hb rfl
 .exact ha rfl
theorem cN{t:Bool}{A B:Prop}(h:t=true)(ha:A): @Bool.rec (λ_=>Prop) B A t:=by subst h;exact ha
theorem ig{t:Bool}{A B:Prop}(h:t=false)(ha:B): @Bool.rec (λ_=>Prop) B A t:=by subst h;exact ha
theorem af{α:Type}{o:Option α}{K:α->Prop}{x:α}(h:o=some x)(k:K x): @Option.rec α (λ_=>Prop) False K o:=by subst h;exact k
theorem H2{α:Type}(l:List α)(n:Int):dD l n=if 0<=n then l[n.toNat]? else none:=by
 cases n with
 |ofNat k=>simp[dD,aT]
 |negSucc k=>simp[dD]
theorem bG{α:Type}(l:List α)(k:Nat):dD l (k:Int)=l[k]? :=by simp[H2]
theorem QG(n:Int)(len:Nat):dZ n len=if 0<=n/\n.toNat<len then some n.toNat else none:=by
 cases n with
 |ofNat k=>
  simp only[dZ];cases h:Nat.blt k len
  .have:¬k<len:=λhh=>by rw[<-abJ]at hh;rw[hh]at h;cases h
   simp[this]
  .rw[abJ]at h;simp[h]
 |negSucc k=>simp[dZ]
theorem bZ{k len:Nat}(h:k<len):dZ (k:Int) len=some k:=by rw[QG,if_pos ⟨om,by simpa using h⟩];simp
inductive nc:List CV->List CV->Prop
 |nil:nc [] []
 |aA {v:CV} {e e':List CV} (h:nc e e'):nc (v::e) (.aA::e')
 |eW {v:CV} {e e':List CV} (h:nc e e'):nc (v::e) (v::e')
theorem nc.len{e e':List CV}(h:nc e e'):e'.length=e.length:=by
 induction h<;>simp[*]
theorem nc.get{e e':List CV}(h:nc e e'):∀(i:Nat)v,e'[i]? =some v->v= .aA\/e[i]? =some v:=by
 induction h with
 |nil=>intro i v h;simp at h
 |aA h ih=>
  intro i v hv;cases i with
  |zero=>simp at hv;exact .inl hv.symm
  |succ i=>simpa using ih i v (by simpa using hv)
 |eW h ih=>
  intro i v hv;cases i with
  |zero=>simp at hv;exact .inr (by simp[hv])
  |succ i=>simpa using ih i v (by simpa using hv)
theorem nc.put{v v':CV}{e e':List CV}(hv:v=v')(h:nc e e'):nc (v::e) (v'::e'):=by subst hv;exact .eW h
theorem mr{n:Nat}(h:n<=9223372036854775807):IntKind.i64.wrap (n:Int)=n:=IntWalk.i64_in n om
theorem cj{k:Nat}(h:k<9223372036854775807):(CV.rv (.one (.ah (.val (.int .i64 (IntKind.i64.wrap ((k:Int)+1)))))))=am .i64 ((k+1:Nat):Int):=by have:=mr (n:=k+1) om;unfold am;rw[<-this];rfl
theorem mY.refl:∀(m:Mem),mY m m
 | []=>.nil []
 |b::r=>.cons (.inl rfl) (mY.refl r)
theorem Dj{n0:Nat}{e e':List CV}{m:Mem}(hn:n0<=m.length)(h:nc e e'):View n0 ⟨e,m⟩ ⟨e',m⟩:=
 Me.view ⟨hn,h.len,λi v hv=>(h.get i v hv).imp id λh=>⟨h,.inl rfl⟩,mY.refl m,.inl rfl⟩
def SR(i:Nat)(v:CV):List (Nat×CV)->CV
 | []=>v
 |(j,x)::r=>match Nat.beq i j with|true=>x|false=>SR i v r
def SS(f:List (Nat×CV)):Nat->List CV->(List CV->List CV)->List CV
 |_,[],k=>k []
 |i,v::r,k=>fV (SR i v f) λv'=>SS f (i+1) r λr'=>k (v'::r')
def Dk(e:List CV)(f:List (Nat×CV)):List CV:=SS f 0 e λe=>e
def M1(m:Mem):List (Nat×Bk)->Mem
 | []=>m
 |(i,v)::r=>aV (M1 m r) i v
theorem M2{n0:Nat}{b:LC}{K:Ex->St->Prop}{s:St}{α:Type}(J:α->Prop)(f:α->List (Nat×CV))(g:α->List (Nat×Bk))(μ:α->Nat)(a0:α)(h0:J a0)(start:View n0 s ⟨Dk s.aX (f a0),M1 s.mem (g a0)⟩)(round:∀a,J a->aw P n0 b (HG n0 J (λa=>⟨Dk s.aX (f a),M1 s.mem (g a)⟩) μ (μ a) K) ⟨Dk s.aX (f a),M1 s.mem (g a)⟩):aw P n0 (.loop b) K s:=
 ⟨α,J,λa=>⟨Dk s.aX (f a),M1 s.mem (g a)⟩,μ,⟨a0,h0,start⟩,round⟩
end
section
variable {P:Program}
inductive fk(m:Mem):CC->CC->Prop
 |ah (d:Dt):fk m (.ah d) (.ah d)
 |aO (esz:Nat):fk m .aO (.ah (.sl esz []))
 |fn (f:Nat):fk m (.fn f []) (.fn f [])
 |row (id esz lo:Nat) (hi:Option Nat) (elems:List (List CC)) (ds:List (List Dt)) (h:m[id]? =some (.row esz elems)) (hl:elems.length=ds.length)
   (hd:∀(i:Nat)cs es,elems[i]? =some cs->ds[i]? =some es->cs.length=es.length/\∀(j:Nat)c d,cs[j]? =some c->es[j]? =some d->c= .ah d\/∃s e,c= .ei s e/\d= .sl s e):
   fk m (.row id esz lo hi) (.ah (.sl esz (b9 ds lo hi)))
inductive fu(m:Mem):RV->RV->Prop
 |one {c c':CC} (h:fk m c c'):fu m (.one c) (.one c')
 |agg {cs fj:List CC} (hl:cs.length=fj.length) (h:∀(i:Nat)c c',cs[i]? =some c->fj[i]? =some c'->fk m c c'):fu m (.agg cs) (.agg fj)
inductive cV(m:Mem):CV->CV->Prop
 |rv {r r':RV} (h:fu m r r'):cV m (.rv r) (.rv r')
 |bD {rs JM:List RV} (hl:rs.length=JM.length) (h:∀(i:Nat)r r',rs[i]? =some r->JM[i]? =some r'->fu m r r'):cV m (.bD rs) (.bD JM)
def bI.fQ(ρ:bI)(ρ1:bI)(m1:Mem):bI:={ρ with S:=λb=>ρ1.S b\/∃k,Live ρ1 m1 k/\(ρ1.aI k).b=b}
theorem sn{α:Type}(l:List α)(lo:Nat)(hi:Option Nat)(i:Nat)(x:α)(h:(b9 l lo hi)[i]? =some x):l[lo+i]? =some x:=by
 rw[jT]at h;rw[abj]at h;cases hi with
 |none=>exact h
 |some k=>
  simp only at h;rw[aaM]at h;split at h
  .exact h
  .cases h
theorem Dl{α:Type}(l:List α)(lo:Nat)(hi:Option Nat)(h1:lo<=hi.getD l.length)(h2:hi.getD l.length<=l.length):(b9 l lo hi).length=hi.getD l.length-lo:=by
 rw[jT];cases hi with
 |none=>simp
 |some k=>simp at h1 h2|-;omega
theorem fk.jS{ρ ρ1:bI}{m1:Mem}{w:World}(hM:ay ρ1 m1 w){c c':CC}(h:fk m1 c c'){v:Value}(hd:bj ρ1 w .none c v):bj (ρ.fQ ρ1 m1) w .none c' v:=by
 have mono:∀{d:Dt}{v:Value},de ρ1.S w d v->de (ρ.fQ ρ1 m1).S w d v:=λh=>h.mono (λ_ h=>.inl h) (λ_ _=>rfl)
 cases h with
 |ah d=>exact mono hd
 |aO esz=>
  obtain⟨a,rfl⟩:=hd;exact .nil esz a 0 (aaj _)
 |fn f=>
  obtain⟨_,rfl⟩:=hd;exact⟨aE,rfl⟩
 |row id esz lo hi elems ds hb hl MN=>
  obtain⟨h1,h2,h3,h4,h5,a,rfl,ha⟩:=hd;obtain⟨g1,g2,g3,g4,g5⟩:=hM.bk id _ hb;have mw:ds.length=(ρ1.aI (.aj id)).len:=om;have hlen:(b9 ds lo hi).length=hi.getD (ρ1.aI (.aj id)).len-lo:=by
   rw[<-mw];exact Dl ds lo hi (by rw[mw];exact h2) (by rw[mw];exact h3)
  show de _ w (.sl esz (b9 ds lo hi)) _;rw[<-hlen];rcases abi (b9 ds lo hi).length with h0|cI
  .rw[h0,aag h0];exact .nil esz a _ om
  .have iT:lo<(ρ1.aI (.aj id)).cap:=om;obtain⟨cur,bX,dk,dL⟩:=g5 om;rw[ha iT];have key:∀(i:Nat)es(j:Nat)d,(b9 ds lo hi)[i]? =some es->es[j]? =some d->∃u,w.cell? ⟨(ρ1.aI (.aj id)).b,(ρ1.aI (.aj id)).aq+lo*esz+i*esz+j,.none⟩=some u/\de (ρ.fQ ρ1 m1).S w d u:=by
    intro i es j d eO hj;have fg:=sn ds lo hi i es eO;have aC:lo+i<elems.length:=by rw[hl];exact(Km.1 fg).1
    have LI:=vU aC;obtain⟨oT,fe⟩:=MN _ _ _ LI fg;have ez:j<elems[lo+i].length:=by rw[oT];exact(Km.1 hj).1
    have SU:=vU ez;obtain⟨u,hu,cy⟩:=dL _ _ _ _ LI SU;refine⟨u,?_,?_⟩
    .rw[bX.cell,<-hu];congr 1;rw[abf];omega
    .rcases fe _ _ _ SU hj with hc|⟨s,e,hc,rfl⟩
     .rw[hc]at cy;exact mono cy
     .rw[hc]at cy SU;obtain⟨kK,i',j',zS,q1,q2,a',rfl,q3⟩:=cy;simp only[aav,adq]at zS;obtain⟨rfl,rfl,rfl⟩:=zS;rcases abi e.length with he|he
      .rw[aag he];exact .nil s a' _ om
      .have kz:dY m1 id (lo+i) j s e:=⟨_,hb,.row LI SU⟩;obtain⟨gX,C9,w1,w2,w3⟩:=hM.ei _ _ _ _ _ kz om;rw[q3 om];have A2:Live ρ1 m1 (.sub id (lo+i) j):=⟨⟨_,_,kz⟩,om⟩;have ky:∀(i2:Nat)cs(j2:Nat)d2,e[i2]? =some cs->cs[j2]? =some d2->∃u,w.cell? ⟨(ρ1.aI (.sub id (lo+i) j)).b,(ρ1.aI (.sub id (lo+i) j)).aq+i2*s+j2,.none⟩=some u/\de (ρ.fQ ρ1 m1).S w d2 u:=by
        intro i2 cs j2 d2 fg lW;obtain⟨u,hu,hd⟩:=w3 i2 cs j2 d2 fg lW;exact⟨u,by rw[C9.cell];exact hu,mono hd⟩
       exact de.sl s e _ _ _ (λi2 j2=>(w.cell? ⟨(ρ1.aI (.sub id (lo+i) j)).b,(ρ1.aI (.sub id (lo+i) j)).aq+i2*s+j2,.none⟩).getD Go.undef) (.inr ⟨_,A2,rfl⟩) q1 q2 w2
        (λi2 cs j2 d2 fg lW=>by obtain⟨u,hu,_⟩:=ky i2 cs j2 d2 fg lW;rw[hu];rfl)
        (λi2 cs j2 d2 fg lW=>by obtain⟨u,hu,hd⟩:=ky i2 cs j2 d2 fg lW;rw[hu];exact hd)
   refine de.sl esz (b9 ds lo hi) _ _ _ (λi j=>(w.cell? ⟨(ρ1.aI (.aj id)).b,(ρ1.aI (.aj id)).aq+lo*esz+i*esz+j,.none⟩).getD Go.undef) (.inr ⟨.aj id,⟨_,hb,aE,λ_=>om⟩,rfl⟩) om om (λes oh=>?_)
    (λi cs j d eO hj=>by obtain⟨u,hu,_⟩:=key i cs j d eO hj;rw[hu];rfl)
    (λi cs j d eO hj=>by obtain⟨u,hu,hd⟩:=key i cs j d eO hj;rw[hu];exact hd)
   obtain⟨i,eO⟩:=aaa oh;have fg:=sn ds lo hi i es eO;have aC:lo+i<elems.length:=by rw[hl];exact(Km.1 fg).1
   have LI:=vU aC;obtain⟨oT,_⟩:=MN _ _ _ LI fg;rw[<-oT];exact g4 _ (aaw aC)
theorem fu.jS{ρ ρ1:bI}{m1:Mem}{w:World}(hM:ay ρ1 m1 w){c c':RV}(h:fu m1 c c'){v:Value}(hd:df ρ1 w c v):df (ρ.fQ ρ1 m1) w c' v:=by
 cases h with
 |one h=>exact h.jS hM hd
 |agg hl h=>
  obtain⟨vs,rfl,h1,h2⟩:=hd;refine⟨vs,rfl,h1.trans hl,λi c' hi=>?_⟩
  rename_i cs fj;have aC:i<cs.length:=by rw[hl];exact(Km.1 hi).1
  obtain⟨u,hu,hd⟩:=h2 i _ (vU aC);exact⟨u,hu,(h i _ _ (vU aC) hi).jS hM hd⟩
theorem cV.jS{ρ ρ1:bI}{m1:Mem}{w:World}(hM:ay ρ1 m1 w){c c':CV}(h:cV m1 c c'){v:Value}(hd:ce ρ1 w c v):ce (ρ.fQ ρ1 m1) w c' v:=by
 cases h with
 |rv h=>exact h.jS hM hd
 |bD hl h=>
  obtain⟨vs,rfl,h1,h2⟩:=hd;refine⟨vs,rfl,h1.trans hl,λi c' hi=>?_⟩
  rename_i cs fj;have aC:i<cs.length:=by rw[hl];exact(Km.1 hi).1
  obtain⟨u,hu,hd⟩:=h2 i _ (vU aC);exact⟨u,hu,(h i _ _ (vU aC) hi).jS hM hd⟩
def CC.dB:CC->Bool
 | .ah _=>true
 | .fn _ []=>true
 |_=>false
def CV.dB:CV->Bool
 | .rv (.one c)=>c.dB
 | .rv (.agg cs)=>cs.all CC.dB
 |_=>false
theorem CC.sq{ρ U':bI}{w:World}{c:CC}{v:Value}(hc:c.dB=true)(hS:∀b,ρ.S b->U'.S b)(h:bj ρ w .none c v):bj U' w .none c v:=by
 cases c
 case ah d=>exact de.mono (S:=ρ.S) (S':=U'.S) (w:=w) (w':=w) hS (λ_ _=>rfl) h
 case fn f eE=>
  cases eE with
  |nil=>exact⟨aE,h.2⟩
  |cons c r=>simp[CC.dB]at hc
 all_goals simp[CC.dB]at hc
theorem CV.sq{ρ U':bI}{w:World}{c:CV}{v:Value}(hc:c.dB=true)(hS:∀b,ρ.S b->U'.S b)(h:ce ρ w c v):ce U' w c v:=by
 cases c with
 |rv r=>
  cases r with
  |one c=>exact CC.sq hc hS h
  |agg cs=>
   obtain⟨vs,rfl,h1,h2⟩:=h;refine⟨vs,rfl,h1,λi c hi=>?_⟩
   obtain⟨u,hu,hd⟩:=h2 i c hi;exact⟨u,hu,CC.sq (abd.1 hc c (Tp hi)) hS hd⟩
 |_=>simp[CV.dB]at hc
theorem bh{f:Nat}{args:List CV}{m:Mem}{K0 K:CV->Mem->Prop}(h:ap P f args [] K0)(ha:∀c,c∈args->c.dB=true)(hK:∀r m1,K0 r m1->∃r',cV m1 r r'/\K r' m):ap P f args m K:=by
 refine⟨h.1,λρ w vs hM hl hd=>?_⟩
 let ρ0:bI:={n:=0,aI:=λ_=>⟨0,0,0,0⟩,S:=ρ.S}
 have ml:ay ρ0 [] w:={
  n:=rfl
  S:=hM.S
  aL:=λk h=>by have:=h.eT;simp at this
  inj:=λk k' h=>by have:=h.eT;simp at this
  bk:=λid b h=>by simp at h
  ei:=λid i j esz elems h=>by obtain⟨_,h,_⟩:=h;simp at h}
 refine(h.2 ρ0 w vs ml hl λi c hi=>?_).mono λe w'⟨v,r,m1,ρ1,he,hk,r8,vG,hx⟩=>?_
 .obtain⟨v,hv,hd⟩:=hd i c hi;exact⟨v,hv,CV.sq (ρ:=ρ) (U':=ρ0) (ha c (Tp hi)) (λ_ h=>h) hd⟩
 .obtain⟨r',hf,fZ⟩:=hK r m1 hk;have kG:∀k,¬Live ρ0 [] k:=λk h=>by have:=h.eT;simp at this
  have va:∀b,b<w.heap.size->w'.heap[b]? =w.heap[b]? :=λb hb=>hx.frame b hb λk hk=>absurd hk (kG k)
  have hS':∀b,(ρ.fQ ρ1 m1).S b->ρ.S b\/w.heap.size<=b:=by
   rintro b (hb|⟨k,hk,rfl⟩)
   .rcases hx.S' b hb with h|h|⟨k,hk,_⟩
    .exact .inl h
    .exact .inr h
    .exact absurd hk (kG k)
   .rcases hx.aL k hk with h|⟨k0,h0,_⟩
    .exact .inr h
    .exact absurd h0 (kG k0)
  have bC:∀k,Live (ρ.fQ ρ1 m1) m k↔Live ρ m k:=λk=>by cases k<;>rfl
  have g:iL ρ w (ρ.fQ ρ1 m1) w':=⟨Ym _,λ_ _=>rfl,λb hb=>.inl (hx.S b hb),λb hb=>va b (hM.S b hb)⟩
  refine⟨v,r',m,ρ.fQ ρ1 m1,he,fZ,⟨hM.n,?_,?_,?_,?_,?_⟩,hf.jS r8 vG,⟨Ym _,λ_ _=>rfl,g.S,?_,?_,λb hb _=>va b hb,hx.size,hx.os,hx.tape,hx.output⟩⟩
  .intro b hb;rcases hb with hb|⟨k,hk,rfl⟩
   .exact r8.S b hb
   .exact(r8.aL k hk).1
  .intro k hk;have h1:=hM.aL k ((bC k).1 hk);refine⟨aaI h1.1 hx.size,λhS=>?_⟩
   rcases hS' _ hS with h|h
   .exact h1.2 h
   .have:(ρ.aI k).b<w.heap.size:=h1.1;have h':w.heap.size<=(ρ.aI k).b:=h;omega
  .exact λk k' hk fZ=>hM.inj k k' ((bC k).1 hk) ((bC k').1 fZ)
  .intro id b hb;have h1:=hM.bk id b hb;have bX:∀{mk:Prop}cur,((∃k,k.id=id/\Live ρ m k/\(ρ.aI k).b=(ρ.aI (.aj id)).b))->mE mk w (ρ.aI (.aj id)).b cur->mE mk w' (ρ.aI (.aj id)).b cur:=λ{mk}cur _ hc=>hc.dC (va _ hc.lt)
   cases b with
   |aS=>trivial
   |var cs=>
    obtain⟨cur,bX,h2⟩:=h1;exact⟨cur,bX.dC (va _ bX.lt),λj c hj=>let⟨u,hu,hd⟩:=h2 j c hj;⟨u,hu,bj.cm g aE hd⟩⟩
   |row esz elems=>
    obtain⟨h2,h3,h4,h5,h6⟩:=h1;refine⟨h2,h3,h4,h5,λhp=>?_⟩
    obtain⟨cur,bX,h7,h8⟩:=h6 hp;exact⟨cur,bX.dC (va _ bX.lt),h7,λi cs j c hi hj=>let⟨u,hu,hd⟩:=h8 i cs j c hi hj;⟨u,hu,bj.cm g (by intro kK i' j' e';cases e';rw[hM.n];exact(Km.1 hb).1) hd⟩⟩
   |mp es=>
    obtain⟨bq,ck,h2,h3,h4⟩:=h1;exact⟨bq,ck,⟨(va _ (aaC.1 h2.1).1).trans h2.1,h2.2⟩,h3,λi e he=>let⟨e',mT,hk,hd⟩:=h4 i e he;⟨e',mT,hk,df.cm g hd⟩⟩
   |it cur left=>
    obtain⟨mb,seen,ck,bq,h2,h3,h4,h5,h6⟩:=h1;exact⟨mb,seen,ck,bq,(va _ (aaC.1 h2).1).trans h2,h3,g.S _ h4,(g.heap mb h4).trans h5,h6⟩
   |mo esz es so=>exact cJ.cm (bk:= .mo esz es so) g (by rw[hM.n];exact(Km.1 hb).1) (λ_ _=>by obtain⟨bq,ck,h2,_⟩:=h1;exact va _ (aaC.1 h2.1).1) h1
   |iw mid ip seen=>exact cJ.cm (bk:= .iw mid ip seen) g (by rw[hM.n];exact(Km.1 hb).1) (λ_ _=>by obtain⟨_,_,s,h2,_⟩:=h1;exact va _ (aaC.1 h2).1) h1
  .intro id i j esz el ho be;obtain⟨cur,bX,h2,h3,h4⟩:=hM.ei id i j esz el ho be;exact⟨cur,bX.dC (va _ bX.lt),h2,h3,λi cs j d hi hj=>let⟨u,hu,hd⟩:=h4 i cs j d hi hj;⟨u,hu,de.mono g.S g.heap hd⟩⟩
  .intro b hb;rcases hS' b hb with h|h
   .exact .inl h
   .exact .inr (.inl h)
  .intro k hk;exact .inr ⟨k,(bC k).1 hk,rfl⟩
def RV.dB:RV->Bool
 | .one c=>c.dB
 | .agg cs=>cs.all CC.dB
def CV.Dm:CV->Bool
 | .rv r=>r.dB
 | .bD rs=>rs.all RV.dB
 |_=>false
theorem fk.self{m:Mem}{c:CC}(h:c.dB=true):fk m c c:=by
 cases c
 case ah d=>exact .ah _
 case fn f eE=>
  cases eE with
  |nil=>exact .fn f
  |cons c r=>simp[CC.dB]at h
 all_goals simp[CC.dB]at h
theorem fu.self{m:Mem}{r:RV}(h:r.dB=true):fu m r r:=by
 cases r with
 |one c=>exact .one (fk.self h)
 |agg cs=>
  refine .agg rfl λi c c' h1 h2=>?_
  rw[h1]at h2;cases h2;exact fk.self (abd.1 h c (Tp h1))
theorem cV.self{m:Mem}{v:CV}(h:v.Dm=true):cV m v v:=by
 cases v with
 |rv r=>exact .rv (fu.self h)
 |bD rs=>
  refine .bD rfl λi c c' h1 h2=>?_
  rw[h1]at h2;cases h2;exact fu.self (abd.1 h c (Tp h1))
 |_=>simp[CV.Dm]at h
theorem bw{f:Nat}{fn:Func}{lf:LF}{args:List CV}{r0:CV}(hf:P.funcs[f]? =some fn)(hl:bz P fn=some lf)(hn:(fn.name== "runtime.NumGoroutine")=false)(hle:args.length<=lf.n)(h:body P lf args [] λr _=>r=r0)(ha:args.all CV.dB=true)(hr:r0.Dm=true){m:Mem}{K:CV->Mem->Prop}(hK:K r0 m):ap P f args m K:=
 bh (xj hf hl hn hle h) (λc hc=>abd.1 ha c hc) λr m1 he=>⟨r0,by subst he;exact .self hr,hK⟩
theorem vm{f:Nat}{fn:Func}{lf:LF}{args:List CV}{r0:CV}(hf:P.funcs[f]? =some fn)(hl:bz P fn=some lf.er)(hn:(fn.name== "runtime.NumGoroutine")=false)(hle:args.length<=lf.n)(h:body P lf args [] λr _=>r=r0)(ha:args.all CV.dB=true)(hr:r0.Dm=true){m:Mem}{K:CV->Mem->Prop}(hK:K r0 m):ap P f args m K:=
 bh (nR hf hl hn hle h) (λc hc=>abd.1 ha c hc) λr m1 he=>⟨r0,by subst he;exact .self hr,hK⟩
theorem fk.fl{m:Mem}{id esz:Nat}{ds:List (List Dt)}(h:m[id]? =some (.row esz (ds.map λes=>es.map .ah)))(lo:Nat)(hi:Option Nat):fk m (.row id esz lo hi) (.ah (.sl esz (b9 ds lo hi))):=by
 refine .row id esz lo hi _ ds h aE λi cs es h1 h2=>?_
 rw[Tm,h2]at h1;cases h1;refine⟨aE,λj c d h3 h4=>.inl ?_⟩
 rw[Tm,h4]at h3;cases h3;rfl
end
end Go.AM
