/- Part 9 of 16. -/
import Derived.Test.YtodckkkbiidffaaGreatDoorJ08
import Derived.IntWalk
set_option linter.unusedVariables false
set_option linter.unusedSimpArgs false
set_option maxRecDepth 100000
set_option maxHeartbeats 0
namespace Go.AM
section
variable {P:Program}
theorem aJ{t:Bool}{A B:Prop}(ha:t=true->A)(hb:t=false->B): @Bool.rec (λ_=>Prop) B A t:=by
 cases t
 .exact hb rfl
 .exact ha rfl
theorem cM{t:Bool}{A B:Prop}(h:t=true)(ha:A): @Bool.rec (λ_=>Prop) B A t:=by subst h;exact ha
theorem si{t:Bool}{A B:Prop}(h:t=false)(ha:B): @Bool.rec (λ_=>Prop) B A t:=by subst h;exact ha
theorem af{α:Type}{o:Option α}{K:α->Prop}{x:α}(h:o=some x)(k:K x): @Option.rec α (λ_=>Prop) False K o:=by subst h;exact k
theorem A3{α:Type}(l:List α)(n:Int):dA l n=if 0<=n then l[n.toNat]? else none:=by
 cases n with
 |ofNat k=>simp[dA,aV]
 |negSucc k=>simp[dA]
theorem bG{α:Type}(l:List α)(k:Nat):dA l (k:Int)=l[k]? :=by simp[A3]
theorem QP(n:Int)(len:Nat):d5 n len=if 0<=n/\n.toNat<len then some n.toNat else none:=by
 cases n with
 |ofNat k=>
  simp only[d5];cases h:Nat.blt k len
  .have:¬k<len:=λhh=>by rw[<-abK]at hh;rw[hh]at h;cases h
   simp[this]
  .rw[abK]at h;simp[h]
 |negSucc k=>simp[d5]
theorem cy{k len:Nat}(h:k<len):d5 (k:Int) len=some k:=by rw[QP,if_pos ⟨om,by simpa using h⟩];simp
inductive nc:List CV->List CV->Prop
 |nil:nc [] []
 |aH {v:CV} {e e':List CV} (h:nc e e'):nc (v::e) (.aH::e')
 |eX {v:CV} {e e':List CV} (h:nc e e'):nc (v::e) (v::e')
theorem nc.len{e e':List CV}(h:nc e e'):e'.length=e.length:=by
 induction h<;>simp[*]
theorem nc.get{e e':List CV}(h:nc e e'):∀(i:Nat)v,e'[i]? =some v->v= .aH\/e[i]? =some v:=by
 induction h with
 |nil=>intro i v h;simp at h
 |aH h ih=>
  intro i v hv;cases i with
  |zero=>simp at hv;exact .inl hv.symm
  |succ i=>simpa using ih i v (by simpa using hv)
 |eX h ih=>
  intro i v hv;cases i with
  |zero=>simp at hv;exact .inr (by simp[hv])
  |succ i=>simpa using ih i v (by simpa using hv)
theorem nc.put{v v':CV}{e e':List CV}(hv:v=v')(h:nc e e'):nc (v::e) (v'::e'):=by subst hv;exact .eX h
theorem ot{n:Nat}(h:n<=9223372036854775807):IntKind.i64.wrap (n:Int)=n:=IntWalk.i64_in n om
theorem cR{k:Nat}(h:k<9223372036854775807):(CV.rv (.one (.ah (.val (.int .i64 (IntKind.i64.wrap ((k:Int)+1)))))))=an .i64 ((k+1:Nat):Int):=by have:=ot (n:=k+1) om;unfold an;rw[<-this];rfl
theorem mY.refl:∀(m:Mem),mY m m
 | []=>.nil []
 |b::r=>.cons (.inl rfl) (mY.refl r)
theorem Da{n0:Nat}{e e':List CV}{m:Mem}(hn:n0<=m.length)(h:nc e e'):View n0 ⟨e,m⟩ ⟨e',m⟩:=
 Mf.view ⟨hn,h.len,λi v hv=>(h.get i v hv).imp id λh=>⟨h,.inl rfl⟩,mY.refl m,.inl rfl⟩
def SY(i:Nat)(v:CV):List (Nat×CV)->CV
 | []=>v
 |(j,x)::r=>match Nat.beq i j with|true=>x|false=>SY i v r
def SZ(f:List (Nat×CV)):Nat->List CV->(List CV->List CV)->List CV
 |_,[],k=>k []
 |i,v::r,k=>fV (SY i v f) λv'=>SZ f (i+1) r λr'=>k (v'::r')
def Db(e:List CV)(f:List (Nat×CV)):List CV:=SZ f 0 e λe=>e
def M2(m:Mem):List (Nat×Bk)->Mem
 | []=>m
 |(i,v)::r=>aX (M2 m r) i v
theorem M3{n0:Nat}{b:LC}{K:Ex->St->Prop}{s:St}{α:Type}(J:α->Prop)(f:α->List (Nat×CV))(g:α->List (Nat×Bk))(μ:α->Nat)(a0:α)(h0:J a0)(start:View n0 s ⟨Db s.aZ (f a0),M2 s.mem (g a0)⟩)(round:∀a,J a->aw P n0 b (HG n0 J (λa=>⟨Db s.aZ (f a),M2 s.mem (g a)⟩) μ (μ a) K) ⟨Db s.aZ (f a),M2 s.mem (g a)⟩):aw P n0 (.loop b) K s:=
 ⟨α,J,λa=>⟨Db s.aZ (f a),M2 s.mem (g a)⟩,μ,⟨a0,h0,start⟩,round⟩
end
section
variable {P:Program}
inductive ff(m:Mem):CC->CC->Prop
 |ah (d:Dt):ff m (.ah d) (.ah d)
 |aM (esz:Nat):ff m .aM (.ah (.sl esz []))
 |fn (f:Nat):ff m (.fn f []) (.fn f [])
 |row (id esz lo:Nat) (hi:Option Nat) (elems:List (List CC)) (ds:List (List Dt)) (h:m[id]? =some (.row esz elems)) (hl:elems.length=ds.length)
   (hd:∀(i:Nat)cs es,elems[i]? =some cs->ds[i]? =some es->cs.length=es.length/\∀(j:Nat)c d,cs[j]? =some c->es[j]? =some d->c= .ah d\/∃s e,c= .ei s e/\d= .sl s e):
   ff m (.row id esz lo hi) (.ah (.sl esz (b7 ds lo hi)))
inductive eZ(m:Mem):RV->RV->Prop
 |one {c c':CC} (h:ff m c c'):eZ m (.one c) (.one c')
 |agg {cs fk:List CC} (hl:cs.length=fk.length) (h:∀(i:Nat)c c',cs[i]? =some c->fk[i]? =some c'->ff m c c'):eZ m (.agg cs) (.agg fk)
inductive cN(m:Mem):CV->CV->Prop
 |rv {r r':RV} (h:eZ m r r'):cN m (.rv r) (.rv r')
 |bx {rs JH:List RV} (hl:rs.length=JH.length) (h:∀(i:Nat)r r',rs[i]? =some r->JH[i]? =some r'->eZ m r r'):cN m (.bx rs) (.bx JH)
def bJ.fT(ρ:bJ)(ρ1:bJ)(m1:Mem):bJ:={ρ with S:=λb=>ρ1.S b\/∃k,Live ρ1 m1 k/\(ρ1.aI k).b=b}
theorem sn{α:Type}(l:List α)(lo:Nat)(hi:Option Nat)(i:Nat)(x:α)(h:(b7 l lo hi)[i]? =some x):l[lo+i]? =some x:=by
 rw[jS]at h;rw[abi]at h;cases hi with
 |none=>exact h
 |some k=>
  simp only at h;rw[aaS]at h;split at h
  .exact h
  .cases h
theorem Dc{α:Type}(l:List α)(lo:Nat)(hi:Option Nat)(h1:lo<=hi.getD l.length)(h2:hi.getD l.length<=l.length):(b7 l lo hi).length=hi.getD l.length-lo:=by
 rw[jS];cases hi with
 |none=>simp
 |some k=>simp at h1 h2|-;omega
theorem ff.jR{ρ ρ1:bJ}{m1:Mem}{w:World}(hM:aA ρ1 m1 w){c c':CC}(h:ff m1 c c'){v:Value}(hd:bm ρ1 w .none c v):bm (ρ.fT ρ1 m1) w .none c' v:=by
 have mono:∀{d:Dt}{v:Value},dj ρ1.S w d v->dj (ρ.fT ρ1 m1).S w d v:=λh=>h.mono (λ_ h=>.inl h) (λ_ _=>rfl)
 cases h with
 |ah d=>exact mono hd
 |aM esz=>
  obtain⟨a,rfl⟩:=hd;exact .nil esz a 0 (aav _)
 |fn f=>
  obtain⟨_,rfl⟩:=hd;exact⟨aC,rfl⟩
 |row id esz lo hi elems ds hb hl MP=>
  obtain⟨h1,h2,h3,h4,h5,a,rfl,ha⟩:=hd;obtain⟨g1,g2,g3,g4,g5⟩:=hM.bk id _ hb;have my:ds.length=(ρ1.aI (.aj id)).len:=om;have hlen:(b7 ds lo hi).length=hi.getD (ρ1.aI (.aj id)).len-lo:=by
   rw[<-my];exact Dc ds lo hi (by rw[my];exact h2) (by rw[my];exact h3)
  show dj _ w (.sl esz (b7 ds lo hi)) _;rw[<-hlen];rcases abp (b7 ds lo hi).length with h0|cJ
  .rw[h0,aaq h0];exact .nil esz a _ om
  .have ir:lo<(ρ1.aI (.aj id)).cap:=om;obtain⟨cur,b8,dq,dN⟩:=g5 om;rw[ha ir];have key:∀(i:Nat)es(j:Nat)d,(b7 ds lo hi)[i]? =some es->es[j]? =some d->∃u,w.cell? ⟨(ρ1.aI (.aj id)).b,(ρ1.aI (.aj id)).ar+lo*esz+i*esz+j,.none⟩=some u/\dj (ρ.fT ρ1 m1).S w d u:=by
    intro i es j d eQ hj;have eW:=sn ds lo hi i es eQ;have aD:lo+i<elems.length:=by rw[hl];exact(Ki.1 eW).1
    have LJ:=vR aD;obtain⟨oW,eL⟩:=MP _ _ _ LJ eW;have ez:j<elems[lo+i].length:=by rw[oW];exact(Ki.1 hj).1
    have S0:=vR ez;obtain⟨u,hu,cz⟩:=dN _ _ _ _ LJ S0;refine⟨u,?_,?_⟩
    .rw[b8.cell,<-hu];congr 1;rw[abk];omega
    .rcases eL _ _ _ S0 hj with hc|⟨s,e,hc,rfl⟩
     .rw[hc]at cz;exact mono cz
     .rw[hc]at cz S0;obtain⟨kJ,i',j',zK,q1,q2,a',rfl,q3⟩:=cz;simp only[aaA,adp]at zK;obtain⟨rfl,rfl,rfl⟩:=zK;rcases abp e.length with he|he
      .rw[aaq he];exact .nil s a' _ om
      .have kq:dZ m1 id (lo+i) j s e:=⟨_,hb,.row LJ S0⟩;obtain⟨gZ,C0,w1,w2,w3⟩:=hM.ei _ _ _ _ _ kq om;rw[q3 om];have AP:Live ρ1 m1 (.sub id (lo+i) j):=⟨⟨_,_,kq⟩,om⟩;have ky:∀(i2:Nat)cs(j2:Nat)d2,e[i2]? =some cs->cs[j2]? =some d2->∃u,w.cell? ⟨(ρ1.aI (.sub id (lo+i) j)).b,(ρ1.aI (.sub id (lo+i) j)).ar+i2*s+j2,.none⟩=some u/\dj (ρ.fT ρ1 m1).S w d2 u:=by
        intro i2 cs j2 d2 eW l4;obtain⟨u,hu,hd⟩:=w3 i2 cs j2 d2 eW l4;exact⟨u,by rw[C0.cell];exact hu,mono hd⟩
       exact dj.sl s e _ _ _ (λi2 j2=>(w.cell? ⟨(ρ1.aI (.sub id (lo+i) j)).b,(ρ1.aI (.sub id (lo+i) j)).ar+i2*s+j2,.none⟩).getD Go.undef) (.inr ⟨_,AP,rfl⟩) q1 q2 w2
        (λi2 cs j2 d2 eW l4=>by obtain⟨u,hu,_⟩:=ky i2 cs j2 d2 eW l4;rw[hu];rfl)
        (λi2 cs j2 d2 eW l4=>by obtain⟨u,hu,hd⟩:=ky i2 cs j2 d2 eW l4;rw[hu];exact hd)
   refine dj.sl esz (b7 ds lo hi) _ _ _ (λi j=>(w.cell? ⟨(ρ1.aI (.aj id)).b,(ρ1.aI (.aj id)).ar+lo*esz+i*esz+j,.none⟩).getD Go.undef) (.inr ⟨.aj id,⟨_,hb,aC,λ_=>om⟩,rfl⟩) om om (λes ol=>?_)
    (λi cs j d eQ hj=>by obtain⟨u,hu,_⟩:=key i cs j d eQ hj;rw[hu];rfl)
    (λi cs j d eQ hj=>by obtain⟨u,hu,hd⟩:=key i cs j d eQ hj;rw[hu];exact hd)
   obtain⟨i,eQ⟩:=aab ol;have eW:=sn ds lo hi i es eQ;have aD:lo+i<elems.length:=by rw[hl];exact(Ki.1 eW).1
   have LJ:=vR aD;obtain⟨oW,_⟩:=MP _ _ _ LJ eW;rw[<-oW];exact g4 _ (aay aD)
theorem eZ.jR{ρ ρ1:bJ}{m1:Mem}{w:World}(hM:aA ρ1 m1 w){c c':RV}(h:eZ m1 c c'){v:Value}(hd:dk ρ1 w c v):dk (ρ.fT ρ1 m1) w c' v:=by
 cases h with
 |one h=>exact h.jR hM hd
 |agg hl h=>
  obtain⟨vs,rfl,h1,h2⟩:=hd;refine⟨vs,rfl,h1.trans hl,λi c' hi=>?_⟩
  rename_i cs fk;have aD:i<cs.length:=by rw[hl];exact(Ki.1 hi).1
  obtain⟨u,hu,hd⟩:=h2 i _ (vR aD);exact⟨u,hu,(h i _ _ (vR aD) hi).jR hM hd⟩
theorem cN.jR{ρ ρ1:bJ}{m1:Mem}{w:World}(hM:aA ρ1 m1 w){c c':CV}(h:cN m1 c c'){v:Value}(hd:cf ρ1 w c v):cf (ρ.fT ρ1 m1) w c' v:=by
 cases h with
 |rv h=>exact h.jR hM hd
 |bx hl h=>
  obtain⟨vs,rfl,h1,h2⟩:=hd;refine⟨vs,rfl,h1.trans hl,λi c' hi=>?_⟩
  rename_i cs fk;have aD:i<cs.length:=by rw[hl];exact(Ki.1 hi).1
  obtain⟨u,hu,hd⟩:=h2 i _ (vR aD);exact⟨u,hu,(h i _ _ (vR aD) hi).jR hM hd⟩
def CC.dC:CC->Bool
 | .ah _=>true
 | .fn _ []=>true
 |_=>false
def CV.dC:CV->Bool
 | .rv (.one c)=>c.dC
 | .rv (.agg cs)=>cs.all CC.dC
 |_=>false
theorem CC.sq{ρ U':bJ}{w:World}{c:CC}{v:Value}(hc:c.dC=true)(hS:∀b,ρ.S b->U'.S b)(h:bm ρ w .none c v):bm U' w .none c v:=by
 cases c
 case ah d=>exact dj.mono (S:=ρ.S) (S':=U'.S) (w:=w) (w':=w) hS (λ_ _=>rfl) h
 case fn f eM=>
  cases eM with
  |nil=>exact⟨aC,h.2⟩
  |cons c r=>simp[CC.dC]at hc
 all_goals simp[CC.dC]at hc
theorem CV.sq{ρ U':bJ}{w:World}{c:CV}{v:Value}(hc:c.dC=true)(hS:∀b,ρ.S b->U'.S b)(h:cf ρ w c v):cf U' w c v:=by
 cases c with
 |rv r=>
  cases r with
  |one c=>exact CC.sq hc hS h
  |agg cs=>
   obtain⟨vs,rfl,h1,h2⟩:=h;refine⟨vs,rfl,h1,λi c hi=>?_⟩
   obtain⟨u,hu,hd⟩:=h2 i c hi;exact⟨u,hu,CC.sq (abr.1 hc c (Tu hi)) hS hd⟩
 |_=>simp[CV.dC]at hc
theorem bi{f:Nat}{args:List CV}{m:Mem}{K0 K:CV->Mem->Prop}(h:aq P f args [] K0)(ha:∀c,c∈args->c.dC=true)(hK:∀r m1,K0 r m1->∃r',cN m1 r r'/\K r' m):aq P f args m K:=by
 refine⟨h.1,λρ w vs hM hl hd=>?_⟩
 let ρ0:bJ:={n:=0,aI:=λ_=>⟨0,0,0,0⟩,S:=ρ.S}
 have mr:aA ρ0 [] w:={
  n:=rfl
  S:=hM.S
  aO:=λk h=>by have:=h.eT;simp at this
  inj:=λk k' h=>by have:=h.eT;simp at this
  bk:=λid b h=>by simp at h
  ei:=λid i j esz elems h=>by obtain⟨_,h,_⟩:=h;simp at h}
 refine(h.2 ρ0 w vs mr hl λi c hi=>?_).mono λe w'⟨v,r,m1,ρ1,he,hk,rZ,vD,hx⟩=>?_
 .obtain⟨v,hv,hd⟩:=hd i c hi;exact⟨v,hv,CV.sq (ρ:=ρ) (U':=ρ0) (ha c (Tu hi)) (λ_ h=>h) hd⟩
 .obtain⟨r',hf,gh⟩:=hK r m1 hk;have jT:∀k,¬Live ρ0 [] k:=λk h=>by have:=h.eT;simp at this
  have u9:∀b,b<w.heap.size->w'.heap[b]? =w.heap[b]? :=λb hb=>hx.frame b hb λk hk=>absurd hk (jT k)
  have hS':∀b,(ρ.fT ρ1 m1).S b->ρ.S b\/w.heap.size<=b:=by
   rintro b (hb|⟨k,hk,rfl⟩)
   .rcases hx.S' b hb with h|h|⟨k,hk,_⟩
    .exact .inl h
    .exact .inr h
    .exact absurd hk (jT k)
   .rcases hx.aO k hk with h|⟨k0,h0,_⟩
    .exact .inr h
    .exact absurd h0 (jT k0)
  have bK:∀k,Live (ρ.fT ρ1 m1) m k↔Live ρ m k:=λk=>by cases k<;>rfl
  have g:iM ρ w (ρ.fT ρ1 m1) w':=⟨Yj _,λ_ _=>rfl,λb hb=>.inl (hx.S b hb),λb hb=>u9 b (hM.S b hb)⟩
  refine⟨v,r',m,ρ.fT ρ1 m1,he,gh,⟨hM.n,?_,?_,?_,?_,?_⟩,hf.jR rZ vD,⟨Yj _,λ_ _=>rfl,g.S,?_,?_,λb hb _=>u9 b hb,hx.size,hx.os,hx.tape,hx.output⟩⟩
  .intro b hb;rcases hb with hb|⟨k,hk,rfl⟩
   .exact rZ.S b hb
   .exact(rZ.aO k hk).1
  .intro k hk;have h1:=hM.aO k ((bK k).1 hk);refine⟨aaJ h1.1 hx.size,λhS=>?_⟩
   rcases hS' _ hS with h|h
   .exact h1.2 h
   .have:(ρ.aI k).b<w.heap.size:=h1.1;have h':w.heap.size<=(ρ.aI k).b:=h;omega
  .exact λk k' hk gh=>hM.inj k k' ((bK k).1 hk) ((bK k').1 gh)
  .intro id b hb;have h1:=hM.bk id b hb;have b8:∀{mk:Prop}cur,((∃k,k.id=id/\Live ρ m k/\(ρ.aI k).b=(ρ.aI (.aj id)).b))->mE mk w (ρ.aI (.aj id)).b cur->mE mk w' (ρ.aI (.aj id)).b cur:=λ{mk}cur _ hc=>hc.dH (u9 _ hc.lt)
   cases b with
   |aU=>trivial
   |var cs=>
    obtain⟨cur,b8,h2⟩:=h1;exact⟨cur,b8.dH (u9 _ b8.lt),λj c hj=>let⟨u,hu,hd⟩:=h2 j c hj;⟨u,hu,bm.cn g aC hd⟩⟩
   |row esz elems=>
    obtain⟨h2,h3,h4,h5,h6⟩:=h1;refine⟨h2,h3,h4,h5,λhp=>?_⟩
    obtain⟨cur,b8,h7,h8⟩:=h6 hp;exact⟨cur,b8.dH (u9 _ b8.lt),h7,λi cs j c hi hj=>let⟨u,hu,hd⟩:=h8 i cs j c hi hj;⟨u,hu,bm.cn g (by intro kJ i' j' e';cases e';rw[hM.n];exact(Ki.1 hb).1) hd⟩⟩
   |mp es=>
    obtain⟨bt,ck,h2,h3,h4⟩:=h1;exact⟨bt,ck,⟨(u9 _ (aaF.1 h2.1).1).trans h2.1,h2.2⟩,h3,λi e he=>let⟨e',mT,hk,hd⟩:=h4 i e he;⟨e',mT,hk,dk.cn g hd⟩⟩
   |it cur left=>
    obtain⟨mb,seen,ck,bt,h2,h3,h4,h5,h6⟩:=h1;exact⟨mb,seen,ck,bt,(u9 _ (aaF.1 h2).1).trans h2,h3,g.S _ h4,(g.heap mb h4).trans h5,h6⟩
   |mo esz es so=>exact cK.cn (bk:= .mo esz es so) g (by rw[hM.n];exact(Ki.1 hb).1) (λ_ _=>by obtain⟨bt,ck,h2,_⟩:=h1;exact u9 _ (aaF.1 h2.1).1) h1
   |iw mid ip seen=>exact cK.cn (bk:= .iw mid ip seen) g (by rw[hM.n];exact(Ki.1 hb).1) (λ_ _=>by obtain⟨_,_,s,h2,_⟩:=h1;exact u9 _ (aaF.1 h2).1) h1
  .intro id i j esz el ho bg;obtain⟨cur,b8,h2,h3,h4⟩:=hM.ei id i j esz el ho bg;exact⟨cur,b8.dH (u9 _ b8.lt),h2,h3,λi cs j d hi hj=>let⟨u,hu,hd⟩:=h4 i cs j d hi hj;⟨u,hu,dj.mono g.S g.heap hd⟩⟩
  .intro b hb;rcases hS' b hb with h|h
   .exact .inl h
   .exact .inr (.inl h)
  .intro k hk;exact .inr ⟨k,(bK k).1 hk,rfl⟩
def RV.dC:RV->Bool
 | .one c=>c.dC
 | .agg cs=>cs.all CC.dC
def CV.Dd:CV->Bool
 | .rv r=>r.dC
 | .bx rs=>rs.all RV.dC
 |_=>false
theorem ff.self{m:Mem}{c:CC}(h:c.dC=true):ff m c c:=by
 cases c
 case ah d=>exact .ah _
 case fn f eM=>
  cases eM with
  |nil=>exact .fn f
  |cons c r=>simp[CC.dC]at h
 all_goals simp[CC.dC]at h
theorem eZ.self{m:Mem}{r:RV}(h:r.dC=true):eZ m r r:=by
 cases r with
 |one c=>exact .one (ff.self h)
 |agg cs=>
  refine .agg rfl λi c c' h1 h2=>?_
  rw[h1]at h2;cases h2;exact ff.self (abr.1 h c (Tu h1))
theorem cN.self{m:Mem}{v:CV}(h:v.Dd=true):cN m v v:=by
 cases v with
 |rv r=>exact .rv (eZ.self h)
 |bx rs=>
  refine .bx rfl λi c c' h1 h2=>?_
  rw[h1]at h2;cases h2;exact eZ.self (abr.1 h c (Tu h1))
 |_=>simp[CV.Dd]at h
theorem bC{f:Nat}{fn:Func}{lf:LF}{args:List CV}{r0:CV}(hf:P.funcs[f]? =some fn)(hl:bz P fn=some lf)(hn:(fn.name== "runtime.NumGoroutine")=false)(hle:args.length<=lf.n)(h:body P lf args [] λr _=>r=r0)(ha:args.all CV.dC=true)(hr:r0.Dd=true){m:Mem}{K:CV->Mem->Prop}(hK:K r0 m):aq P f args m K:=
 bi (xb hf hl hn hle h) (λc hc=>abr.1 ha c hc) λr m1 he=>⟨r0,by subst he;exact .self hr,hK⟩
theorem vl{f:Nat}{fn:Func}{lf:LF}{args:List CV}{r0:CV}(hf:P.funcs[f]? =some fn)(hl:bz P fn=some lf.er)(hn:(fn.name== "runtime.NumGoroutine")=false)(hle:args.length<=lf.n)(h:body P lf args [] λr _=>r=r0)(ha:args.all CV.dC=true)(hr:r0.Dd=true){m:Mem}{K:CV->Mem->Prop}(hK:K r0 m):aq P f args m K:=
 bi (nR hf hl hn hle h) (λc hc=>abr.1 ha c hc) λr m1 he=>⟨r0,by subst he;exact .self hr,hK⟩
theorem ff.fg{m:Mem}{id esz:Nat}{ds:List (List Dt)}(h:m[id]? =some (.row esz (ds.map λes=>es.map .ah)))(lo:Nat)(hi:Option Nat):ff m (.row id esz lo hi) (.ah (.sl esz (b7 ds lo hi))):=by
 refine .row id esz lo hi _ ds h aC λi cs es h1 h2=>?_
 rw[Tr,h2]at h1;cases h1;refine⟨aC,λj c d h3 h4=>.inl ?_⟩
 rw[Tr,h4]at h3;cases h3;rfl
end
end Go.AM
