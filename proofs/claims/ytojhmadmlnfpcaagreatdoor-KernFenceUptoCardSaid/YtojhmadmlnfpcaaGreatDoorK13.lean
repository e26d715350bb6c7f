/- Part 13 of 43: what the law stands on. -/
import Derived.Test.YtojhmadmlnfpcaaGreatDoorK12
import Derived.IntWalk
set_option linter.unusedVariables false
set_option linter.unusedSimpArgs false
set_option linter.unnecessarySimpa false
set_option maxRecDepth 100000
set_option maxHeartbeats 64000000
namespace Go.AM
section
variable {P:Program}
theorem aE{t:Bool}{A B:Prop}(ha:t=true->A)(hb:t=false->B): @Bool.rec (fun _=>Prop) B A t:=by
 cases t
 .exact hb rfl
 .exact ha rfl
theorem cF{t:Bool}{A B:Prop}(h:t=true)(ha:A): @Bool.rec (fun _=>Prop) B A t:=by subst h;exact ha
theorem dZ{t:Bool}{A B:Prop}(h:t=false)(ha:B): @Bool.rec (fun _=>Prop) B A t:=by subst h;exact ha
theorem ag{α:Type}{o:Option α}{K:α->Prop}{x:α}(h:o=some x)(k:K x): @Option.rec α (fun _=>Prop) False K o:=by subst h;exact k
theorem zR{α:Type}(l:List α)(n:Int):cy l n=if 0<=n then l[n.toNat]? else none:=by
 cases n with
 |ofNat k=>simp[cy,aX]
 |negSucc k=>simp[cy]
theorem bl{α:Type}(l:List α)(k:Nat):cy l (k:Int)=l[k]? :=by simp[zR]
theorem OO(n:Int)(len:Nat):dU n len=if 0<=n/\n.toNat<len then some n.toNat else none:=by
 cases n with
 |ofNat k=>
  simp only[dU];cases h:Nat.blt k len
  .have:¬k<len:=fun hh=>by rw[<-abe]at hh;rw[hh]at h;cases h
   simp[this]
  .rw[abe]at h;simp[h]
 |negSucc k=>simp[dU]
theorem bT{k len:Nat}(h:k<len):dU (k:Int) len=some k:=by rw[OO,if_pos ⟨om,by simpa using h⟩];simp
inductive my:List CV->List CV->Prop
 |nil:my [] []
 |ap {v:CV} {e e':List CV} (h:my e e'):my (v::e) (.ap::e')
 |eH {v:CV} {e e':List CV} (h:my e e'):my (v::e) (v::e')
theorem my.len{e e':List CV}(h:my e e'):e'.length=e.length:=by
 induction h<;>simp[*]
theorem my.get{e e':List CV}(h:my e e'):∀(i:Nat)v,e'[i]? =some v->v= .ap\/e[i]? =some v:=by
 induction h with
 |nil=>intro i v h;simp at h
 |ap h ih=>
  intro i v hv;cases i with
  |zero=>simp at hv;exact .inl hv.symm
  |succ i=>simpa using ih i v (by simpa using hv)
 |eH h ih=>
  intro i v hv;cases i with
  |zero=>simp at hv;exact .inr (by simp[hv])
  |succ i=>simpa using ih i v (by simpa using hv)
theorem my.put{v v':CV}{e e':List CV}(hv:v=v')(h:my e e'):my (v::e) (v'::e'):=by subst hv;exact .eH h
theorem jN{n:Nat}(h:n<=9223372036854775807):IntKind.i64.wrap (n:Int)=n:=IntWalk.i64_in n om
theorem aq{k:Nat}(h:k<9223372036854775807):(CV.rv (.one (.aa (.val (.int .i64 (IntKind.i64.wrap ((k:Int)+1)))))))=an .i64 ((k+1:Nat):Int):=by have:=jN (n:=k+1) om;unfold an;rw[<-this];rfl
theorem mq.refl:∀(m:Mem),mq m m
 | []=>.nil []
 |b::r=>.cons (.inl rfl) (mq.refl r)
theorem B3{n0:Nat}{e e':List CV}{m:Mem}(hn:n0<=m.length)(h:my e e'):View n0 ⟨e,m⟩ ⟨e',m⟩:=
 KH.view ⟨hn,h.len,fun i v hv=>(h.get i v hv).imp id fun h=>⟨h,.inl rfl⟩,mq.refl m,.inl rfl⟩
def QF(i:Nat)(v:CV):List (Nat×CV)->CV
 | []=>v
 |(j,x)::r=>match Nat.beq i j with|true=>x|false=>QF i v r
def QG(f:List (Nat×CV)):Nat->List CV->(List CV->List CV)->List CV
 |_,[],k=>k []
 |i,v::r,k=>fV (QF i v f) fun v'=>QG f (i+1) r fun r'=>k (v'::r')
def B4(e:List CV)(f:List (Nat×CV)):List CV:=QG f 0 e fun e=>e
def Li(m:Mem):List (Nat×Bk)->Mem
 | []=>m
 |(i,v)::r=>ba (Li m r) i v
theorem Lj{n0:Nat}{b:LC}{K:Ex->St->Prop}{s:St}{α:Type}(J:α->Prop)(f:α->List (Nat×CV))(g:α->List (Nat×Bk))(μ:α->Nat)(a0:α)(h0:J a0)(start:View n0 s ⟨B4 s.aY (f a0),Li s.mem (g a0)⟩)(round:∀a,J a->aw P n0 b (GL n0 J (fun a=>⟨B4 s.aY (f a),Li s.mem (g a)⟩) μ (μ a) K) ⟨B4 s.aY (f a),Li s.mem (g a)⟩):aw P n0 (.loop b) K s:=
 ⟨α,J,fun a=>⟨B4 s.aY (f a),Li s.mem (g a)⟩,μ,⟨a0,h0,start⟩,round⟩
end
section
variable {P:Program}
inductive eI(m:Mem):CC->CC->Prop
 |aa (d:Dt):eI m (.aa d) (.aa d)
 |aI (esz:Nat):eI m .aI (.aa (.sl esz []))
 |fn (f:Nat):eI m (.fn f []) (.fn f [])
 |row (id esz lo:Nat) (hi:Option Nat) (elems:List (List CC)) (ds:List (List Dt)) (h:m[id]? =some (.row esz elems)) (hl:elems.length=ds.length)
   (hd:∀(i:Nat)cs es,elems[i]? =some cs->ds[i]? =some es->cs.length=es.length/\∀(j:Nat)c d,cs[j]? =some c->es[j]? =some d->c= .aa d\/∃s e,c= .gX s e/\d= .sl s e):
   eI m (.row id esz lo hi) (.aa (.sl esz (cw ds lo hi)))
inductive eP(m:Mem):RV->RV->Prop
 |one {c c':CC} (h:eI m c c'):eP m (.one c) (.one c')
 |agg {cs eu:List CC} (hl:cs.length=eu.length) (h:∀(i:Nat)c c',cs[i]? =some c->eu[i]? =some c'->eI m c c'):eP m (.agg cs) (.agg eu)
inductive cJ(m:Mem):CV->CV->Prop
 |rv {r r':RV} (h:eP m r r'):cJ m (.rv r) (.rv r')
 |bF {rs Ix:List RV} (hl:rs.length=Ix.length) (h:∀(i:Nat)r r',rs[i]? =some r->Ix[i]? =some r'->eP m r r'):cJ m (.bF rs) (.bF Ix)
def bL.fv(ρ:bL)(ρ1:bL)(m1:Mem):bL:={ρ with S:=fun b=>ρ1.S b\/∃k,Live ρ1 m1 k/\(ρ1.aR k).b=b}
theorem q8{α:Type}(l:List α)(lo:Nat)(hi:Option Nat)(i:Nat)(x:α)(h:(cw l lo hi)[i]? =some x):l[lo+i]? =some x:=by
 rw[lF]at h;rw[aaZ]at h;cases hi with
 |none=>exact h
 |some k=>
  simp only at h;rw[aaK]at h;split at h
  .exact h
  .cases h
theorem B5{α:Type}(l:List α)(lo:Nat)(hi:Option Nat)(h1:lo<=hi.getD l.length)(h2:hi.getD l.length<=l.length):(cw l lo hi).length=hi.getD l.length-lo:=by
 rw[lF];cases hi with
 |none=>simp
 |some k=>simp at h1 h2⊢;omega
theorem eI.lg{ρ ρ1:bL}{m1:Mem}{w:World}(hM:aH ρ1 m1 w){c c':CC}(h:eI m1 c c'){v:Value}(hd:bz ρ1 w .none c v):bz (ρ.fv ρ1 m1) w .none c' v:=by
 have mono:∀{d:Dt}{v:Value},dz ρ1.S w d v->dz (ρ.fv ρ1 m1).S w d v:=fun h=>h.mono (fun _ h=>.inl h) (fun _ _=>rfl)
 cases h with
 |aa d=>exact mono hd
 |aI esz=>
  obtain⟨a,rfl⟩:=hd;exact .nil esz a 0 (aao _)
 |fn f=>
  obtain⟨_,rfl⟩:=hd;exact⟨aG,rfl⟩
 |row id esz lo hi elems ds hb hl It=>
  obtain⟨h1,h2,h3,h4,h5,a,rfl,ha⟩:=hd;obtain⟨g1,g2,g3,g4,g5⟩:=hM.bk id _ hb;have lJ:ds.length=(ρ1.aR (.au id)).len:=om;have hlen:(cw ds lo hi).length=hi.getD (ρ1.aR (.au id)).len-lo:=by
   rw[<-lJ];exact B5 ds lo hi (by rw[lJ];exact h2) (by rw[lJ];exact h3)
  show dz _ w (.sl esz (cw ds lo hi)) _;rw[<-hlen];rcases aaY (cw ds lo hi).length with h0|dD
  .rw[h0,aat h0];exact .nil esz a _ om
  .have gR:lo<(ρ1.aR (.au id)).cap:=om;obtain⟨cur,b9,dI,ez⟩:=g5 om;rw[ha gR];have key:∀(i:Nat)es(j:Nat)d,(cw ds lo hi)[i]? =some es->es[j]? =some d->∃u,w.cell? ⟨(ρ1.aR (.au id)).b,(ρ1.aR (.au id)).ax+lo*esz+i*esz+j,.none⟩=some u/\dz (ρ.fv ρ1 m1).S w d u:=by
    intro i es j d eC hj;have eL:=q8 ds lo hi i es eC;have aC:lo+i<elems.length:=by rw[hl];exact(aac.1 eL).1
    have Kg:=aab aC;obtain⟨rP,dG⟩:=It _ _ _ Kg eL;have dA:j<elems[lo+i].length:=by rw[rP];exact(aac.1 hj).1
    have QH:=aab dA;obtain⟨u,hu,cn⟩:=ez _ _ _ _ Kg QH;refine⟨u,?_,?_⟩
    .rw[b9.cell,<-hu];congr 1;rw[aa2];omega
    .rcases dG _ _ _ QH hj with hc|⟨s,e,hc,rfl⟩
     .rw[hc]at cn;exact mono cn
     .rw[hc]at cn QH;obtain⟨jL,i',j',yL,q1,q2,a',rfl,q3⟩:=cn;simp only[aaA,acG]at yL;obtain⟨rfl,rfl,rfl⟩:=yL;rcases aaY e.length with he|he
      .rw[aat he];exact .nil s a' _ om
      .have mr:fI m1 id (lo+i) j s e:=⟨_,_,_,hb,Kg,QH⟩;obtain⟨gn,BQ,w1,w2,w3⟩:=hM.gX _ _ _ _ _ mr om;rw[q3 om];have Ei:Live ρ1 m1 (.sub id (lo+i) j):=⟨⟨_,_,mr⟩,om⟩;have ky:∀(i2:Nat)cs(j2:Nat)d2,e[i2]? =some cs->cs[j2]? =some d2->∃u,w.cell? ⟨(ρ1.aR (.sub id (lo+i) j)).b,(ρ1.aR (.sub id (lo+i) j)).ax+i2*s+j2,.none⟩=some u/\dz (ρ.fv ρ1 m1).S w d2 u:=by
        intro i2 cs j2 d2 eL km;obtain⟨u,hu,hd⟩:=w3 i2 cs j2 d2 eL km;exact⟨u,by rw[BQ.cell];exact hu,mono hd⟩
       exact dz.sl s e _ _ _ (fun i2 j2=>(w.cell? ⟨(ρ1.aR (.sub id (lo+i) j)).b,(ρ1.aR (.sub id (lo+i) j)).ax+i2*s+j2,.none⟩).getD Go.undef) (.inr ⟨_,Ei,rfl⟩) q1 q2 w2
        (fun i2 cs j2 d2 eL km=>by obtain⟨u,hu,_⟩:=ky i2 cs j2 d2 eL km;rw[hu];rfl)
        (fun i2 cs j2 d2 eL km=>by obtain⟨u,hu,hd⟩:=ky i2 cs j2 d2 eL km;rw[hu];exact hd)
   refine dz.sl esz (cw ds lo hi) _ _ _ (fun i j=>(w.cell? ⟨(ρ1.aR (.au id)).b,(ρ1.aR (.au id)).ax+lo*esz+i*esz+j,.none⟩).getD Go.undef) (.inr ⟨.au id,⟨_,hb,aG,fun _=>om⟩,rfl⟩) om om (fun es qn=>?_)
    (fun i cs j d eC hj=>by obtain⟨u,hu,_⟩:=key i cs j d eC hj;rw[hu];rfl)
    (fun i cs j d eC hj=>by obtain⟨u,hu,hd⟩:=key i cs j d eC hj;rw[hu];exact hd)
   obtain⟨i,eC⟩:=aam qn;have eL:=q8 ds lo hi i es eC;have aC:lo+i<elems.length:=by rw[hl];exact(aac.1 eL).1
   have Kg:=aab aC;obtain⟨rP,_⟩:=It _ _ _ Kg eL;rw[<-rP];exact g4 _ (aau aC)
theorem eP.lg{ρ ρ1:bL}{m1:Mem}{w:World}(hM:aH ρ1 m1 w){c c':RV}(h:eP m1 c c'){v:Value}(hd:dW ρ1 w c v):dW (ρ.fv ρ1 m1) w c' v:=by
 cases h with
 |one h=>exact h.lg hM hd
 |agg hl h=>
  obtain⟨vs,rfl,h1,h2⟩:=hd;refine⟨vs,rfl,h1.trans hl,fun i c' hi=>?_⟩
  rename_i cs eu;have aC:i<cs.length:=by rw[hl];exact(aac.1 hi).1
  obtain⟨u,hu,hd⟩:=h2 i _ (aab aC);exact⟨u,hu,(h i _ _ (aab aC) hi).lg hM hd⟩
theorem cJ.lg{ρ ρ1:bL}{m1:Mem}{w:World}(hM:aH ρ1 m1 w){c c':CV}(h:cJ m1 c c'){v:Value}(hd:b8 ρ1 w c v):b8 (ρ.fv ρ1 m1) w c' v:=by
 cases h with
 |rv h=>exact h.lg hM hd
 |bF hl h=>
  obtain⟨vs,rfl,h1,h2⟩:=hd;refine⟨vs,rfl,h1.trans hl,fun i c' hi=>?_⟩
  rename_i cs eu;have aC:i<cs.length:=by rw[hl];exact(aac.1 hi).1
  obtain⟨u,hu,hd⟩:=h2 i _ (aab aC);exact⟨u,hu,(h i _ _ (aab aC) hi).lg hM hd⟩
def CC.dx:CC->Bool
 | .aa _=>true
 | .fn _ []=>true
 |_=>false
def CV.dx:CV->Bool
 | .rv (.one c)=>c.dx
 | .rv (.agg cs)=>cs.all CC.dx
 |_=>false
theorem CC.q9{ρ ρ':bL}{w:World}{c:CC}{v:Value}(hc:c.dx=true)(hS:∀b,ρ.S b->ρ'.S b)(h:bz ρ w .none c v):bz ρ' w .none c v:=by
 cases c
 case aa d=>exact dz.mono (S:=ρ.S) (S':=ρ'.S) (w:=w) (w':=w) hS (fun _ _=>rfl) h
 case fn f ew=>
  cases ew with
  |nil=>exact⟨aG,h.2⟩
  |cons c r=>simp[CC.dx]at hc
 all_goals simp[CC.dx]at hc
theorem CV.q9{ρ ρ':bL}{w:World}{c:CV}{v:Value}(hc:c.dx=true)(hS:∀b,ρ.S b->ρ'.S b)(h:b8 ρ w c v):b8 ρ' w c v:=by
 cases c with
 |rv r=>
  cases r with
  |one c=>exact CC.q9 hc hS h
  |agg cs=>
   obtain⟨vs,rfl,h1,h2⟩:=h;refine⟨vs,rfl,h1,fun i c hi=>?_⟩
   obtain⟨u,hu,hd⟩:=h2 i c hi;exact⟨u,hu,CC.q9 (aaW.1 hc c (aag hi)) hS hd⟩
 |_=>simp[CV.dx]at hc
theorem bb{f:Nat}{args:List CV}{m:Mem}{K0 K:CV->Mem->Prop}(h:ar P f args [] K0)(ha:∀c,c∈args->c.dx=true)(hK:∀r m1,K0 r m1->∃r',cJ m1 r r'/\K r' m):ar P f args m K:=by
 refine⟨h.1,fun ρ w vs hM hl hd=>?_⟩
 let ρ0:bL:={n:=0,aR:=fun _=>⟨0,0,0,0⟩,S:=ρ.S}
 have lH:aH ρ0 [] w:={
  n:=rfl
  S:=hM.S
  aV:=fun k h=>by have:=h.gB;simp at this
  inj:=fun k k' h=>by have:=h.gB;simp at this
  bk:=fun id b h=>by simp at h
  gX:=fun id i j esz elems h=>by obtain⟨_,_,_,h,_⟩:=h;simp at h}
 refine(h.2 ρ0 w vs lH hl fun i c hi=>?_).mono fun e w'⟨v,r,m1,ρ1,he,hk,uQ,xP,hx⟩=>?_
 .obtain⟨v,hv,hd⟩:=hd i c hi;exact⟨v,hv,CV.q9 (ρ:=ρ) (ρ':=ρ0) (ha c (aag hi)) (fun _ h=>h) hd⟩
 .obtain⟨r',hf,ij⟩:=hK r m1 hk;have kM:∀k,¬Live ρ0 [] k:=fun k h=>by have:=h.gB;simp at this
  have xG:∀b,b<w.heap.size->w'.heap[b]? =w.heap[b]? :=fun b hb=>hx.frame b hb fun k hk=>absurd hk (kM k)
  have hS':∀b,(ρ.fv ρ1 m1).S b->ρ.S b\/w.heap.size<=b:=by
   rintro b (hb|⟨k,hk,rfl⟩)
   .rcases hx.S' b hb with h|h|⟨k,hk,_⟩
    .exact .inl h
    .exact .inr h
    .exact absurd hk (kM k)
   .rcases hx.aV k hk with h|⟨k0,h0,_⟩
    .exact .inr h
    .exact absurd h0 (kM k0)
  have dh:∀k,Live (ρ.fv ρ1 m1) m k↔Live ρ m k:=fun k=>by cases k<;>rfl
  have g:iT ρ w (ρ.fv ρ1 m1) w':=⟨aaj _,fun _ _=>rfl,fun b hb=>.inl (hx.S b hb),fun b hb=>xG b (hM.S b hb)⟩
  refine⟨v,r',m,ρ.fv ρ1 m1,he,ij,⟨hM.n,?_,?_,?_,?_,?_⟩,hf.lg uQ xP,⟨aaj _,fun _ _=>rfl,g.S,?_,?_,fun b hb _=>xG b hb,hx.size,hx.os,hx.tape,hx.output⟩⟩
  .intro b hb;rcases hb with hb|⟨k,hk,rfl⟩
   .exact uQ.S b hb
   .exact(uQ.aV k hk).1
  .intro k hk;have h1:=hM.aV k ((dh k).1 hk);refine⟨aaH h1.1 hx.size,fun hS=>?_⟩
   rcases hS' _ hS with h|h
   .exact h1.2 h
   .have:(ρ.aR k).b<w.heap.size:=h1.1;have h':w.heap.size<=(ρ.aR k).b:=h;omega
  .exact fun k k' hk ij=>hM.inj k k' ((dh k).1 hk) ((dh k').1 ij)
  .intro id b hb;have h1:=hM.bk id b hb;have b9:∀{mk:Prop}cur,((∃k,k.id=id/\Live ρ m k/\(ρ.aR k).b=(ρ.aR (.au id)).b))->mf mk w (ρ.aR (.au id)).b cur->mf mk w' (ρ.aR (.au id)).b cur:=fun{mk}cur _ hc=>hc.dK (xG _ hc.lt)
   cases b with
   |bh=>trivial
   |var cs=>
    obtain⟨cur,b9,h2⟩:=h1;exact⟨cur,b9.dK (xG _ b9.lt),fun j c hj=>let⟨u,hu,hd⟩:=h2 j c hj;⟨u,hu,bz.cM g aG hd⟩⟩
   |row esz elems=>
    obtain⟨h2,h3,h4,h5,h6⟩:=h1;refine⟨h2,h3,h4,h5,fun hp=>?_⟩
    obtain⟨cur,b9,h7,h8⟩:=h6 hp;exact⟨cur,b9.dK (xG _ b9.lt),h7,fun i cs j c hi hj=>let⟨u,hu,hd⟩:=h8 i cs j c hi hj;⟨u,hu,bz.cM g (by intro jL i' j' e';cases e';rw[hM.n];exact(aac.1 hb).1) hd⟩⟩
   |mp es=>
    obtain⟨cV,ck,h2,h3,h4⟩:=h1;exact⟨cV,ck,⟨(xG _ (aaF.1 h2.1).1).trans h2.1,h2.2⟩,h3,fun i e he=>let⟨e',tE,hk,hd⟩:=h4 i e he;⟨e',tE,hk,dW.cM g hd⟩⟩
   |it cur left=>
    obtain⟨mb,seen,ck,cV,h2,h3,h4,h5,h6⟩:=h1;exact⟨mb,seen,ck,cV,(xG _ (aaF.1 h2).1).trans h2,h3,g.S _ h4,(g.heap mb h4).trans h5,h6⟩
  .intro id i j esz el ho bp;obtain⟨cur,b9,h2,h3,h4⟩:=hM.gX id i j esz el ho bp;exact⟨cur,b9.dK (xG _ b9.lt),h2,h3,fun i cs j d hi hj=>let⟨u,hu,hd⟩:=h4 i cs j d hi hj;⟨u,hu,dz.mono g.S g.heap hd⟩⟩
  .intro b hb;rcases hS' b hb with h|h
   .exact .inl h
   .exact .inr (.inl h)
  .intro k hk;exact .inr ⟨k,(dh k).1 hk,rfl⟩
def RV.dx:RV->Bool
 | .one c=>c.dx
 | .agg cs=>cs.all CC.dx
def CV.B6:CV->Bool
 | .rv r=>r.dx
 | .bF rs=>rs.all RV.dx
 |_=>false
theorem eI.self{m:Mem}{c:CC}(h:c.dx=true):eI m c c:=by
 cases c
 case aa d=>exact .aa _
 case fn f ew=>
  cases ew with
  |nil=>exact .fn f
  |cons c r=>simp[CC.dx]at h
 all_goals simp[CC.dx]at h
theorem eP.self{m:Mem}{r:RV}(h:r.dx=true):eP m r r:=by
 cases r with
 |one c=>exact .one (eI.self h)
 |agg cs=>
  refine .agg rfl fun i c c' h1 h2=>?_
  rw[h1]at h2;cases h2;exact eI.self (aaW.1 h c (aag h1))
theorem cJ.self{m:Mem}{v:CV}(h:v.B6=true):cJ m v v:=by
 cases v with
 |rv r=>exact .rv (eP.self h)
 |bF rs=>
  refine .bF rfl fun i c c' h1 h2=>?_
  rw[h1]at h2;cases h2;exact eP.self (aaW.1 h c (aag h1))
 |_=>simp[CV.B6]at h
theorem bm{f:Nat}{fn:Func}{lf:LF}{args:List CV}{r0:CV}(hf:P.funcs[f]? =some fn)(hl:bs P fn=some lf)(hn:(fn.name== "runtime.NumGoroutine")=false)(hle:args.length<=lf.n)(h:body P lf args [] fun r _=>r=r0)(ha:args.all CV.dx=true)(hr:r0.B6=true){m:Mem}{K:CV->Mem->Prop}(hK:K r0 m):ar P f args m K:=
 bb (vF hf hl hn hle h) (fun c hc=>aaW.1 ha c hc) fun r m1 he=>⟨r0,by subst he;exact .self hr,hK⟩
theorem js{f:Nat}{fn:Func}{lf:LF}{args:List CV}{r0:CV}(hf:P.funcs[f]? =some fn)(hl:bs P fn=some lf.er)(hn:(fn.name== "runtime.NumGoroutine")=false)(hle:args.length<=lf.n)(h:body P lf args [] fun r _=>r=r0)(ha:args.all CV.dx=true)(hr:r0.B6=true){m:Mem}{K:CV->Mem->Prop}(hK:K r0 m):ar P f args m K:=
 bb (mX hf hl hn hle h) (fun c hc=>aaW.1 ha c hc) fun r m1 he=>⟨r0,by subst he;exact .self hr,hK⟩
theorem eI.eE{m:Mem}{id esz:Nat}{ds:List (List Dt)}(h:m[id]? =some (.row esz (ds.map fun es=>es.map .aa)))(lo:Nat)(hi:Option Nat):eI m (.row id esz lo hi) (.aa (.sl esz (cw ds lo hi))):=by
 refine .row id esz lo hi _ ds h aG fun i cs es h1 h2=>?_
 rw[aaf,h2]at h1;cases h1;refine⟨aG,fun j c d h3 h4=>.inl ?_⟩
 rw[aaf,h4]at h3;cases h3;rfl
end
end Go.AM
