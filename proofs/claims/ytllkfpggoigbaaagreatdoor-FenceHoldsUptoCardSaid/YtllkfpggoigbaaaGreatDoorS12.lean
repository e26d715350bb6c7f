/- Part 12 of 35. -/
import Derived.Test.YtllkfpggoigbaaaGreatDoorS11
import Derived.IntWalk
set_option linter.unusedVariables false
set_option linter.unusedSimpArgs false
set_option linter.unnecessarySimpa false
set_option maxRecDepth 100000
set_option maxHeartbeats 0
namespace Go.AM
section
variable {P:Program}
theorem aA{t:Bool}{A B:Prop}(ha:t=true->A)(hb:t=false->B): @Bool.rec (λ_=>Prop) B A t:=by
 cases t
 .exact hb rfl
 .exact ha rfl
theorem bV{t:Bool}{A B:Prop}(h:t=true)(ha:A): @Bool.rec (λ_=>Prop) B A t:=by subst h;exact ha
theorem gG{t:Bool}{A B:Prop}(h:t=false)(ha:B): @Bool.rec (λ_=>Prop) B A t:=by subst h;exact ha
theorem af{α:Type}{o:Option α}{K:α->Prop}{x:α}(h:o=some x)(k:K x): @Option.rec α (λ_=>Prop) False K o:=by subst h;exact k
theorem IX{α:Type}(l:List α)(n:Int):cm l n=if 0<=n then l[n.toNat]? else none:=by
 cases n with
 |ofNat k=>simp[cm,aW]
 |negSucc k=>simp[cm]
theorem aU{α:Type}(l:List α)(k:Nat):cm l (k:Int)=l[k]? :=by simp[IX]
theorem R1(n:Int)(len:Nat):dL n len=if 0<=n/\n.toNat<len then some n.toNat else none:=by
 cases n with
 |ofNat k=>
  simp only[dL];cases h:Nat.blt k len
  .have:¬k<len:=λhh=>by rw[<-aci]at hh;rw[hh]at h;cases h
   simp[this]
  .rw[aci]at h;simp[h]
 |negSucc k=>simp[dL]
theorem bJ{k len:Nat}(h:k<len):dL (k:Int) len=some k:=by rw[R1,if_pos ⟨om,by simpa using h⟩];simp
inductive nD:List CV->List CV->Prop
 |nil:nD [] []
 |aH {v:CV} {e e':List CV} (h:nD e e'):nD (v::e) (.aH::e')
 |ez {v:CV} {e e':List CV} (h:nD e e'):nD (v::e) (v::e')
theorem nD.len{e e':List CV}(h:nD e e'):e'.length=e.length:=by
 induction h<;>simp[*]
theorem nD.get{e e':List CV}(h:nD e e'):∀(i:Nat)v,e'[i]? =some v->v= .aH\/e[i]? =some v:=by
 induction h with
 |nil=>intro i v h;simp at h
 |aH h ih=>
  intro i v hv;cases i with
  |zero=>simp at hv;exact .inl hv.symm
  |succ i=>simpa using ih i v (by simpa using hv)
 |ez h ih=>
  intro i v hv;cases i with
  |zero=>simp at hv;exact .inr (by simp[hv])
  |succ i=>simpa using ih i v (by simpa using hv)
theorem nD.put{v v':CV}{e e':List CV}(hv:v=v')(h:nD e e'):nD (v::e) (v'::e'):=by subst hv;exact .ez h
theorem lW{n:Nat}(h:n<=9223372036854775807):IntKind.i64.wrap (n:Int)=n:=IntWalk.i64_in n om
theorem br{k:Nat}(h:k<9223372036854775807):(CV.rv (.one (.ai (.val (.int .i64 (IntKind.i64.wrap ((k:Int)+1)))))))=al .i64 ((k+1:Nat):Int):=by have:=lW (n:=k+1) om;unfold al;rw[<-this];rfl
theorem nt.refl:∀(m:Mem),nt m m
 | []=>.nil []
 |b::r=>.cons (.inl rfl) (nt.refl r)
theorem DK{n0:Nat}{e e':List CV}{m:Mem}(hn:n0<=m.length)(h:nD e e'):View n0 ⟨e,m⟩ ⟨e',m⟩:=
 Nr.view ⟨hn,h.len,λi v hv=>(h.get i v hv).imp id λh=>⟨h,.inl rfl⟩,nt.refl m,.inl rfl⟩
def UD(i:Nat)(v:CV):List (Nat×CV)->CV
 | []=>v
 |(j,x)::r=>match Nat.beq i j with|true=>x|false=>UD i v r
def UE(f:List (Nat×CV)):Nat->List CV->(List CV->List CV)->List CV
 |_,[],k=>k []
 |i,v::r,k=>fV (UD i v f) λv'=>UE f (i+1) r λr'=>k (v'::r')
def DL(e:List CV)(f:List (Nat×CV)):List CV:=UE f 0 e λe=>e
def N1(m:Mem):List (Nat×Bk)->Mem
 | []=>m
 |(i,v)::r=>aX (N1 m r) i v
theorem N2{n0:Nat}{b:LC}{K:Ex->St->Prop}{s:St}{α:Type}(J:α->Prop)(f:α->List (Nat×CV))(g:α->List (Nat×Bk))(μ:α->Nat)(a0:α)(h0:J a0)(start:View n0 s ⟨DL s.aY (f a0),N1 s.mem (g a0)⟩)(round:∀a,J a->aw P n0 b (IE n0 J (λa=>⟨DL s.aY (f a),N1 s.mem (g a)⟩) μ (μ a) K) ⟨DL s.aY (f a),N1 s.mem (g a)⟩):aw P n0 (.loop b) K s:=
 ⟨α,J,λa=>⟨DL s.aY (f a),N1 s.mem (g a)⟩,μ,⟨a0,h0,start⟩,round⟩
end
section
variable {P:Program}
inductive d7(m:Mem):CC->CC->Prop
 |ai (d:Dt):d7 m (.ai d) (.ai d)
 |bt (esz:Nat):d7 m .bt (.ai (.sl esz []))
 |fn (f:Nat):d7 m (.fn f []) (.fn f [])
 |row (id esz lo:Nat) (hi:Option Nat) (elems:List (List CC)) (ds:List (List Dt)) (h:m[id]? =some (.row esz elems)) (hl:elems.length=ds.length)
   (hd:∀(i:Nat)cs es,elems[i]? =some cs->ds[i]? =some es->cs.length=es.length/\∀(j:Nat)c d,cs[j]? =some c->es[j]? =some d->c= .ai d\/∃s e,c= .iJ s e/\d= .sl s e):
   d7 m (.row id esz lo hi) (.ai (.sl esz (bA ds lo hi)))
inductive dE(m:Mem):RV->RV->Prop
 |one {c c':CC} (h:d7 m c c'):dE m (.one c) (.one c')
 |agg {cs fg:List CC} (hl:cs.length=fg.length) (h:∀(i:Nat)c c',cs[i]? =some c->fg[i]? =some c'->d7 m c c'):dE m (.agg cs) (.agg fg)
inductive cH(m:Mem):CV->CV->Prop
 |rv {r r':RV} (h:dE m r r'):cH m (.rv r) (.rv r')
 |bG {rs KO:List RV} (hl:rs.length=KO.length) (h:∀(i:Nat)r r',rs[i]? =some r->KO[i]? =some r'->dE m r r'):cH m (.bG rs) (.bG KO)
def bX.dG(ρ:bX)(ρ1:bX)(m1:Mem):bX:={ρ with S:=λb=>ρ1.S b\/∃k,Live ρ1 m1 k/\(ρ1.aV k).b=b}
theorem sW{α:Type}(l:List α)(lo:Nat)(hi:Option Nat)(i:Nat)(x:α)(h:(bA l lo hi)[i]? =some x):l[lo+i]? =some x:=by
 rw[mR]at h;rw[ab5]at h;cases hi with
 |none=>exact h
 |some k=>
  simp only at h;rw[abK]at h;split at h
  .exact h
  .cases h
theorem DM{α:Type}(l:List α)(lo:Nat)(hi:Option Nat)(h1:lo<=hi.getD l.length)(h2:hi.getD l.length<=l.length):(bA l lo hi).length=hi.getD l.length-lo:=by
 rw[mR];cases hi with
 |none=>simp
 |some k=>simp at h1 h2|-;omega
theorem d7.lR{ρ ρ1:bX}{m1:Mem}{w:World}(hM:aK ρ1 m1 w){c c':CC}(h:d7 m1 c c'){v:Value}(hd:bH ρ1 w .none c v):bH (ρ.dG ρ1 m1) w .none c' v:=by
 have mono:∀{d:Dt}{v:Value},dx ρ1.S w d v->dx (ρ.dG ρ1 m1).S w d v:=λh=>h.mono (λ_ h=>.inl h) (λ_ _=>rfl)
 cases h with
 |ai d=>exact mono hd
 |bt esz=>
  obtain⟨a,rfl⟩:=hd;exact .nil esz a 0 (WG _)
 |fn f=>
  obtain⟨_,rfl⟩:=hd;exact⟨aD,rfl⟩
 |row id esz lo hi elems ds hb hl NP=>
  obtain⟨h1,h2,h3,h4,h5,a,rfl,ha⟩:=hd;obtain⟨g1,g2,g3,g4,g5⟩:=hM.bk id _ hb;have lH:ds.length=(ρ1.aV (.ay id)).len:=om;have hlen:(bA ds lo hi).length=hi.getD (ρ1.aV (.ay id)).len-lo:=by
   rw[<-lH];exact DM ds lo hi (by rw[lH];exact h2) (by rw[lH];exact h3)
  show dx _ w (.sl esz (bA ds lo hi)) _;rw[<-hlen];rcases abY (bA ds lo hi).length with h0|dD
  .rw[h0,aaX h0];exact .nil esz a _ om
  .have ix:lo<(ρ1.aV (.ay id)).cap:=om;obtain⟨cur,cn,dQ,eI⟩:=g5 om;rw[ha ix];have key:∀(i:Nat)es(j:Nat)d,(bA ds lo hi)[i]? =some es->es[j]? =some d->∃u,w.cell? ⟨(ρ1.aV (.ay id)).b,(ρ1.aV (.ay id)).aB+lo*esz+i*esz+j,.none⟩=some u/\dx (ρ.dG ρ1 m1).S w d u:=by
    intro i es j d eM hj;have eR:=sW ds lo hi i es eM;have ax:lo+i<elems.length:=by rw[hl];exact(Lw.1 eR).1
    have MY:=wy ax;obtain⟨tX,fA⟩:=NP _ _ _ MY eR;have bQ:j<elems[lo+i].length:=by rw[tX];exact(Lw.1 hj).1
    have UF:=wy bQ;obtain⟨u,hu,cI⟩:=eI _ _ _ _ MY UF;refine⟨u,?_,?_⟩
    .rw[cn.cell,<-hu];congr 1;rw[ab3];omega
    .rcases fA _ _ _ UF hj with hc|⟨s,e,hc,rfl⟩
     .rw[hc]at cI;exact mono cI
     .rw[hc]at cI UF;obtain⟨kZ,i',j',AF,q1,q2,a',rfl,q3⟩:=cI;simp only[abe,Prod.mk.injEq]at AF;obtain⟨rfl,rfl,rfl⟩:=AF;rcases abY e.length with he|he
      .rw[aaX he];exact .nil s a' _ om
      .have nv:gN m1 id (lo+i) j s e:=⟨_,_,_,hb,MY,UF⟩;obtain⟨iq,Dy,w1,w2,w3⟩:=hM.iJ _ _ _ _ _ nv om;rw[q3 om];have Du:Live ρ1 m1 (.sub id (lo+i) j):=⟨⟨_,_,nv⟩,om⟩;have ky:∀(i2:Nat)cs(j2:Nat)d2,e[i2]? =some cs->cs[j2]? =some d2->∃u,w.cell? ⟨(ρ1.aV (.sub id (lo+i) j)).b,(ρ1.aV (.sub id (lo+i) j)).aB+i2*s+j2,.none⟩=some u/\dx (ρ.dG ρ1 m1).S w d2 u:=by
        intro i2 cs j2 d2 eR k6;obtain⟨u,hu,hd⟩:=w3 i2 cs j2 d2 eR k6;exact⟨u,by rw[Dy.cell];exact hu,mono hd⟩
       exact dx.sl s e _ _ _ (λi2 j2=>(w.cell? ⟨(ρ1.aV (.sub id (lo+i) j)).b,(ρ1.aV (.sub id (lo+i) j)).aB+i2*s+j2,.none⟩).getD Go.undef) (.inr ⟨_,Du,rfl⟩) q1 q2 w2
        (λi2 cs j2 d2 eR k6=>by obtain⟨u,hu,_⟩:=ky i2 cs j2 d2 eR k6;rw[hu];rfl)
        (λi2 cs j2 d2 eR k6=>by obtain⟨u,hu,hd⟩:=ky i2 cs j2 d2 eR k6;rw[hu];exact hd)
   refine dx.sl esz (bA ds lo hi) _ _ _ (λi j=>(w.cell? ⟨(ρ1.aV (.ay id)).b,(ρ1.aV (.ay id)).aB+lo*esz+i*esz+j,.none⟩).getD Go.undef) (.inr ⟨.ay id,⟨_,hb,aD,λ_=>om⟩,rfl⟩) om om (λes oh=>?_)
    (λi cs j d eM hj=>by obtain⟨u,hu,_⟩:=key i cs j d eM hj;rw[hu];rfl)
    (λi cs j d eM hj=>by obtain⟨u,hu,hd⟩:=key i cs j d eM hj;rw[hu];exact hd)
   obtain⟨i,eM⟩:=aak oh;have eR:=sW ds lo hi i es eM;have ax:lo+i<elems.length:=by rw[hl];exact(Lw.1 eR).1
   have MY:=wy ax;obtain⟨tX,_⟩:=NP _ _ _ MY eR;rw[<-tX];exact g4 _ (aaR ax)
theorem dE.lR{ρ ρ1:bX}{m1:Mem}{w:World}(hM:aK ρ1 m1 w){c c':RV}(h:dE m1 c c'){v:Value}(hd:ep ρ1 w c v):ep (ρ.dG ρ1 m1) w c' v:=by
 cases h with
 |one h=>exact h.lR hM hd
 |agg hl h=>
  obtain⟨vs,rfl,h1,h2⟩:=hd;refine⟨vs,rfl,h1.trans hl,λi c' hi=>?_⟩
  rename_i cs fg;have ax:i<cs.length:=by rw[hl];exact(Lw.1 hi).1
  obtain⟨u,hu,hd⟩:=h2 i _ (wy ax);exact⟨u,hu,(h i _ _ (wy ax) hi).lR hM hd⟩
theorem cH.lR{ρ ρ1:bX}{m1:Mem}{w:World}(hM:aK ρ1 m1 w){c c':CV}(h:cH m1 c c'){v:Value}(hd:cw ρ1 w c v):cw (ρ.dG ρ1 m1) w c' v:=by
 cases h with
 |rv h=>exact h.lR hM hd
 |bG hl h=>
  obtain⟨vs,rfl,h1,h2⟩:=hd;refine⟨vs,rfl,h1.trans hl,λi c' hi=>?_⟩
  rename_i cs fg;have ax:i<cs.length:=by rw[hl];exact(Lw.1 hi).1
  obtain⟨u,hu,hd⟩:=h2 i _ (wy ax);exact⟨u,hu,(h i _ _ (wy ax) hi).lR hM hd⟩
def CC.cW:CC->Bool
 | .ai _=>true
 | .fn _ []=>true
 |_=>false
def CV.cW:CV->Bool
 | .rv (.one c)=>c.cW
 | .rv (.agg cs)=>cs.all CC.cW
 |_=>false
theorem CC.sX{ρ U':bX}{w:World}{c:CC}{v:Value}(hc:c.cW=true)(hS:∀b,ρ.S b->U'.S b)(h:bH ρ w .none c v):bH U' w .none c v:=by
 cases c
 case ai d=>exact dx.mono (S:=ρ.S) (S':=U'.S) (w:=w) (w':=w) hS (λ_ _=>rfl) h
 case fn f eG=>
  cases eG with
  |nil=>exact⟨aD,h.2⟩
  |cons c r=>simp[CC.cW]at hc
 all_goals simp[CC.cW]at hc
theorem CV.sX{ρ U':bX}{w:World}{c:CV}{v:Value}(hc:c.cW=true)(hS:∀b,ρ.S b->U'.S b)(h:cw ρ w c v):cw U' w c v:=by
 cases c with
 |rv r=>
  cases r with
  |one c=>exact CC.sX hc hS h
  |agg cs=>
   obtain⟨vs,rfl,h1,h2⟩:=h;refine⟨vs,rfl,h1,λi c hi=>?_⟩
   obtain⟨u,hu,hd⟩:=h2 i c hi;exact⟨u,hu,CC.sX (ab6.1 hc c (Vm hi)) hS hd⟩
 |_=>simp[CV.cW]at hc
theorem aR{f:Nat}{args:List CV}{m:Mem}{K0 K:CV->Mem->Prop}(h:ap P f args [] K0)(ha:∀c,c∈args->c.cW=true)(hK:∀r m1,K0 r m1->∃r',cH m1 r r'/\K r' m):ap P f args m K:=by
 refine⟨h.1,λρ w vs hM hl hd=>?_⟩
 let ρ0:bX:={n:=0,aV:=λ_=>⟨0,0,0,0⟩,S:=ρ.S}
 have mC:aK ρ0 [] w:={
  n:=rfl
  S:=hM.S
  aF:=λk h=>by have:=h.gO;simp at this
  inj:=λk k' h=>by have:=h.gO;simp at this
  bk:=λid b h=>by simp at h
  iJ:=λid i j esz elems h=>by obtain⟨_,_,_,h,_⟩:=h;simp at h}
 refine(h.2 ρ0 w vs mC hl λi c hi=>?_).mono λe w'⟨v,r,m1,ρ1,he,hk,xL,wI,hx⟩=>?_
 .obtain⟨v,hv,hd⟩:=hd i c hi;exact⟨v,hv,CV.sX (ρ:=ρ) (U':=ρ0) (ha c (Vm hi)) (λ_ h=>h) hd⟩
 .obtain⟨r',hf,iG⟩:=hK r m1 hk;have k8:∀k,¬Live ρ0 [] k:=λk h=>by have:=h.gO;simp at this
  have tZ:∀b,b<w.heap.size->w'.heap[b]? =w.heap[b]? :=λb hb=>hx.frame b hb λk hk=>absurd hk (k8 k)
  have hS':∀b,(ρ.dG ρ1 m1).S b->ρ.S b\/w.heap.size<=b:=by
   rintro b (hb|⟨k,hk,rfl⟩)
   .rcases hx.S' b hb with h|h|⟨k,hk,_⟩
    .exact .inl h
    .exact .inr h
    .exact absurd hk (k8 k)
   .rcases hx.aF k hk with h|⟨k0,h0,_⟩
    .exact .inr h
    .exact absurd h0 (k8 k0)
  have bO:∀k,Live (ρ.dG ρ1 m1) m k↔Live ρ m k:=λk=>by cases k<;>rfl
  have g:jC ρ w (ρ.dG ρ1 m1) w':=⟨aai _,λ_ _=>rfl,λb hb=>.inl (hx.S b hb),λb hb=>tZ b (hM.S b hb)⟩
  refine⟨v,r',m,ρ.dG ρ1 m1,he,iG,⟨hM.n,?_,?_,?_,?_,?_⟩,hf.lR xL wI,⟨aai _,λ_ _=>rfl,g.S,?_,?_,λb hb _=>tZ b hb,hx.size,hx.os,hx.tape,hx.output⟩⟩
  .intro b hb;rcases hb with hb|⟨k,hk,rfl⟩
   .exact xL.S b hb
   .exact(xL.aF k hk).1
  .intro k hk;have h1:=hM.aF k ((bO k).1 hk);refine⟨abL h1.1 hx.size,λhS=>?_⟩
   rcases hS' _ hS with h|h
   .exact h1.2 h
   .have:(ρ.aV k).b<w.heap.size:=h1.1;have h':w.heap.size<=(ρ.aV k).b:=h;omega
  .exact λk k' hk iG=>hM.inj k k' ((bO k).1 hk) ((bO k').1 iG)
  .intro id b hb;have h1:=hM.bk id b hb;have cn:∀{mk:Prop}cur,((∃k,k.id=id/\Live ρ m k/\(ρ.aV k).b=(ρ.aV (.ay id)).b))->m8 mk w (ρ.aV (.ay id)).b cur->m8 mk w' (ρ.aV (.ay id)).b cur:=λ{mk}cur _ hc=>hc.cO (tZ _ hc.lt)
   cases b with
   |aE=>trivial
   |var cs=>
    obtain⟨cur,cn,h2⟩:=h1;exact⟨cur,cn.cO (tZ _ cn.lt),λj c hj=>let⟨u,hu,hd⟩:=h2 j c hj;⟨u,hu,bH.cY g aD hd⟩⟩
   |row esz elems=>
    obtain⟨h2,h3,h4,h5,h6⟩:=h1;refine⟨h2,h3,h4,h5,λhp=>?_⟩
    obtain⟨cur,cn,h7,h8⟩:=h6 hp;exact⟨cur,cn.cO (tZ _ cn.lt),h7,λi cs j c hi hj=>let⟨u,hu,hd⟩:=h8 i cs j c hi hj;⟨u,hu,bH.cY g (by intro kZ i' j' e';cases e';rw[hM.n];exact(Lw.1 hb).1) hd⟩⟩
   |mp es=>
    obtain⟨fk,ck,h2,h3,h4⟩:=h1;exact⟨fk,ck,(tZ _ (abG.1 h2).1).trans h2,h3,λi e he=>let⟨e',vf,hk,hd⟩:=h4 i e he;⟨e',vf,hk,ep.cY g hd⟩⟩
  .intro id i j esz el ho bv;obtain⟨cur,cn,h2,h3,h4⟩:=hM.iJ id i j esz el ho bv;exact⟨cur,cn.cO (tZ _ cn.lt),h2,h3,λi cs j d hi hj=>let⟨u,hu,hd⟩:=h4 i cs j d hi hj;⟨u,hu,dx.mono g.S g.heap hd⟩⟩
  .intro b hb;rcases hS' b hb with h|h
   .exact .inl h
   .exact .inr (.inl h)
  .intro k hk;exact .inr ⟨k,(bO k).1 hk,rfl⟩
def RV.cW:RV->Bool
 | .one c=>c.cW
 | .agg cs=>cs.all CC.cW
def CV.DN:CV->Bool
 | .rv r=>r.cW
 | .bG rs=>rs.all RV.cW
 |_=>false
theorem d7.self{m:Mem}{c:CC}(h:c.cW=true):d7 m c c:=by
 cases c
 case ai d=>exact .ai _
 case fn f eG=>
  cases eG with
  |nil=>exact .fn f
  |cons c r=>simp[CC.cW]at h
 all_goals simp[CC.cW]at h
theorem dE.self{m:Mem}{r:RV}(h:r.cW=true):dE m r r:=by
 cases r with
 |one c=>exact .one (d7.self h)
 |agg cs=>
  refine .agg rfl λi c c' h1 h2=>?_
  rw[h1]at h2;cases h2;exact d7.self (ab6.1 h c (Vm h1))
theorem cH.self{m:Mem}{v:CV}(h:v.DN=true):cH m v v:=by
 cases v with
 |rv r=>exact .rv (dE.self h)
 |bG rs=>
  refine .bG rfl λi c c' h1 h2=>?_
  rw[h1]at h2;cases h2;exact dE.self (ab6.1 h c (Vm h1))
 |_=>simp[CV.DN]at h
theorem bu{f:Nat}{fn:Func}{lf:LF}{args:List CV}{r0:CV}(hf:P.funcs[f]? =some fn)(hl:bs P fn=some lf)(hn:(fn.name== "runtime.NumGoroutine")=false)(hle:args.length<=lf.n)(h:body P lf args [] λr _=>r=r0)(ha:args.all CV.cW=true)(hr:r0.DN=true){m:Mem}{K:CV->Mem->Prop}(hK:K r0 m):ap P f args m K:=
 aR (lV hf hl hn hle h) (λc hc=>ab6.1 ha c hc) λr m1 he=>⟨r0,by subst he;exact .self hr,hK⟩
theorem vJ{f:Nat}{fn:Func}{lf:LF}{args:List CV}{r0:CV}(hf:P.funcs[f]? =some fn)(hl:bs P fn=some lf.er)(hn:(fn.name== "runtime.NumGoroutine")=false)(hle:args.length<=lf.n)(h:body P lf args [] λr _=>r=r0)(ha:args.all CV.cW=true)(hr:r0.DN=true){m:Mem}{K:CV->Mem->Prop}(hK:K r0 m):ap P f args m K:=
 aR (lA hf hl hn hle h) (λc hc=>ab6.1 ha c hc) λr m1 he=>⟨r0,by subst he;exact .self hr,hK⟩
theorem d7.da{m:Mem}{id esz:Nat}{ds:List (List Dt)}(h:m[id]? =some (.row esz (ds.map λes=>es.map .ai)))(lo:Nat)(hi:Option Nat):d7 m (.row id esz lo hi) (.ai (.sl esz (bA ds lo hi))):=by
 refine .row id esz lo hi _ ds h aD λi cs es h1 h2=>?_
 rw[Qu,h2]at h1;cases h1;refine⟨aD,λj c d h3 h4=>.inl ?_⟩
 rw[Qu,h4]at h3;cases h3;rfl
end
end Go.AM
