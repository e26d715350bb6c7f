/- Part 9 of 23. -/
import Derived.Test.YtllkfpggoigbaaaGreatDoorW08
import Derived.IntWalk
set_option linter.unusedVariables false
set_option linter.unusedSimpArgs false
set_option maxRecDepth 100000
set_option maxHeartbeats 0
namespace Go.AM
section
variable {P:Program}
theorem aC{t:Bool}{A B:Prop}(ha:t=true->A)(hb:t=false->B): @Bool.rec (λ_=>Prop) B A t:=by
 cases t
 .exact hb rfl
 .exact ha rfl
theorem bS{t:Bool}{A B:Prop}(h:t=true)(ha:A): @Bool.rec (λ_=>Prop) B A t:=by subst h;exact ha
theorem yx{t:Bool}{A B:Prop}(h:t=false)(ha:B): @Bool.rec (λ_=>Prop) B A t:=by subst h;exact ha
theorem af{α:Type}{o:Option α}{K:α->Prop}{x:α}(h:o=some x)(k:K x): @Option.rec α (λ_=>Prop) False K o:=by subst h;exact k
theorem JE{α:Type}(l:List α)(n:Int):cH l n=if 0<=n then l[n.toNat]? else none:=by
 cases n with
 |ofNat k=>simp[cH,aX]
 |negSucc k=>simp[cH]
theorem aY{α:Type}(l:List α)(k:Nat):cH l (k:Int)=l[k]? :=by simp[JE]
theorem S0(n:Int)(len:Nat):dW n len=if 0<=n/\n.toNat<len then some n.toNat else none:=by
 cases n with
 |ofNat k=>
  simp only[dW];cases h:Nat.blt k len
  .have:¬k<len:=λhh=>by rw[<-adw]at hh;rw[hh]at h;cases h
   simp[this]
  .rw[adw]at h;simp[h]
 |negSucc k=>simp[dW]
theorem bL{k len:Nat}(h:k<len):dW (k:Int) len=some k:=by rw[S0,if_pos ⟨om,by simpa using h⟩];simp
inductive ow:List CV->List CV->Prop
 |nil:ow [] []
 |aL {v:CV} {e e':List CV} (h:ow e e'):ow (v::e) (.aL::e')
 |eX {v:CV} {e e':List CV} (h:ow e e'):ow (v::e) (v::e')
theorem ow.len{e e':List CV}(h:ow e e'):e'.length=e.length:=by
 induction h<;>simp[*]
theorem ow.get{e e':List CV}(h:ow e e'):∀(i:Nat)v,e'[i]? =some v->v= .aL\/e[i]? =some v:=by
 induction h with
 |nil=>intro i v h;simp at h
 |aL h ih=>
  intro i v hv;cases i with
  |zero=>simp at hv;exact .inl hv.symm
  |succ i=>simpa using ih i v (by simpa using hv)
 |eX h ih=>
  intro i v hv;cases i with
  |zero=>simp at hv;exact .inr (by simp[hv])
  |succ i=>simpa using ih i v (by simpa using hv)
theorem ow.put{v v':CV}{e e':List CV}(hv:v=v')(h:ow e e'):ow (v::e) (v'::e'):=by subst hv;exact .eX h
theorem mG{n:Nat}(h:n<=9223372036854775807):IntKind.i64.wrap (n:Int)=n:=IntWalk.i64_in n om
theorem bC{k:Nat}(h:k<9223372036854775807):(CV.rv (.one (.ai (.val (.int .i64 (IntKind.i64.wrap ((k:Int)+1)))))))=am .i64 ((k+1:Nat):Int):=by have:=mG (n:=k+1) om;unfold am;rw[<-this];rfl
theorem oh.refl:∀(m:Mem),oh m m
 | []=>.nil []
 |b::r=>.cons (.inl rfl) (oh.refl r)
theorem En{n0:Nat}{e e':List CV}{m:Mem}(hn:n0<=m.length)(h:ow e e'):View n0 ⟨e,m⟩ ⟨e',m⟩:=
 Oi.view ⟨hn,h.len,λi v hv=>(h.get i v hv).imp id λh=>⟨h,.inl rfl⟩,oh.refl m,.inl rfl⟩
def VG(i:Nat)(v:CV):List (Nat×CV)->CV
 | []=>v
 |(j,x)::r=>match Nat.beq i j with|true=>x|false=>VG i v r
def VH(f:List (Nat×CV)):Nat->List CV->(List CV->List CV)->List CV
 |_,[],k=>k []
 |i,v::r,k=>fV (VG i v f) λv'=>VH f (i+1) r λr'=>k (v'::r')
def Eo(e:List CV)(f:List (Nat×CV)):List CV:=VH f 0 e λe=>e
def OW(m:Mem):List (Nat×Bk)->Mem
 | []=>m
 |(i,v)::r=>aZ (OW m r) i v
theorem OX{n0:Nat}{b:LC}{K:Ex->St->Prop}{s:St}{α:Type}(J:α->Prop)(f:α->List (Nat×CV))(g:α->List (Nat×Bk))(μ:α->Nat)(a0:α)(h0:J a0)(start:View n0 s ⟨Eo s.ba (f a0),OW s.mem (g a0)⟩)(round:∀a,J a->aw P n0 b (Jl n0 J (λa=>⟨Eo s.ba (f a),OW s.mem (g a)⟩) μ (μ a) K) ⟨Eo s.ba (f a),OW s.mem (g a)⟩):aw P n0 (.loop b) K s:=
 ⟨α,J,λa=>⟨Eo s.ba (f a),OW s.mem (g a)⟩,μ,⟨a0,h0,start⟩,round⟩
end
section
variable {P:Program}
inductive eF(m:Mem):CC->CC->Prop
 |ai (d:Dt):eF m (.ai d) (.ai d)
 |bv (esz:Nat):eF m .bv (.ai (.sl esz []))
 |fn (f:Nat):eF m (.fn f []) (.fn f [])
 |row (id esz lo:Nat) (hi:Option Nat) (elems:List (List CC)) (ds:List (List Dt)) (h:m[id]? =some (.row esz elems)) (hl:elems.length=ds.length)
   (hd:∀(i:Nat)cs es,elems[i]? =some cs->ds[i]? =some es->cs.length=es.length/\∀(j:Nat)c d,cs[j]? =some c->es[j]? =some d->c= .ai d\/∃s e,c= .jj s e/\d= .sl s e):
   eF m (.row id esz lo hi) (.ai (.sl esz (bt ds lo hi)))
inductive dK(m:Mem):RV->RV->Prop
 |one {c c':CC} (h:eF m c c'):dK m (.one c) (.one c')
 |agg {cs fD:List CC} (hl:cs.length=fD.length) (h:∀(i:Nat)c c',cs[i]? =some c->fD[i]? =some c'->eF m c c'):dK m (.agg cs) (.agg fD)
inductive cM(m:Mem):CV->CV->Prop
 |rv {r r':RV} (h:dK m r r'):cM m (.rv r) (.rv r')
 |bI {rs LH:List RV} (hl:rs.length=LH.length) (h:∀(i:Nat)r r',rs[i]? =some r->LH[i]? =some r'->dK m r r'):cM m (.bI rs) (.bI LH)
def b9.dO(ρ:b9)(ρ1:b9)(m1:Mem):b9:={ρ with S:=λb=>ρ1.S b\/∃k,Live ρ1 m1 k/\(ρ1.aW k).b=b}
theorem tI{α:Type}(l:List α)(lo:Nat)(hi:Option Nat)(i:Nat)(x:α)(h:(bt l lo hi)[i]? =some x):l[lo+i]? =some x:=by
 rw[np]at h;rw[adi]at h;cases hi with
 |none=>exact h
 |some k=>
  simp only at h;rw[abI]at h;split at h
  .exact h
  .cases h
theorem Ep{α:Type}(l:List α)(lo:Nat)(hi:Option Nat)(h1:lo<=hi.getD l.length)(h2:hi.getD l.length<=l.length):(bt l lo hi).length=hi.getD l.length-lo:=by
 rw[np];cases hi with
 |none=>simp
 |some k=>simp at h1 h2|-;omega
theorem eF.mB{ρ ρ1:b9}{m1:Mem}{w:World}(hM:aN ρ1 m1 w){c c':CC}(h:eF m1 c c'){v:Value}(hd:bJ ρ1 w .none c v):bJ (ρ.dO ρ1 m1) w .none c' v:=by
 have mono:∀{d:Dt}{v:Value},dG ρ1.S w d v->dG (ρ.dO ρ1 m1).S w d v:=λh=>h.mono (λ_ h=>.inl h) (λ_ _=>rfl)
 cases h with
 |ai d=>exact mono hd
 |bv esz=>
  obtain⟨a,rfl⟩:=hd;exact .nil esz a 0 (aad _)
 |fn f=>
  obtain⟨_,rfl⟩:=hd;exact⟨aG,rfl⟩
 |row id esz lo hi elems ds hb hl Gf=>
  obtain⟨h1,h2,h3,h4,h5,a,rfl,ha⟩:=hd;obtain⟨g1,g2,g3,g4,g5⟩:=hM.bk id _ hb;have lF:ds.length=(ρ1.aW (.aA id)).len:=om;have hlen:(bt ds lo hi).length=hi.getD (ρ1.aW (.aA id)).len-lo:=by
   rw[<-lF];exact Ep ds lo hi (by rw[lF];exact h2) (by rw[lF];exact h3)
  show dG _ w (.sl esz (bt ds lo hi)) _;rw[<-hlen];rcases acO (bt ds lo hi).length with h0|dQ
  .rw[h0,aaW h0];exact .nil esz a _ om
  .have iY:lo<(ρ1.aW (.aA id)).cap:=om;obtain⟨cur,cC,eu,fg⟩:=g5 om;rw[ha iY];have key:∀(i:Nat)es(j:Nat)d,(bt ds lo hi)[i]? =some es->es[j]? =some d->∃u,w.cell? ⟨(ρ1.aW (.aA id)).b,(ρ1.aW (.aA id)).aB+lo*esz+i*esz+j,.none⟩=some u/\dG (ρ.dO ρ1 m1).S w d u:=by
    intro i es j d fm hj;have fh:=tI ds lo hi i es fm;have ay:lo+i<elems.length:=by rw[hl];exact(Mp.1 fh).1
    have NN:=xm ay;obtain⟨uK,fF⟩:=Gf _ _ _ NN fh;have bV:j<elems[lo+i].length:=by rw[uK];exact(Mp.1 hj).1
    have VI:=xm bV;obtain⟨u,hu,cP⟩:=fg _ _ _ _ NN VI;refine⟨u,?_,?_⟩
    .rw[cC.cell,<-hu];congr 1;rw[ade];omega
    .rcases fF _ _ _ VI hj with hc|⟨s,e,hc,rfl⟩
     .rw[hc]at cP;exact mono cP
     .rw[hc]at cP VI;obtain⟨lO,i',j',Be,q1,q2,a',rfl,q3⟩:=cP;simp only[abi,Prod.mk.injEq]at Be;obtain⟨rfl,rfl,rfl⟩:=Be;rcases acO e.length with he|he
      .rw[aaW he];exact .nil s a' _ om
      .have ol:ir m1 id (lo+i) j s e:=⟨_,_,_,hb,NN,VI⟩;obtain⟨iT,Eb,w1,w2,w3⟩:=hM.jj _ _ _ _ _ ol om;rw[q3 om];have D7:Live ρ1 m1 (.sub id (lo+i) j):=⟨⟨_,_,ol⟩,om⟩;have ky:∀(i2:Nat)cs(j2:Nat)d2,e[i2]? =some cs->cs[j2]? =some d2->∃u,w.cell? ⟨(ρ1.aW (.sub id (lo+i) j)).b,(ρ1.aW (.sub id (lo+i) j)).aB+i2*s+j2,.none⟩=some u/\dG (ρ.dO ρ1 m1).S w d2 u:=by
        intro i2 cs j2 d2 fh mg;obtain⟨u,hu,hd⟩:=w3 i2 cs j2 d2 fh mg;exact⟨u,by rw[Eb.cell];exact hu,mono hd⟩
       exact dG.sl s e _ _ _ (λi2 j2=>(w.cell? ⟨(ρ1.aW (.sub id (lo+i) j)).b,(ρ1.aW (.sub id (lo+i) j)).aB+i2*s+j2,.none⟩).getD Go.undef) (.inr ⟨_,D7,rfl⟩) q1 q2 w2
        (λi2 cs j2 d2 fh mg=>by obtain⟨u,hu,_⟩:=ky i2 cs j2 d2 fh mg;rw[hu];rfl)
        (λi2 cs j2 d2 fh mg=>by obtain⟨u,hu,hd⟩:=ky i2 cs j2 d2 fh mg;rw[hu];exact hd)
   refine dG.sl esz (bt ds lo hi) _ _ _ (λi j=>(w.cell? ⟨(ρ1.aW (.aA id)).b,(ρ1.aW (.aA id)).aB+lo*esz+i*esz+j,.none⟩).getD Go.undef) (.inr ⟨.aA id,⟨_,hb,aG,λ_=>om⟩,rfl⟩) om om (λes oR=>?_)
    (λi cs j d fm hj=>by obtain⟨u,hu,_⟩:=key i cs j d fm hj;rw[hu];rfl)
    (λi cs j d fm hj=>by obtain⟨u,hu,hd⟩:=key i cs j d fm hj;rw[hu];exact hd)
   obtain⟨i,fm⟩:=aag oR;have fh:=tI ds lo hi i es fm;have ay:lo+i<elems.length:=by rw[hl];exact(Mp.1 fh).1
   have NN:=xm ay;obtain⟨uK,_⟩:=Gf _ _ _ NN fh;rw[<-uK];exact g4 _ (aaP ay)
theorem dK.mB{ρ ρ1:b9}{m1:Mem}{w:World}(hM:aN ρ1 m1 w){c c':RV}(h:dK m1 c c'){v:Value}(hd:eU ρ1 w c v):eU (ρ.dO ρ1 m1) w c' v:=by
 cases h with
 |one h=>exact h.mB hM hd
 |agg hl h=>
  obtain⟨vs,rfl,h1,h2⟩:=hd;refine⟨vs,rfl,h1.trans hl,λi c' hi=>?_⟩
  rename_i cs fD;have ay:i<cs.length:=by rw[hl];exact(Mp.1 hi).1
  obtain⟨u,hu,hd⟩:=h2 i _ (xm ay);exact⟨u,hu,(h i _ _ (xm ay) hi).mB hM hd⟩
theorem cM.mB{ρ ρ1:b9}{m1:Mem}{w:World}(hM:aN ρ1 m1 w){c c':CV}(h:cM m1 c c'){v:Value}(hd:cG ρ1 w c v):cG (ρ.dO ρ1 m1) w c' v:=by
 cases h with
 |rv h=>exact h.mB hM hd
 |bI hl h=>
  obtain⟨vs,rfl,h1,h2⟩:=hd;refine⟨vs,rfl,h1.trans hl,λi c' hi=>?_⟩
  rename_i cs fD;have ay:i<cs.length:=by rw[hl];exact(Mp.1 hi).1
  obtain⟨u,hu,hd⟩:=h2 i _ (xm ay);exact⟨u,hu,(h i _ _ (xm ay) hi).mB hM hd⟩
def CC.cY:CC->Bool
 | .ai _=>true
 | .fn _ []=>true
 |_=>false
def CV.cY:CV->Bool
 | .rv (.one c)=>c.cY
 | .rv (.agg cs)=>cs.all CC.cY
 |_=>false
theorem CC.tJ{ρ U':b9}{w:World}{c:CC}{v:Value}(hc:c.cY=true)(hS:∀b,ρ.S b->U'.S b)(h:bJ ρ w .none c v):bJ U' w .none c v:=by
 cases c
 case ai d=>exact dG.mono (S:=ρ.S) (S':=U'.S) (w:=w) (w':=w) hS (λ_ _=>rfl) h
 case fn f fc=>
  cases fc with
  |nil=>exact⟨aG,h.2⟩
  |cons c r=>simp[CC.cY]at hc
 all_goals simp[CC.cY]at hc
theorem CV.tJ{ρ U':b9}{w:World}{c:CV}{v:Value}(hc:c.cY=true)(hS:∀b,ρ.S b->U'.S b)(h:cG ρ w c v):cG U' w c v:=by
 cases c with
 |rv r=>
  cases r with
  |one c=>exact CC.tJ hc hS h
  |agg cs=>
   obtain⟨vs,rfl,h1,h2⟩:=h;refine⟨vs,rfl,h1,λi c hi=>?_⟩
   obtain⟨u,hu,hd⟩:=h2 i c hi;exact⟨u,hu,CC.tJ (adk.1 hc c (Wm hi)) hS hd⟩
 |_=>simp[CV.cY]at hc
theorem aT{f:Nat}{args:List CV}{m:Mem}{K0 K:CV->Mem->Prop}(h:aq P f args [] K0)(ha:∀c,c∈args->c.cY=true)(hK:∀r m1,K0 r m1->∃r',cM m1 r r'/\K r' m):aq P f args m K:=by
 refine⟨h.1,λρ w vs hM hl hd=>?_⟩
 let ρ0:b9:={n:=0,aW:=λ_=>⟨0,0,0,0⟩,S:=ρ.S}
 have m5:aN ρ0 [] w:={
  n:=rfl
  S:=hM.S
  aF:=λk h=>by have:=h.it;simp at this
  inj:=λk k' h=>by have:=h.it;simp at this
  bk:=λid b h=>by simp at h
  jj:=λid i j esz elems h=>by obtain⟨_,_,_,h,_⟩:=h;simp at h}
 refine(h.2 ρ0 w vs m5 hl λi c hi=>?_).mono λe w'⟨v,r,m1,ρ1,he,hk,yy,xA,hx⟩=>?_
 .obtain⟨v,hv,hd⟩:=hd i c hi;exact⟨v,hv,CV.tJ (ρ:=ρ) (U':=ρ0) (ha c (Wm hi)) (λ_ h=>h) hd⟩
 .obtain⟨r',hf,jd⟩:=hK r m1 hk;have lQ:∀k,¬Live ρ0 [] k:=λk h=>by have:=h.it;simp at this
  have uM:∀b,b<w.heap.size->w'.heap[b]? =w.heap[b]? :=λb hb=>hx.frame b hb λk hk=>absurd hk (lQ k)
  have hS':∀b,(ρ.dO ρ1 m1).S b->ρ.S b\/w.heap.size<=b:=by
   rintro b (hb|⟨k,hk,rfl⟩)
   .rcases hx.S' b hb with h|h|⟨k,hk,_⟩
    .exact .inl h
    .exact .inr h
    .exact absurd hk (lQ k)
   .rcases hx.aF k hk with h|⟨k0,h0,_⟩
    .exact .inr h
    .exact absurd h0 (lQ k0)
  have bR:∀k,Live (ρ.dO ρ1 m1) m k↔Live ρ m k:=λk=>by cases k<;>rfl
  have g:j7 ρ w (ρ.dO ρ1 m1) w':=⟨aah _,λ_ _=>rfl,λb hb=>.inl (hx.S b hb),λb hb=>uM b (hM.S b hb)⟩
  refine⟨v,r',m,ρ.dO ρ1 m1,he,jd,⟨hM.n,?_,?_,?_,?_,?_⟩,hf.mB yy xA,⟨aah _,λ_ _=>rfl,g.S,?_,?_,λb hb _=>uM b hb,hx.size,hx.os,hx.tape,hx.output⟩⟩
  .intro b hb;rcases hb with hb|⟨k,hk,rfl⟩
   .exact yy.S b hb
   .exact(yy.aF k hk).1
  .intro k hk;have h1:=hM.aF k ((bR k).1 hk);refine⟨abV h1.1 hx.size,λhS=>?_⟩
   rcases hS' _ hS with h|h
   .exact h1.2 h
   .have:(ρ.aW k).b<w.heap.size:=h1.1;have h':w.heap.size<=(ρ.aW k).b:=h;omega
  .exact λk k' hk jd=>hM.inj k k' ((bR k).1 hk) ((bR k').1 jd)
  .intro id b hb;have h1:=hM.bk id b hb;have cC:∀{mk:Prop}cur,((∃k,k.id=id/\Live ρ m k/\(ρ.aW k).b=(ρ.aW (.aA id)).b))->nN mk w (ρ.aW (.aA id)).b cur->nN mk w' (ρ.aW (.aA id)).b cur:=λ{mk}cur _ hc=>hc.cT (uM _ hc.lt)
   cases b with
   |aE=>trivial
   |var cs=>
    obtain⟨cur,cC,h2⟩:=h1;exact⟨cur,cC.cT (uM _ cC.lt),λj c hj=>let⟨u,hu,hd⟩:=h2 j c hj;⟨u,hu,bJ.dg g aG hd⟩⟩
   |row esz elems=>
    obtain⟨h2,h3,h4,h5,h6⟩:=h1;refine⟨h2,h3,h4,h5,λhp=>?_⟩
    obtain⟨cur,cC,h7,h8⟩:=h6 hp;exact⟨cur,cC.cT (uM _ cC.lt),h7,λi cs j c hi hj=>let⟨u,hu,hd⟩:=h8 i cs j c hi hj;⟨u,hu,bJ.dg g (by intro lO i' j' e';cases e';rw[hM.n];exact(Mp.1 hb).1) hd⟩⟩
   |mp es=>
    obtain⟨fH,ck,h2,h3,h4⟩:=h1;exact⟨fH,ck,(uM _ (abG.1 h2).1).trans h2,h3,λi e he=>let⟨e',wa,hk,hd⟩:=h4 i e he;⟨e',wa,hk,eU.dg g hd⟩⟩
  .intro id i j esz el ho bF;obtain⟨cur,cC,h2,h3,h4⟩:=hM.jj id i j esz el ho bF;exact⟨cur,cC.cT (uM _ cC.lt),h2,h3,λi cs j d hi hj=>let⟨u,hu,hd⟩:=h4 i cs j d hi hj;⟨u,hu,dG.mono g.S g.heap hd⟩⟩
  .intro b hb;rcases hS' b hb with h|h
   .exact .inl h
   .exact .inr (.inl h)
  .intro k hk;exact .inr ⟨k,(bR k).1 hk,rfl⟩
def RV.cY:RV->Bool
 | .one c=>c.cY
 | .agg cs=>cs.all CC.cY
def CV.Er:CV->Bool
 | .rv r=>r.cY
 | .bI rs=>rs.all RV.cY
 |_=>false
theorem eF.self{m:Mem}{c:CC}(h:c.cY=true):eF m c c:=by
 cases c
 case ai d=>exact .ai _
 case fn f fc=>
  cases fc with
  |nil=>exact .fn f
  |cons c r=>simp[CC.cY]at h
 all_goals simp[CC.cY]at h
theorem dK.self{m:Mem}{r:RV}(h:r.cY=true):dK m r r:=by
 cases r with
 |one c=>exact .one (eF.self h)
 |agg cs=>
  refine .agg rfl λi c c' h1 h2=>?_
  rw[h1]at h2;cases h2;exact eF.self (adk.1 h c (Wm h1))
theorem cM.self{m:Mem}{v:CV}(h:v.Er=true):cM m v v:=by
 cases v with
 |rv r=>exact .rv (dK.self h)
 |bI rs=>
  refine .bI rfl λi c c' h1 h2=>?_
  rw[h1]at h2;cases h2;exact dK.self (adk.1 h c (Wm h1))
 |_=>simp[CV.Er]at h
theorem bH{f:Nat}{fn:Func}{lf:LF}{args:List CV}{r0:CV}(hf:P.funcs[f]? =some fn)(hl:bA P fn=some lf)(hn:(fn.name== "runtime.NumGoroutine")=false)(hle:args.length<=lf.n)(h:body P lf args [] λr _=>r=r0)(ha:args.all CV.cY=true)(hr:r0.Er=true){m:Mem}{K:CV->Mem->Prop}(hK:K r0 m):aq P f args m K:=
 aT (mF hf hl hn hle h) (λc hc=>adk.1 ha c hc) λr m1 he=>⟨r0,by subst he;exact .self hr,hK⟩
theorem qC{f:Nat}{fn:Func}{lf:LF}{args:List CV}{r0:CV}(hf:P.funcs[f]? =some fn)(hl:bA P fn=some lf.er)(hn:(fn.name== "runtime.NumGoroutine")=false)(hle:args.length<=lf.n)(h:body P lf args [] λr _=>r=r0)(ha:args.all CV.cY=true)(hr:r0.Er=true){m:Mem}{K:CV->Mem->Prop}(hK:K r0 m):aq P f args m K:=
 aT (jJ hf hl hn hle h) (λc hc=>adk.1 ha c hc) λr m1 he=>⟨r0,by subst he;exact .self hr,hK⟩
theorem eF.db{m:Mem}{id esz:Nat}{ds:List (List Dt)}(h:m[id]? =some (.row esz (ds.map λes=>es.map .ai)))(lo:Nat)(hi:Option Nat):eF m (.row id esz lo hi) (.ai (.sl esz (bt ds lo hi))):=by
 refine .row id esz lo hi _ ds h aG λi cs es h1 h2=>?_
 rw[Rn,h2]at h1;cases h1;refine⟨aG,λj c d h3 h4=>.inl ?_⟩
 rw[Rn,h4]at h3;cases h3;rfl
end
end Go.AM
