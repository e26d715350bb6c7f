/- Part 13 of 41: what the law stands on. -/
import Derived.Test.YthagjdhjmamakaaGreatDoorT12
import Derived.IntWalk
set_option linter.unusedVariables false
set_option linter.unusedSimpArgs false
set_option linter.unnecessarySimpa false
set_option maxRecDepth 100000
set_option maxHeartbeats 64000000
namespace Go.AM
section
variable {P:Program}
theorem ay{t:Bool}{A B:Prop}(ha:t=true->A)(hb:t=false->B): @Bool.rec (fun _=>Prop) B A t:=by
 cases t
 .exact hb rfl
 .exact ha rfl
theorem b8{t:Bool}{A B:Prop}(h:t=true)(ha:A): @Bool.rec (fun _=>Prop) B A t:=by subst h;exact ha
theorem sM{t:Bool}{A B:Prop}(h:t=false)(ha:B): @Bool.rec (fun _=>Prop) B A t:=by subst h;exact ha
theorem ag{α:Type}{o:Option α}{K:α->Prop}{x:α}(h:o=some x)(k:K x): @Option.rec α (fun _=>Prop) False K o:=by subst h;exact k
theorem Fw{α:Type}(l:List α)(n:Int):dg l n=if 0<=n then l[n.toNat]? else none:=by
 cases n with
 |ofNat k=>simp[dg,aT]
 |negSucc k=>simp[dg]
theorem bF{α:Type}(l:List α)(k:Nat):dg l (k:Int)=l[k]? :=by simp[Fw]
theorem MT(n:Int)(len:Nat):dt n len=if 0<=n/\n.toNat<len then some n.toNat else none:=by
 cases n with
 |ofNat k=>
  simp only[dt];cases h:Nat.blt k len
  .have:¬k<len:=fun hh=>by rw[<-aaO]at hh;rw[hh]at h;cases h
   simp[this]
  .rw[aaO]at h;simp[h]
 |negSucc k=>simp[dt]
theorem bP{k len:Nat}(h:k<len):dt (k:Int) len=some k:=by rw[MT,if_pos ⟨om,by simpa using h⟩];simp
inductive lH:List CV->List CV->Prop
 |nil:lH [] []
 |aq {v:CV} {e e':List CV} (h:lH e e'):lH (v::e) (.aq::e')
 |eV {v:CV} {e e':List CV} (h:lH e e'):lH (v::e) (v::e')
theorem lH.len{e e':List CV}(h:lH e e'):e'.length=e.length:=by
 induction h<;>simp[*]
theorem lH.get{e e':List CV}(h:lH e e'):∀(i:Nat)v,e'[i]? =some v->v= .aq\/e[i]? =some v:=by
 induction h with
 |nil=>intro i v h;simp at h
 |aq h ih=>
  intro i v hv;cases i with
  |zero=>simp at hv;exact .inl hv.symm
  |succ i=>simpa using ih i v (by simpa using hv)
 |eV h ih=>
  intro i v hv;cases i with
  |zero=>simp at hv;exact .inr (by simp[hv])
  |succ i=>simpa using ih i v (by simpa using hv)
theorem lH.put{v v':CV}{e e':List CV}(hv:v=v')(h:lH e e'):lH (v::e) (v'::e'):=by subst hv;exact .eV h
theorem gO{n:Nat}(h:n<=9223372036854775807):IntKind.i64.wrap (n:Int)=n:=IntWalk.i64_in n om
theorem aL{k:Nat}(h:k<9223372036854775807):(CV.rv (.one (.aa (.val (.int .i64 (IntKind.i64.wrap ((k:Int)+1)))))))=an .i64 ((k+1:Nat):Int):=by have:=gO (n:=k+1) om;unfold an;rw[<-this];rfl
theorem lC.refl:∀(m:Mem),lC m m
 | []=>.nil []
 |b::r=>.cons (.inl rfl) (lC.refl r)
theorem Ax{n0:Nat}{e e':List CV}{m:Mem}(hn:n0<=m.length)(h:lH e e'):View n0 ⟨e,m⟩ ⟨e',m⟩:=
 I4.view ⟨hn,h.len,fun i v hv=>(h.get i v hv).imp id fun h=>⟨h,.inl rfl⟩,lC.refl m,.inl rfl⟩
def OH(i:Nat)(v:CV):List (Nat×CV)->CV
 | []=>v
 |(j,x)::r=>match Nat.beq i j with|true=>x|false=>OH i v r
def OI(f:List (Nat×CV)):Nat->List CV->(List CV->List CV)->List CV
 |_,[],k=>k []
 |i,v::r,k=>fV (OH i v f) fun v'=>OI f (i+1) r fun r'=>k (v'::r')
def Ay(e:List CV)(f:List (Nat×CV)):List CV:=OI f 0 e fun e=>e
def JC(m:Mem):List (Nat×Bk)->Mem
 | []=>m
 |(i,v)::r=>a7 (JC m r) i v
theorem JD{n0:Nat}{b:LC}{K:Ex->St->Prop}{s:St}{α:Type}(J:α->Prop)(f:α->List (Nat×CV))(g:α->List (Nat×Bk))(μ:α->Nat)(a0:α)(h0:J a0)(start:View n0 s ⟨Ay s.aU (f a0),JC s.mem (g a0)⟩)(round:∀a,J a->aw P n0 b (Fe n0 J (fun a=>⟨Ay s.aU (f a),JC s.mem (g a)⟩) μ (μ a) K) ⟨Ay s.aU (f a),JC s.mem (g a)⟩):aw P n0 (.loop b) K s:=
 ⟨α,J,fun a=>⟨Ay s.aU (f a),JC s.mem (g a)⟩,μ,⟨a0,h0,start⟩,round⟩
end
section
variable {P:Program}
inductive dY(m:Mem):CC->CC->Prop
 |aa (d:Dt):dY m (.aa d) (.aa d)
 |aB (esz:Nat):dY m .aB (.aa (.sl esz []))
 |fn (f:Nat):dY m (.fn f []) (.fn f [])
 |row (id esz lo:Nat) (hi:Option Nat) (elems:List (List CC)) (ds:List (List Dt)) (h:m[id]? =some (.row esz elems)) (hl:elems.length=ds.length)
   (hd:∀(i:Nat)cs es,elems[i]? =some cs->ds[i]? =some es->cs.length=es.length/\∀(j:Nat)c d,cs[j]? =some c->es[j]? =some d->c= .aa d\/∃s e,c= .gp s e/\d= .sl s e):
   dY m (.row id esz lo hi) (.aa (.sl esz (ct ds lo hi)))
inductive eh(m:Mem):RV->RV->Prop
 |one {c c':CC} (h:dY m c c'):eh m (.one c) (.one c')
 |agg {cs ek:List CC} (hl:cs.length=ek.length) (h:∀(i:Nat)c c',cs[i]? =some c->ek[i]? =some c'->dY m c c'):eh m (.agg cs) (.agg ek)
inductive cw(m:Mem):CV->CV->Prop
 |rv {r r':RV} (h:eh m r r'):cw m (.rv r) (.rv r')
 |bG {rs G0:List RV} (hl:rs.length=G0.length) (h:∀(i:Nat)r r',rs[i]? =some r->G0[i]? =some r'->eh m r r'):cw m (.bG rs) (.bG G0)
def bH.eu(ρ:bH)(ρ1:bH)(m1:Mem):bH:={ρ with S:=fun b=>ρ1.S b\/∃k,Live ρ1 m1 k/\(ρ1.aO k).b=b}
theorem pQ{α:Type}(l:List α)(lo:Nat)(hi:Option Nat)(i:Nat)(x:α)(h:(ct l lo hi)[i]? =some x):l[lo+i]? =some x:=by
 rw[kD]at h;rw[aaA]at h;cases hi with
 |none=>exact h
 |some k=>
  simp only at h;rw[aao]at h;split at h
  .exact h
  .cases h
theorem Az{α:Type}(l:List α)(lo:Nat)(hi:Option Nat)(h1:lo<=hi.getD l.length)(h2:hi.getD l.length<=l.length):(ct l lo hi).length=hi.getD l.length-lo:=by
 rw[kD];cases hi with
 |none=>simp
 |some k=>simp at h1 h2⊢;omega
theorem dY.j7{ρ ρ1:bH}{m1:Mem}{w:World}(hM:aC ρ1 m1 w){c c':CC}(h:dY m1 c c'){v:Value}(hd:br ρ1 w .none c v):br (ρ.eu ρ1 m1) w .none c' v:=by
 have mono:∀{d:Dt}{v:Value},cZ ρ1.S w d v->cZ (ρ.eu ρ1 m1).S w d v:=fun h=>h.mono (fun _ h=>.inl h) (fun _ _=>rfl)
 cases h with
 |aa d=>exact mono hd
 |aB esz=>
  obtain⟨a,rfl⟩:=hd;exact .nil esz a 0 (XL _)
 |fn f=>
  obtain⟨_,rfl⟩:=hd;exact⟨aK,rfl⟩
 |row id esz lo hi elems ds hb hl Jp=>
  obtain⟨h1,h2,h3,h4,h5,a,rfl,ha⟩:=hd;obtain⟨g1,g2,g3,g4,g5⟩:=hM.bk id _ hb;have kI:ds.length=(ρ1.aO (.ap id)).len:=om;have hlen:(ct ds lo hi).length=hi.getD (ρ1.aO (.ap id)).len-lo:=by
   rw[<-kI];exact Az ds lo hi (by rw[kI];exact h2) (by rw[kI];exact h3)
  show cZ _ w (.sl esz (ct ds lo hi)) _;rw[<-hlen];rcases aav (ct ds lo hi).length with h0|de
  .rw[h0,XJ h0];exact .nil esz a _ om
  .have gG:lo<(ρ1.aO (.ap id)).cap:=om;obtain⟨cur,bU,dj,dO⟩:=g5 om;rw[ha gG];have key:∀(i:Nat)es(j:Nat)d,(ct ds lo hi)[i]? =some es->es[j]? =some d->∃u,w.cell? ⟨(ρ1.aO (.ap id)).b,(ρ1.aO (.ap id)).au+lo*esz+i*esz+j,.none⟩=some u/\cZ (ρ.eu ρ1 m1).S w d u:=by
    intro i es j d dV hj;have d8:=pQ ds lo hi i es dV;have aF:lo+i<elems.length:=by rw[hl];exact(Hy.1 d8).1
    have IF:=tq aF;obtain⟨qI,fb⟩:=Jp _ _ _ IF d8;have dP:j<elems[lo+i].length:=by rw[qI];exact(Hy.1 hj).1
    have OJ:=tq dP;obtain⟨u,hu,b9⟩:=dO _ _ _ _ IF OJ;refine⟨u,?_,?_⟩
    .rw[bU.cell,<-hu];congr 1;rw[aaz];omega
    .rcases fb _ _ _ OJ hj with hc|⟨s,e,hc,rfl⟩
     .rw[hc]at b9;exact mono b9
     .rw[hc]at b9 OJ;obtain⟨i3,i',j',xf,q1,q2,a',rfl,q3⟩:=b9;simp only[XQ,Prod.mk.injEq]at xf;obtain⟨rfl,rfl,rfl⟩:=xf;rcases aav e.length with he|he
      .rw[XJ he];exact .nil s a' _ om
      .have lD:fp m1 id (lo+i) j s e:=⟨_,_,_,hb,IF,OJ⟩;obtain⟨fP,Aj,w1,w2,w3⟩:=hM.gp _ _ _ _ _ lD om;rw[q3 om];have GM:Live ρ1 m1 (.sub id (lo+i) j):=⟨⟨_,_,lD⟩,om⟩;have ky:∀(i2:Nat)cs(j2:Nat)d2,e[i2]? =some cs->cs[j2]? =some d2->∃u,w.cell? ⟨(ρ1.aO (.sub id (lo+i) j)).b,(ρ1.aO (.sub id (lo+i) j)).au+i2*s+j2,.none⟩=some u/\cZ (ρ.eu ρ1 m1).S w d2 u:=by
        intro i2 cs j2 d2 d8 jy;obtain⟨u,hu,hd⟩:=w3 i2 cs j2 d2 d8 jy;exact⟨u,by rw[Aj.cell];exact hu,mono hd⟩
       exact cZ.sl s e _ _ _ (fun i2 j2=>(w.cell? ⟨(ρ1.aO (.sub id (lo+i) j)).b,(ρ1.aO (.sub id (lo+i) j)).au+i2*s+j2,.none⟩).getD Go.undef) (.inr ⟨_,GM,rfl⟩) q1 q2 w2
        (fun i2 cs j2 d2 d8 jy=>by obtain⟨u,hu,_⟩:=ky i2 cs j2 d2 d8 jy;rw[hu];rfl)
        (fun i2 cs j2 d2 d8 jy=>by obtain⟨u,hu,hd⟩:=ky i2 cs j2 d2 d8 jy;rw[hu];exact hd)
   refine cZ.sl esz (ct ds lo hi) _ _ _ (fun i j=>(w.cell? ⟨(ρ1.aO (.ap id)).b,(ρ1.aO (.ap id)).au+lo*esz+i*esz+j,.none⟩).getD Go.undef) (.inr ⟨.ap id,⟨_,hb,aK,fun _=>om⟩,rfl⟩) om om (fun es pg=>?_)
    (fun i cs j d dV hj=>by obtain⟨u,hu,_⟩:=key i cs j d dV hj;rw[hu];rfl)
    (fun i cs j d dV hj=>by obtain⟨u,hu,hd⟩:=key i cs j d dV hj;rw[hu];exact hd)
   obtain⟨i,dV⟩:=Xz pg;have d8:=pQ ds lo hi i es dV;have aF:lo+i<elems.length:=by rw[hl];exact(Hy.1 d8).1
   have IF:=tq aF;obtain⟨qI,_⟩:=Jp _ _ _ IF d8;rw[<-qI];exact g4 _ (XP aF)
theorem eh.j7{ρ ρ1:bH}{m1:Mem}{w:World}(hM:aC ρ1 m1 w){c c':RV}(h:eh m1 c c'){v:Value}(hd:dy ρ1 w c v):dy (ρ.eu ρ1 m1) w c' v:=by
 cases h with
 |one h=>exact h.j7 hM hd
 |agg hl h=>
  obtain⟨vs,rfl,h1,h2⟩:=hd;refine⟨vs,rfl,h1.trans hl,fun i c' hi=>?_⟩
  rename_i cs ek;have aF:i<cs.length:=by rw[hl];exact(Hy.1 hi).1
  obtain⟨u,hu,hd⟩:=h2 i _ (tq aF);exact⟨u,hu,(h i _ _ (tq aF) hi).j7 hM hd⟩
theorem cw.j7{ρ ρ1:bH}{m1:Mem}{w:World}(hM:aC ρ1 m1 w){c c':CV}(h:cw m1 c c'){v:Value}(hd:bW ρ1 w c v):bW (ρ.eu ρ1 m1) w c' v:=by
 cases h with
 |rv h=>exact h.j7 hM hd
 |bG hl h=>
  obtain⟨vs,rfl,h1,h2⟩:=hd;refine⟨vs,rfl,h1.trans hl,fun i c' hi=>?_⟩
  rename_i cs ek;have aF:i<cs.length:=by rw[hl];exact(Hy.1 hi).1
  obtain⟨u,hu,hd⟩:=h2 i _ (tq aF);exact⟨u,hu,(h i _ _ (tq aF) hi).j7 hM hd⟩
def CC.c7:CC->Bool
 | .aa _=>true
 | .fn _ []=>true
 |_=>false
def CV.c7:CV->Bool
 | .rv (.one c)=>c.c7
 | .rv (.agg cs)=>cs.all CC.c7
 |_=>false
theorem CC.pR{ρ ρ':bH}{w:World}{c:CC}{v:Value}(hc:c.c7=true)(hS:∀b,ρ.S b->ρ'.S b)(h:br ρ w .none c v):br ρ' w .none c v:=by
 cases c
 case aa d=>exact cZ.mono (S:=ρ.S) (S':=ρ'.S) (w:=w) (w':=w) hS (fun _ _=>rfl) h
 case fn f dN=>
  cases dN with
  |nil=>exact⟨aK,h.2⟩
  |cons c r=>simp[CC.c7]at hc
 all_goals simp[CC.c7]at hc
theorem CV.pR{ρ ρ':bH}{w:World}{c:CV}{v:Value}(hc:c.c7=true)(hS:∀b,ρ.S b->ρ'.S b)(h:bW ρ w c v):bW ρ' w c v:=by
 cases c with
 |rv r=>
  cases r with
  |one c=>exact CC.pR hc hS h
  |agg cs=>
   obtain⟨vs,rfl,h1,h2⟩:=h;refine⟨vs,rfl,h1,fun i c hi=>?_⟩
   obtain⟨u,hu,hd⟩:=h2 i c hi;exact⟨u,hu,CC.pR (aas.1 hc c (O9 hi)) hS hd⟩
 |_=>simp[CV.c7]at hc
theorem aY{f:Nat}{args:List CV}{m:Mem}{K0 K:CV->Mem->Prop}(h:ar P f args [] K0)(ha:∀c,c∈args->c.c7=true)(hK:∀r m1,K0 r m1->∃r',cw m1 r r'/\K r' m):ar P f args m K:=by
 refine⟨h.1,fun ρ w vs hM hl hd=>?_⟩
 let ρ0:bH:={n:=0,aO:=fun _=>⟨0,0,0,0⟩,S:=ρ.S}
 have kG:aC ρ0 [] w:={
  n:=rfl
  S:=hM.S
  a8:=fun k h=>by have:=h.fX;simp at this
  inj:=fun k k' h=>by have:=h.fX;simp at this
  bk:=fun id b h=>by simp at h
  gp:=fun id i j esz elems h=>by obtain⟨_,_,_,h,_⟩:=h;simp at h}
 refine(h.2 ρ0 w vs kG hl fun i c hi=>?_).mono fun e w'⟨v,r,m1,ρ1,he,hk,tF,wd,hx⟩=>?_
 .obtain⟨v,hv,hd⟩:=hd i c hi;exact⟨v,hv,CV.pR (ρ:=ρ) (ρ':=ρ0) (ha c (O9 hi)) (fun _ h=>h) hd⟩
 .obtain⟨r',hf,gC⟩:=hK r m1 hk;have j8:∀k,¬Live ρ0 [] k:=fun k h=>by have:=h.fX;simp at this
  have vY:∀b,b<w.heap.size->w'.heap[b]? =w.heap[b]? :=fun b hb=>hx.frame b hb fun k hk=>absurd hk (j8 k)
  have Zk:∀b,(ρ.eu ρ1 m1).S b->ρ.S b\/w.heap.size<=b:=by
   rintro b (hb|⟨k,hk,rfl⟩)
   .rcases hx.S' b hb with h|h|⟨k,hk,_⟩
    .exact .inl h
    .exact .inr h
    .exact absurd hk (j8 k)
   .rcases hx.a8 k hk with h|⟨k0,h0,_⟩
    .exact .inr h
    .exact absurd h0 (j8 k0)
  have dG:∀k,Live (ρ.eu ρ1 m1) m k↔Live ρ m k:=fun k=>by cases k<;>rfl
  have g:ij ρ w (ρ.eu ρ1 m1) w':=⟨QN _,fun _ _=>rfl,fun b hb=>.inl (hx.S b hb),fun b hb=>vY b (hM.S b hb)⟩
  refine⟨v,r',m,ρ.eu ρ1 m1,he,gC,⟨hM.n,?_,?_,?_,?_,?_⟩,hf.j7 tF wd,⟨QN _,fun _ _=>rfl,g.S,?_,?_,fun b hb _=>vY b hb,hx.size,hx.os,hx.tape,hx.output⟩⟩
  .intro b hb;rcases hb with hb|⟨k,hk,rfl⟩
   .exact tF.S b hb
   .exact(tF.a8 k hk).1
  .intro k hk;have h1:=hM.a8 k ((dG k).1 hk);refine⟨aaf h1.1 hx.size,fun hS=>?_⟩
   rcases Zk _ hS with h|h
   .exact h1.2 h
   .have:(ρ.aO k).b<w.heap.size:=h1.1;have h':w.heap.size<=(ρ.aO k).b:=h;omega
  .exact fun k k' hk gC=>hM.inj k k' ((dG k).1 hk) ((dG k').1 gC)
  .intro id b hb;have h1:=hM.bk id b hb;have bU:∀{mk:Prop}cur,((∃k,k.id=id/\Live ρ m k/\(ρ.aO k).b=(ρ.aO (.ap id)).b))->lq mk w (ρ.aO (.ap id)).b cur->lq mk w' (ρ.aO (.ap id)).b cur:=fun{mk}cur _ hc=>hc.dz (vY _ hc.lt)
   cases b with
   |aZ=>trivial
   |var cs=>
    obtain⟨cur,bU,h2⟩:=h1;exact⟨cur,bU.dz (vY _ bU.lt),fun j c hj=>let⟨u,hu,hd⟩:=h2 j c hj;⟨u,hu,br.cF g aK hd⟩⟩
   |row esz elems=>
    obtain⟨h2,h3,h4,h5,h6⟩:=h1;refine⟨h2,h3,h4,h5,fun hp=>?_⟩
    obtain⟨cur,bU,h7,h8⟩:=h6 hp;exact⟨cur,bU.dz (vY _ bU.lt),h7,fun i cs j c hi hj=>let⟨u,hu,hd⟩:=h8 i cs j c hi hj;⟨u,hu,br.cF g (by intro i3 i' j' e';cases e';rw[hM.n];exact(Hy.1 hb).1) hd⟩⟩
   |mp es=>
    obtain⟨cJ,ck,h2,h3,h4⟩:=h1;exact⟨cJ,ck,⟨(vY _ (aac.1 h2.1).1).trans h2.1,h2.2⟩,h3,fun i e he=>let⟨e',sh,hk,hd⟩:=h4 i e he;⟨e',sh,hk,dy.cF g hd⟩⟩
   |it cur left=>
    obtain⟨mb,seen,ck,cJ,h2,h3,h4,h5,h6⟩:=h1;exact⟨mb,seen,ck,cJ,(vY _ (aac.1 h2).1).trans h2,h3,g.S _ h4,(g.heap mb h4).trans h5,h6⟩
  .intro id i j esz el ho bl;obtain⟨cur,bU,h2,h3,h4⟩:=hM.gp id i j esz el ho bl;exact⟨cur,bU.dz (vY _ bU.lt),h2,h3,fun i cs j d hi hj=>let⟨u,hu,hd⟩:=h4 i cs j d hi hj;⟨u,hu,cZ.mono g.S g.heap hd⟩⟩
  .intro b hb;rcases Zk b hb with h|h
   .exact .inl h
   .exact .inr (.inl h)
  .intro k hk;exact .inr ⟨k,(dG k).1 hk,rfl⟩
def RV.c7:RV->Bool
 | .one c=>c.c7
 | .agg cs=>cs.all CC.c7
def CV.AA:CV->Bool
 | .rv r=>r.c7
 | .bG rs=>rs.all RV.c7
 |_=>false
theorem dY.self{m:Mem}{c:CC}(h:c.c7=true):dY m c c:=by
 cases c
 case aa d=>exact .aa _
 case fn f dN=>
  cases dN with
  |nil=>exact .fn f
  |cons c r=>simp[CC.c7]at h
 all_goals simp[CC.c7]at h
theorem eh.self{m:Mem}{r:RV}(h:r.c7=true):eh m r r:=by
 cases r with
 |one c=>exact .one (dY.self h)
 |agg cs=>
  refine .agg rfl fun i c c' h1 h2=>?_
  rw[h1]at h2;cases h2;exact dY.self (aas.1 h c (O9 h1))
theorem cw.self{m:Mem}{v:CV}(h:v.AA=true):cw m v v:=by
 cases v with
 |rv r=>exact .rv (eh.self h)
 |bG rs=>
  refine .bG rfl fun i c c' h1 h2=>?_
  rw[h1]at h2;cases h2;exact eh.self (aas.1 h c (O9 h1))
 |_=>simp[CV.AA]at h
theorem bo{f:Nat}{fn:Func}{lf:LF}{args:List CV}{r0:CV}(hf:P.funcs[f]? =some fn)(hl:bq P fn=some lf)(hn:(fn.name== "runtime.NumGoroutine")=false)(hle:args.length<=lf.n)(h:body P lf args [] fun r _=>r=r0)(ha:args.all CV.c7=true)(hr:r0.AA=true){m:Mem}{K:CV->Mem->Prop}(hK:K r0 m):ar P f args m K:=
 aY (l7 hf hl hn hle h) (fun c hc=>aas.1 ha c hc) fun r m1 he=>⟨r0,by subst he;exact .self hr,hK⟩
theorem AB{f:Nat}{fn:Func}{lf:LF}{args:List CV}{r0:CV}(hf:P.funcs[f]? =some fn)(hl:bq P fn=some lf.er)(hn:(fn.name== "runtime.NumGoroutine")=false)(hle:args.length<=lf.n)(h:body P lf args [] fun r _=>r=r0)(ha:args.all CV.c7=true)(hr:r0.AA=true){m:Mem}{K:CV->Mem->Prop}(hK:K r0 m):ar P f args m K:=
 aY (fL hf hl hn hle h) (fun c hc=>aas.1 ha c hc) fun r m1 he=>⟨r0,by subst he;exact .self hr,hK⟩
theorem dY.d6{m:Mem}{id esz:Nat}{ds:List (List Dt)}(h:m[id]? =some (.row esz (ds.map fun es=>es.map .aa)))(lo:Nat)(hi:Option Nat):dY m (.row id esz lo hi) (.aa (.sl esz (ct ds lo hi))):=by
 refine .row id esz lo hi _ ds h aK fun i cs es h1 h2=>?_
 rw[O6,h2]at h1;cases h1;refine⟨aK,fun j c d h3 h4=>.inl ?_⟩
 rw[O6,h4]at h3;cases h3;rfl
end
end Go.AM
