/- Part 13 of 39: what the law stands on. -/
import Derived.Test.YtodckkkbiidffaaGreatDoorT12
import Derived.IntWalk
set_option linter.unusedVariables false
set_option linter.unusedSimpArgs false
set_option linter.unnecessarySimpa false
set_option maxRecDepth 100000
set_option maxHeartbeats 64000000
namespace Go.AM
section
variable {P:Program}
theorem aD{t:Bool}{A B:Prop}(ha:t=true->A)(hb:t=false->B): @Bool.rec (fun _=>Prop) B A t:=by
 cases t
 .exact hb rfl
 .exact ha rfl
theorem cj{t:Bool}{A B:Prop}(h:t=true)(ha:A): @Bool.rec (fun _=>Prop) B A t:=by subst h;exact ha
theorem tJ{t:Bool}{A B:Prop}(h:t=false)(ha:B): @Bool.rec (fun _=>Prop) B A t:=by subst h;exact ha
theorem ag{α:Type}{o:Option α}{K:α->Prop}{x:α}(h:o=some x)(k:K x): @Option.rec α (fun _=>Prop) False K o:=by subst h;exact k
theorem Ed{α:Type}(l:List α)(n:Int):dg l n=if 0<=n then l[n.toNat]? else none:=by
 cases n with
 |ofNat k=>simp[dg,aU]
 |negSucc k=>simp[dg]
theorem bI{α:Type}(l:List α)(k:Nat):dg l (k:Int)=l[k]? :=by simp[Ed]
theorem Lw(n:Int)(len:Nat):dp n len=if 0<=n/\n.toNat<len then some n.toNat else none:=by
 cases n with
 |ofNat k=>
  simp only[dp];cases h:Nat.blt k len
  .have:¬k<len:=fun hh=>by rw[<-aaQ]at hh;rw[hh]at h;cases h
   simp[this]
  .rw[aaQ]at h;simp[h]
 |negSucc k=>simp[dp]
theorem bZ{k len:Nat}(h:k<len):dp (k:Int) len=some k:=by rw[Lw,if_pos ⟨om,by simpa using h⟩];simp
inductive k9:List CV->List CV->Prop
 |nil:k9 [] []
 |ar {v:CV} {e e':List CV} (h:k9 e e'):k9 (v::e) (.ar::e')
 |eQ {v:CV} {e e':List CV} (h:k9 e e'):k9 (v::e) (v::e')
theorem k9.len{e e':List CV}(h:k9 e e'):e'.length=e.length:=by
 induction h<;>simp[*]
theorem k9.get{e e':List CV}(h:k9 e e'):∀(i:Nat)v,e'[i]? =some v->v= .ar\/e[i]? =some v:=by
 induction h with
 |nil=>intro i v h;simp at h
 |ar h ih=>
  intro i v hv;cases i with
  |zero=>simp at hv;exact .inl hv.symm
  |succ i=>simpa using ih i v (by simpa using hv)
 |eQ h ih=>
  intro i v hv;cases i with
  |zero=>simp at hv;exact .inr (by simp[hv])
  |succ i=>simpa using ih i v (by simpa using hv)
theorem k9.put{v v':CV}{e e':List CV}(hv:v=v')(h:k9 e e'):k9 (v::e) (v'::e'):=by subst hv;exact .eQ h
theorem l9{n:Nat}(h:n<=9223372036854775807):IntKind.i64.wrap (n:Int)=n:=IntWalk.i64_in n om
theorem aL{k:Nat}(h:k<9223372036854775807):(CV.rv (.one (.aa (.val (.int .i64 (IntKind.i64.wrap ((k:Int)+1)))))))=an .i64 ((k+1:Nat):Int):=by have:=l9 (n:=k+1) om;unfold an;rw[<-this];rfl
theorem kX.refl:∀(m:Mem),kX m m
 | []=>.nil []
 |b::r=>.cons (.inl rfl) (kX.refl r)
theorem zt{n0:Nat}{e e':List CV}{m:Mem}(hn:n0<=m.length)(h:k9 e e'):View n0 ⟨e,m⟩ ⟨e',m⟩:=
 HL.view ⟨hn,h.len,fun i v hv=>(h.get i v hv).imp id fun h=>⟨h,.inl rfl⟩,kX.refl m,.inl rfl⟩
def No(i:Nat)(v:CV):List (Nat×CV)->CV
 | []=>v
 |(j,x)::r=>match Nat.beq i j with|true=>x|false=>No i v r
def Np(f:List (Nat×CV)):Nat->List CV->(List CV->List CV)->List CV
 |_,[],k=>k []
 |i,v::r,k=>fV (No i v f) fun v'=>Np f (i+1) r fun r'=>k (v'::r')
def zu(e:List CV)(f:List (Nat×CV)):List CV:=Np f 0 e fun e=>e
def Ik(m:Mem):List (Nat×Bk)->Mem
 | []=>m
 |(i,v)::r=>aZ (Ik m r) i v
theorem Il{n0:Nat}{b:LC}{K:Ex->St->Prop}{s:St}{α:Type}(J:α->Prop)(f:α->List (Nat×CV))(g:α->List (Nat×Bk))(μ:α->Nat)(a0:α)(h0:J a0)(start:View n0 s ⟨zu s.aV (f a0),Ik s.mem (g a0)⟩)(round:∀a,J a->aw P n0 b (DW n0 J (fun a=>⟨zu s.aV (f a),Ik s.mem (g a)⟩) μ (μ a) K) ⟨zu s.aV (f a),Ik s.mem (g a)⟩):aw P n0 (.loop b) K s:=
 ⟨α,J,fun a=>⟨zu s.aV (f a),Ik s.mem (g a)⟩,μ,⟨a0,h0,start⟩,round⟩
end
section
variable {P:Program}
inductive dU(m:Mem):CC->CC->Prop
 |aa (d:Dt):dU m (.aa d) (.aa d)
 |aB (esz:Nat):dU m .aB (.aa (.sl esz []))
 |fn (f:Nat):dU m (.fn f []) (.fn f [])
 |row (id esz lo:Nat) (hi:Option Nat) (elems:List (List CC)) (ds:List (List Dt)) (h:m[id]? =some (.row esz elems)) (hl:elems.length=ds.length)
   (hd:∀(i:Nat)cs es,elems[i]? =some cs->ds[i]? =some es->cs.length=es.length/\∀(j:Nat)c d,cs[j]? =some c->es[j]? =some d->c= .aa d\/∃s e,c= .gh s e/\d= .sl s e):
   dU m (.row id esz lo hi) (.aa (.sl esz (cu ds lo hi)))
inductive d8(m:Mem):RV->RV->Prop
 |one {c c':CC} (h:dU m c c'):d8 m (.one c) (.one c')
 |agg {cs ef:List CC} (hl:cs.length=ef.length) (h:∀(i:Nat)c c',cs[i]? =some c->ef[i]? =some c'->dU m c c'):d8 m (.agg cs) (.agg ef)
inductive cw(m:Mem):CV->CV->Prop
 |rv {r r':RV} (h:d8 m r r'):cw m (.rv r) (.rv r')
 |bF {rs FF:List RV} (hl:rs.length=FF.length) (h:∀(i:Nat)r r',rs[i]? =some r->FF[i]? =some r'->d8 m r r'):cw m (.bF rs) (.bF FF)
def bG.eZ(ρ:bG)(ρ1:bG)(m1:Mem):bG:={ρ with S:=fun b=>ρ1.S b\/∃k,Live ρ1 m1 k/\(ρ1.aP k).b=b}
theorem pj{α:Type}(l:List α)(lo:Nat)(hi:Option Nat)(i:Nat)(x:α)(h:(cu l lo hi)[i]? =some x):l[lo+i]? =some x:=by
 rw[ke]at h;rw[aat]at h;cases hi with
 |none=>exact h
 |some k=>
  simp only at h;rw[aaj]at h;split at h
  .exact h
  .cases h
theorem zw{α:Type}(l:List α)(lo:Nat)(hi:Option Nat)(h1:lo<=hi.getD l.length)(h2:hi.getD l.length<=l.length):(cu l lo hi).length=hi.getD l.length-lo:=by
 rw[ke];cases hi with
 |none=>simp
 |some k=>simp at h1 h2⊢;omega
theorem dU.jP{ρ ρ1:bG}{m1:Mem}{w:World}(hM:aA ρ1 m1 w){c c':CC}(h:dU m1 c c'){v:Value}(hd:bq ρ1 w .none c v):bq (ρ.eZ ρ1 m1) w .none c' v:=by
 have mono:∀{d:Dt}{v:Value},cZ ρ1.S w d v->cZ (ρ.eZ ρ1 m1).S w d v:=fun h=>h.mono (fun _ h=>.inl h) (fun _ _=>rfl)
 cases h with
 |aa d=>exact mono hd
 |aB esz=>
  obtain⟨a,rfl⟩:=hd;exact .nil esz a 0 (Wi _)
 |fn f=>
  obtain⟨_,rfl⟩:=hd;exact⟨aI,rfl⟩
 |row id esz lo hi elems ds hb hl H7=>
  obtain⟨h1,h2,h3,h4,h5,a,rfl,ha⟩:=hd;obtain⟨g1,g2,g3,g4,g5⟩:=hM.bk id _ hb;have kj:ds.length=(ρ1.aP (.ap id)).len:=om;have hlen:(cu ds lo hi).length=hi.getD (ρ1.aP (.ap id)).len-lo:=by
   rw[<-kj];exact zw ds lo hi (by rw[kj];exact h2) (by rw[kj];exact h3)
  show cZ _ w (.sl esz (cu ds lo hi)) _;rw[<-hlen];rcases aap (cu ds lo hi).length with h0|dd
  .rw[h0,Wg h0];exact .nil esz a _ om
  .have gx:lo<(ρ1.aP (.ap id)).cap:=om;obtain⟨cur,bS,dn,dK⟩:=g5 om;rw[ha gx];have key:∀(i:Nat)es(j:Nat)d,(cu ds lo hi)[i]? =some es->es[j]? =some d->∃u,w.cell? ⟨(ρ1.aP (.ap id)).b,(ρ1.aP (.ap id)).au+lo*esz+i*esz+j,.none⟩=some u/\cZ (ρ.eZ ρ1 m1).S w d u:=by
    intro i es j d dP hj;have d5:=pj ds lo hi i es dP;have aE:lo+i<elems.length:=by rw[hl];exact(Gf.1 d5).1
    have Hl:=sA aE;obtain⟨pY,eY⟩:=H7 _ _ _ Hl d5;have dL:j<elems[lo+i].length:=by rw[pY];exact(Gf.1 hj).1
    have Nq:=sA dL;obtain⟨u,hu,b8⟩:=dK _ _ _ _ Hl Nq;refine⟨u,?_,?_⟩
    .rw[bS.cell,<-hu];congr 1;rw[aas];omega
    .rcases eY _ _ _ Nq hj with hc|⟨s,e,hc,rfl⟩
     .rw[hc]at b8;exact mono b8
     .rw[hc]at b8 Nq;obtain⟨iO,i',j',v7,q1,q2,a',rfl,q3⟩:=b8;simp only[Wm,Prod.mk.injEq]at v7;obtain⟨rfl,rfl,rfl⟩:=v7;rcases aap e.length with he|he
      .rw[Wg he];exact .nil s a' _ om
      .have kY:fg m1 id (lo+i) j s e:=⟨_,_,_,hb,Hl,Nq⟩;obtain⟨fH,zh,w1,w2,w3⟩:=hM.gh _ _ _ _ _ kY om;rw[q3 om];have Fs:Live ρ1 m1 (.sub id (lo+i) j):=⟨⟨_,_,kY⟩,om⟩;have ky:∀(i2:Nat)cs(j2:Nat)d2,e[i2]? =some cs->cs[j2]? =some d2->∃u,w.cell? ⟨(ρ1.aP (.sub id (lo+i) j)).b,(ρ1.aP (.sub id (lo+i) j)).au+i2*s+j2,.none⟩=some u/\cZ (ρ.eZ ρ1 m1).S w d2 u:=by
        intro i2 cs j2 d2 d5 jm;obtain⟨u,hu,hd⟩:=w3 i2 cs j2 d2 d5 jm;exact⟨u,by rw[zh.cell];exact hu,mono hd⟩
       exact cZ.sl s e _ _ _ (fun i2 j2=>(w.cell? ⟨(ρ1.aP (.sub id (lo+i) j)).b,(ρ1.aP (.sub id (lo+i) j)).au+i2*s+j2,.none⟩).getD Go.undef) (.inr ⟨_,Fs,rfl⟩) q1 q2 w2
        (fun i2 cs j2 d2 d5 jm=>by obtain⟨u,hu,_⟩:=ky i2 cs j2 d2 d5 jm;rw[hu];rfl)
        (fun i2 cs j2 d2 d5 jm=>by obtain⟨u,hu,hd⟩:=ky i2 cs j2 d2 d5 jm;rw[hu];exact hd)
   refine cZ.sl esz (cu ds lo hi) _ _ _ (fun i j=>(w.cell? ⟨(ρ1.aP (.ap id)).b,(ρ1.aP (.ap id)).au+lo*esz+i*esz+j,.none⟩).getD Go.undef) (.inr ⟨.ap id,⟨_,hb,aI,fun _=>om⟩,rfl⟩) om om (fun es nD=>?_)
    (fun i cs j d dP hj=>by obtain⟨u,hu,_⟩:=key i cs j d dP hj;rw[hu];rfl)
    (fun i cs j d dP hj=>by obtain⟨u,hu,hd⟩:=key i cs j d dP hj;rw[hu];exact hd)
   obtain⟨i,dP⟩:=Un nD;have d5:=pj ds lo hi i es dP;have aE:lo+i<elems.length:=by rw[hl];exact(Gf.1 d5).1
   have Hl:=sA aE;obtain⟨pY,_⟩:=H7 _ _ _ Hl d5;rw[<-pY];exact g4 _ (Wl aE)
theorem d8.jP{ρ ρ1:bG}{m1:Mem}{w:World}(hM:aA ρ1 m1 w){c c':RV}(h:d8 m1 c c'){v:Value}(hd:du ρ1 w c v):du (ρ.eZ ρ1 m1) w c' v:=by
 cases h with
 |one h=>exact h.jP hM hd
 |agg hl h=>
  obtain⟨vs,rfl,h1,h2⟩:=hd;refine⟨vs,rfl,h1.trans hl,fun i c' hi=>?_⟩
  rename_i cs ef;have aE:i<cs.length:=by rw[hl];exact(Gf.1 hi).1
  obtain⟨u,hu,hd⟩:=h2 i _ (sA aE);exact⟨u,hu,(h i _ _ (sA aE) hi).jP hM hd⟩
theorem cw.jP{ρ ρ1:bG}{m1:Mem}{w:World}(hM:aA ρ1 m1 w){c c':CV}(h:cw m1 c c'){v:Value}(hd:bV ρ1 w c v):bV (ρ.eZ ρ1 m1) w c' v:=by
 cases h with
 |rv h=>exact h.jP hM hd
 |bF hl h=>
  obtain⟨vs,rfl,h1,h2⟩:=hd;refine⟨vs,rfl,h1.trans hl,fun i c' hi=>?_⟩
  rename_i cs ef;have aE:i<cs.length:=by rw[hl];exact(Gf.1 hi).1
  obtain⟨u,hu,hd⟩:=h2 i _ (sA aE);exact⟨u,hu,(h i _ _ (sA aE) hi).jP hM hd⟩
def CC.c6:CC->Bool
 | .aa _=>true
 | .fn _ []=>true
 |_=>false
def CV.c6:CV->Bool
 | .rv (.one c)=>c.c6
 | .rv (.agg cs)=>cs.all CC.c6
 |_=>false
theorem CC.pk{ρ ρ':bG}{w:World}{c:CC}{v:Value}(hc:c.c6=true)(hS:∀b,ρ.S b->ρ'.S b)(h:bq ρ w .none c v):bq ρ' w .none c v:=by
 cases c
 case aa d=>exact cZ.mono (S:=ρ.S) (S':=ρ'.S) (w:=w) (w':=w) hS (fun _ _=>rfl) h
 case fn f dJ=>
  cases dJ with
  |nil=>exact⟨aI,h.2⟩
  |cons c r=>simp[CC.c6]at hc
 all_goals simp[CC.c6]at hc
theorem CV.pk{ρ ρ':bG}{w:World}{c:CV}{v:Value}(hc:c.c6=true)(hS:∀b,ρ.S b->ρ'.S b)(h:bV ρ w c v):bV ρ' w c v:=by
 cases c with
 |rv r=>
  cases r with
  |one c=>exact CC.pk hc hS h
  |agg cs=>
   obtain⟨vs,rfl,h1,h2⟩:=h;refine⟨vs,rfl,h1,fun i c hi=>?_⟩
   obtain⟨u,hu,hd⟩:=h2 i c hi;exact⟨u,hu,CC.pk (aau.1 hc c (NQ hi)) hS hd⟩
 |_=>simp[CV.c6]at hc
theorem aY{f:Nat}{args:List CV}{m:Mem}{K0 K:CV->Mem->Prop}(h:aq P f args [] K0)(ha:∀c,c∈args->c.c6=true)(hK:∀r m1,K0 r m1->∃r',cw m1 r r'/\K r' m):aq P f args m K:=by
 refine⟨h.1,fun ρ w vs hM hl hd=>?_⟩
 let ρ0:bG:={n:=0,aP:=fun _=>⟨0,0,0,0⟩,S:=ρ.S}
 have kh:aA ρ0 [] w:={
  n:=rfl
  S:=hM.S
  a7:=fun k h=>by have:=h.fN;simp at this
  inj:=fun k k' h=>by have:=h.fN;simp at this
  bk:=fun id b h=>by simp at h
  gh:=fun id i j esz elems h=>by obtain⟨_,_,_,h,_⟩:=h;simp at h}
 refine(h.2 ρ0 w vs kh hl fun i c hi=>?_).mono fun e w'⟨v,r,m1,ρ1,he,hk,sJ,vd,hx⟩=>?_
 .obtain⟨v,hv,hd⟩:=hd i c hi;exact⟨v,hv,CV.pk (ρ:=ρ) (ρ':=ρ0) (ha c (NQ hi)) (fun _ h=>h) hd⟩
 .obtain⟨r',hf,gv⟩:=hK r m1 hk;have jQ:∀k,¬Live ρ0 [] k:=fun k h=>by have:=h.fN;simp at this
  have u0:∀b,b<w.heap.size->w'.heap[b]? =w.heap[b]? :=fun b hb=>hx.frame b hb fun k hk=>absurd hk (jQ k)
  have XP:∀b,(ρ.eZ ρ1 m1).S b->ρ.S b\/w.heap.size<=b:=by
   rintro b (hb|⟨k,hk,rfl⟩)
   .rcases hx.S' b hb with h|h|⟨k,hk,_⟩
    .exact .inl h
    .exact .inr h
    .exact absurd hk (jQ k)
   .rcases hx.a7 k hk with h|⟨k0,h0,_⟩
    .exact .inr h
    .exact absurd h0 (jQ k0)
  have dD:∀k,Live (ρ.eZ ρ1 m1) m k↔Live ρ m k:=fun k=>by cases k<;>rfl
  have g:hB ρ w (ρ.eZ ρ1 m1) w':=⟨Pq _,fun _ _=>rfl,fun b hb=>.inl (hx.S b hb),fun b hb=>u0 b (hM.S b hb)⟩
  refine⟨v,r',m,ρ.eZ ρ1 m1,he,gv,⟨hM.n,?_,?_,?_,?_,?_⟩,hf.jP sJ vd,⟨Pq _,fun _ _=>rfl,g.S,?_,?_,fun b hb _=>u0 b hb,hx.size,hx.os,hx.tape,hx.output⟩⟩
  .intro b hb;rcases hb with hb|⟨k,hk,rfl⟩
   .exact sJ.S b hb
   .exact(sJ.a7 k hk).1
  .intro k hk;have h1:=hM.a7 k ((dD k).1 hk);refine⟨aad h1.1 hx.size,fun hS=>?_⟩
   rcases XP _ hS with h|h
   .exact h1.2 h
   .have:(ρ.aP k).b<w.heap.size:=h1.1;have h':w.heap.size<=(ρ.aP k).b:=h;omega
  .exact fun k k' hk gv=>hM.inj k k' ((dD k).1 hk) ((dD k').1 gv)
  .intro id b hb;have h1:=hM.bk id b hb;have bS:∀{mk:Prop}cur,((∃k,k.id=id/\Live ρ m k/\(ρ.aP k).b=(ρ.aP (.ap id)).b))->kQ mk w (ρ.aP (.ap id)).b cur->kQ mk w' (ρ.aP (.ap id)).b cur:=fun{mk}cur _ hc=>hc.dv (u0 _ hc.lt)
   cases b with
   |aO=>trivial
   |var cs=>
    obtain⟨cur,bS,h2⟩:=h1;exact⟨cur,bS.dv (u0 _ bS.lt),fun j c hj=>let⟨u,hu,hd⟩:=h2 j c hj;⟨u,hu,bq.cE g aI hd⟩⟩
   |row esz elems=>
    obtain⟨h2,h3,h4,h5,h6⟩:=h1;refine⟨h2,h3,h4,h5,fun hp=>?_⟩
    obtain⟨cur,bS,h7,h8⟩:=h6 hp;exact⟨cur,bS.dv (u0 _ bS.lt),h7,fun i cs j c hi hj=>let⟨u,hu,hd⟩:=h8 i cs j c hi hj;⟨u,hu,bq.cE g (by intro iO i' j' e';cases e';rw[hM.n];exact(Gf.1 hb).1) hd⟩⟩
   |mp es=>
    obtain⟨cH,ck,h2,h3,h4⟩:=h1;exact⟨cH,ck,⟨(u0 _ (Z4.1 h2.1).1).trans h2.1,h2.2⟩,h3,fun i e he=>let⟨e',rz,hk,hd⟩:=h4 i e he;⟨e',rz,hk,du.cE g hd⟩⟩
   |it cur left=>
    obtain⟨mb,seen,ck,cH,h2,h3,h4,h5,h6⟩:=h1;exact⟨mb,seen,ck,cH,(u0 _ (Z4.1 h2).1).trans h2,h3,g.S _ h4,(g.heap mb h4).trans h5,h6⟩
  .intro id i j esz el ho bl;obtain⟨cur,bS,h2,h3,h4⟩:=hM.gh id i j esz el ho bl;exact⟨cur,bS.dv (u0 _ bS.lt),h2,h3,fun i cs j d hi hj=>let⟨u,hu,hd⟩:=h4 i cs j d hi hj;⟨u,hu,cZ.mono g.S g.heap hd⟩⟩
  .intro b hb;rcases XP b hb with h|h
   .exact .inl h
   .exact .inr (.inl h)
  .intro k hk;exact .inr ⟨k,(dD k).1 hk,rfl⟩
def RV.c6:RV->Bool
 | .one c=>c.c6
 | .agg cs=>cs.all CC.c6
def CV.zx:CV->Bool
 | .rv r=>r.c6
 | .bF rs=>rs.all RV.c6
 |_=>false
theorem dU.self{m:Mem}{c:CC}(h:c.c6=true):dU m c c:=by
 cases c
 case aa d=>exact .aa _
 case fn f dJ=>
  cases dJ with
  |nil=>exact .fn f
  |cons c r=>simp[CC.c6]at h
 all_goals simp[CC.c6]at h
theorem d8.self{m:Mem}{r:RV}(h:r.c6=true):d8 m r r:=by
 cases r with
 |one c=>exact .one (dU.self h)
 |agg cs=>
  refine .agg rfl fun i c c' h1 h2=>?_
  rw[h1]at h2;cases h2;exact dU.self (aau.1 h c (NQ h1))
theorem cw.self{m:Mem}{v:CV}(h:v.zx=true):cw m v v:=by
 cases v with
 |rv r=>exact .rv (d8.self h)
 |bF rs=>
  refine .bF rfl fun i c c' h1 h2=>?_
  rw[h1]at h2;cases h2;exact d8.self (aau.1 h c (NQ h1))
 |_=>simp[CV.zx]at h
theorem bu{f:Nat}{fn:Func}{lf:LF}{args:List CV}{r0:CV}(hf:P.funcs[f]? =some fn)(hl:bs P fn=some lf)(hn:(fn.name== "runtime.NumGoroutine")=false)(hle:args.length<=lf.n)(h:body P lf args [] fun r _=>r=r0)(ha:args.all CV.c6=true)(hr:r0.zx=true){m:Mem}{K:CV->Mem->Prop}(hK:K r0 m):aq P f args m K:=
 aY (lJ hf hl hn hle h) (fun c hc=>aau.1 ha c hc) fun r m1 he=>⟨r0,by subst he;exact .self hr,hK⟩
theorem zy{f:Nat}{fn:Func}{lf:LF}{args:List CV}{r0:CV}(hf:P.funcs[f]? =some fn)(hl:bs P fn=some lf.er)(hn:(fn.name== "runtime.NumGoroutine")=false)(hle:args.length<=lf.n)(h:body P lf args [] fun r _=>r=r0)(ha:args.all CV.c6=true)(hr:r0.zx=true){m:Mem}{K:CV->Mem->Prop}(hK:K r0 m):aq P f args m K:=
 aY (i5 hf hl hn hle h) (fun c hc=>aau.1 ha c hc) fun r m1 he=>⟨r0,by subst he;exact .self hr,hK⟩
theorem dU.dX{m:Mem}{id esz:Nat}{ds:List (List Dt)}(h:m[id]? =some (.row esz (ds.map fun es=>es.map .aa)))(lo:Nat)(hi:Option Nat):dU m (.row id esz lo hi) (.aa (.sl esz (cu ds lo hi))):=by
 refine .row id esz lo hi _ ds h aI fun i cs es h1 h2=>?_
 rw[NO,h2]at h1;cases h1;refine⟨aI,fun j c d h3 h4=>.inl ?_⟩
 rw[NO,h4]at h3;cases h3;rfl
end
end Go.AM
