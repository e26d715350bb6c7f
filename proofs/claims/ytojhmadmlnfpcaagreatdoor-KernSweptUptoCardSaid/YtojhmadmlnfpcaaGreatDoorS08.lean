/- Part 8 of 18. -/
import Derived.Test.YtojhmadmlnfpcaaGreatDoorS07
import Derived.IntWalk
set_option linter.unusedVariables false
set_option linter.unusedSimpArgs false
set_option linter.unnecessarySimpa false
set_option maxRecDepth 100000
set_option maxHeartbeats 0
namespace Go.AM
section
variable {P:Program}
theorem aC{t:Bool}{A B:Prop}(ha:t=true->A)(hb:t=false->B): @Bool.rec (fun _=>Prop) B A t:=by
 cases t
 .exact hb rfl
 .exact ha rfl
theorem bY{t:Bool}{A B:Prop}(h:t=true)(ha:A): @Bool.rec (fun _=>Prop) B A t:=by subst h;exact ha
theorem dU{t:Bool}{A B:Prop}(h:t=false)(ha:B): @Bool.rec (fun _=>Prop) B A t:=by subst h;exact ha
theorem ag{α:Type}{o:Option α}{K:α->Prop}{x:α}(h:o=some x)(k:K x): @Option.rec α (fun _=>Prop) False K o:=by subst h;exact k
theorem Gn{α:Type}(l:List α)(n:Int):cR l n=if 0<=n then l[n.toNat]? else none:=by
 cases n with
 |ofNat k=>simp[cR,aZ]
 |negSucc k=>simp[cR]
theorem bn{α:Type}(l:List α)(k:Nat):cR l (k:Int)=l[k]? :=by simp[Gn]
theorem OB(n:Int)(len:Nat):dH n len=if 0<=n/\n.toNat<len then some n.toNat else none:=by
 cases n with
 |ofNat k=>
  simp only[dH];cases h:Nat.blt k len
  .have:¬k<len:=fun hh=>by rw[<-abU]at hh;rw[hh]at h;cases h
   simp[this]
  .rw[abU]at h;simp[h]
 |negSucc k=>simp[dH]
theorem cn{k len:Nat}(h:k<len):dH (k:Int) len=some k:=by rw[OB,if_pos ⟨om,by simpa using h⟩];simp
inductive mr:List CV->List CV->Prop
 |nil:mr [] []
 |aq {v:CV} {e e':List CV} (h:mr e e'):mr (v::e) (.aq::e')
 |eS {v:CV} {e e':List CV} (h:mr e e'):mr (v::e) (v::e')
theorem mr.len{e e':List CV}(h:mr e e'):e'.length=e.length:=by
 induction h<;>simp[*]
theorem mr.get{e e':List CV}(h:mr e e'):∀(i:Nat)v,e'[i]? =some v->v= .aq\/e[i]? =some v:=by
 induction h with
 |nil=>intro i v h;simp at h
 |aq h ih=>
  intro i v hv;cases i with
  |zero=>simp at hv;exact .inl hv.symm
  |succ i=>simpa using ih i v (by simpa using hv)
 |eS h ih=>
  intro i v hv;cases i with
  |zero=>simp at hv;exact .inr (by simp[hv])
  |succ i=>simpa using ih i v (by simpa using hv)
theorem mr.put{v v':CV}{e e':List CV}(hv:v=v')(h:mr e e'):mr (v::e) (v'::e'):=by subst hv;exact .eS h
theorem np{n:Nat}(h:n<=9223372036854775807):IntKind.i64.wrap (n:Int)=n:=IntWalk.i64_in n om
theorem ap{k:Nat}(h:k<9223372036854775807):(CV.rv (.one (.aa (.val (.int .i64 (IntKind.i64.wrap ((k:Int)+1)))))))=an .i64 ((k+1:Nat):Int):=by have:=np (n:=k+1) om;unfold an;rw[<-this];rfl
theorem mf.refl:∀(m:Mem),mf m m
 | []=>.nil []
 |b::r=>.cons (.inl rfl) (mf.refl r)
theorem Bx{n0:Nat}{e e':List CV}{m:Mem}(hn:n0<=m.length)(h:mr e e'):View n0 ⟨e,m⟩ ⟨e',m⟩:=
 Kk.view ⟨hn,h.len,fun i v hv=>(h.get i v hv).imp id fun h=>⟨h,.inl rfl⟩,mf.refl m,.inl rfl⟩
def QK(i:Nat)(v:CV):List (Nat×CV)->CV
 | []=>v
 |(j,x)::r=>match Nat.beq i j with|true=>x|false=>QK i v r
def QL(f:List (Nat×CV)):Nat->List CV->(List CV->List CV)->List CV
 |_,[],k=>k []
 |i,v::r,k=>fV (QK i v f) fun v'=>QL f (i+1) r fun r'=>k (v'::r')
def By(e:List CV)(f:List (Nat×CV)):List CV:=QL f 0 e fun e=>e
def KX(m:Mem):List (Nat×Bk)->Mem
 | []=>m
 |(i,v)::r=>bb (KX m r) i v
theorem KY{n0:Nat}{b:LC}{K:Ex->St->Prop}{s:St}{α:Type}(J:α->Prop)(f:α->List (Nat×CV))(g:α->List (Nat×Bk))(μ:α->Nat)(a0:α)(h0:J a0)(start:View n0 s ⟨By s.a8 (f a0),KX s.mem (g a0)⟩)(round:∀a,J a->aw P n0 b (F6 n0 J (fun a=>⟨By s.a8 (f a),KX s.mem (g a)⟩) μ (μ a) K) ⟨By s.a8 (f a),KX s.mem (g a)⟩):aw P n0 (.loop b) K s:=
 ⟨α,J,fun a=>⟨By s.a8 (f a),KX s.mem (g a)⟩,μ,⟨a0,h0,start⟩,round⟩
end
section
variable {P:Program}
inductive d9(m:Mem):CC->CC->Prop
 |aa (d:Dt):d9 m (.aa d) (.aa d)
 |aI (esz:Nat):d9 m .aI (.aa (.sl esz []))
 |fn (f:Nat):d9 m (.fn f []) (.fn f [])
 |row (id esz lo:Nat) (hi:Option Nat) (elems:List (List CC)) (ds:List (List Dt)) (h:m[id]? =some (.row esz elems)) (hl:elems.length=ds.length)
   (hd:∀(i:Nat)cs es,elems[i]? =some cs->ds[i]? =some es->cs.length=es.length/\∀(j:Nat)c d,cs[j]? =some c->es[j]? =some d->c= .aa d\/∃s e,c= .gO s e/\d= .sl s e):
   d9 m (.row id esz lo hi) (.aa (.sl esz (cD ds lo hi)))
inductive eT(m:Mem):RV->RV->Prop
 |one {c c':CC} (h:d9 m c c'):eT m (.one c) (.one c')
 |agg {cs eh:List CC} (hl:cs.length=eh.length) (h:∀(i:Nat)c c',cs[i]? =some c->eh[i]? =some c'->d9 m c c'):eT m (.agg cs) (.agg eh)
inductive cJ(m:Mem):CV->CV->Prop
 |rv {r r':RV} (h:eT m r r'):cJ m (.rv r) (.rv r')
 |bK {rs H3:List RV} (hl:rs.length=H3.length) (h:∀(i:Nat)r r',rs[i]? =some r->H3[i]? =some r'->eT m r r'):cJ m (.bK rs) (.bK H3)
def bQ.e8(ρ:bQ)(ρ1:bQ)(m1:Mem):bQ:={ρ with S:=fun b=>ρ1.S b\/∃k,Live ρ1 m1 k/\(ρ1.aV k).b=b}
theorem q9{α:Type}(l:List α)(lo:Nat)(hi:Option Nat)(i:Nat)(x:α)(h:(cD l lo hi)[i]? =some x):l[lo+i]? =some x:=by
 rw[lD]at h;rw[abG]at h;cases hi with
 |none=>exact h
 |some k=>
  simp only at h;rw[abm]at h;split at h
  .exact h
  .cases h
theorem Bz{α:Type}(l:List α)(lo:Nat)(hi:Option Nat)(h1:lo<=hi.getD l.length)(h2:hi.getD l.length<=l.length):(cD l lo hi).length=hi.getD l.length-lo:=by
 rw[lD];cases hi with
 |none=>simp
 |some k=>simp at h1 h2⊢;omega
theorem d9.k9{ρ ρ1:bQ}{m1:Mem}{w:World}(hM:aL ρ1 m1 w){c c':CC}(h:d9 m1 c c'){v:Value}(hd:bC ρ1 w .none c v):bC (ρ.e8 ρ1 m1) w .none c' v:=by
 have mono:∀{d:Dt}{v:Value},dv ρ1.S w d v->dv (ρ.e8 ρ1 m1).S w d v:=fun h=>h.mono (fun _ h=>.inl h) (fun _ _=>rfl)
 cases h with
 |aa d=>exact mono hd
 |aI esz=>
  obtain⟨a,rfl⟩:=hd;exact .nil esz a 0 (Wi _)
 |fn f=>
  obtain⟨_,rfl⟩:=hd;exact⟨aG,rfl⟩
 |row id esz lo hi elems ds hb hl HY=>
  obtain⟨h1,h2,h3,h4,h5,a,rfl,ha⟩:=hd;obtain⟨g1,g2,g3,g4,g5⟩:=hM.bk id _ hb;have lH:ds.length=(ρ1.aV (.ar id)).len:=om;have hlen:(cD ds lo hi).length=hi.getD (ρ1.aV (.ar id)).len-lo:=by
   rw[<-lH];exact Bz ds lo hi (by rw[lH];exact h2) (by rw[lH];exact h3)
  show dv _ w (.sl esz (cD ds lo hi)) _;rw[<-hlen];rcases abB (cD ds lo hi).length with h0|dz
  .rw[h0,Z1 h0];exact .nil esz a _ om
  .have ic:lo<(ρ1.aV (.ar id)).cap:=om;obtain⟨cur,cj,dN,ek⟩:=g5 om;rw[ha ic];have key:∀(i:Nat)es(j:Nat)d,(cD ds lo hi)[i]? =some es->es[j]? =some d->∃u,w.cell? ⟨(ρ1.aV (.ar id)).b,(ρ1.aV (.ar id)).aA+lo*esz+i*esz+j,.none⟩=some u/\dv (ρ.e8 ρ1 m1).S w d u:=by
    intro i es j d eu hj;have eC:=q9 ds lo hi i es eu;have aB:lo+i<elems.length:=by rw[hl];exact(Mh.1 eC).1
    have JT:=IE aB;obtain⟨rP,eJ⟩:=HY _ _ _ JT eC;have da:j<elems[lo+i].length:=by rw[rP];exact(Mh.1 hj).1
    have QM:=IE da;obtain⟨u,hu,cz⟩:=ek _ _ _ _ JT QM;refine⟨u,?_,?_⟩
    .rw[cj.cell,<-hu];congr 1;rw[abE];omega
    .rcases eJ _ _ _ QM hj with hc|⟨s,e,hc,rfl⟩
     .rw[hc]at cz;exact mono cz
     .rw[hc]at cz QM;obtain⟨jH,i',j',yb,q1,q2,a',rfl,q3⟩:=cz;simp only[aag,Prod.mk.injEq]at yb;obtain⟨rfl,rfl,rfl⟩:=yb;rcases abB e.length with he|he
      .rw[Z1 he];exact .nil s a' _ om
      .have mh:fJ m1 id (lo+i) j s e:=⟨_,_,_,hb,JT,QM⟩;obtain⟨gq,Bn,w1,w2,w3⟩:=hM.gO _ _ _ _ _ mh om;rw[q3 om];have Bi:Live ρ1 m1 (.sub id (lo+i) j):=⟨⟨_,_,mh⟩,om⟩;have ky:∀(i2:Nat)cs(j2:Nat)d2,e[i2]? =some cs->cs[j2]? =some d2->∃u,w.cell? ⟨(ρ1.aV (.sub id (lo+i) j)).b,(ρ1.aV (.sub id (lo+i) j)).aA+i2*s+j2,.none⟩=some u/\dv (ρ.e8 ρ1 m1).S w d2 u:=by
        intro i2 cs j2 d2 eC kj;obtain⟨u,hu,hd⟩:=w3 i2 cs j2 d2 eC kj;exact⟨u,by rw[Bn.cell];exact hu,mono hd⟩
       exact dv.sl s e _ _ _ (fun i2 j2=>(w.cell? ⟨(ρ1.aV (.sub id (lo+i) j)).b,(ρ1.aV (.sub id (lo+i) j)).aA+i2*s+j2,.none⟩).getD Go.undef) (.inr ⟨_,Bi,rfl⟩) q1 q2 w2
        (fun i2 cs j2 d2 eC kj=>by obtain⟨u,hu,_⟩:=ky i2 cs j2 d2 eC kj;rw[hu];rfl)
        (fun i2 cs j2 d2 eC kj=>by obtain⟨u,hu,hd⟩:=ky i2 cs j2 d2 eC kj;rw[hu];exact hd)
   refine dv.sl esz (cD ds lo hi) _ _ _ (fun i j=>(w.cell? ⟨(ρ1.aV (.ar id)).b,(ρ1.aV (.ar id)).aA+lo*esz+i*esz+j,.none⟩).getD Go.undef) (.inr ⟨.ar id,⟨_,hb,aG,fun _=>om⟩,rfl⟩) om om (fun es nV=>?_)
    (fun i cs j d eu hj=>by obtain⟨u,hu,_⟩:=key i cs j d eu hj;rw[hu];rfl)
    (fun i cs j d eu hj=>by obtain⟨u,hu,hd⟩:=key i cs j d eu hj;rw[hu];exact hd)
   obtain⟨i,eu⟩:=Xf nV;have eC:=q9 ds lo hi i es eu;have aB:lo+i<elems.length:=by rw[hl];exact(Mh.1 eC).1
   have JT:=IE aB;obtain⟨rP,_⟩:=HY _ _ _ JT eC;rw[<-rP];exact g4 _ (Z0 aB)
theorem eT.k9{ρ ρ1:bQ}{m1:Mem}{w:World}(hM:aL ρ1 m1 w){c c':RV}(h:eT m1 c c'){v:Value}(hd:dP ρ1 w c v):dP (ρ.e8 ρ1 m1) w c' v:=by
 cases h with
 |one h=>exact h.k9 hM hd
 |agg hl h=>
  obtain⟨vs,rfl,h1,h2⟩:=hd;refine⟨vs,rfl,h1.trans hl,fun i c' hi=>?_⟩
  rename_i cs eh;have aB:i<cs.length:=by rw[hl];exact(Mh.1 hi).1
  obtain⟨u,hu,hd⟩:=h2 i _ (IE aB);exact⟨u,hu,(h i _ _ (IE aB) hi).k9 hM hd⟩
theorem cJ.k9{ρ ρ1:bQ}{m1:Mem}{w:World}(hM:aL ρ1 m1 w){c c':CV}(h:cJ m1 c c'){v:Value}(hd:cm ρ1 w c v):cm (ρ.e8 ρ1 m1) w c' v:=by
 cases h with
 |rv h=>exact h.k9 hM hd
 |bK hl h=>
  obtain⟨vs,rfl,h1,h2⟩:=hd;refine⟨vs,rfl,h1.trans hl,fun i c' hi=>?_⟩
  rename_i cs eh;have aB:i<cs.length:=by rw[hl];exact(Mh.1 hi).1
  obtain⟨u,hu,hd⟩:=h2 i _ (IE aB);exact⟨u,hu,(h i _ _ (IE aB) hi).k9 hM hd⟩
def CC.dm:CC->Bool
 | .aa _=>true
 | .fn _ []=>true
 |_=>false
def CV.dm:CV->Bool
 | .rv (.one c)=>c.dm
 | .rv (.agg cs)=>cs.all CC.dm
 |_=>false
theorem CC.ra{ρ ρ':bQ}{w:World}{c:CC}{v:Value}(hc:c.dm=true)(hS:∀b,ρ.S b->ρ'.S b)(h:bC ρ w .none c v):bC ρ' w .none c v:=by
 cases c
 case aa d=>exact dv.mono (S:=ρ.S) (S':=ρ'.S) (w:=w) (w':=w) hS (fun _ _=>rfl) h
 case fn f ei=>
  cases ei with
  |nil=>exact⟨aG,h.2⟩
  |cons c r=>simp[CC.dm]at hc
 all_goals simp[CC.dm]at hc
theorem CV.ra{ρ ρ':bQ}{w:World}{c:CV}{v:Value}(hc:c.dm=true)(hS:∀b,ρ.S b->ρ'.S b)(h:cm ρ w c v):cm ρ' w c v:=by
 cases c with
 |rv r=>
  cases r with
  |one c=>exact CC.ra hc hS h
  |agg cs=>
   obtain⟨vs,rfl,h1,h2⟩:=h;refine⟨vs,rfl,h1,fun i c hi=>?_⟩
   obtain⟨u,hu,hd⟩:=h2 i c hi;exact⟨u,hu,CC.ra (abH.1 hc c (Rq hi)) hS hd⟩
 |_=>simp[CV.dm]at hc
theorem be{f:Nat}{args:List CV}{m:Mem}{K0 K:CV->Mem->Prop}(h:au P f args [] K0)(ha:∀c,c∈args->c.dm=true)(hK:∀r m1,K0 r m1->∃r',cJ m1 r r'/\K r' m):au P f args m K:=by
 refine⟨h.1,fun ρ w vs hM hl hd=>?_⟩
 let ρ0:bQ:={n:=0,aV:=fun _=>⟨0,0,0,0⟩,S:=ρ.S}
 have lF:aL ρ0 [] w:={
  n:=rfl
  S:=hM.S
  aQ:=fun k h=>by have:=h.fS;simp at this
  inj:=fun k k' h=>by have:=h.fS;simp at this
  bk:=fun id b h=>by simp at h
  gO:=fun id i j esz elems h=>by obtain⟨_,_,_,h,_⟩:=h;simp at h}
 refine(h.2 ρ0 w vs lF hl fun i c hi=>?_).mono fun e w'⟨v,r,m1,ρ1,he,hk,uC,xh,hx⟩=>?_
 .obtain⟨v,hv,hd⟩:=hd i c hi;exact⟨v,hv,CV.ra (ρ:=ρ) (ρ':=ρ0) (ha c (Rq hi)) (fun _ h=>h) hd⟩
 .obtain⟨r',hf,gK⟩:=hK r m1 hk;have ld:∀k,¬Live ρ0 [] k:=fun k h=>by have:=h.fS;simp at this
  have wY:∀b,b<w.heap.size->w'.heap[b]? =w.heap[b]? :=fun b hb=>hx.frame b hb fun k hk=>absurd hk (ld k)
  have hS':∀b,(ρ.e8 ρ1 m1).S b->ρ.S b\/w.heap.size<=b:=by
   rintro b (hb|⟨k,hk,rfl⟩)
   .rcases hx.S' b hb with h|h|⟨k,hk,_⟩
    .exact .inl h
    .exact .inr h
    .exact absurd hk (ld k)
   .rcases hx.aQ k hk with h|⟨k0,h0,_⟩
    .exact .inr h
    .exact absurd h0 (ld k0)
  have cX:∀k,Live (ρ.e8 ρ1 m1) m k↔Live ρ m k:=fun k=>by cases k<;>rfl
  have g:iD ρ w (ρ.e8 ρ1 m1) w':=⟨SS _,fun _ _=>rfl,fun b hb=>.inl (hx.S b hb),fun b hb=>wY b (hM.S b hb)⟩
  refine⟨v,r',m,ρ.e8 ρ1 m1,he,gK,⟨hM.n,?_,?_,?_,?_,?_⟩,hf.k9 uC xh,⟨SS _,fun _ _=>rfl,g.S,?_,?_,fun b hb _=>wY b hb,hx.size,hx.os,hx.tape,hx.output⟩⟩
  .intro b hb;rcases hb with hb|⟨k,hk,rfl⟩
   .exact uC.S b hb
   .exact(uC.aQ k hk).1
  .intro k hk;have h1:=hM.aQ k ((cX k).1 hk);refine⟨abh h1.1 hx.size,fun hS=>?_⟩
   rcases hS' _ hS with h|h
   .exact h1.2 h
   .have:(ρ.aV k).b<w.heap.size:=h1.1;have h':w.heap.size<=(ρ.aV k).b:=h;omega
  .exact fun k k' hk gK=>hM.inj k k' ((cX k).1 hk) ((cX k').1 gK)
  .intro id b hb;have h1:=hM.bk id b hb;have cj:∀{mk:Prop}cur,((∃k,k.id=id/\Live ρ m k/\(ρ.aV k).b=(ρ.aV (.ar id)).b))->lS mk w (ρ.aV (.ar id)).b cur->lS mk w' (ρ.aV (.ar id)).b cur:=fun{mk}cur _ hc=>hc.dn (wY _ hc.lt)
   cases b with
   |aW=>trivial
   |var cs=>
    obtain⟨cur,cj,h2⟩:=h1;exact⟨cur,cj.dn (wY _ cj.lt),fun j c hj=>let⟨u,hu,hd⟩:=h2 j c hj;⟨u,hu,bC.cQ g aG hd⟩⟩
   |row esz elems=>
    obtain⟨h2,h3,h4,h5,h6⟩:=h1;refine⟨h2,h3,h4,h5,fun hp=>?_⟩
    obtain⟨cur,cj,h7,h8⟩:=h6 hp;exact⟨cur,cj.dn (wY _ cj.lt),h7,fun i cs j c hi hj=>let⟨u,hu,hd⟩:=h8 i cs j c hi hj;⟨u,hu,bC.cQ g (by intro jH i' j' e';cases e';rw[hM.n];exact(Mh.1 hb).1) hd⟩⟩
   |mp es=>
    obtain⟨c6,ck,h2,h3,h4⟩:=h1;exact⟨c6,ck,⟨(wY _ (aaK.1 h2.1).1).trans h2.1,h2.2⟩,h3,fun i e he=>let⟨e',tm,hk,hd⟩:=h4 i e he;⟨e',tm,hk,dP.cQ g hd⟩⟩
   |it cur left=>
    obtain⟨mb,seen,ck,c6,h2,h3,h4,h5,h6⟩:=h1;exact⟨mb,seen,ck,c6,(wY _ (aaK.1 h2).1).trans h2,h3,g.S _ h4,(g.heap mb h4).trans h5,h6⟩
  .intro id i j esz el ho bq;obtain⟨cur,cj,h2,h3,h4⟩:=hM.gO id i j esz el ho bq;exact⟨cur,cj.dn (wY _ cj.lt),h2,h3,fun i cs j d hi hj=>let⟨u,hu,hd⟩:=h4 i cs j d hi hj;⟨u,hu,dv.mono g.S g.heap hd⟩⟩
  .intro b hb;rcases hS' b hb with h|h
   .exact .inl h
   .exact .inr (.inl h)
  .intro k hk;exact .inr ⟨k,(cX k).1 hk,rfl⟩
def RV.dm:RV->Bool
 | .one c=>c.dm
 | .agg cs=>cs.all CC.dm
def CV.BA:CV->Bool
 | .rv r=>r.dm
 | .bK rs=>rs.all RV.dm
 |_=>false
theorem d9.self{m:Mem}{c:CC}(h:c.dm=true):d9 m c c:=by
 cases c
 case aa d=>exact .aa _
 case fn f ei=>
  cases ei with
  |nil=>exact .fn f
  |cons c r=>simp[CC.dm]at h
 all_goals simp[CC.dm]at h
theorem eT.self{m:Mem}{r:RV}(h:r.dm=true):eT m r r:=by
 cases r with
 |one c=>exact .one (d9.self h)
 |agg cs=>
  refine .agg rfl fun i c c' h1 h2=>?_
  rw[h1]at h2;cases h2;exact d9.self (abH.1 h c (Rq h1))
theorem cJ.self{m:Mem}{v:CV}(h:v.BA=true):cJ m v v:=by
 cases v with
 |rv r=>exact .rv (eT.self h)
 |bK rs=>
  refine .bK rfl fun i c c' h1 h2=>?_
  rw[h1]at h2;cases h2;exact eT.self (abH.1 h c (Rq h1))
 |_=>simp[CV.BA]at h
theorem bs{f:Nat}{fn:Func}{lf:LF}{args:List CV}{r0:CV}(hf:P.funcs[f]? =some fn)(hl:bx P fn=some lf)(hn:(fn.name== "runtime.NumGoroutine")=false)(hle:args.length<=lf.n)(h:body P lf args [] fun r _=>r=r0)(ha:args.all CV.dm=true)(hr:r0.BA=true){m:Mem}{K:CV->Mem->Prop}(hK:K r0 m):au P f args m K:=
 be (vq hf hl hn hle h) (fun c hc=>abH.1 ha c hc) fun r m1 he=>⟨r0,by subst he;exact .self hr,hK⟩
theorem tM{f:Nat}{fn:Func}{lf:LF}{args:List CV}{r0:CV}(hf:P.funcs[f]? =some fn)(hl:bx P fn=some lf.er)(hn:(fn.name== "runtime.NumGoroutine")=false)(hle:args.length<=lf.n)(h:body P lf args [] fun r _=>r=r0)(ha:args.all CV.dm=true)(hr:r0.BA=true){m:Mem}{K:CV->Mem->Prop}(hK:K r0 m):au P f args m K:=
 be (mS hf hl hn hle h) (fun c hc=>abH.1 ha c hc) fun r m1 he=>⟨r0,by subst he;exact .self hr,hK⟩
theorem d9.dJ{m:Mem}{id esz:Nat}{ds:List (List Dt)}(h:m[id]? =some (.row esz (ds.map fun es=>es.map .aa)))(lo:Nat)(hi:Option Nat):d9 m (.row id esz lo hi) (.aa (.sl esz (cD ds lo hi))):=by
 refine .row id esz lo hi _ ds h aG fun i cs es h1 h2=>?_
 rw[Q8,h2]at h1;cases h1;refine⟨aG,fun j c d h3 h4=>.inl ?_⟩
 rw[Q8,h4]at h3;cases h3;rfl
end
end Go.AM
