/- Part 6 of 18. -/
import Derived.Test.YtojhmadmlnfpcaaGreatDoorS05
import Derived.Orders
set_option linter.unusedVariables false
set_option linter.unusedSimpArgs false
set_option linter.unnecessarySimpa false
set_option maxRecDepth 100000
set_option maxHeartbeats 0
namespace Go.AM
section
variable {P:Program}
def LO.jA(lo:LO)(e:List CV):Option Bool:=
 match lo.guard with
 |none=>some true
 |some (s,jA)=>match jQ e s with
  | .undef=>some false
  | .rv (.one (.aa (.val (.bool t))))=>some (t==jA)
  |_=>none
theorem gi{lo:LO}{e:List CV}{m:Mem}{K:List CV->CV->Mem->Prop}:
  nl P lo e m K↔(lo.jA e=some true/\step P lo.AN e m (K e))\/(lo.jA e=some false/\K e .undef m):=by
 unfold nl LO.jA;cases hg:lo.guard with
 |none=>simp[eW]
 |some p=>
  obtain⟨s,jA⟩:=p;simp only;generalize ew:jQ e s=c;split
  .simp
  .rename_i t;have h1:∀b,t=b->bb e s (ax b)=e:=fun b hb=>by subst hb;exact zn ew
   rw[cE];cases t
   .simp only[eW,h1 false rfl];cases jA<;>simp
   .simp only[eW,h1 true rfl];cases jA<;>simp
  .rename_i n1 n2;have:∀b,¬(match c with
     |CV.undef=>some false
     |CV.rv (RV.one (CC.aa (Dt.val (Value.bool t))))=>some (t==jA)
     |x=>none)=some b:=by
    intro b hb;split at hb
    .exact n1 rfl
    .exact n2 _ rfl
    .cases hb
   constructor
   .exact fun h=>h.elim
   .rintro(⟨h,_⟩|⟨h,_⟩)<;>exact this _ h
def xk(d:Option Nat)(v:CV)(e:List CV):List CV:=
 match d with
 |none=>e
 |some d=>e.set d v
theorem qW{d:Option Nat}{v:CV}{e:List CV}{K:List CV->Prop}:put d v e K↔K (xk d v e):=by
 rw[KG];cases d<;>rfl
variable {N:Nat} {ρ0:bQ} {m0:Mem} {w0:World}
theorem Inv.drew{st:St}{ρ:bQ}{a:Act}{w:World}(h:Inv N ρ0 m0 w0 st ρ a w):Inv N ρ0 m0 w0 st ρ a {w with drawn:=w.drawn+1}:=by
 obtain⟨x,M,E,d,hN,n⟩:=h;have g:iD ρ w ρ {w with drawn:=w.drawn+1}:=⟨SS _,fun _ _=>rfl,fun _ h=>h,fun _ _=>rfl⟩
 have e:Ext ρ st.mem w ρ st.mem {w with drawn:=w.drawn+1}:=⟨SS _,fun _ _=>rfl,fun _ h=>h,fun _ h=>.inl h,fun k h=>.inr ⟨k,h,rfl⟩,fun _ _ _=>rfl,SS _,rfl,rfl,rfl⟩
 have hc:∀{mk:Prop}b cur,lS mk w b cur->lS mk {w with drawn:=w.drawn+1} b cur:=fun{mk}b cur hc=>hc.dn rfl
 refine⟨x.trans e,?_,?_,d,hN,n⟩
 .refine⟨M.n,M.S,M.aQ,M.inj,fun id b hb=>?_,fun id i j esz el ho bq=>?_⟩
  .have h1:=M.bk id b hb;cases b with
   |aW=>trivial
   |var cs=>
    obtain⟨cur,cj,h2⟩:=h1;exact⟨cur,hc _ _ cj,fun j c hj=>let⟨u,hu,hd⟩:=h2 j c hj;⟨u,hu,bC.cQ g aG hd⟩⟩
   |row esz elems=>
    obtain⟨h2,h3,h4,h5,h6⟩:=h1;refine⟨h2,h3,h4,h5,fun hp=>?_⟩
    obtain⟨cur,cj,h7,h8⟩:=h6 hp;exact⟨cur,hc _ _ cj,h7,fun i cs j c hi hj=>let⟨u,hu,hd⟩:=h8 i cs j c hi hj;⟨u,hu,bC.cQ g (by intro jH i' j' e';cases e';rw[M.n];exact(Mh.1 hb).1) hd⟩⟩
   |mp es=>
    obtain⟨c6,ck,h2,h3,h4⟩:=h1;exact⟨c6,ck,h2,h3,fun i e he=>let⟨e',tm,hk,hd⟩:=h4 i e he;⟨e',tm,hk,dP.cQ g hd⟩⟩
   |it cur left=>exact h1
  .obtain⟨cur,cj,h2,h3,h4⟩:=M.gO id i j esz el ho bq;exact⟨cur,hc _ _ cj,h2,h3,fun i cs j d hi hj=>let⟨u,hu,hd⟩:=h4 i cs j d hi hj;⟨u,hu,dv.mono (S:=ρ.S) (S':=ρ.S) (w:=w) (w':={w with drawn:=w.drawn+1}) (fun _ h=>h) (fun _ _=>rfl) hd⟩⟩
 .exact⟨E.size,fun i c hi=>let⟨v,hv,hd⟩:=E.k9 i c hi;⟨v,hv,cm.cQ g hd⟩⟩
theorem x6{ops:Array Oper}{k:Nat}{o:Oper}{lo:LO}{a8:List CV}{m:Mem}{ρ:bQ}{a:Act}{w:World}{K:CV->Mem->Prop}{K1:Act->World->Prop}{Q:Exit->Act->World->Prop}(ho:ops[k]? =some o)(ic:uV P ops o=some lo)(hI:Inv N ρ0 m0 w0 ⟨a8,m⟩ ρ a w)(h:nl P lo a8 m fun _ v m'=>K v m')(hn:∀v m' ρ' a' w',K v m'->Inv N ρ0 m0 w0 ⟨xk lo.dst v a8,m'⟩ ρ' a' w'->K1 a' w'):wpOp P ops Q k K1 a w:=by
 simp only[uV,SR,Q6]at ic;obtain⟨i,hi,g,hg,ic⟩:=ic;cases ic;unfold wpOp;rw[ho];simp only;have QA:∀b,LO.jA ⟨o.dst,i,g⟩ a8=some b->Region.wanted o (yielded ops a.tmps)=b:=by
  intro b hb;unfold LO.jA at hb;cases KJ:o.guard with
  |none=>
   rw[KJ]at hg;simp[Kg]at hg;subst hg;simp at hb;subst hb;simp[Region.wanted,KJ]
  |some jb=>
   obtain⟨j,jA⟩:=jb;rw[KJ]at hg;simp only[Kg,SR,Q6]at hg;obtain⟨oj,RU,s,hs,hg⟩:=hg;cases hg;have hy:yielded ops a.tmps j=match a.tmps[s]? with|some (.bool b)=>some b|_=>none:=by simp[yielded,RU,hs];rfl
   simp only at hb;split at hb
   .rename_i ew;have cw:=hI.a8.get s;rw[ew]at cw;have hu:a.tmps[s]? =some Go.undef\/a.tmps[s]? =none:=by
     simp only[cm,abP]at cw;cases ht:a.tmps[s]? with
     |none=>exact .inr rfl
     |some v=>rw[ht]at cw;simp at cw;exact .inl (by rw[cw])
    cases hb;simp only[Region.wanted,KJ,hy];rcases hu with hu|hu<;>rw[hu]<;>rfl
   .rename_i t ew;have cw:=hI.a8.get s;rw[ew]at cw;have ht:a.tmps[s]? =some (.bool t):=by
     have:=(bS cw).1;rw[abP]at this;cases ht:a.tmps[s]? with
     |none=>rw[ht]at this;cases this
     |some v=>rw[ht]at this;simp at this;rw[this]
    simp at hb;simp[Region.wanted,KJ,hy,ht,hb]
   .cases hb
 rcases gi.1 h with⟨hw,hs⟩|⟨hw,hs⟩
 .rw[if_pos (QA _ hw)];refine .inl (Bp (K:=fun e' m'=>∃v,e'=xk o.dst v a8/\K v m') hi hI (x5 hs fun v m' hk=>qW.2 ⟨v,rfl,hk⟩) fun fy m' ρ' a' w'⟨v,he,hk⟩pf=>?_)
  subst he;exact hn v m' ρ' a' w' hk pf
 .rw[if_neg (by simp[QA _ hw])]
  obtain⟨fy,JS,pf⟩:=hI.step (d:=o.dst) (c:= .undef) (v:=Go.undef) (K:=fun e=>e=xk o.dst .undef a8) hI.mem rfl (Ext.refl _ _ _) (qW.2 rfl)
  subst JS;exact hn _ _ _ _ _ hs pf
theorem tI{lo:LO}{e e':List CV}{m:Mem}{K:CV->Mem->Prop}(hx:∀t,t∈lo.looks->jQ e t=jQ e' t)(h:nl P lo e m fun _ v m'=>K v m'):
  nl P lo e' m fun _ v m'=>K v m':=by
 rw[gi]at h⊢;have hs:∀t,t∈lq lo.AN.xs->jQ e t=jQ e' t:=fun t ht=>hx t (by unfold LO.looks;split<;>simp[ht])
 have hw:lo.jA e=lo.jA e':=by
  unfold LO.jA;cases hg:lo.guard with
  |none=>rfl
  |some p=>simp only[hx p.1 (by unfold LO.looks;rw[hg];simp)]
 have uD:∀(xs:List X)(x:X),x∈xs->∀n,x= .t n->n∈lq xs:=by
  intro xs
  induction xs with
  |nil=>intro x hx;cases hx
  |cons y r ih=>
   intro x hx n hn;subst hn;cases y with
   |t k=>
    simp only[lq,abo];rcases abo.1 hx with h|h
    .cases h;exact .inl rfl
    .exact .inr (ih _ h n rfl)
   |c v=>
    simp only[lq];rcases abo.1 hx with h|h
    .cases h
    .exact ih _ h n rfl
 have Qt:∀x,x∈lo.AN.xs->x.ev e=x.ev e':=fun x hx=>by
  cases x with
  |t n=>exact hs n (uD _ _ hx n rfl)
  |c v=>rfl
 rw[<-hw];rcases h with⟨h1,h2⟩|h
 .exact .inl ⟨h1,DU Qt h2⟩
 .exact .inr h
def QV(P:Program)(lo:LO)(e:List CV)(m:Mem)(v:CV):Prop:=nl P lo e m fun _ v' m'=>v'=v/\m'=m
theorem tJ{lo:LO}(hq:rU lo.AN=true){e:List CV}{m:Mem}{K:List CV->CV->Mem->Prop}(h:nl P lo e m K):∃v,K e v m/\QV P lo e m v:=by
 rcases gi.1 h with⟨h1,h2⟩|⟨h1,h2⟩
 .obtain⟨v,hv,fN⟩:=DT hq h2;exact⟨v,hv,gi.2 (.inl ⟨h1,fN _ ⟨rfl,rfl⟩⟩)⟩
 .exact⟨_,h2,gi.2 (.inr ⟨h1,rfl,rfl⟩)⟩
theorem QV.pure{lo:LO}(hq:xK lo.AN=true){e:List CV}{m:Mem}{v:CV}(h:QV P lo e m v)(m':Mem):QV P lo e m' v:=by
 rcases gi.1 h with⟨h1,h2⟩|⟨h1,h2⟩
 .obtain⟨v',hv,fN⟩:=HZ hq h2;exact gi.2 (.inl ⟨h1,fN m' _ ⟨hv.1,rfl⟩⟩)
 .exact gi.2 (.inr ⟨h1,h2.1,rfl⟩)
end
section
variable {P:Program}
def Edge(gB:List (List Nat))(i j:Nat):Prop:=∃l,gB[i]? =some l/\j∈l
def RW(gB:List (List Nat))(L:Nat->Prop):Prop:=∀i j,Edge gB i j->L i->L j
def RX(gB:List (List Nat))(i j:Nat):Prop:=∀L,RW gB L->(∀k,Edge gB i k->L k)->L j
theorem qX{eB:List Nat}{t:Nat}:∀{l:List Nat},Nat.testBit (y4 eB l) t=true->
  ∃j,j∈l/\(t=j\/Nat.testBit ((dd eB j).getD 0) t=true)
 | [],h=>by simp[y4]at h
 |j::r,h=>by
  simp only[y4,List.foldr_cons]at h;have h1:∀a b:Nat,Nat.testBit (Nat.lor a b) t=(Nat.testBit a t||Nat.testBit b t):=fun a b=>Nat.testBit_or a b t
  rw[h1,h1]at h;simp only[abZ]at h;rcases h with h|h|h
  .obtain⟨k,hk,hr⟩:=qX (l:=r) h;exact⟨k,by simp[hk],hr⟩
  .refine⟨j,aG,.inl ?_⟩;have:Nat.shiftLeft 1 j=2^j:=by show 1<<<j=2^j;rw[Nat.shiftLeft_eq];simp
   rw[this,Nat.testBit_two_pow]at h;simpa using(of_decide_eq_true h).symm
  .exact⟨j,aG,.inr h⟩
def KL(gB:List (List Nat))(eB:List Nat):Prop:=∀(i j:Nat),Nat.testBit ((dd eB i).getD 0) j=true->RX gB i j
theorem Bq{gB:List (List Nat)}{eB:List Nat}(h:KL gB eB):KL gB (Dn gB eB):=by
 intro i j hb;rw[aZ,Dn,Q8]at hb;cases hl:gB[i]? with
 |none=>rw[hl]at hb;simp at hb
 |some l=>
  rw[hl]at hb;simp only[aaG,abI]at hb;obtain⟨k,hk,hr⟩:=qX hb;have he:Edge gB i k:=⟨l,hl,hk⟩;rcases hr with rfl|hr
  .exact fun L _ hL=>hL _ he
  .exact fun L hd hL=>h k j hr L hd fun k' gK=>hd _ _ gK (hL _ he)
theorem tK{gB:List (List Nat)}:∀(k:Nat){eB:List Nat},KL gB eB->KL gB (y5 gB k eB)
 |0,_,h=>h
 |k+1,eB,h=>by
  simp only[y5];split
  .exact h
  .exact tK k (Bq h)
theorem H0{n:Nat}{gB:List (List Nat)}:KL gB (bg n gB):=tK n fun i j hb=>by simp[dd]at hb
theorem vn{gB:List (List Nat)}{n:Nat}{L:Nat->Prop}(jc:∀i,i<n->¬L i->∃j,Edge gB i j/\¬L j):
  ∀(l bf:List Nat),xL gB n bf l=true->(∀i,i∈bf->L i)->∀i,i<n->L i
 | [],bf,h,hb,i,hi=>by
  simp only[xL,abH]at h;exact hb i (by simpa using h i (by simpa using hi))
 |x::r,bf,h,hb,i,hi=>by
  simp only[xL,ZM,abH]at h;refine vn jc r (x::bf) h.2 (fun k hk=>?_) i hi
  rcases abo.1 hk with e|hk
  .rw[e];by_cases h1:L x
   .exact h1
   .obtain⟨j,⟨l,hl,hj⟩,hnj⟩:=jc x (by have:=h.1.1;rwa [abU]at this) h1
    refine absurd (hb j ?_) hnj;have:=h.1.2 j (by rw[aZ,hl];exact hj)
    simpa using this
  .exact hb k hk
variable {b7:List LO} {ms:List Nat} {n:Nat} {e0:List CV} {gB:List (List Nat)}
structure lG(b7:List LO)(e0:List CV)(S:Nat->Prop)(val:Nat->CV)(e:List CV):Prop where
 len:e.length=e0.length
 on:∀t k,S k->dj b7 t k=true->t<e0.length->e[t]? =some (val k)
 off:∀t,(∀k,S k->dj b7 t k=false)->e[t]? =e0[t]?
theorem kJ{t k:Nat}:dj b7 t k=true↔∃lo,dd b7 k=some lo/\lo.dst=some t:=by
 unfold dj;cases dd b7 k with
 |none=>simp
 |some lo=>
  cases hd:lo.dst with
  |none=>simp[hd]
  |some d=>simp[hd]
theorem lG.step{S:Nat->Prop}{val:Nat->CV}{e:List CV}(h:lG b7 e0 S val e){i:Nat}{lo:LO}(hi:dd b7 i=some lo)(hu:∀t k,S k->lo.dst=some t->dj b7 t k=false){v:CV}{iT:Nat->CV}(hv:iT i=v)(jl:∀k,S k->iT k=val k){S':Nat->Prop}(hS:∀k,S' k↔S k\/k=i):lG b7 e0 S' iT (xk lo.dst v e):=by
 have hw:∀t,dj b7 t i=true↔lo.dst=some t:=fun t=>by rw[kJ];simp[hi]
 refine⟨?_,fun t k hk AR aB=>?_,fun t fN=>?_⟩
 .unfold xk;split<;>simp[h.len]
 .rcases(hS k).1 hk with hk|rfl
  .have fc:lo.dst≠some t:=fun hd=>by rw[hu t k hk hd]at AR;cases AR
   rw[jl k hk,<-h.on t k hk AR aB];unfold xk;cases hd:lo.dst with
   |none=>rfl
   |some d=>
    simp only;rw[ZZ];rintro rfl;exact fc hd
  .have hd:=(hw t).1 AR;rw[hd,hv];simp only[xk];rw[Wl (by rw[h.len];exact aB)]
 .have fc:lo.dst≠some t:=fun hd=>by have:=fN i ((hS i).2 (.inr rfl));rw[(hw t).2 hd]at this;cases this
  rw[<-h.off t fun k hk=>fN k ((hS k).2 (.inl hk))]
  unfold xk;cases hd:lo.dst with
  |none=>rfl
  |some d=>
   simp only;rw[ZZ];rintro rfl;exact fc hd
theorem lG.U7{S S':Nat->Prop}{val iT:Nat->CV}{e:List CV}(h:lG b7 e0 S val e)(jl:∀k,S k->iT k=val k)(hS:∀k,S' k↔S k):lG b7 e0 S' iT e:=
 ⟨h.len,fun t k hk hw hl=>by rw[jl k ((hS k).1 hk)];exact h.on t k ((hS k).1 hk) hw hl,fun t fN=>h.off t fun k hk=>fN k ((hS k).2 hk)⟩
theorem lG.ext{S:Nat->Prop}{val:Nat->CV}{e e':List CV}(h:lG b7 e0 S val e)(h':lG b7 e0 S val e'):e=e':=by
 refine abF fun t=>?_
 by_cases hex:∃k,S k/\dj b7 t k=true
 .obtain⟨k,hk,hw⟩:=hex;rcases ZX t e0.length with aB|ew
  .rw[h.on t k hk hw aB,h'.on t k hk hw aB]
  .rw[abg (by rw[h.len];exact ew),abg (by rw[h'.len];exact ew)]
 .have:∀k,S k->dj b7 t k=false:=fun k hk=>by
   cases hw:dj b7 t k with
   |false=>rfl
   |true=>exact absurd ⟨k,hk,hw⟩ hex
  rw[h.off t this,h'.off t this]
def Agree(b7:List LO)(ms:List Nat)(e0:List CV)(bf:List Nat)(val:Nat->CV)(j:Nat)(e1:List CV):Prop:=
 e1.length=e0.length/\∀t,t∈nS b7 j->t<e0.length->
  (∃k,k∈bf/\dj b7 t k=true/\mN ms j k=true/\e1[t]? =some (val k))\/
  ((∀k,k∈bf->dj b7 t k=true->k=j\/mN ms k j=true)/\e1[t]? =e0[t]?)
theorem Agree.Xz{bf:List Nat}{val:Nat->CV}{j:Nat}{e1 a8:List CV}{L:Nat->Prop}(h:Agree b7 ms e0 bf val j e1)(hE:lG b7 e0 L val a8)(AS:∀i j,mN ms i j=true->RX gB i j)(hd:RW gB L)(r8:∀i,L i->i∈bf)(hj:¬L j)(hr:∀k,Edge gB j k->L k):
  ∀t,t∈nS b7 j->jQ e1 t=jQ a8 t:=by
 intro t ht;rw[lv,lv];rcases ZX t e0.length with aB|ew
 .rcases h.2 t ht aB with⟨k,hk,hw,hm,he⟩|⟨fN,he⟩
  .rw[he,hE.on t k (AS _ _ hm L hd hr) hw aB]
  .rw[he,hE.off t fun k hk=>?_]
   cases hw:dj b7 t k with
   |false=>rfl
   |true=>
    rcases fN k (r8 k hk) hw with rfl|hm
    .exact absurd hk hj
    .exact absurd (AS _ _ hm L hd fun k' gK=>hd _ _ gK hk) hj
 .rw[abg (by rw[h.1];exact ew),abg (by rw[hE.len];exact ew)]
structure DS(P:Program)(b7:List LO)(ms:List Nat)(n:Nat)(gB:List (List Nat))(e0:List CV)(K:List CV->Mem->Prop)(L:Nat->Prop)(bf:List Nat)(c:Bool)(R:nj)(val:Nat->CV)(dZ:List (Nat×LO×List CV×CV))(e a8:List CV)(m:Mem):Prop where
 go:dS b7 ms n c bf R=true
 U8:t8 P b7 R dZ K e m
 qY:lG b7 e0 (·∈bf) val e
 xm:lG b7 e0 L val a8
 sub:∀i,L i->i∈bf
 down:RW gB L
 zo:∀t j k,j∈bf->k∈bf->dj b7 t j=true->dj b7 t k=true->j=k
 si:∀j,j∈bf->¬L j->∃lo e1,dd b7 j=some lo/\rU lo.AN=true/\uX j dZ=some (lo,e1,val j)/\QV P lo e1 m (val j)/\Agree b7 ms e0 bf val j e1
theorem iU{bf:List Nat}{i:Nat}(h:FZ b7 ms n bf i=true):i<n/\i∉bf/\
  (∀t,t∈nS b7 i->∀j,j∈bf->dj b7 t j=true->mN ms i j=true)/\
  (∀t,Hx b7 i=some t->∀j,j∈bf->dj b7 t j=false/\(t∈nS b7 j->mN ms i j=true)):=by
 simp only[FZ,ZM]at h;obtain⟨⟨⟨h1,h2⟩,h4⟩,h5⟩:=h;refine⟨by rwa [abU]at h1,by simpa using h2,?_,?_⟩
 .intro t ht j hj hw;have:=abH.1 (abH.1 h4 t ht) j hj;simpa[hw]using this
 .intro t ht j hj;rw[ht]at h5;have:=abH.1 h5 j hj;simp only[ZM,abX,abZ]at this;refine⟨this.1,fun hl=>?_⟩
  rcases this.2 with h|h
  .simp[hl]at h
  .exact h
theorem x7{bf hd:List Nat}(h:Rw ms n bf hd=true){i:Nat}(hi:i<n)(hb:i∉bf):i∈hd\/∃f,f∈hd/\mN ms i f=true:=by
 have:=abH.1 h i (by simpa using hi)
 simp only[abZ,abt]at this;rcases this with h|h|⟨f,h1,h2⟩
 .exact absurd (by simpa using h) hb
 .exact .inl (by simpa using h)
 .exact .inr ⟨f,h1,h2⟩
theorem kK:∀{R:nj}{bf:List Nat},dS b7 ms n false bf R=true->(∃f,f∈R.hd)/\∀f,f∈R.hd->f<n/\f∉bf
 | .nil,bf,h=>by simp[dS]at h
 | .cons i none r,bf,h=>by simp[dS]at h
 | .cons i (some l) r,bf,h=>by
  simp only[dS,ZM]at h;obtain⟨h1,h2,_⟩:=iU h.2.1;exact⟨⟨i,by simp[nj.hd]⟩,fun f hf=>by simp[nj.hd]at hf;subst hf;exact⟨h1,h2⟩⟩
 | .xJ x y,bf,h=>by
  simp only[dS,ZM]at h;obtain⟨⟨f,hf⟩,hx⟩:=kK h.2.1;obtain⟨_,hy⟩:=kK h.2.2;exact⟨⟨f,by simp[nj.hd,hf]⟩,fun f hf=>by simp only[nj.hd,abL]at hf;exact hf.elim (hx f) (hy f)⟩
theorem DS.ahead{K:List CV->Mem->Prop}{L:Nat->Prop}{bf:List Nat}{c:Bool}{q:Nat}{R:nj}{val:Nat->CV}{dZ:List (Nat×LO×List CV×CV)}{e a8:List CV}{m:Mem}(h:DS P b7 ms n gB e0 K L bf c (.cons q none R) val dZ e a8 m):∃iT q0 e',DS P b7 ms n gB e0 K L (q::bf) true R iT q0 e' a8 m:=by
 have pg:=h.go;simp only[dS,ZM]at pg;obtain⟨_,Br,g6,g8⟩:=pg;obtain⟨g1,g2,g4,g5⟩:=iU Br;have hc:=h.U8;simp only[xN,F5]at hc;obtain⟨lo,ic,hc⟩:=bh.1 hc;have hq:rU lo.AN=true:=by simpa[lu,ic]using g6
 obtain⟨v,hc,hqv⟩:=tJ hq hc;have hc:=qW.1 hc;have KM:Hx b7 q=lo.dst:=by simp[Hx,ic]
 let iT:Nat->CV:=fun k=>if k=q then v else val k
 have jl:∀k,k∈bf->iT k=val k:=fun k hk=>if_neg fun(e:k=q)=>g2 (e▸hk)
 have AR:∀t k,k∈bf->lo.dst=some t->dj b7 t k=false:=fun t k hk hd=>(g5 t (by rw[KM];exact hd) k hk).1
 have RY:∀t,dj b7 t q=true->lo.dst=some t:=fun t hw=>by obtain⟨DK,h1,h2⟩:=kJ.1 hw;rw[ic]at h1;cases h1;exact h2
 refine⟨iT,_,_,g8,hc,h.qY.step ic AR (by simp[iT]) jl (by simp[or_comm]),h.xm.U7 (fun k hk=>jl k (h.sub k hk)) (fun _=>Iff.rfl),fun i hi=>by simp[h.sub i hi],h.down,?_,?_⟩
 .intro t j k hj hk KN Gh;rcases abo.1 hj with e1|AP<;>rcases abo.1 hk with e2|jI
  .rw[e1,e2]
  .rw[e1]at KN;rw[AR t k jI (RY t KN)]at Gh;cases Gh
  .rw[e2]at Gh;rw[AR t j AP (RY t Gh)]at KN;cases KN
  .exact h.zo t j k AP jI KN Gh
 .intro j hj hL;rcases abo.1 hj with rfl|hj
  .refine⟨lo,e,ic,hq,by simp[uX,iT],by simpa[iT]using hqv,h.qY.len,fun t ht aB=>?_⟩
   by_cases hex:∃k,k∈bf/\dj b7 t k=true
   .obtain⟨k,hk,hw⟩:=hex;exact .inl ⟨k,by simp[hk],hw,g4 t ht k hk hw,by rw[jl k hk];exact h.qY.on t k hk hw aB⟩
   .refine .inr ⟨fun k hk hw=>?_,h.qY.off t fun k hk=>?_⟩
    .rcases abo.1 hk with rfl|hk
     .exact .inl rfl
     .exact absurd ⟨k,hk,hw⟩ hex
    .cases hw:dj b7 t k with
     |false=>rfl
     |true=>exact absurd ⟨k,hk,hw⟩ hex
  .obtain⟨DK,e1,h1,h2,h3,h4,h5,h6⟩:=h.si j hj hL;have fc:q≠j:=fun e=>g2 (e▸hj)
   refine⟨DK,e1,h1,h2,?_,by rw[jl j hj];exact h4,h5,fun t ht aB=>?_⟩
   .have:Nat.beq q j=false:=by
     cases hb:Nat.beq q j with
     |false=>rfl
     |true=>exact absurd (Z2 hb) fc
    simp only[uX,this];rw[h3,jl j hj]
   .rcases h6 t ht aB with⟨k,hk,hw,hm,he⟩|⟨fN,he⟩
    .exact .inl ⟨k,by simp[hk],hw,hm,by rw[jl k hk];exact he⟩
    .refine .inr ⟨fun k hk hw=>?_,he⟩
     rcases abo.1 hk with e2|jI
     .rw[e2]at hw⊢;exact .inr ((g5 t (by rw[KM];exact RY t hw) j hj).2 ht)
     .exact fN k jI hw
end
section
variable {P:Program}
variable {N:Nat} {ρ0:bQ} {m0:Mem} {w0:World}
variable {b7:List LO} {ms:List Nat} {n:Nat} {e0:List CV} {gB:List (List Nat)}
theorem x8{ops:Array Oper}:∀{l:List Oper}{b7:List LO},me P ops l=some b7->l.length=b7.length/\∀(i:Nat)o,l[i]? =some o->∃lo,dd b7 i=some lo/\uV P ops o=some lo
 | [],b7,h=>by simp[me]at h;subst h;simp
 |o::r,b7,h=>by
  obtain⟨lo,lr,rfl,h1,h2⟩:=sf h o r rfl;obtain⟨h3,h4⟩:=x8 h2;refine⟨by simp[h3],fun i o' hi=>?_⟩
  cases i with
  |zero=>simp at hi;subst hi;exact⟨lo,rfl,h1⟩
  |succ i=>simpa[dd]using h4 i o' (by simpa using hi)
theorem Bs{m:Mem}{dZ:List (Nat×LO×List CV×CV)}{j:Nat}:∀{l:List Nat},Uw P m dZ l->j∈l->ok (uX j dZ) fun x=>nl P x.1 x.2.1 m fun _ v _=>v=x.2.2
 | [],_,h=>by cases h
 |k::r,hc,h=>by
  simp only[Ki]at hc;rcases abo.1 h with e|h
  .rw[e];exact hc.1
  .exact Bs hc.2 h
theorem DS.U9{K:List CV->Mem->Prop}{L:Nat->Prop}{bf:List Nat}{c:Bool}{R:nj}{val:Nat->CV}{dZ:List (Nat×LO×List CV×CV)}{e a8:List CV}{m:Mem}(h:DS P b7 ms n gB e0 K L bf c R val dZ e a8 m){i:Nat}(hi:i∈bf)(hL:¬L i){lo:LO}(ic:dd b7 i=some lo):∀t k,L k->lo.dst=some t->dj b7 t k=false:=by
 intro t k hk hd;cases hw:dj b7 t k with
 |false=>rfl
 |true=>
  have:=h.zo t i k hi (h.sub k hk) (kJ.2 ⟨lo,ic,hd⟩) hw;exact absurd (this▸hk) hL
theorem DS.Gi{K:List CV->Mem->Prop}{L L':Nat->Prop}{bf:List Nat}{c:Bool}{R:nj}{val:Nat->CV}{dZ:List (Nat×LO×List CV×CV)}{e a8:List CV}{m:Mem}(h:DS P b7 ms n gB e0 K L bf c R val dZ e a8 m)(AS:∀i j,mN ms i j=true->RX gB i j){i:Nat}(hi:i∈bf)(hL:¬L i)(hr:∀k,Edge gB i k->L k)(x9:∀k,L' k↔L k\/k=i){ops:Array Oper}{o:Oper}{lo:LO}(ho:ops[i]? =some o)(ic:dd b7 i=some lo)(jU:uV P ops o=some lo){ρ:bQ}{a:Act}{w:World}(hI:Inv N ρ0 m0 w0 ⟨a8,m⟩ ρ a w){K1:Act->World->Prop}{Q:Exit->Act->World->Prop}(hn:∀fy ρ' a' w',Inv N ρ0 m0 w0 ⟨fy,m⟩ ρ' a' w'->DS P b7 ms n gB e0 K L' bf c R val dZ e fy m->K1 a' w'):wpOp P ops Q i K1 a w:=by
 obtain⟨DK,e1,h1,h2,h3,h4,h5⟩:=h.si i hi hL;rw[ic]at h1;cases h1;have YK:=h5.Xz h.xm AS h.down h.sub hL hr;have hv:=tI (lo:=lo) (K:=fun v' m'=>v'=val i/\m'=m) (fun t ht=>YK t (by simpa[nS,ic]using ht)) h4
 refine x6 ho jU hI hv fun v m' ρ' a' w' hk pf=>?_
 obtain⟨rfl,rfl⟩:=hk;refine hn _ ρ' a' w' pf ⟨h.go,h.U8,h.qY,h.xm.step ic (h.U9 hi hL ic) rfl (fun _ _=>rfl) x9,fun j hj=>?_,fun x y KO hx=>?_,h.zo,fun j hj XF=>h.si j hj fun hl=>XF ((x9 j).2 (.inl hl))⟩
 .rcases(x9 j).1 hj with hj|rfl
  .exact h.sub j hj
  .exact hi
 .rcases(x9 x).1 hx with hx|rfl
  .exact(x9 y).2 (.inl (h.down x y KO hx))
  .exact(x9 y).2 (.inl (hr y KO))
theorem DS.RZ{K:List CV->Mem->Prop}{L L':Nat->Prop}{bf:List Nat}{c:Bool}{i:Nat}{l:List Nat}{R:nj}{val:Nat->CV}{dZ:List (Nat×LO×List CV×CV)}{e a8:List CV}{m:Mem}(h:DS P b7 ms n gB e0 K L bf c (.cons i (some l) R) val dZ e a8 m)(AS:∀i j,mN ms i j=true->RX gB i j)(hr:∀k,Edge gB i k->L k)(x9:∀k,L' k↔L k\/k=i){ops:Array Oper}{o:Oper}{lo:LO}(ho:ops[i]? =some o)(ic:dd b7 i=some lo)(jU:uV P ops o=some lo){ρ:bQ}{a:Act}{w:World}(hI:Inv N ρ0 m0 w0 ⟨a8,m⟩ ρ a w){K1:Act->World->Prop}{Q:Exit->Act->World->Prop}(hn:∀iT q0 e' fy m' ρ' a' w',Inv N ρ0 m0 w0 ⟨fy,m'⟩ ρ' a' w'->DS P b7 ms n gB e0 K L' (i::bf) true R iT q0 e' fy m'->K1 a' w'):wpOp P ops Q i K1 a w:=by
 have pg:=h.go;simp only[dS,ZM]at pg;obtain⟨_,Br,g7,g8⟩:=pg;obtain⟨g1,g2,g4,g5⟩:=iU Br;have hc:=h.U8;simp only[xN,F5]at hc;obtain⟨DK,Va,hc⟩:=bh.1 hc;rw[ic]at Va;cases Va;have zp:¬L i:=fun hl=>g2 (h.sub i hl)
 have Vb:∀k,mN ms i k=true->L k:=fun k hm=>AS i k hm L h.down hr
 have vd:nl P lo e m fun _ v m'=>Uw P m' dZ l/\t8 P b7 R dZ K (xk lo.dst v e) m':=by
  rw[gi]at hc⊢;rcases hc with⟨h1,h2⟩|⟨h1,h2⟩
  .exact .inl ⟨h1,x5 h2 fun v m' hk=>qW.1 hk⟩
  .exact .inr ⟨h1,qW.1 h2⟩
 have KM:Hx b7 i=lo.dst:=by simp[Hx,ic]
 have YK:∀t,t∈lo.looks->jQ e t=jQ a8 t:=fun t ht=>by
  rw[lv,lv];rcases ZX t e0.length with aB|ew
  .by_cases hex:∃k,k∈bf/\dj b7 t k=true
   .obtain⟨k,hk,hw⟩:=hex;rw[h.qY.on t k hk hw aB,h.xm.on t k (Vb k (g4 t (by simpa[nS,ic]using ht) k hk hw)) hw aB]
   .have DV:∀k,k∈bf->dj b7 t k=false:=fun k hk=>by
     cases hw:dj b7 t k with
     |false=>rfl
     |true=>exact absurd ⟨k,hk,hw⟩ hex
    rw[h.qY.off t DV,h.xm.off t fun k hk=>DV k (h.sub k hk)]
  .rw[abg (by rw[h.qY.len];exact ew),abg (by rw[h.xm.len];exact ew)]
 have hv:=tI YK vd;have AR:∀t k,k∈bf->lo.dst=some t->dj b7 t k=false:=fun t k hk hd=>(g5 t (by rw[KM];exact hd) k hk).1
 have RY:∀t,dj b7 t i=true->lo.dst=some t:=fun t hw=>by obtain⟨DK,h1,h2⟩:=kJ.1 hw;rw[ic]at h1;cases h1;exact h2
 refine x6 ho jU hI hv fun v m' ρ' a' w' hk pf=>?_
 obtain⟨YL,hd⟩:=hk;let iT:Nat->CV:=fun k=>if k=i then v else val k
 have jl:∀k,k∈bf->iT k=val k:=fun k hk=>if_neg fun(e:k=i)=>g2 (e▸hk)
 refine hn iT dZ _ _ m' ρ' a' w' pf ⟨g8,hd,h.qY.step ic AR (by simp[iT]) jl (by simp[or_comm]),
  h.xm.step ic (fun t k hk hd=>AR t k (h.sub k hk) hd) (by simp[iT]) (fun k hk=>jl k (h.sub k hk)) x9,fun j hj=>?_,fun x y KO hx=>?_,fun t j k hj hk KN Gh=>?_,fun j hj XF=>?_⟩
 .rcases(x9 j).1 hj with hj|rfl
  .simp[h.sub j hj]
  .simp
 .rcases(x9 x).1 hx with hx|rfl
  .exact(x9 y).2 (.inl (h.down x y KO hx))
  .exact(x9 y).2 (.inl (hr y KO))
 .rcases abo.1 hj with e1|AP<;>rcases abo.1 hk with e2|jI
  .rw[e1,e2]
  .rw[e1]at KN;rw[AR t k jI (RY t KN)]at Gh;cases Gh
  .rw[e2]at Gh;rw[AR t j AP (RY t Gh)]at KN;cases KN
  .exact h.zo t j k AP jI KN Gh
 .have T3:¬L j:=fun hl=>XF ((x9 j).2 (.inl hl))
  have hji:j≠i:=fun e=>XF ((x9 j).2 (.inr e))
  have AP:j∈bf:=by
   rcases abo.1 hj with e|h
   .exact absurd e hji
   .exact h
  obtain⟨DK,e1,h1,h2,h3,h4,h5,h6⟩:=h.si j AP T3;refine⟨DK,e1,h1,h2,by rw[jl j AP];exact h3,?_,h5,fun t ht aB=>?_⟩
  .rw[jl j AP];have g7j:=abH.1 g7 j AP;have R0:lu b7 j=true:=by simpa[lu,h1]using h2
   simp only[R0,adb,ab2,abZ,List.contains_iff_mem]at g7j;rcases g7j with hm|hp|hl
   .exact absurd (Vb j hm) T3
   .exact h4.pure (by simpa[Dp,h1]using hp) m'
   .have:=Bs YL hl;rw[h3]at this;obtain⟨_,hx,XG⟩:=bh.1 this;cases hx;obtain⟨v',hv',hq⟩:=tJ h2 XG;simp only at hv';rw[<-hv'];exact hq
  .rcases h6 t ht aB with⟨k,hk,hw,hm,he⟩|⟨fN,he⟩
   .exact .inl ⟨k,by simp[hk],hw,hm,by rw[jl k hk];exact he⟩
   .refine .inr ⟨fun k hk hw=>?_,he⟩
    rcases abo.1 hk with e2|jI
    .rw[e2]at hw⊢;exact .inr ((g5 t (by rw[KM];exact RY t hw) j AP).2 ht)
    .exact fN k jI hw
theorem DS.any{K:List CV->Mem->Prop}{L L':Nat->Prop}(AS:∀i j,mN ms i j=true->RX gB i j){i:Nat}(gL:i<n)(hL:¬L i)(hr:∀k,Edge gB i k->L k)(x9:∀k,L' k↔L k\/k=i){ops:Array Oper}{o:Oper}{lo:LO}(ho:ops[i]? =some o)(ic:dd b7 i=some lo)(jU:uV P ops o=some lo){a8:List CV}{m:Mem}{ρ:bQ}{a:Act}{w:World}(hI:Inv N ρ0 m0 w0 ⟨a8,m⟩ ρ a w){K1:Act->World->Prop}{Q:Exit->Act->World->Prop}(hn:∀bf R iT q0 e' fy m' ρ' a' w',Inv N ρ0 m0 w0 ⟨fy,m'⟩ ρ' a' w'->DS P b7 ms n gB e0 K L' bf true R iT q0 e' fy m'->K1 a' w'):
  ∀(R:nj)(bf:List Nat)(c:Bool)(val:Nat->CV)(dZ:List (Nat×LO×List CV×CV))(e:List CV),(c=false->i∈R.hd)->DS P b7 ms n gB e0 K L bf c R val dZ e a8 m->wpOp P ops Q i K1 a w:=by
 intro R
 induction R with
 |nil=>
  intro bf c val dZ e hc h;cases c with
  |false=>have:=hc rfl;simp[nj.hd]at this
  |true=>
   have pg:=h.go;simp only[dS,acm,abH]at pg;have hi:i∈bf:=by simpa using pg i (by simpa using gL)
   exact h.Gi AS hi hL hr x9 ho ic jU hI fun fy ρ' a' w'=>hn _ _ _ _ _ fy m ρ' a' w'
 |cons q Ka R ih=>
  intro bf c val dZ e hc h;cases Ka with
  |none=>
   have hct:c=true:=by have pg:=h.go;simp only[dS,ZM]at pg;exact pg.1
   subst hct;by_cases hi:i∈bf
   .exact h.Gi AS hi hL hr x9 ho ic jU hI fun fy ρ' a' w'=>hn _ _ _ _ _ fy m ρ' a' w'
   .obtain⟨iT,q0,e',h'⟩:=h.ahead;exact ih _ _ _ _ _ (fun h=>by cases h) h'
  |some l=>
   have pg:=h.go;simp only[dS,ZM]at pg;obtain⟨KP,Br,_⟩:=pg;obtain⟨_,g2,_⟩:=iU Br;by_cases hi:i∈bf
   .cases c with
    |false=>
     have hq:=hc rfl;simp only[nj.hd,aca]at hq;subst hq;exact absurd hi g2
    |true=>exact h.Gi AS hi hL hr x9 ho ic jU hI fun fy ρ' a' w'=>hn _ _ _ _ _ fy m ρ' a' w'
   .have xn:q=i:=by
     cases c with
     |false=>
      have hq:=hc rfl;simp only[nj.hd,aca]at hq;exact hq.symm
     |true=>
      simp only[adb,ab2]at KP;rcases x7 KP gL hi with hq|⟨f,hf,hm⟩
      .simpa using Eq.symm (by simpa using hq)
      .simp only[aca]at hf;subst hf;exact absurd (h.sub _ (AS i _ hm L h.down hr)) g2
    subst xn;exact h.RZ AS hr x9 ho ic jU hI fun iT q0 e' fy m' ρ' a' w'=>hn _ _ _ _ _ fy m' ρ' a' w'
 |xJ x y R1 KQ=>
  intro bf c val dZ e hc h;have pg:=h.go;simp only[dS,ZM]at pg;obtain⟨KP,hgx,hgy⟩:=pg;obtain⟨_,hhx⟩:=kK hgx;obtain⟨_,hhy⟩:=kK hgy;have R2:=h.U8;simp only[Kj]at R2;have goX:i∈x.hd->wpOp P ops Q i K1 a w:=fun hi=>R1 bf false val dZ e (fun _=>hi) ⟨hgx,R2.1,h.qY,h.xm,h.sub,h.down,h.zo,h.si⟩
  have goY:i∈y.hd->wpOp P ops Q i K1 a w:=fun hi=>KQ bf false val dZ e (fun _=>hi) ⟨hgy,R2.2,h.qY,h.xm,h.sub,h.down,h.zo,h.si⟩
  cases c with
  |false=>
   have hq:=hc rfl;simp only[nj.hd,abL]at hq;exact hq.elim goX goY
  |true=>
   by_cases hi:i∈bf
   .exact h.Gi AS hi hL hr x9 ho ic jU hI fun fy ρ' a' w'=>hn _ _ _ _ _ fy m ρ' a' w'
   .simp only[adb,ab2]at KP;rcases x7 KP gL hi with hq|⟨f,hf,hm⟩
    .rcases abL.1 hq with hq|hq
     .exact goX hq
     .exact goY hq
    .have hfL:=h.sub _ (AS i f hm L h.down hr);rcases abL.1 hf with hf|hf
     .exact absurd hfL (hhx f hf).2
     .exact absurd hfL (hhy f hf).2
theorem ya:∀(l:List Bool)(i:Nat),l[i]? =some false->(l.set i true).count false+1=l.count false
 | [],i,h=>by simp at h
 |b::r,0,h=>by simp at h;subst h;simp
 |b::r,i+1,h=>by
  have:=ya r i (by simpa using h)
  cases b<;>simp[List.count_cons]at this⊢<;>omega
theorem Ot{md:Region.Mode}{ops:Array Oper}{Q:Exit->Act->World->Prop}{K:List CV->Mem->Prop}(hQ:∀a8 m ρ a w,K a8 m->Inv N ρ0 m0 w0 ⟨a8,m⟩ ρ a w->Q .normal a w)(AS:∀i j,mN ms i j=true->RX (kG md ops) i j)(YM:∃l,xL (kG md ops) n [] l=true)(zq:∀(i:Nat)o,ops[i]? =some o->∃lo,dd b7 i=some lo/\uV P ops o=some lo)(hn:n=ops.size)(ld:n=b7.length):
  ∀(fuel:Nat) (listed:Array Bool) (a:Act) (w:World) (ρ:bQ) (m:Mem) (a8:List CV) (bf:List Nat) (R:nj) (val:Nat->CV)
   (dZ:List (Nat×LO×List CV×CV)) (e:List CV),listed.size=n->listed.toList.count false=fuel->Inv N ρ0 m0 w0 ⟨a8,m⟩ ρ a w->
   DS P b7 ms n (kG md ops) e0 K (fun i=>listed[i]? =some true) bf true R val dZ e a8 m->wpAny P md ops Q fuel listed a w:=by
 have KR:∀(listed:Array Bool)i,i∈Region.ready md ops listed->listed[i]? =some false/\i<ops.size/\∀k,Edge (kG md ops) i k->listed[k]? =some true:=by
  intro listed i hi;obtain⟨h0,o,ho,fN⟩:=mem_ready.1 hi;refine⟨?_,(aaK.1 ho).1,fun k hk=>?_⟩
  .rw[abP]at h0;cases hg:listed[i]? with
   |none=>rw[hg]at h0;simp at h0
   |some b=>rw[hg]at h0;simp at h0;rw[h0]
  .obtain⟨l,hl,fj⟩:=hk;simp only[kG,Q8,acb,ho,aaG,aag]at hl;subst hl;obtain⟨ed,Vc,rfl⟩:=aaQ.1 fj;obtain⟨YN,YO⟩:=adq.1 Vc;have:=fN ed (by simpa using YN) YO
   rw[abP]at this;cases hg:listed[ed.on]? with
   |none=>rw[hg]at this;simp at this
   |some b=>rw[hg]at this;simp at this;rw[this]
 have R3:∀(i:Nat)o ed,ops[i]? =some o->ed∈o.after->Region.binds md ed=true->Edge (kG md ops) i ed.on:=by
  intro i o ed ho Vc hb;refine⟨(o.after.toList.filter (Region.binds md)).map (·.on),?_,?_⟩
  .simp[kG,Q8,ho]
  .exact aaQ.2 ⟨ed,adq.2 ⟨by simpa using Vc,hb⟩,rfl⟩
 intro fuel
 induction fuel with
 |zero=>
  intro listed a w ρ m a8 bf R val dZ e dN Vd hI h;have fN:∀i,i<n->listed[i]? =some true:=by
   intro i hi;have aB:i<listed.size:=om;rw[abR aB];have jc:=List.count_eq_zero.1 Vd;cases hb:listed[i]with
   |true=>rfl
   |false=>exact absurd (by rw[<-hb];exact Array.getElem_mem_toList aB) jc
  constructor
  .rw[List.eq_nil_iff_forall_not_mem];intro i hi;obtain⟨h1,h2,_⟩:=KR listed i hi;rw[fN i om]at h1;cases h1
  .have hR:R= .nil:=by
    cases R with
    |nil=>rfl
    |cons q Ka R=>
     have pg:=h.go;cases Ka with
     |none=>
      simp only[dS,ZM]at pg;obtain⟨g1,g2,_⟩:=iU pg.2.1;exact absurd (h.sub q (fN q g1)) g2
     |some l=>
      simp only[dS,ZM]at pg;obtain⟨g1,g2,_⟩:=iU pg.2.1;exact absurd (h.sub q (fN q g1)) g2
    |xJ x y=>
     have pg:=h.go;simp only[dS,ZM]at pg;obtain⟨⟨f,hf⟩,hx⟩:=kK pg.2.1;obtain⟨g1,g2⟩:=hx f hf;exact absurd (h.sub f (fN f g1)) g2
   subst hR;have hbf:∀i,i∈bf->i<n\/n<=i:=fun i _=>ZX i n
   have hnw:∀i t,n<=i->dj b7 t i=false:=by
    intro i t hi;cases hw:dj b7 t i with
    |false=>rfl
    |true=>
     obtain⟨lo,ic,_⟩:=kJ.1 hw;rw[aZ]at ic;have:=(Mh.1 ic).1;omega
   have he:e=a8:=by
    have e1:lG b7 e0 (fun i=>i∈bf/\i<n) val e:=⟨h.qY.len,fun t k hk=>h.qY.on t k hk.1,fun t Ve=>h.qY.off t fun k hk=>by
     rcases hbf k hk with aB|ew
     .exact Ve k ⟨hk,aB⟩
     .exact hnw k t ew⟩
    have e2:lG b7 e0 (fun i=>i∈bf/\i<n) val a8:=h.xm.U7 (fun _ _=>rfl) fun k=>⟨fun hk=>fN k hk.2,fun hk=>⟨h.sub k hk,by have:=(aaK.1 hk).1;omega⟩⟩
    exact e1.ext e2
   subst he;exact hQ _ _ ρ a w h.U8 hI
 |succ fuel ih=>
  intro listed a w ρ m a8 bf R val dZ e dN Vd hI h;constructor
  .intro RJ;exfalso;have hex:∃i:Nat,listed[i]? =some false:=by
    have:false∈listed.toList:=by apply List.count_pos_iff.1;omega
    obtain⟨i,hi⟩:=Xf this;exact⟨i,by simpa using hi⟩
   obtain⟨i,hi⟩:=hex;obtain⟨l,hl⟩:=YM;have gL:i<n:=by have:=(aaK.1 hi).1;omega
   have:=vn (L:=fun i=>listed[i]? =some true) (fun i hi C9=>?_) l [] hl (fun _ h=>by cases h) i gL
   .rw[hi]at this;cases this
   .refine aaH fun Vf=>?_
    have aB:i<ops.size:=om;have Bt:i<listed.size:=om;have hf:listed[i]? =some false:=by
     rw[abR Bt]at C9⊢;cases mj:listed[i]with
     |true=>rw[mj]at C9;exact absurd rfl C9
     |false=>rfl
    have hm:i∈Region.ready md ops listed:=by
     rw[mem_ready];refine⟨by rw[abP,hf];rfl,ops[i],abR aB,fun ed Vc hb=>?_⟩
     have hE:=R3 i _ ed (abR aB) Vc hb;have hL:listed[ed.on]? =some true:=aaH fun hc=>Vf ⟨_,hE,hc⟩
     rw[abP,hL];rfl
    rw[RJ]at hm;cases hm
  .intro i hi;obtain⟨h1,h2,h3⟩:=KR listed i hi;obtain⟨lo,ic,jU⟩:=zq i _ (abR h2);have aB:i<listed.size:=om;refine DS.any (L:=fun i=>listed[i]? =some true) (L':=fun k=>(listed.setIfInBounds i true)[k]? =some true) AS om (by rw[h1];simp) h3 (fun k=>?_) (abR h2) ic jU hI
    (fun bf R iT q0 e' fy m' ρ' a' w' pf h'=>ih _ a' w' ρ' m' fy bf R iT q0 e' (by simp[dN]) ?_ pf h') R bf true val dZ e (fun h=>by cases h) h
   .by_cases hk:i=k
    .subst hk;rw[acg aB];simp
    .rw[acr hk];constructor
     .exact .inl
     .rintro(h|h)
      .exact h
      .exact absurd h.symm hk
   .have:=ya listed.toList i (by simpa using h1)
    rw[Array.toList_setIfInBounds];omega
theorem DW{md:Region.Mode}{ops:Array Oper}{Q:Exit->Act->World->Prop}{K:List CV->Mem->Prop}(hQ:∀a8 m ρ a w,K a8 m->Inv N ρ0 m0 w0 ⟨a8,m⟩ ρ a w->Q .normal a w){b7:List LO}(jU:me P ops ops.toList=some b7){sched:nj}(jJ:qF b7 (kG md ops) sched=true){st:St}(h:t8 P b7 sched [] K st.a8 st.mem){ρ:bQ}{a:Act}{w:World}(hI:Inv N ρ0 m0 w0 st ρ a w):wpAny P md ops Q ops.size (Array.replicate ops.size false) a w:=by
 obtain⟨hlen,zq⟩:=x8 jU;simp only[qF,ZM]at jJ;have AS:∀i j,mN (bg b7.length (kG md ops)) i j=true->RX (kG md ops) i j:=H0;have jc:∀i:Nat,¬(Array.replicate ops.size false)[i]? =some true:=by
  intro i hi;rw[Array.getElem?_replicate]at hi;split at hi<;>simp at hi
 refine Ot (n:=b7.length) (e0:=st.a8) hQ AS ⟨_,jJ.1⟩ (fun i o ho=>zq i o (by simpa using ho)) (by simpa using hlen.symm) rfl ops.size _ a w ρ st.mem st.a8 [] sched (fun _=>.undef) [] st.a8
  (by simpa using hlen) aG hI ?_
 exact⟨jJ.2,h,⟨rfl,fun t k hk=>(acp hk).elim,fun _ _=>rfl⟩,⟨rfl,fun t k hk=>absurd hk (jc k),fun _ _=>rfl⟩,fun i hi=>absurd hi (jc i),fun i j _ hi=>absurd hi (jc i),fun t j k hj=>(acp hj).elim,fun j hj=>(acp hj).elim⟩
theorem Bu{b7:List LO}{K:Ex->St->Prop}{s:St}:∀{l:List nj},Oe P b7 K s l->∀x,x∈l->t8 P b7 x [] (HA K) s.a8 s.mem
 | [],_,x,hx=>by cases hx
 | [y],h,x,hx=>by obtain rfl:=aca.1 hx;exact h
 |y::z::r,h,x,hx=>by
  rcases abo.1 hx with rfl|hx
  .exact h.1
  .exact Bu h.2 x hx
theorem zr{ops:Array Oper}{Q:Exit->Act->World->Prop}{K:Ex->St->Prop}(hQ:∀a8 m ρ a w,K .normal ⟨a8,m⟩->Inv N ρ0 m0 w0 ⟨a8,m⟩ ρ a w->Q .normal a w){b7:List LO}(jU:me P ops ops.toList=some b7){pH:List nj}(jJ:uW P b7 ops=some pH){st:St}(h:Oe P b7 K st pH){ρ:bQ}{a:Act}{w:World}(hI:Inv N ρ0 m0 w0 st ρ a w)(t:Nat):wpOps P ops Q (Region.schedule (P.follows .mixedOrders) ops t) a {w with drawn:=w.drawn+1}:=by
 have fN:∀md,md∈uz P ops->∃s,s∈pH/\qF b7 (kG md ops) s=true:=by
  simp only[uW]at jJ;split at jJ
  .rename_i hc;cases jJ;exact fun md T5=>⟨_,aG,abH.1 hc md T5⟩
  .split at jJ
   .rename_i hc;cases jJ;exact fun md T5=>by have:=abH.1 hc md T5;obtain⟨s,hs,QB⟩:=abt.1 this;exact⟨s,hs,QB⟩
   .cases jJ
 have lh:∀md,md∈uz P ops->wpAny P md ops Q ops.size (Array.replicate ops.size false) a {w with drawn:=w.drawn+1}:=fun md T5=>by obtain⟨s,hs,QB⟩:=fN md T5;exact DW (K:=HA K) hQ jU QB (Bu h s hs) hI.drew
 unfold Region.schedule;unfold uz at lh;split
 .rename_i hc;rw[if_pos hc]at lh;exact wpAny_sound ops.size t _ a _ (lh .any aG)
 .rename_i hc;rw[if_neg hc]at lh;split
  .exact wpAny_sound ops.size (t/2) _ a _ (lh .text aG)
  .exact wpAny_sound ops.size (t/2) _ a _ (lh .gc aG)
end
section
variable {P:Program}
def FR(r:Option Nat):Fence:={Fence.wide with round:=r}
theorem Ou:FR none=Fence.wide:=rfl
theorem Gj(l:Nat):FR (some l)=Fence.wide.inRound l:=rfl
theorem Ov{o:Oper}{i:I}(h:rT P o=some i):∀c,o.op≠.defer c:=by
 intro c e;unfold rT at h;have h0:uU P o=none:=by unfold uU;rw[e]
 rw[h0,e]at h;cases h
theorem vo{ops:Array Oper}:∀{l:List Oper}{b7:List LO},me P ops l=some b7->∀o,o∈l->∀c,o.op≠.defer c
 | [],b7,h,o,ho=>by cases ho
 |o1::r,b7,h,o,ho=>by
  obtain⟨lo,lr,rfl,h1,h2⟩:=sf h o1 r rfl;cases ho with
  |head=>
   simp only[uV,SR,Q6]at h1;obtain⟨i,hi,_⟩:=h1;exact Ov hi
  |tail _ ho=>exact vo h2 o ho
theorem iq{r:Option Nat}{ops:Array Oper}{Q:Exit->Act->World->Prop}(qz:∀o,o∈ops.toList->∀c,o.op≠.defer c)(hQ:¬LetsOut Q):
  ∀(l:List Nat)(a:Act)(w:World),wpOps P ops Q l a w->wpOpsIn (FR r) 0 P ops Q l a w
 | [],a,w,h=>h
 |i::rest,a,w,h=>by
  simp only[wpOps]at h;simp only[wpOpsIn];cases ho:ops[i]? with
  |none=>rw[ho]at h;exact iq qz hQ rest a w h
  |some o=>
   rw[ho]at h;simp only at h⊢;have kL:o∈ops.toList:=by have:=aaK.1 ho;obtain⟨h1,h2⟩:=this;rw[<-h2];exact acY.2 (Array.getElem_mem h1)
   split
   .rename_i hw;rw[if_pos hw]at h;rcases h with h|⟨_,h⟩
    .refine⟨fun _ _=>trivial,?_⟩
     have e:o.semAt (FR r).round a.eval=execOp a.eval o:=Oper.semAt_eq _ _ _ (qz o kL);rw[e];unfold Oper.wp at h;have up:∀{kD:Result Next},o.upon P a (wpOps P ops Q rest) Q kD->o.uponIn (FR r) 0 P a (wpOpsIn (FR r) 0 P ops Q rest) Q kD:=by
      intro kD h;unfold Oper.upon at h;split at h
      .exact iq qz hQ rest _ _ h
      .exact iq qz hQ rest _ _ h
      .exact iq qz hQ rest _ _ h
      .refine⟨by simp[FR,Fence.wide],?_⟩
       have h2:=(callsIn_wide (n:=0-1)).2 h;have h3:CallsIn (FR r) (0-1) P _ _ _ _:=h2;refine h3.mono fun e w' hR=>?_
       cases e with
       |returned v=>exact iq qz hQ rest _ _ hR
       |panicked c=>exact hR
       |outgrown=>exact hR
      .refine⟨by simp[FR,Fence.wide],?_⟩
       intro c cs _;obtain⟨v,w',hR,hs⟩:=h c cs;exact⟨v,w',iq qz hQ rest _ _ hR,(stepsIn_wide.2 hs:StepsIn (Machine.fenced P Fence.wide) P _ _)⟩
      .exact h
      .exact h.elim
     exact up h
    .exact absurd h hQ
   .rename_i hw;rw[if_neg hw]at h;exact⟨fun _ _=>trivial,iq qz hQ rest _ _ h⟩
theorem uf{F:Fence}{n:Nat}{γ:Type}{c:Code}{Q:Exit->Act->World->Prop}{a:Act}{w:World}(I:γ->Act->World->Prop)(μ:γ->Nat)(g0:γ)(h₀:I g0 a w)(round:∀g a w,I g a w->c.wpIn F n P (Exit.then (fun a' w'=>∃g',I g' a' w'/\μ g'<μ g) Q) a w):(Code.loop c).wpIn F n P Q a w:=by
 intro b k cs YP hb hr;have key:∀j g a w,μ g=j->I g a w->
   ∃e a' w',Q e a' w'/\ArrivesIn (Machine.fenced P F) P (lone (b.atR a (.code c:: .inLoop c::k)) cs w) b k cs e a' w':=by
  intro j
  induction j using Nat.strongRecOn with
  |_ j ih=>
   intro g a w hn hI;obtain⟨e,a₁,w₁,hq,Bv⟩:=round g a w hI b (.inLoop c::k) cs YP hb hr;cases e with
   |normal=>
    obtain⟨g₁,Vg,aB⟩:=hq;obtain⟨e₂,a₂,w₂,Vh,Ow⟩:=ih (μ g₁) (hn▸aB) g₁ a₁ w₁ rfl Vg;exact⟨e₂,a₂,w₂,Vh,.of_steps (StepsIn.trans Bv (.one (fenced_calm hb hr rfl) stepR_inLoop)) Ow⟩
   |exit id=>exact⟨_,a₁,w₁,hq,.pass (x:= .inLoop c) rfl (fun _ _=>.inl aG) Bv⟩
   |goto l=>exact⟨_,a₁,w₁,hq,.pass (x:= .inLoop c) rfl (fun _ _=>.inl aG) Bv⟩
   |ret=>exact⟨_,a₁,w₁,hq,.pass (x:= .inLoop c) rfl (fun _ _=>.inl aG) Bv⟩
   |panic ch=>exact⟨_,a₁,w₁,hq,.pass (x:= .inLoop c) rfl (fun _ _=>.inl aG) Bv⟩
   |outgrown=>exact⟨_,a₁,w₁,hq,.pass (x:= .inLoop c) rfl (fun _ _=>.inl aG) Bv⟩
 obtain⟨e,a',w',hq,Bv⟩:=key _ g0 a w rfl h₀;exact⟨e,a',w',hq,.of_steps (.one (fenced_calm hb hr rfl) stepR_loop) Bv⟩
structure ug(ρ:bQ)(m:Mem)(w w':World):Prop where
 size:w.heap.size<=w'.heap.size
 S:∀b,ρ.S b->w'.heap[b]? =w.heap[b]?
 aQ:∀k,Live ρ m k->w'.heap[(ρ.aV k).b]? =w.heap[(ρ.aV k).b]?
theorem ug.cQ{ρ:bQ}{m:Mem}{w w':World}(h:ug ρ m w w'):iD ρ w ρ w':=⟨SS _,fun _ _=>rfl,fun _ h=>h,h.S⟩
theorem aL.uh{ρ:bQ}{m:Mem}{w w':World}(hM:aL ρ m w)(h:ug ρ m w w'):aL ρ m w':=by
 have g:=h.cQ;refine⟨hM.n,fun b hb=>abh (hM.S b hb) h.size,fun k hk=>⟨abh (hM.aQ k hk).1 h.size,(hM.aQ k hk).2⟩,hM.inj,fun id b hb=>?_,fun id i j esz el ho bq=>?_⟩
 .have h1:=hM.bk id b hb;cases b with
  |aW=>trivial
  |var cs=>
   obtain⟨cur,cj,h2⟩:=h1;exact⟨cur,cj.dn (h.aQ (.ar id) ⟨_,hb,aG,aG⟩),fun j c hj=>let⟨u,hu,hd⟩:=h2 j c hj;⟨u,hu,bC.cQ g aG hd⟩⟩
  |row esz elems=>
   obtain⟨h2,h3,h4,h5,h6⟩:=h1;refine⟨h2,h3,h4,h5,fun hp=>?_⟩
   obtain⟨cur,cj,h7,h8⟩:=h6 hp;exact⟨cur,cj.dn (h.aQ (.ar id) ⟨_,hb,aG,fun _=>hp⟩),h7,fun i cs j c hi hj=>let⟨u,hu,hd⟩:=h8 i cs j c hi hj;⟨u,hu,bC.cQ g (by intro jH i' j' e';cases e';rw[hM.n];exact(Mh.1 hb).1) hd⟩⟩
  |mp es=>
   obtain⟨c6,ck,h2,h3,h4⟩:=h1;exact⟨c6,ck,⟨(h.aQ (.ar id) ⟨_,hb,aG,aG⟩).trans h2.1,h2.2⟩,h3,fun i e he=>let⟨e',tm,hk,hd⟩:=h4 i e he;⟨e',tm,hk,dP.cQ g hd⟩⟩
  |it cur left=>
   obtain⟨mb,seen,ck,c6,h2,h3,h4,h5,h6⟩:=h1;exact⟨mb,seen,ck,c6,(h.aQ (.ar id) ⟨_,hb,aG,aG⟩).trans h2,h3,h4,(h.S mb h4).trans h5,h6⟩
 .obtain⟨cur,cj,h2,h3,h4⟩:=hM.gO id i j esz el ho bq;exact⟨cur,cj.dn (h.aQ (.sub id i j) ⟨⟨_,_,ho⟩,bq⟩),h2,h3,fun i cs j d hi hj=>let⟨u,hu,hd⟩:=h4 i cs j d hi hj;⟨u,hu,dv.mono g.S g.heap hd⟩⟩
theorem bm.cQ{ρ ρ':bQ}{w w':World}{a8:List CV}{tmps:Array Value}(g:iD ρ w ρ' w')(hE:bm ρ w a8 tmps):bm ρ' w' a8 tmps:=
 ⟨hE.size,fun i c hi=>let⟨v,hv,hd⟩:=hE.k9 i c hi;⟨v,hv,cm.cQ g hd⟩⟩
theorem DR.uh{N:Nat}{ρ:bQ}{m:Mem}{w w':World}{ds:List Deferred}(h:ug ρ m w w')(hd:DR N ρ w ds):DR N ρ w' ds:=by obtain⟨Ds,h1,h2,h3⟩:=hd;exact⟨Ds,h1,h2,fun D hD=>⟨(h3 D hD).1,(h3 D hD).2.1,(h.S D (h3 D hD).2.1).trans (h3 D hD).2.2⟩⟩
variable {N:Nat} {ρ0:bQ} {m0:Mem} {w0:World}
theorem Inv.uh{st:St}{ρ:bQ}{a:Act}{w w':World}(hI:Inv N ρ0 m0 w0 st ρ a w)(h:ug ρ st.mem w w')(hb:∀b,b<w0.heap.size->w'.heap[b]? =w.heap[b]?)(ho:w'.os=w.os)(ht:w'.tape=w.tape)(hu:w'.output=w.output):Inv N ρ0 m0 w0 st ρ a w':=
 ⟨⟨hI.ext.n,hI.ext.aV,hI.ext.S,hI.ext.S',hI.ext.aQ,fun b r9 hk=>(hb b r9).trans (hI.ext.frame b r9 hk),abT hI.ext.size h.size,ho.trans hI.ext.os,ht.trans hI.ext.tape,hu.trans hI.ext.output⟩,
  hI.mem.uh h,hI.a8.cQ h.cQ,hI.defers.uh h,hI.hN,hI.n0⟩
def pT(ρ:bQ)(m:Mem)(b:Nat):Prop:= ¬ρ.S b/\∀k,Live ρ m k->(ρ.aV k).b≠b
theorem pT.ext{ρ ρ':bQ}{m m':Mem}{w w':World}{b:Nat}(h:pT ρ m b)(x:Ext ρ m w ρ' m' w')(hb:b<w.heap.size):pT ρ' m' b:=by
 refine⟨fun hs=>?_,fun k hk e=>?_⟩
 .rcases x.S' b hs with h1|h1|⟨k,hk,e⟩
  .exact h.1 h1
  .omega
  .exact h.2 k hk e
 .rcases x.aQ k hk with h1|⟨k0,h0,e0⟩
  .omega
  .exact h.2 k0 h0 (e0.trans e)
theorem pT.chg{n0:Nat}{ρ ρ':bQ}{m m':Mem}{b:Nat}(h:pT ρ m b)(x:RA n0 ρ m ρ' m'):pT ρ' m' b:=by
 refine⟨fun hs=>?_,fun k hk e=>?_⟩
 .rcases x.S' b hs with h1|⟨k,hk,e⟩
  .exact h.1 h1
  .exact h.2 k hk e
 .obtain⟨k0,h0,e0⟩:=x.aQ k hk;exact h.2 k0 h0 (e0.trans e)
theorem ug.put{ρ:bQ}{m:Mem}{w:World}{l:Nat}(h:pT ρ m l)(o:Obj):ug ρ m w (w.putObj l o):=
 ⟨aG,fun b hb=>World.putObj_heap_other (by rintro rfl;exact h.1 hb),fun k hk=>World.putObj_heap_other (h.2 k hk)⟩
theorem Inv.put{st:St}{ρ:bQ}{a:Act}{w:World}{l:Nat}(hI:Inv N ρ0 m0 w0 st ρ a w)(h:pT ρ st.mem l)(hl:w0.heap.size<=l)(o:Obj):Inv N ρ0 m0 w0 st ρ a (w.putObj l o):=
 hI.uh (ug.put h o) (fun b hb=>World.putObj_heap_other om) rfl rfl rfl
theorem Inv.view{st iS:St}{ρ:bQ}{a:Act}{w:World}(hI:Inv N ρ0 m0 w0 st ρ a w)(lF:ρ0.n=m0.length)(hw:View m0.length st iS):
  ∃ρ',Inv N ρ0 m0 w0 iS ρ' a w/\∀b,pT ρ st.mem b->pT ρ' iS.mem b:=by
 obtain⟨ρ',hM,hc,hd⟩:=hw.go ρ w hI.mem;refine⟨ρ',⟨⟨by rw[lF,hM.n];exact hw.hn,fun id hid=>(hc.aV id (by rw[<-lF];exact hid)).trans (hI.ext.aV id hid),fun b hb=>hc.S b (hI.ext.S b hb),fun b hb=>?_,fun k hk=>?_,hI.ext.frame,hI.ext.size,hI.ext.os,hI.ext.tape,hI.ext.output⟩,hM,?_,hI.defers.s hc.S,hI.hN,hw.hn⟩,fun b h=>h.chg hc⟩
 .rcases hc.S' b hb with h|⟨k,hk,rfl⟩
  .exact hI.ext.S' b h
  .exact .inr (hI.ext.aQ k hk)
 .obtain⟨k0,h0,e0⟩:=hc.aQ k hk;rw[<-e0];exact hI.ext.aQ k0 h0
 .refine⟨hI.a8.size.trans hw.len.symm,fun i c hi=>?_⟩
  obtain⟨c0,uy,HY⟩:=hd i c hi;obtain⟨v,hv,uA⟩:=hI.a8.k9 i c0 uy;exact⟨v,hv,HY v uA⟩
theorem sj:∀(m:Mem)(jG:List Nat),(pl m jG).length=m.length
 |m,[]=>rfl
 |m,id::r=>by rw[pl,sj,bj,aaJ]
theorem mq:∀(m:Mem)(jG:List Nat)(i:Nat)(bk:Bk),(pl m jG)[i]? =some bk->bk= .aW\/(m[i]? =some bk/\i∉jG)
 |m,[],i,bk,h=>.inr ⟨h,aG⟩
 |m,id::r,i,bk,h=>by
  rcases mq _ r i bk h with h|⟨h,hn⟩
  .exact .inl h
  .rw[bj]at h;by_cases hi:id=i
   .subst hi;have aB:id<m.length:=by have:=(Mh.1 h).1;simpa using this
    rw[Wl aB]at h;exact .inl (by cases h;rfl)
   .rw[ZZ hi]at h;exact .inr ⟨h,by simp;exact⟨fun e=>hi e.symm,hn⟩⟩
theorem tL:∀{m:Mem}{jG:List Nat}{cs:List Value},y6 m jG cs->jG.length=cs.length/\∀(i:Nat)id v,jG[i]? =some id->cs[i]? =some v->m[id]? =some (.var [.aa (.val v)])/\cZ v=true
 |m,[],[],_=>⟨rfl,aG⟩
 |m,id::r,v::vs,h=>by
  obtain⟨h1,h2⟩:=h;obtain⟨e,g⟩:=tL h2;refine⟨by simp[e],fun i jH v' hi hv=>?_⟩
  cases i with
  |zero=>simp at hi hv;subst hi hv;rw[<-aZ];exact h1
  |succ i=>exact g i jH v' (by simpa using hi) (by simpa using hv)
end
section
variable {P:Program} {N:Nat} {ρ0:bQ} {m0:Mem} {w0:World}
structure T6(ρ:bQ)(m:Mem)(w w':World):Prop where
 size:w.heap.size<=w'.heap.size
 S:∀b off,ρ.S b->w'.cell? ⟨b,off,none⟩=w.cell? ⟨b,off,none⟩
 aQ:∀k,Live ρ m k->w'.heap[(ρ.aV k).b]? =w.heap[(ρ.aV k).b]?
 maps:∀b es ck,ρ.S b->w.heap[b]? =some (.map es ck)->w'.heap[b]? =some (.map es ck)
theorem dv.AT{S:Nat->Prop}{w w':World}(hw:∀b off,S b->w'.cell? ⟨b,off,none⟩=w.cell? ⟨b,off,none⟩){d:Dt}{v:Value}(h:dv S w d v):dv S w' d v:=by
 induction h with
 |val v h=>exact .val v h
 |no a=>exact .no a
 |nil esz a cap hc=>exact .nil esz a cap hc
 |sl esz elems b off cap u hb hl bq dN hc hd ih=>
  exact .sl esz elems b off cap u hb hl bq dN (fun i cs j d hi hj=>(hw b _ hb).trans (hc i cs j d hi hj)) ih
theorem bC.AT{ρ:bQ}{m:Mem}{w w':World}(x:T6 ρ m w w'){pos:Option (Nat×Nat×Nat)}{c:CC}{v:Value}(h:bC ρ w pos c v):bC ρ w' pos c v:=by
 cases c<;>simp only[bC]at h⊢
 case aa=>exact h.AT x.S
 case qB cs=>
  obtain⟨b,off,hv,hb,hc⟩:=h;exact⟨b,off,hv,hb,fun j d hj=>let⟨u,hu,hd⟩:=hc j d hj;⟨u,(x.S b _ hb).trans hu,hd.AT x.S⟩⟩
 all_goals exact h
theorem dP.AT{ρ:bQ}{m:Mem}{w w':World}(x:T6 ρ m w w'){r:RV}{v:Value}(h:dP ρ w r v):dP ρ w' r v:=by
 cases r with
 |one c=>exact bC.AT x h
 |agg cs=>
  obtain⟨vs,hv,hl,hc⟩:=h;exact⟨vs,hv,hl,fun i c hi=>let⟨u,hu,hd⟩:=hc i c hi;⟨u,hu,hd.AT x⟩⟩
theorem cm.AT{ρ:bQ}{m:Mem}{w w':World}(x:T6 ρ m w w'){r:CV}{v:Value}(h:cm ρ w r v):cm ρ w' r v:=by
 cases r with
 |aq=>trivial
 |undef=>exact h
 |rv r=>exact dP.AT x h
 |bK rs=>
  obtain⟨vs,hv,hl,hc⟩:=h;exact⟨vs,hv,hl,fun i c hi=>let⟨u,hu,hd⟩:=hc i c hi;⟨u,hu,hd.AT x⟩⟩
theorem aL.AT{ρ:bQ}{m:Mem}{w w':World}(hM:aL ρ m w)(h:T6 ρ m w w'):aL ρ m w':=by
 refine⟨hM.n,fun b hb=>abh (hM.S b hb) h.size,fun k hk=>⟨abh (hM.aQ k hk).1 h.size,(hM.aQ k hk).2⟩,hM.inj,fun id b hb=>?_,fun id i j esz el ho bq=>?_⟩
 .have h1:=hM.bk id b hb;cases b with
  |aW=>trivial
  |var cs=>
   obtain⟨cur,cj,h2⟩:=h1;exact⟨cur,cj.dn (h.aQ (.ar id) ⟨_,hb,aG,aG⟩),fun j c hj=>let⟨u,hu,hd⟩:=h2 j c hj;⟨u,hu,hd.AT h⟩⟩
  |row esz elems=>
   obtain⟨h2,h3,h4,h5,h6⟩:=h1;refine⟨h2,h3,h4,h5,fun hp=>?_⟩
   obtain⟨cur,cj,h7,h8⟩:=h6 hp;exact⟨cur,cj.dn (h.aQ (.ar id) ⟨_,hb,aG,fun _=>hp⟩),h7,fun i cs j c hi hj=>let⟨u,hu,hd⟩:=h8 i cs j c hi hj;⟨u,hu,hd.AT h⟩⟩
  |mp es=>
   obtain⟨c6,ck,h2,h3,h4⟩:=h1;exact⟨c6,ck,⟨(h.aQ (.ar id) ⟨_,hb,aG,aG⟩).trans h2.1,h2.2⟩,h3,fun i e he=>let⟨e',tm,hk,hd⟩:=h4 i e he;⟨e',tm,hk,hd.AT h⟩⟩
  |it cur left=>
   obtain⟨mb,seen,ck,c6,h2,h3,h4,h5,h6⟩:=h1;exact⟨mb,seen,ck,c6,(h.aQ (.ar id) ⟨_,hb,aG,aG⟩).trans h2,h3,h4,h.maps mb c6 ck h4 h5,h6⟩
 .obtain⟨cur,cj,h2,h3,h4⟩:=hM.gO id i j esz el ho bq;exact⟨cur,cj.dn (h.aQ (.sub id i j) ⟨⟨_,_,ho⟩,bq⟩),h2,h3,fun i cs j d hi hj=>let⟨u,hu,hd⟩:=h4 i cs j d hi hj;⟨u,hu,hd.AT h.S⟩⟩
theorem bm.AT{ρ:bQ}{m:Mem}{w w':World}(x:T6 ρ m w w'){a8:List CV}{tmps:Array Value}(hE:bm ρ w a8 tmps):bm ρ w' a8 tmps:=
 ⟨hE.size,fun i c hi=>let⟨v,hv,hd⟩:=hE.k9 i c hi;⟨v,hv,hd.AT x⟩⟩
theorem q8{fn:Func}{tmps:Array Value}{R:Ending->World->Prop}{ρ:bQ}{m:Mem}{a8:List CV}(hN:N=w0.heap.size):∀(Ds:List Nat)(w:World),Ds.Nodup->
  (∀D,D∈Ds->N<=D/\ρ.S D/\w.heap[D]? =some (.deferred (some [])))->aL ρ m w->bm ρ w a8 tmps->Ext ρ0 m0 w0 ρ m w->
  (∀w',aL ρ m w'->bm ρ w' a8 tmps->Ext ρ0 m0 w0 ρ m w'->∃v,(results fn tmps).run P w'= .ok v w'/\R (.returned v) w')->
  LeavesInM Fence.wide 0 P fn tmps R (Ds.map fun D=>{target:= .collected D,args:= #[]}) .returning w
 | [],w,_,_,hM,hE,hx,h=>by obtain⟨v,h1,h2⟩:=h w hM hE hx;exact⟨v,h1,h2⟩
 |D::Ds,w,hn,hD,hM,hE,hx,h=>by
  obtain⟨pQ,R5⟩:=acj.1 hn;obtain⟨d1,d2,d3⟩:=hD D aG;have aB:=(aaK.1 d3).1;have hc:T6 ρ m w (w.putObj D (.deferred none)):=by
   refine⟨aG,fun b off hS=>?_,fun k hk=>World.putObj_heap_other fun e=>(hM.aQ k hk).2 (e▸d2),fun b es ck hS R6=>by
    have hb:b≠D:=fun e=>by subst e;rw[d3]at R6;cases R6
    rw[World.putObj_heap_other hb];exact R6⟩
   by_cases hb:b=D
   .subst hb;simp only[World.cell?,d3,World.putObj_heap_same aB]
   .simp only[World.cell?,World.putObj_heap_other hb]
  refine⟨aG,.inl ⟨D,_,rfl,run_takeDeferred d3,?_⟩⟩;refine q8 hN Ds _ R5 (fun D' UK=>?_) (hM.AT hc) (hE.AT hc) ?_ h
  .obtain⟨e1,e2,e3⟩:=hD D' (by simp[UK])
   exact⟨e1,e2,(World.putObj_heap_other (by rintro rfl;exact pQ UK)).trans e3⟩
  .exact⟨hx.n,hx.aV,hx.S,hx.S',hx.aQ,fun b hb hk=>(World.putObj_heap_other om).trans (hx.frame b hb hk),by simpa using hx.size,hx.os,hx.tape,hx.output⟩
end
section
variable {P:Program} {N:Nat} {ρ0:bQ} {m0:Mem} {w0:World}
theorem Gk{K:Ex->St->Prop}:¬LetsOut (zk N ρ0 m0 w0 K):=by rintro⟨a,w,ex,st,ρ,he,_⟩;simp[Bo]at he
theorem Gl:∀lc:LC,lc.er.qD=lc.qD:=by
 intro lc
 induction lc<;>simp_all[LC.er,LC.qD]
theorem Bw{l:Nat}{n0:Nat}{st:St}{ρ:bQ}{act:Act}{W:World}{fn:FuncId}{rec0:Loop}{p:Nat}{la lb:LC}{ca cb:Code}{y:ByteArray}{K:Ex->St->Prop}(Rx:∀(ρ0:bQ)(m0:Mem)(w0:World)(K:Ex->St->Prop)(st:St)(ρ:bQ)(a:Act)(w:World),ρ0.n=m0.length->aw P m0.length la K st->Inv 0 ρ0 m0 w0 st ρ a w->ca.wpIn (FR (some l)) 0 P (zk 0 ρ0 m0 w0 K) a w)(Ry:∀(ρ0:bQ)(m0:Mem)(w0:World)(K:Ex->St->Prop)(st:St)(ρ:bQ)(a:Act)(w:World),ρ0.n=m0.length->aw P m0.length lb K st->Inv 0 ρ0 m0 w0 st ρ a w->cb.wpIn (FR (some l)) 0 P (zk 0 ρ0 m0 w0 K) a w)(hr:rec0.state= .ready/\rec0.pending=none/\rec0.fn=fn/\rec0.tmps=act.tmps/\rec0.params= #[p]/\rec0.assign=ca/\rec0.body=cb)(hI:Inv N ρ0 m0 w0 st ρ act W)(hl:W.heap[l]? =some (.loop rec0))(DV:pT ρ st.mem l)(XH:w0.heap.size<=l)(h:pI st.mem fun n1=>aw P n1 la (fun ex s2=>match ex with
    | .normal=>pI s2.mem fun n2=>aw P n2 lb K s2
    |_=>False) ⟨bb st.a8 p (eK y),st.mem⟩):
  Qp P l #[.string y] W fun e W'=>∃ex iS ρ' jump,K ex iS/\Inv N ρ0 m0 w0 ⟨st.a8,iS.mem⟩ ρ' act W'/\e= .returned (.bool jump.isNone)/\
   W'.heap[l]? =some (.loop {rec0 with state:=if jump.isNone then .ready else .done,pending:=jump})/\
   ((jump=none/\ex= .normal)\/(jump=some .ret/\ex= .ret)\/∃id,jump=some (.exit id)/\ex= .exit id)/\
   (∀b,b<W.heap.size->b≠l->pT ρ st.mem b->pT ρ' iS.mem b/\W'.heap[b]? =W.heap[b]?)/\pT ρ' iS.mem l/\W.heap.size<=W'.heap.size:=by
 obtain⟨r1,r2,r3,r4,r5,r6,r7⟩:=hr;have hy:=run_yield (P:=P) (args:= #[.string y]) hl (by rw[r5];rfl)
 rw[r3,r4,r5,r6,r7]at hy;refine⟨_,_,_,_,hy,?_⟩;have aB:l<W.heap.size:=(aaK.1 hl).1;simp only[ik]at h;have hRo:RoundIn Fence.wide 0 P l fn (act.tmps.setIfInBounds p (.string y)) ca cb W fun e W'=>∃ex iS ρ' jump,K ex iS/\Inv N ρ0 m0 w0 ⟨st.a8,iS.mem⟩ ρ' act W'/\e= .returned (.bool jump.isNone)/\
   W'.heap[l]? =some (.loop {rec0 with state:=if jump.isNone then .ready else .done,pending:=jump})/\
   ((jump=none/\ex= .normal)\/(jump=some .ret/\ex= .ret)\/∃id,jump=some (.exit id)/\ex= .exit id)/\
   (∀b,b<W.heap.size->b≠l->pT ρ st.mem b->pT ρ' iS.mem b/\W'.heap[b]? =W.heap[b]?)/\pT ρ' iS.mem l/\W.heap.size<=W'.heap.size:=by
  refine roundIn_of_wpIn trivial ?_;have zf:bm ρ W (bb st.a8 p (eK y)) (act.tmps.setIfInBounds p (.string y)):=by rw[bj];exact hI.a8.set (dv.val _ rfl:cm ρ W (eK y) (.string y))
  have YQ:Inv 0 ρ st.mem W ⟨bb st.a8 p (eK y),st.mem⟩ ρ {tmps:=act.tmps.setIfInBounds p (.string y),defers:=[]} W:=
   ⟨Ext.refl _ _ _,hI.mem,zf,DR.nil,Wi _,SS _⟩
  have hwa:=Rx ρ st.mem W _ _ ρ _ W hI.mem.n h YQ;rw[Gj]at hwa;refine wpIn_mono hwa fun e a1 W1 hp=>?_
  obtain⟨ex,s2,ρ2,he,hK,H2⟩:=hp;cases e<;>simp[Bo]at he<;>subst he<;>simp only at hK
  simp only[Exit.then];have Bf:W1.heap[l]? =some (.loop rec0):=(H2.ext.frame l aB DV.2).trans hl;have KT:pT ρ2 s2.mem l:=DV.ext H2.ext aB;have Vi:l<W1.heap.size:=(aaK.1 Bf).1;refine⟨_,run_beginRound Bf r1,?_⟩;obtain⟨W2,QE⟩:∃W2,W1.putObj l (.loop {rec0 with state:= .busy})=W2:=⟨_,rfl⟩
  rw[QE];have vp:ug ρ2 s2.mem W1 W2:=by rw[<-QE];exact ug.put KT _
  have DX:=H2.mem.uh vp;have YR:Inv 0 ρ2 s2.mem W2 s2 ρ2 a1 W2:=⟨Ext.refl _ _ _,DX,H2.a8.cQ vp.cQ,H2.defers.uh vp,Wi _,SS _⟩;have hwb:=Ry ρ2 s2.mem W2 _ _ ρ2 _ W2 DX.n hK YR;rw[Gj]at hwb;refine wpIn_mono hwb fun e a3 W3 hp=>?_
  obtain⟨ex,s3,ρ3,he,hK3,NY⟩:=hp;have Bt:l<W2.heap.size:=by rw[<-QE];simpa using Vi
  have hl3:W3.heap[l]? =some (.loop {rec0 with state:= .busy}):=by rw[NY.ext.frame l Bt KT.2,<-QE];exact World.putObj_heap_same Vi
  have YS:l<W3.heap.size:=(aaK.1 hl3).1;have QF:pT ρ3 s3.mem l:=KT.ext NY.ext Bt;have iC:∀(jump:Option Code),((jump=none/\ex= .normal)\/(jump=some .ret/\ex= .ret)\/∃id,jump=some (.exit id)/\ex= .exit id)->
    ∃v w',(Instr.endRound l jump).run P W3= .ok v w'/\∃ex iS ρ' jump,K ex iS/\Inv N ρ0 m0 w0 ⟨st.a8,iS.mem⟩ ρ' act w'/\Ending.returned v= .returned (.bool jump.isNone)/\
     w'.heap[l]? =some (.loop {rec0 with state:=if jump.isNone then .ready else .done,pending:=jump})/\
     ((jump=none/\ex= .normal)\/(jump=some .ret/\ex= .ret)\/∃id,jump=some (.exit id)/\ex= .exit id)/\
     (∀b,b<W.heap.size->b≠l->pT ρ st.mem b->pT ρ' iS.mem b/\w'.heap[b]? =W.heap[b]?)/\pT ρ' iS.mem l/\W.heap.size<=w'.heap.size:=by
   intro jump hj;have Ox:=run_endRound (P:=P) jump hl3;refine⟨_,_,Ox,ex,s3,ρ3,jump,hK3,?_,rfl,World.putObj_heap_same YS,hj,fun b hb R7 ho=>?_,QF,?_⟩
   .have x1:Ext ρ0 m0 w0 ρ2 s2.mem W1:=hI.ext.trans H2.ext;have x2:Ext ρ0 m0 w0 ρ2 s2.mem W2:=by rw[<-QE];exact⟨x1.n,x1.aV,x1.S,x1.S',x1.aQ,fun b hb hk=>(World.putObj_heap_other om).trans (x1.frame b hb hk),by simpa using x1.size,x1.os,x1.tape,x1.output⟩
    have x3:Ext ρ0 m0 w0 ρ3 s3.mem W3:=x2.trans NY.ext;have e1:bm ρ2 W1 st.a8 act.tmps:=hI.a8.ext hI.mem H2.ext;have e3:bm ρ3 W3 st.a8 act.tmps:=(e1.cQ vp.cQ).ext DX NY.ext;have d3:DR N ρ3 W3 act.defers:=((hI.defers.ext hI.mem H2.ext).uh vp).ext DX NY.ext;have hI5:Inv N ρ0 m0 w0 ⟨st.a8,s3.mem⟩ ρ3 act W3:=⟨x3,NY.mem,e3,d3,hI.hN,abT hI.n0 (abT H2.n0 NY.n0)⟩;exact hI5.put QF XH _
   .have oV:pT ρ2 s2.mem b:=ho.ext H2.ext hb;have RH:b<W1.heap.size:=abh hb H2.ext.size;have mj:b<W2.heap.size:=by rw[<-QE];simpa using RH
    refine⟨oV.ext NY.ext mj,?_⟩;rw[World.putObj_heap_other R7,NY.ext.frame b mj oV.2,<-QE,World.putObj_heap_other R7,H2.ext.frame b hb ho.2]
   .have h1:=H2.ext.size;have h2:W1.heap.size=W2.heap.size:=by rw[<-QE];simp
    have h3:=NY.ext.size;simp only[World.putObj_size];omega
  cases e<;>simp[Bo]at he<;>subst he
  .exact iC none (.inl ⟨rfl,rfl⟩)
  .rename_i id;exact iC (some (.exit id)) (.inr (.inr ⟨id,rfl,rfl⟩))
  .exact iC (some .ret) (.inr (.inl ⟨rfl,rfl⟩))
 have hz:(#[p].zip #[Value.string y]).foldl (fun tmps x=>tmps.setIfInBounds x.1 x.2) act.tmps=act.tmps.setIfInBounds p (.string y):=aG
 exact hz▸hRo
theorem Inv.Vj{st:St}{ρ:bQ}{a:Act}{w w':World}(hI:Inv N ρ0 m0 w0 st ρ a w)(h:ug ρ st.mem w w')(hb:∀b,b<w0.heap.size->(∀k,Live ρ0 m0 k->(ρ0.aV k).b≠b)->w'.heap[b]? =w.heap[b]?)(ho:w'.os=w.os)(ht:w'.tape=w.tape)(hu:w'.output=w.output):Inv N ρ0 m0 w0 st ρ a w':=
 ⟨⟨hI.ext.n,hI.ext.aV,hI.ext.S,hI.ext.S',hI.ext.aQ,fun b r9 hk=>(hb b r9 hk).trans (hI.ext.frame b r9 hk),abT hI.ext.size h.size,ho.trans hI.ext.os,ht.trans hI.ext.tape,hu.trans hI.ext.output⟩,
  hI.mem.uh h,hI.a8.cQ h.cQ,hI.defers.uh h,hI.hN,hI.n0⟩
theorem aL.YT{ρ:bQ}{m:Mem}{w:World}{D:Nat}(hM:aL ρ m w)(hD:D<w.heap.size)(hl:∀k,Live ρ m k->(ρ.aV k).b≠D):aL {ρ with S:=fun b=>ρ.S b\/b=D} m w:=by
 have g:iD ρ w {ρ with S:=fun b=>ρ.S b\/b=D} w:=⟨SS _,fun _ _=>rfl,fun _ h=>.inl h,fun _ _=>rfl⟩
 have cX:∀k,Live {ρ with S:=fun b=>ρ.S b\/b=D} m k↔Live ρ m k:=fun k=>by cases k<;>rfl
 refine⟨hM.n,fun b hb=>?_,fun k hk=>⟨(hM.aQ k ((cX k).1 hk)).1,?_⟩,fun k k' hk gK e=>hM.inj k k' ((cX k).1 hk) ((cX k').1 gK) e,fun id b hb=>?_,fun id i j esz el ho bq=>?_⟩
 .rcases hb with hb|rfl
  .exact hM.S b hb
  .exact hD
 .rintro(hs|hs)
  .exact(hM.aQ k ((cX k).1 hk)).2 hs
  .exact hl k ((cX k).1 hk) hs
 .have h1:=hM.bk id b hb;cases b with
  |aW=>trivial
  |var cs=>
   obtain⟨cur,cj,h2⟩:=h1;exact⟨cur,cj,fun j c hj=>let⟨u,hu,hd⟩:=h2 j c hj;⟨u,hu,bC.cQ g aG hd⟩⟩
  |row esz elems=>
   obtain⟨h2,h3,h4,h5,h6⟩:=h1;refine⟨h2,h3,h4,h5,fun hp=>?_⟩
   obtain⟨cur,cj,h7,h8⟩:=h6 hp;exact⟨cur,cj,h7,fun i cs j c hi hj=>let⟨u,hu,hd⟩:=h8 i cs j c hi hj;⟨u,hu,bC.cQ g (by intro jH i' j' e';cases e';rw[hM.n];exact(Mh.1 hb).1) hd⟩⟩
  |mp es=>
   obtain⟨c6,ck,h2,h3,h4⟩:=h1;exact⟨c6,ck,h2,h3,fun i e he=>let⟨e',tm,hk,hd⟩:=h4 i e he;⟨e',tm,hk,dP.cQ g hd⟩⟩
  |it cur left=>
   obtain⟨mb,seen,ck,c6,h2,h3,h4,h5,h6⟩:=h1;exact⟨mb,seen,ck,c6,h2,h3,g.S _ h4,(g.heap mb h4).trans h5,h6⟩
 .obtain⟨cur,cj,h2,h3,h4⟩:=hM.gO id i j esz el ho bq;exact⟨cur,cj,h2,h3,fun i cs j d hi hj=>let⟨u,hu,hd⟩:=h4 i cs j d hi hj;⟨u,hu,dv.mono g.S g.heap hd⟩⟩
theorem Live.iE{ρ:bQ}{m:Mem}{jG:List Nat}{k:jz}(h:Live ρ (pl m jG) k):Live ρ m k/\k.id∉jG:=by
 cases k with
 |ar id=>
  obtain⟨bk,h1,h2,h3⟩:=h;rcases mq m jG id bk h1 with rfl|⟨h4,h5⟩
  .exact absurd rfl h2
  .exact⟨⟨bk,h4,h2,h3⟩,h5⟩
 |sub id i j=>
  obtain⟨⟨esz,elems,es,rows,cs,h1,h2,h3⟩,h4⟩:=h;rcases mq m jG id _ h1 with h5|⟨h5,h6⟩
  .cases h5
  .exact⟨⟨⟨esz,elems,es,rows,cs,h5,h2,h3⟩,h4⟩,h6⟩
theorem aL.iE{ρ:bQ}{m:Mem}{w:World}(hM:aL ρ m w)(jG:List Nat):aL ρ (pl m jG) w:=by
 refine⟨by rw[sj];exact hM.n,hM.S,fun k hk=>hM.aQ k hk.iE.1,fun k k' hk gK=>hM.inj k k' hk.iE.1 gK.iE.1,fun id b hb=>?_,fun id i j esz el ho bq=>?_⟩
 .rcases mq m jG id b hb with rfl|⟨h,_⟩
  .trivial
  .exact hM.bk id b h
 .obtain⟨es,rows,cs,h1,h2,h3⟩:=ho;rcases mq m jG id _ h1 with h5|⟨h5,_⟩
  .cases h5
  .exact hM.gO id i j esz el ⟨es,rows,cs,h5,h2,h3⟩ bq
theorem Inv.iE{st:St}{ρ:bQ}{a:Act}{w:World}(hI:Inv N ρ0 m0 w0 st ρ a w)(jG:List Nat):Inv N ρ0 m0 w0 ⟨st.a8,pl st.mem jG⟩ ρ a w:=
 ⟨⟨hI.ext.n,hI.ext.aV,hI.ext.S,hI.ext.S',fun k hk=>hI.ext.aQ k hk.iE.1,hI.ext.frame,hI.ext.size,hI.ext.os,hI.ext.tape,hI.ext.output⟩,
  hI.mem.iE jG,hI.a8,hI.defers,hI.hN,by rw[sj];exact hI.n0⟩
theorem DY{x:X}{f:Operand}{p:Nat}{ps:Array Tmp}{la lb:LC}{ca cb:Code}{K:Ex->St->Prop}{st:St}{ρ:bQ}{a:Act}{w:World}(lF:ρ0.n=m0.length)(mJ:ps= #[p])(hx:bt f=some x)(Rx:∀(l:Nat)(ρ0:bQ)(m0:Mem)(w0:World)(K:Ex->St->Prop)(st:St)(ρ:bQ)(a:Act)(w:World),ρ0.n=m0.length->aw P m0.length la K st->Inv 0 ρ0 m0 w0 st ρ a w->ca.wpIn (FR (some l)) 0 P (zk 0 ρ0 m0 w0 K) a w)(Ry:∀(l:Nat)(ρ0:bQ)(m0:Mem)(w0:World)(K:Ex->St->Prop)(st:St)(ρ:bQ)(a:Act)(w:World),ρ0.n=m0.length->aw P m0.length lb K st->Inv 0 ρ0 m0 w0 st ρ a w->cb.wpIn (FR (some l)) 0 P (zk 0 ρ0 m0 w0 K) a w)(h:aw P m0.length (.xd x p la lb) K st)(hI:Inv N ρ0 m0 w0 st ρ a w):(Code.rangeFunc f ps ca cb).wpIn (FR none) 0 P (zk N ρ0 m0 w0 K) a w:=by
 obtain⟨gf,jG,cs,xs,α,J,S,YU,KH,⟨qz,fc⟩,YV,⟨x0,hJ0,T7⟩,DZ,Vk⟩:=h;have hd:=aR hI.a8 hx;rw[YU]at hd;obtain⟨fU,hv⟩:=hd;rw[Ou];refine wpIn_rangeFunc fun fn _=>?_
 obtain⟨rec0,zs⟩:∃rec0:Loop,rec0={state:= .ready,pending:=none,fn,tmps:=a.tmps,params:=ps,assign:=ca,body:=cb,defers:=w.heap.size}:=⟨_,rfl⟩;obtain⟨W1,AU⟩:∃W1,(w.alloc (.deferred (some []))).alloc (.loop rec0)=W1:=⟨_,rfl⟩;have Vl:W1.heap.size=w.heap.size+2:=by rw[<-AU];simp
 have hold:∀b,b<w.heap.size->W1.heap[b]? =w.heap[b]? :=fun b hb=>by
  rw[<-AU];exact(Go.RowKit.Below.heap_alloc _ _ _ (by simp;omega)).trans (Go.RowKit.Below.heap_alloc _ _ _ hb)
 have hL1:W1.heap[w.heap.size+1]? =some (.loop rec0):=by rw[<-AU];have:=World.alloc_heap_new (w.alloc (.deferred (some []))) (.loop rec0);rwa [World.size_alloc]at this
 have Vm:W1.heap[w.heap.size]? =some (.deferred (some [])):=by rw[<-AU];exact(Go.RowKit.Below.heap_alloc _ _ _ aG).trans (World.alloc_heap_new w _)
 have UH:W1.os=w.os/\W1.tape=w.tape/\W1.output=w.output:=by rw[<-AU];exact⟨rfl,rfl,rfl⟩
 obtain⟨⟨gfn,hgf,hgb,NZ⟩,hT⟩:=YV;have YW:gfn.body≠none:=by intro e;rw[e]at hgb;cases hgb
 have YX:gfn.name≠ "runtime.NumGoroutine" :=by intro e;rw[e]at NZ;simp at NZ
 obtain⟨as,has⟩:∃as:List (Nat×Nat),as=jG.map fun id=>((ρ.aV (.ar id)).b,(ρ.aV (.ar id)).aA):=⟨_,rfl⟩
 have YY:(jG.map fun id=>Value.pointer (some ⟨(ρ.aV (.ar id)).b,(ρ.aV (.ar id)).aA,none⟩))=qG as:=by rw[has,qG,abW];rfl
 rw[YY]at hv;have Vn:ug ρ st.mem w W1:=⟨om,fun b hb=>hold b (hI.mem.S b hb),fun k hk=>hold _ (hI.mem.aQ k hk).1⟩
 have Gm:Inv N ρ0 m0 w0 st ρ a W1:=hI.uh Vn (fun b hb=>hold b (abh hb hI.ext.size)) UH.1 UH.2.1 UH.2.2
 let ρ1:bQ:={ρ with S:=fun b=>ρ.S b\/b=w.heap.size}
 let act:Act:={a with defers:=[{target:= .collected w.heap.size,args:= #[]}]++a.defers}
 have aB:∀k,Live ρ st.mem k->(ρ.aV k).b<w.heap.size:=fun k hk=>(hI.mem.aQ k hk).1
 have cX:∀(m:Mem)k,Live ρ1 m k↔Live ρ m k:=fun m k=>by cases k<;>rfl
 have g1:iD ρ W1 ρ1 W1:=⟨SS _,fun _ _=>rfl,fun _ h=>.inl h,fun _ _=>rfl⟩
 have hIb:Inv N ρ0 m0 w0 st ρ1 act W1:=by
  refine⟨⟨Gm.ext.n,Gm.ext.aV,fun b hb=>.inl (Gm.ext.S b hb),fun b hb=>?_,fun k hk=>Gm.ext.aQ k ((cX _ k).1 hk),Gm.ext.frame,Gm.ext.size,Gm.ext.os,Gm.ext.tape,Gm.ext.output⟩,
   Gm.mem.YT om (fun k hk e=>by have:=aB k hk;omega),Gm.a8.cQ g1,?_,hI.hN,hI.n0⟩
  .rcases hb with hb|rfl
   .exact Gm.ext.S' b hb
   .exact .inr (.inl hI.ext.size)
  .obtain⟨Ds,h1,h2,h3⟩:=Gm.defers;refine⟨w.heap.size::Ds,by simp[act,h1],acj.2 ⟨fun hm=>?_,h2⟩,fun D hD=>?_⟩
   .have:=hI.mem.S _ (h3 _ hm).2.1;omega
   .rcases abo.1 hD with rfl|hD
    .exact⟨abT hI.hN hI.ext.size,.inr rfl,Vm⟩
    .exact⟨(h3 D hD).1,.inl (h3 D hD).2.1,(h3 D hD).2.2⟩
 have hIc:=hIb.iE jG;have Vo:pT ρ1 (pl st.mem jG) (w.heap.size+1):=by
  refine⟨?_,fun k hk e=>?_⟩
  .rintro(hs|hs)
   .have:=hI.mem.S _ hs;omega
   .omega
  .have:=aB k ((cX _ k).1 hk).iE.1;have h2:(ρ1.aV k).b=(ρ.aV k).b:=rfl;omega
 obtain⟨Vp,T8⟩:=tL KH;have cG:∀id,id∈jG->Live ρ st.mem (.ar id):=fun id hid=>by
  obtain⟨i,hi⟩:=Xf hid;have aB:i<cs.length:=by rw[<-Vp];exact(Mh.1 hi).1
  obtain⟨h1,_⟩:=T8 i id _ hi (IE aB);exact⟨_,h1,aG,aG⟩
 have Vq:∀b,b∈as.map (·.1)->pT ρ1 (pl st.mem jG) b:=by
  intro b hb;rw[has,abW]at hb;obtain⟨id,hid,rfl⟩:=aaQ.1 hb;have hL:=cG id hid;refine⟨?_,fun k hk e=>?_⟩
  .rintro(hs|hs)
   .exact(hI.mem.aQ _ hL).2 hs
   .have:=aB _ hL;simp only[Function.comp]at hs;omega
  .have jI:=(cX _ k).1 hk;have:=hI.mem.inj k _ jI.iE.1 hL e;subst this;exact jI.iE.2 hid
 obtain⟨ρ2,hId,QG⟩:=hIc.view lF T7;have YZ:as.length=cs.length:=by rw[has,Nq,Vp]
 have Y0:(as.map (·.1)).Nodup:=by
  rw[has,abW];have key:∀l:List Nat,(∀id,id∈l->id∈jG)->l.Nodup->(l.map fun id=>(ρ.aV (.ar id)).b).Nodup:=by
   intro l
   induction l with
   |nil=>intro _ _;exact List.nodup_nil
   |cons id r ih=>
    intro hm hn;obtain⟨pQ,R5⟩:=acj.1 hn;refine acj.2 ⟨fun hb=>?_,ih (fun id h=>hm id (by simp[h])) R5⟩
    obtain⟨jH,KU,e⟩:=aaQ.1 hb;have:=hI.mem.inj _ _ (cG jH (hm jH (by simp[KU]))) (cG id (hm id aG)) e
    cases this;exact pQ KU
  exact key jG (fun _ h=>h) qz
 have QH:∀b,b∈as.map (·.1)->b<w.heap.size:=by intro b hb;rw[has,abW]at hb;obtain⟨id,hid,rfl⟩:=aaQ.1 hb;exact aB _ (cG id hid)
 have Y1:∀b,b∈as.map (·.1)->w0.heap.size<=b\/∃k0,Live ρ0 m0 k0/\(ρ0.aV k0).b=b:=by intro b hb;rw[has,abW]at hb;obtain⟨id,hid,rfl⟩:=aaQ.1 hb;exact hI.ext.aQ _ (cG id hid)
 have Oy:∀a0,a0∈as->a0.1∈as.map (·.1):=fun a0 h0=>aaQ.2 ⟨a0,h0,rfl⟩
 let Jw:Nat->World->Prop:=fun k W=>∃y ρ',J k y/\Inv N ρ0 m0 w0 (S y) ρ' act W/\pT ρ' (S y).mem (w.heap.size+1)/\(∀b,b∈as.map (·.1)->pT ρ' (S y).mem b)/\
  W.heap[w.heap.size+1]? =some (.loop rec0)
 let Jx:World->Prop:=fun W=>∃c ex iS ρ',K ex iS/\Inv N ρ0 m0 w0 iS ρ' act W/\pT ρ' iS.mem (w.heap.size+1)/\(∀b,b∈as.map (·.1)->pT ρ' iS.mem b)/\
  ((c= .ret/\ex= .ret)\/∃id,c= .exit id/\ex= .exit id)/\W.heap[w.heap.size+1]? =some (.loop {rec0 with state:= .done,pending:=some c})
 have QJ:∀(iS:St)(ρ':bQ)(o:Obj)(W W':World),Inv N ρ0 m0 w0 iS ρ' act W->(∀b,b∈as.map (·.1)->pT ρ' iS.mem b)->W.heap[w.heap.size+1]? =some o->
   W.heap.size<=W'.heap.size->(∀b,b<W.heap.size->(∀a,a∈as->b≠a.1)->W'.heap[b]? =W.heap[b]?)->W'.os=W.os->W'.tape=W.tape->W'.output=W.output->
   Inv N ρ0 m0 w0 iS ρ' act W'/\W'.heap[w.heap.size+1]? =some o:=by
  intro iS ρ' o W W' hI ho hl hs hb h1 h2 h3;refine⟨hI.Vj ⟨hs,fun b hS=>hb b (hI.mem.S b hS) fun a ha e=>(ho _ (Oy a ha)).1 (e▸hS),fun k hk=>hb _ (hI.mem.aQ k hk).1 fun a ha e=>(ho _ (Oy a ha)).2 k hk e⟩
   (fun b r9 hk=>hb b (abh r9 hI.ext.size) fun a ha e=>?_) h1 h2 h3,?_⟩
  .rcases Y1 _ (Oy a ha)with h|⟨k0,h0,e0⟩
   .omega
   .exact hk k0 h0 (e0.trans e.symm)
  .rw[hb _ (aaK.1 hl).1 fun a ha e=>?_]
   .exact hl
   .have:=QH _ (Oy a ha);omega
 have main:=hT (w.heap.size+1) as W1 Jw Jx YZ Y0
  (fun i a0 v hi hv=>by
   rw[has,Q8]at hi;cases hid:jG[i]? with
   |none=>rw[hid]at hi;cases hi
   |some id=>
    rw[hid]at hi;simp only[aaG,aag]at hi;subst hi;obtain⟨hm,fW⟩:=T8 i id v hid hv;obtain⟨cur,cj,jj⟩:=Gm.mem.bk id _ hm;obtain⟨u,hu,cz⟩:=jj 0 _ rfl;have ud:u=v:=by
     cases cz with
     |val _ _=>rfl
     |no _=>simp[cZ]at fW
    subst ud;exact⟨by rw[cj.cell];simpa using hu,cj.pG (by have:=(aaK.1 hu).1;simpa using this)⟩)
  (fun k W W'⟨y,ρ',h1,h2,h3,h4,h5⟩hs hb e1 e2 e3=>by obtain⟨q1,q2⟩:=QJ _ _ _ W W' h2 h4 h5 hs hb e1 e2 e3;exact⟨y,ρ',h1,q1,h3,h4,q2⟩)
  (fun W W'⟨c,ex,iS,ρ',h0,h2,h3,h4,h6,h5⟩hs hb e1 e2 e3=>by obtain⟨q1,q2⟩:=QJ _ _ _ W W' h2 h4 h5 hs hb e1 e2 e3;exact⟨c,ex,iS,ρ',h0,q1,h3,h4,h6,q2⟩)
  (fun k y W hk⟨z,ρ',h1,h2,h3,h4,h5⟩=>by
   have hr:=DZ k y z hk h1;have R9:=Bw (Rx _) (Ry _) (l:=w.heap.size+1) (n0:=0) (rec0:=rec0) (act:=act) (fn:=fn) (p:=p) (by rw[zs];exact⟨rfl,rfl,rfl,rfl,mJ,rfl,rfl⟩) h2 h5 h3
    (by have:=hI.ext.size;omega) hr
   obtain⟨f1,t1,a1,b1,hy,hR⟩:=R9;refine⟨f1,t1,a1,b1,hy,hR.mono fun e W' hp=>?_⟩
   obtain⟨ex,iS,ρ3,jump,hK,hIn,he,hl,hj,Y2,zt,dN⟩:=hp;have XI:∀b,b∈as.map (·.1)->pT ρ3 iS.mem b/\W'.heap[b]? =W.heap[b]? :=fun b hb=>by have aB:=QH b hb;have Bt:w.heap.size+1<W.heap.size:=(aaK.1 h5).1;exact Y2 b om om (h4 b hb)
   rcases hj with⟨rfl,rfl⟩|⟨rfl,rfl⟩|⟨id,rfl,rfl⟩
   .left;obtain⟨z',UD,UW⟩:=hK;obtain⟨ρ4,hIv,XJ⟩:=hIn.view lF UW;refine⟨he,⟨z',ρ4,UD,hIv,XJ _ zt,fun b hb=>XJ b (XI b hb).1,?_⟩,dN,fun a ha=>(XI a.1 (aaQ.2 ⟨a,ha,rfl⟩)).2⟩
    rw[hl,zs];rfl
   .right;exact⟨he,.ret,.ret,_,ρ3,hK,hIn,zt,fun b hb=>(XI b hb).1,.inl ⟨rfl,rfl⟩,hl⟩
   .right;exact⟨he,.exit id,.exit id,_,ρ3,hK,hIn,zt,fun b hb=>(XI b hb).1,.inr ⟨id,rfl,rfl⟩,hl⟩)
  ⟨x0,ρ2,hJ0,hId,QG _ Vo,fun b hb=>QG b (Vq b hb),hL1⟩
 refine⟨w.heap.size+1,[{target:= .collected w.heap.size,args:= #[]}],W1,{target:= .fn (.func gf) (qG as).toArray,args:= #[.func (.yield (w.heap.size+1)) #[] #[]]},W1,gf,
  #[.func (.yield (w.heap.size+1)) #[] #[]]++(qG as).toArray,W1,?_,?_,fun _ _=>trivial,?_,by simp[Fence.wide],?_⟩
 .rw[<-AU,zs];exact run_enterLoop_outer _ _ _ _ _
 .simp only[resolve,hv];simp[go_sem]
 .simp[invoke,callFunc,hgf,YX,YW]
 .refine main.mono fun e W' hp=>?_
  obtain⟨⟨v,rfl⟩,hp⟩:=hp;rcases hp with⟨y,ρ',h1,h2,h3,h4,h5⟩|⟨c,ex,iS,ρ',h0,h2,h3,h4,h6,h5⟩
  .refine⟨none,_,by have:=run_endLoop (P:=P) h5 (by rw[zs];simp);rw[zs]at this;exact this,?_⟩
   exact⟨.normal,S y,ρ',rfl,Vk y h1,h2.put h3 (by have:=hI.ext.size;omega) _⟩
  .refine⟨some c,_,by have:=run_endLoop (P:=P) h5 (by simp);exact this,?_⟩
   have Vr:=h2.put h3 (by have:=hI.ext.size;omega) (.loop {rec0 with state:= .exhausted,pending:=some c})
   rcases h6 with⟨rfl,rfl⟩|⟨id,rfl,rfl⟩
   .exact wpIn_ret ⟨.ret,iS,ρ',rfl,h0,Vr⟩
   .exact wpIn_exit ⟨.exit id,iS,ρ',rfl,h0,Vr⟩
end
section
variable {P:Program} {N:Nat} {ρ0:bQ} {m0:Mem} {w0:World}
theorem jV{f:Operand}{ps:Array Tmp}{x y:Code}{lc:LC}(h:dQ P (.rangeFunc f ps x y)=some lc):∃x' p la lb,lc= .xd x' p la lb:=by
 simp only[dQ,SR]at h;split at h
 case h_2=>cases h
 simp only[Q6]at h;obtain⟨lx,hx,ly,hy,h⟩:=h;split at h
 case isFalse=>cases h
 simp only[Q6]at h;obtain⟨x',_,h⟩:=h;cases h;exact⟨_,_,_,_,rfl⟩
theorem KV:∀(lc:LC)(r:Option Nat)(zu:r=none\/lc.qD=true)(N:Nat)(ρ0:bQ)(m0:Mem)(w0:World)(lF:ρ0.n=m0.length)(c:Code)(K:Ex->St->Prop)(st:St)(ρ:bQ)(a:Act)(w:World),
  dQ P c=some lc.er->aw P m0.length lc K st->Inv N ρ0 m0 w0 st ρ a w->c.wpIn (FR r) 0 P (zk N ρ0 m0 w0 K) a w:=by
 intro lc
 induction lc with
 |cu b ih=>
  intro r zu N ρ0 m0 w0 lF c K st ρ a w hl h hI;obtain⟨s',hv,h⟩:=h;obtain⟨ρ',pf⟩:=hI.Kl lF hv;exact ih r zu N ρ0 m0 w0 lF c K s' ρ' a w hl h pf
 |skip=>
  intro r zu N ρ0 m0 w0 lF c K st ρ a w hl h hI;cases c with
  |skip=>exact wpIn_skip ⟨_,st,ρ,rfl,h,hI⟩
  |region id ops bX=>cases bX<;>simp[dQ,LC.er,Q6]at hl
  |rangeFunc f ps ca cb=>obtain⟨_,_,_,_,e⟩:=jV hl;simp[LC.er]at e
  |_=>simp[dQ,LC.er,Q6]at hl
 |ai Y3=>
  intro r zu N ρ0 m0 w0 lF c K st ρ a w hl h hI;cases c with
  |region id ops bX=>
   cases bX with
   |true=>simp[dQ,LC.er,Q6]at hl
   |false=>
    simp only[dQ,LC.er,SR,Q6]at hl;obtain⟨b7,zq,hl⟩:=hl;cases hl;refine wpIn_region (iq (vo zq) Gk _ _ _ ?_);have:=vm (Q:=zk N ρ0 m0 w0 K) (K:=HA K) (fun a8 m ρ a w hK hI=>⟨_,_,ρ,rfl,hK,hI⟩) ops.toList 0 _ st.a8 st.mem ρ a w rfl zq h hI
    simpa[List.range_eq_range']using this
  |rangeFunc f ps ca cb=>obtain⟨_,_,_,_,e⟩:=jV hl;simp[LC.er]at e
  |_=>simp[dQ,LC.er,Q6]at hl
 |bX Y3 Yg=>
  intro r zu N ρ0 m0 w0 lF c K st ρ a w hl h hI;cases c with
  |region id ops bX=>
   cases bX with
   |true=>
    simp only[dQ,LC.er,SR,Q6]at hl;obtain⟨b7,zq,hl⟩:=hl;obtain⟨pH,hs,hl⟩:=hl;cases hl;refine wpIn_region_draw fun t=>iq (vo zq) Gk _ _ _ ?_
    exact zr (Q:=zk N ρ0 m0 w0 K) (K:=K) (fun a8 m ρ a w hK hI=>⟨_,_,ρ,rfl,hK,hI⟩) zq hs h hI t
   |false=>simp[dQ,LC.er,Q6]at hl
  |rangeFunc f ps ca cb=>obtain⟨_,_,_,_,e⟩:=jV hl;simp[LC.er]at e
  |_=>simp[dQ,LC.er,Q6]at hl
 |seq lx ly R1 KQ=>
  intro r zu N ρ0 m0 w0 lF c K st ρ a w hl h hI;cases c with
  |seq x y=>
   simp only[dQ,LC.er,SR,Q6,aag,LC.seq.injEq]at hl;obtain⟨lx',hx,ly',hy,rfl,rfl⟩:=hl;refine wpIn_seq (wpIn_mono (R1 r (zu.imp id fun h=>(acz.1 h).1) N ρ0 m0 w0 lF x _ st ρ a w hx h hI) fun e a' w' hp=>?_)
   obtain⟨ex,iS,ρ',he,hK,pf⟩:=hp;cases e<;>simp[Bo]at he<;>subst he
   .exact KQ r (zu.imp id fun h=>(acz.1 h).2) N ρ0 m0 w0 lF y K iS ρ' a' w' hy hK pf
   .exact⟨_,iS,ρ',rfl,hK,pf⟩
   .exact⟨_,iS,ρ',rfl,hK,pf⟩
  |region id ops bX=>cases bX<;>simp[dQ,LC.er,Q6]at hl
  |rangeFunc f ps ca cb=>obtain⟨_,_,_,_,e⟩:=jV hl;simp[LC.er]at e
  |_=>simp[dQ,LC.er,Q6]at hl
 |cond x0 ly0 lz0 KQ Y4=>
  intro r zu N ρ0 m0 w0 lF c K st ρ a w hl h hI;cases c with
  |cond x y z=>
   simp only[dQ,LC.er,SR,Q6,aag,LC.cond.injEq]at hl;obtain⟨x',hx,ly,hy,lz,hz,rfl,rfl,rfl⟩:=hl;have hd:=aR hI.a8 hx;simp only[aw]at h;split at h
   .rename_i t uc;rw[uc]at hd;have ht:=(bS hd).1;have qV:∀b,t=b->Rz x' (ax b) st.a8=st.a8:=fun b hb=>by
     subst hb;cases x' with
     |t n=>exact zn uc
     |c v=>rfl
    refine wpIn_cond ht ?_;rcases cE.1 h with⟨rfl,h⟩|⟨rfl,h⟩
    .simp only[eW,qV true rfl]at h;exact KQ r (zu.imp id fun h=>(acz.1 h).1) N ρ0 m0 w0 lF y K st ρ a w hy h hI
    .simp only[eW,qV false rfl]at h;exact Y4 r (zu.imp id fun h=>(acz.1 h).2) N ρ0 m0 w0 lF z K st ρ a w hz h hI
   .exact h.elim
  |region id ops bX=>cases bX<;>simp[dQ,LC.er,Q6]at hl
  |rangeFunc f ps ca cb=>obtain⟨_,_,_,_,e⟩:=jV hl;simp[LC.er]at e
  |_=>simp[dQ,LC.er,Q6]at hl
 |block id0 lb0 ih=>
  intro r zu N ρ0 m0 w0 lF c K st ρ a w hl h hI;cases c with
  |block id b=>
   simp only[dQ,LC.er,SR,Q6,aag,LC.block.injEq]at hl;obtain⟨lb,hb,rfl,rfl⟩:=hl;refine wpIn_block (wpIn_mono (ih r zu N ρ0 m0 w0 lF b _ st ρ a w hb h hI) fun e a' w' hp=>?_)
   obtain⟨ex,iS,ρ',he,hK,pf⟩:=hp;cases e<;>simp[Bo]at he<;>subst he
   .exact⟨_,iS,ρ',rfl,hK,pf⟩
   .rename_i jH;simp only[Dq]at hK;simp only[Exit.inBlock];rcases cE.1 hK with⟨hid,hK⟩|⟨hid,hK⟩
    .rw[if_pos (Z2 hid)];exact⟨_,iS,ρ',rfl,hK,pf⟩
    .rw[if_neg (acx hid)];exact⟨_,iS,ρ',rfl,hK,pf⟩
   .exact⟨_,iS,ρ',rfl,hK,pf⟩
  |region id ops bX=>cases bX<;>simp[dQ,LC.er,Q6]at hl
  |rangeFunc f ps ca cb=>obtain⟨_,_,_,_,e⟩:=jV hl;simp[LC.er]at e
  |_=>simp[dQ,LC.er,Q6]at hl
 |loop lb0 ih=>
  intro r zu N ρ0 m0 w0 lF c K st ρ a w hl h hI;cases c with
  |loop b=>
   simp only[dQ,LC.er,SR,Q6,aag,LC.loop.injEq]at hl;obtain⟨lb,hb,rfl⟩:=hl;obtain⟨α,J,S,μ,⟨a1,hJ1,XK⟩,DZ⟩:=h;obtain⟨ρ1,YQ⟩:=hI.Kl lF XK;refine uf (γ:=α) (I:=fun x a w=>J x/\∃ρ,Inv N ρ0 m0 w0 (S x) ρ a w) (μ:=μ) a1 ⟨hJ1,ρ1,YQ⟩ fun x a w⟨hJ,ρ,hI⟩=>?_
   refine wpIn_mono (ih r zu N ρ0 m0 w0 lF b _ (S x) ρ a w hb (DZ x hJ) hI) fun e a' w' hp=>?_
   obtain⟨ex,iS,ρ',he,hK,pf⟩:=hp;cases e<;>simp[Bo]at he<;>subst he
   .obtain⟨x3,hJ3,aB,hw3⟩:=hK;obtain⟨ρ3,YR⟩:=pf.Kl lF hw3;exact⟨x3,⟨hJ3,ρ3,YR⟩,aB⟩
   .exact⟨_,iS,ρ',rfl,hK,pf⟩
   .exact⟨_,iS,ρ',rfl,hK,pf⟩
  |region id ops bX=>cases bX<;>simp[dQ,LC.er,Q6]at hl
  |rangeFunc f ps ca cb=>obtain⟨_,_,_,_,e⟩:=jV hl;simp[LC.er]at e
  |_=>simp[dQ,LC.er,Q6]at hl
 |exit id0=>
  intro r zu N ρ0 m0 w0 lF c K st ρ a w hl h hI;cases c with
  |exit id=>
   simp[dQ,LC.er]at hl;subst hl;exact wpIn_exit ⟨_,st,ρ,rfl,h,hI⟩
  |region id ops bX=>cases bX<;>simp[dQ,LC.er,Q6]at hl
  |rangeFunc f ps ca cb=>obtain⟨_,_,_,_,e⟩:=jV hl;simp[LC.er]at e
  |_=>simp[dQ,LC.er,Q6]at hl
 |ret=>
  intro r zu N ρ0 m0 w0 lF c K st ρ a w hl h hI;cases c with
  |ret=>exact wpIn_ret ⟨_,st,ρ,rfl,h,hI⟩
  |region id ops bX=>cases bX<;>simp[dQ,LC.er,Q6]at hl
  |rangeFunc f ps ca cb=>obtain⟨_,_,_,_,e⟩:=jV hl;simp[LC.er]at e
  |_=>simp[dQ,LC.er,Q6]at hl
 |xd x0 p la0 lb0 Rx Ry=>
  intro r zu N ρ0 m0 w0 lF c K st ρ a w hl h hI;have hr0:r=none:=zu.resolve_right (by simp[LC.qD])
  subst hr0;cases c with
  |rangeFunc f ps ca cb=>
   simp only[dQ,LC.er,SR]at hl;split at hl
   case h_2=>cases hl
   rename_i p' mJ;simp only[Q6]at hl;obtain⟨la,hla,lb,YY,hl⟩:=hl;split at hl
   case isFalse=>cases hl
   rename_i jc;simp only[Q6,aag,LC.xd.injEq]at hl;obtain⟨x',hx,rfl,rfl,rfl,rfl⟩:=hl;rw[ZM,Gl,Gl]at jc;exact DY lF (by apply ab4;simpa using mJ) hx (fun l ρ0 m0 w0 K st ρ a w hM h hI=>Rx (some l) (.inr jc.1) 0 ρ0 m0 w0 hM ca K st ρ a w hla h hI)
    (fun l ρ0 m0 w0 K st ρ a w hM h hI=>Ry (some l) (.inr jc.2) 0 ρ0 m0 w0 hM cb K st ρ a w YY h hI) h hI
  |region id ops bX=>cases bX<;>simp[dQ,LC.er,Q6]at hl
  |_=>simp[dQ,LC.er,Q6]at hl
def sn(tmps:Array Value):ResultVar->Sem Value
 | .tmp t=>pure (tmps.getD t Go.undef)
 | .cell ad t=>do loadVar t (<-asAddr (tmps.getD ad Go.undef))
theorem D0(fn:Func)(tmps:Array Value):results fn tmps=(do let vs<-fn.results.mapM (sn tmps);pure (if h:vs.size=1 then vs[0]else .tuple vs)):=by
 unfold results;have e:(fun(r:ResultVar)=>match r with
  | .tmp t=>(pure (tmps.getD t Go.undef):Sem Value)
  | .cell ad t=>do loadVar t (<-asAddr (tmps.getD ad Go.undef)))=sn tmps:=by
  funext r;cases r<;>rfl
 rw[<-e];rfl
theorem pU:∀{rs:List ResultVar}{H3:List Rv},nT P rs=some H3->∀{st:St}{ρ:bQ}{a:Act}{w:World}{K:List RV->Prop},
  aL ρ st.mem w->bm ρ w st.a8 a.tmps->A6 P st H3 K->
  ∃(vs:List RV)(us:List Value),K vs/\(rs.mapM (sn a.tmps)).run P w= .ok us w/\
   us.length=vs.length/\∀(i:Nat)r,vs[i]? =some r->∃u,us[i]? =some u/\dP ρ w r u
 | [],H3,h,st,ρ,a,w,K,hM,hE,hr=>by simp[nT]at h;subst h;exact⟨[],[],hr,rfl,rfl,aG⟩
 | .tmp t::r,H3,h,st,ρ,a,w,K,hM,hE,hr=>by
  simp only[nT,SR,Q6]at h;obtain⟨r',Y5,h⟩:=h;cases h;simp only[A6]at hr;obtain⟨v,hv,hr⟩:=bh.1 hr;obtain⟨vs,us,hK,dO,hlen,cw⟩:=pU Y5 hM hE hr;have hd:=hE.get t;have TZ:jQ st.a8 t= .rv v:=by
   cases hg:jQ st.a8 t<;>rw[hg]at hv<;>simp[Dj]at hv
   rw[hv]
  rw[TZ]at hd;refine⟨v::vs,a.tmps.getD t Go.undef::us,hK,?_,by simp[hlen],fun i r hi=>?_⟩
  .rw[List.mapM_cons,Sem.run_bind];simp only[sn,Sem.run_pure,Result.andThen_ok];rw[Sem.run_bind,dO];rfl
  .cases i with
   |zero=>simp at hi;subst hi;exact⟨_,aG,hd⟩
   |succ i=>simpa using cw i r (by simpa using hi)
 | .cell ad t::r,H3,h,st,ρ,a,w,K,hM,hE,hr=>by
  simp only[nT,SR,Q6]at h;obtain⟨agg,ha,n,hn,r',Y5,h⟩:=h;cases h;simp only[A6]at hr;obtain⟨addr,u,cv,hv,Vs,Vm,cz⟩:=tn hM ha hn hr (hE.get ad);obtain⟨v,zg,hr⟩:=bh.1 Vm;obtain⟨vs,us,hK,dO,hlen,cw⟩:=pU Y5 hM hE hr;have TZ:cv= .rv v:=by
   cases cv<;>simp[Dj]at zg
   rw[zg]
  subst TZ;refine⟨v::vs,u::us,hK,?_,by simp[hlen],fun i r hi=>?_⟩
  .rw[List.mapM_cons,Sem.run_bind];simp only[sn,hv,asAddr,Sem.run_bind,Sem.run_pure,Result.andThen_ok,Vs];rw[dO];rfl
  .cases i with
   |zero=>simp at hi;subst hi;exact⟨_,aG,cz⟩
   |succ i=>simpa using cw i r (by simpa using hi)
theorem xq{fn:Func}{rs:List Rv}(h:nT P fn.results.toList=some rs){st:St}{ρ:bQ}{a:Act}{w:World}{K:CV->Prop}(hM:aL ρ st.mem w)(hE:bm ρ w st.a8 a.tmps)(hr:A6 P st rs fun vs=>K (RB vs)):∃v r,(results fn a.tmps).run P w= .ok v w/\K r/\cm ρ w r v:=by
 obtain⟨vs,us,hK,dO,hlen,cw⟩:=pU h hM hE hr;have xS:(fn.results.mapM (sn a.tmps)).run P w= .ok us.toArray w:=by rw[Array.mapM_eq_mapM_toList,Sem.run_map,dO];rfl
 rw[D0,Sem.run_bind,xS];refine⟨_,_,rfl,hK,?_⟩
 match vs,us,hlen,cw with
 | [r],[u],_,cw=>
  obtain⟨u',hu,hd⟩:=cw 0 r aG;simp at hu;subst hu;exact hd
 | [],[],_,cw=>exact⟨[],rfl,rfl,aG⟩
 |r1::r2::rs,u1::u2::us,hlen,cw=>
  refine⟨u1::u2::us,?_,hlen,cw⟩;simp
theorem mS{f:Nat}{fn:Func}{lf:LF}{args:List CV}{m:Mem}{K:CV->Mem->Prop}(hf:P.funcs[f]? =some fn)(hl:bx P fn=some lf.er)(hn:(fn.name== "runtime.NumGoroutine")=false)(hle:args.length<=lf.n)(h:body P lf args m K):au P f args m K:=by
 simp only[bx,LF.er,SR,Q6,aag,LF.mk.injEq]at hl;obtain⟨rs,R9,c,hc,lc0,rP,pQ,Y6,Vt⟩:=hl;subst Vt Y6;obtain⟨lfn,lfr,lc⟩:=lf;simp only at pQ R9 rP;subst pQ;refine⟨⟨fn,hf,by simp[hc],hn⟩,fun ρ w vs hM hlen cw=>?_⟩
 simp only[body,eW,ik,b9,fG]at h;simp only at hle;have hI:Inv w.heap.size ρ m w ⟨args++List.replicate (fn.ntmps-args.length) .undef,m⟩ ρ {tmps:=vs.toArray++Array.replicate (fn.ntmps-vs.toArray.size) Go.undef,defers:=[]} w:=by
  refine⟨Ext.refl _ _ _,hM,⟨by simp[hlen],fun i c hi=>?_⟩,DR.nil,SS _,SS _⟩
  rcases ZX i args.length with aB|ew
  .rw[ZY aB]at hi;obtain⟨v,hv,hd⟩:=cw i c hi;refine⟨v,?_,hd⟩;rw[acn (by simp[hlen];exact aB)]
   simpa using hv
  .rw[ZW ew,acK]at hi;split at hi
   .rename_i aB;cases hi;refine⟨Go.undef,?_,rfl⟩;rw[Array.getElem?_append_right (by simp[hlen];exact ew),Array.getElem?_replicate,if_pos (by simp[hlen];exact aB)]
   .cases hi
 refine(callsIn_wide (n:=0)).1 (callsIn_of_wp_marks (F:=Fence.wide) hf hc trivial (wpIn_mono (KV lc none (.inl rfl) _ ρ m w hM.n c _ _ ρ _ w rP h hI) fun e a' w' hp=>?_))
 obtain⟨ex,iS,ρ',he,hK,pf⟩:=hp;have iC:A6 P iS lfr (fun vs=>K (RB vs) iS.mem)->LeavesInM Fence.wide 0 P fn a'.tmps (fun e w'=>∃Vu r m' ρ',e=Ending.returned Vu/\K r m'/\aL ρ' m' w'/\cm ρ' w' r Vu/\Ext ρ m w ρ' m' w') a'.defers .returning w':=fun hr=>by
  obtain⟨Ds,h1,h2,h3⟩:=pf.defers;rw[h1];refine q8 rfl Ds w' h2 h3 pf.mem pf.a8 pf.ext fun w2 DX C8 XG=>?_
  obtain⟨v,r,dO,hKr,hd⟩:=xq (K:=fun r=>K r iS.mem) R9 DX C8 hr
  exact⟨v,dO,v,r,iS.mem,ρ',rfl,hKr,DX,hd,XG⟩
 cases e<;>simp[Bo]at he<;>subst he
 .exact iC hK
 .exact hK.elim
 .exact iC hK
theorem Oz:∀(c:Code)(lc:LC),dQ P c=some lc->lc.er=lc:=by
 intro c
 induction c with
 |skip=>intro lc h;simp[dQ]at h;subst h;rfl
 |region id ops bX=>
  intro lc h;cases bX with
  |true=>
   simp only[dQ,SR,Q6]at h;obtain⟨b7,_,Yg,_,h⟩:=h;cases h;rfl
  |false=>
   simp only[dQ,SR,Q6]at h;obtain⟨b7,_,h⟩:=h;cases h;rfl
 |seq x y R1 KQ=>
  intro lc h;simp only[dQ,SR,Q6]at h;obtain⟨lx,hx,ly,hy,h⟩:=h;cases h;simp only[LC.er,R1 lx hx,KQ ly hy]
 |cond x y z KQ Y4=>
  intro lc h;simp only[dQ,SR,Q6]at h;obtain⟨x',_,ly,hy,lz,hz,h⟩:=h;cases h;simp only[LC.er,KQ ly hy,Y4 lz hz]
 |block id b ih=>
  intro lc h;simp only[dQ,SR,Q6]at h;obtain⟨lb,hb,h⟩:=h;cases h;simp only[LC.er,ih lb hb]
 |loop b ih=>
  intro lc h;simp only[dQ,SR,Q6]at h;obtain⟨lb,hb,h⟩:=h;cases h;simp only[LC.er,ih lb hb]
 |exit id=>intro lc h;simp[dQ]at h;subst h;rfl
 |ret=>intro lc h;simp[dQ]at h;subst h;rfl
 |rangeFunc f ps x y R1 KQ=>
  intro lc h;simp only[dQ,SR]at h;split at h
  case h_2=>cases h
  simp only[Q6]at h;obtain⟨lx,hx,ly,hy,h⟩:=h;split at h
  case isFalse=>cases h
  simp only[Q6]at h;obtain⟨x',_,h⟩:=h;cases h;simp only[LC.er,R1 lx hx,KQ ly hy]
 |_=>intro lc h;simp[dQ]at h
theorem vq{f:Nat}{fn:Func}{lf:LF}{args:List CV}{m:Mem}{K:CV->Mem->Prop}(hf:P.funcs[f]? =some fn)(hl:bx P fn=some lf)(hn:(fn.name== "runtime.NumGoroutine")=false)(hle:args.length<=lf.n)(h:body P lf args m K):au P f args m K:=by
 refine mS hf ?_ hn hle h;have XH:=hl;simp only[bx,SR,Q6]at hl;obtain⟨rs,R9,c,hc,lc,rP,hl⟩:=hl;cases hl;rw[XH];simp only[LF.er,Oz c lc rP]
end
end Go.AM
