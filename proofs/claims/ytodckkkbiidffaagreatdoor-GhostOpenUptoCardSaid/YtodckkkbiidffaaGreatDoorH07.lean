/- Part 7 of 16. -/
import Derived.Test.YtodckkkbiidffaaGreatDoorH06
import Derived.Orders
set_option linter.unusedVariables false
set_option linter.unusedSimpArgs false
set_option maxRecDepth 100000
set_option maxHeartbeats 0
namespace Go.AM
section
variable {P:Program}
def LO.jV(lo:LO)(e:List CV):Option Bool:=
 match lo.guard with
 |none=>some true
 |some (s,jV)=>match kp e s with
  | .undef=>some false
  | .rv (.one (.ah (.val (.bool t))))=>some (t==jV)
  |_=>none
theorem gD{lo:LO}{e:List CV}{m:Mem}{K:List CV->CV->Mem->Prop}:
  nU P lo e m K↔(lo.jV e=some true/\step P lo.BU e m (K e))\/(lo.jV e=some false/\K e .undef m):=by
 unfold nU LO.jV;cases hg:lo.guard with
 |none=>simp[fe]
 |some p=>
  obtain⟨s,jV⟩:=p;simp only;generalize ek:kp e s=c;split
  .simp
  .rename_i t;have h1:∀b,t=b->aW e s (aE b)=e:=λb hb=>by subst hb;exact AD ek
   rw[cf];cases t
   .simp only[fe,h1 false rfl];cases jV<;>simp
   .simp only[fe,h1 true rfl];cases jV<;>simp
  .rename_i n1 n2;have:∀b,¬(match c with
     |CV.undef=>some false
     |CV.rv (RV.one (CC.ah (Dt.val (Value.bool t))))=>some (t==jV)
     |x=>none)=some b:=by
    intro b hb;split at hb
    .exact n1 rfl
    .exact n2 _ rfl
    .cases hb
   constructor
   .exact λh=>h.elim
   .rintro(⟨h,_⟩|⟨h,_⟩)<;>exact this _ h
def yw(d:Option Nat)(v:CV)(e:List CV):List CV:=
 match d with
 |none=>e
 |some d=>e.set d v
theorem rK{d:Option Nat}{v:CV}{e:List CV}{K:List CV->Prop}:put d v e K↔K (yw d v e):=by
 rw[L5];cases d<;>rfl
variable {N:Nat} {ρ0:bG} {m0:Mem} {w0:World}
theorem Inv.drew{st:St}{ρ:bG}{a:Act}{w:World}(h:Inv N ρ0 m0 w0 st ρ a w):Inv N ρ0 m0 w0 st ρ a {w with drawn:=w.drawn+1}:=by
 obtain⟨x,M,E,d,hN,n⟩:=h;have g:iA ρ w ρ {w with drawn:=w.drawn+1}:=⟨T5 _,λ_ _=>rfl,λ_ h=>h,λ_ _=>rfl⟩
 have e:Ext ρ st.mem w ρ st.mem {w with drawn:=w.drawn+1}:=⟨T5 _,λ_ _=>rfl,λ_ h=>h,λ_ h=>.inl h,λk h=>.inr ⟨k,h,rfl⟩,λ_ _ _=>rfl,T5 _,rfl,rfl,rfl⟩
 have hc:∀{mk:Prop}b cur,mf mk w b cur->mf mk {w with drawn:=w.drawn+1} b cur:=λ{mk}b cur hc=>hc.dB rfl
 refine⟨x.trans e,?_,?_,d,hN,n⟩
 .refine⟨M.n,M.S,M.aP,M.inj,λid b hb=>?_,λid i j esz el ho bc=>?_⟩
  .have h1:=M.bk id b hb;cases b with
   |aR=>trivial
   |var cs=>
    obtain⟨cur,bW,h2⟩:=h1;exact⟨cur,hc _ _ bW,λj c hj=>let⟨u,hu,hd⟩:=h2 j c hj;⟨u,hu,bi.ce g aC hd⟩⟩
   |row esz elems=>
    obtain⟨h2,h3,h4,h5,h6⟩:=h1;refine⟨h2,h3,h4,h5,λhp=>?_⟩
    obtain⟨cur,bW,h7,h8⟩:=h6 hp;exact⟨cur,hc _ _ bW,h7,λi cs j c hi hj=>let⟨u,hu,hd⟩:=h8 i cs j c hi hj;⟨u,hu,bi.ce g (by intro j9 i' j' e';cases e';rw[M.n];exact(JJ.1 hb).1) hd⟩⟩
   |mp es=>
    obtain⟨br,ck,h2,h3,h4⟩:=h1;exact⟨br,ck,h2,h3,λi e he=>let⟨e',mD,hk,hd⟩:=h4 i e he;⟨e',mD,hk,df.ce g hd⟩⟩
   |it cur left=>exact h1
   |mo esz es so=>exact cI.ce (bk:= .mo esz es so) g (by rw[M.n];exact(JJ.1 hb).1) (λ_ _=>rfl) h1
   |iw mid gZ seen=>exact h1
  .obtain⟨cur,bW,h2,h3,h4⟩:=M.d5 id i j esz el ho bc;exact⟨cur,hc _ _ bW,h2,h3,λi cs j d hi hj=>let⟨u,hu,hd⟩:=h4 i cs j d hi hj;⟨u,hu,de.mono (S:=ρ.S) (S':=ρ.S) (w:=w) (w':={w with drawn:=w.drawn+1}) (λ_ h=>h) (λ_ _=>rfl) hd⟩⟩
 .exact⟨E.size,λi c hi=>let⟨v,hv,hd⟩:=E.jD i c hi;⟨v,hv,bZ.ce g hd⟩⟩
theorem zd{ops:Array Oper}{k:Nat}{o:Oper}{lo:LO}{aX:List CV}{m:Mem}{ρ:bG}{a:Act}{w:World}{K:CV->Mem->Prop}{K1:Act->World->Prop}{Q:Exit->Act->World->Prop}(ho:ops[k]? =some o)(ia:vV P ops o=some lo)(hI:Inv N ρ0 m0 w0 ⟨aX,m⟩ ρ a w)(h:nU P lo aX m λ_ v m'=>K v m')(hn:∀v m' U' a' w',K v m'->Inv N ρ0 m0 w0 ⟨yw lo.dst v aX,m'⟩ U' a' w'->K1 a' w'):wpOp P ops Q k K1 a w:=by
 simp only[vV,T3,OJ]at ia;obtain⟨i,hi,g,hg,ia⟩:=ia;cases ia;unfold wpOp;rw[ho];simp only;have RD:∀b,LO.jV ⟨o.dst,i,g⟩ aX=some b->Region.wanted o (yielded ops a.tmps)=b:=by
  intro b hb;unfold LO.jV at hb;cases L8:o.guard with
  |none=>
   rw[L8]at hg;simp[Lq]at hg;subst hg;simp at hb;subst hb;simp[Region.wanted,L8]
  |some jb=>
   obtain⟨j,jV⟩:=jb;rw[L8]at hg;simp only[Lq,T3,OJ]at hg;obtain⟨oj,ZB,s,hs,hg⟩:=hg;cases hg;have hy:yielded ops a.tmps j=match a.tmps[s]? with|some (.bool b)=>some b|_=>none:=by simp[yielded,ZB,hs];rfl
   simp only at hb;split at hb
   .rename_i ek;have cg:=hI.aX.get s;rw[ek]at cg;have hu:a.tmps[s]? =some Go.undef\/a.tmps[s]? =none:=by
     simp only[bZ,abO]at cg;cases ht:a.tmps[s]? with
     |none=>exact .inr rfl
     |some v=>rw[ht]at cg;simp at cg;exact .inl (by rw[cg])
    cases hb;simp only[Region.wanted,L8,hy];rcases hu with hu|hu<;>rw[hu]<;>rfl
   .rename_i t ek;have cg:=hI.aX.get s;rw[ek]at cg;have ht:a.tmps[s]? =some (.bool t):=by
     have:=(bC cg).1;rw[abO]at this;cases ht:a.tmps[s]? with
     |none=>rw[ht]at this;cases this
     |some v=>rw[ht]at this;simp at this;rw[this]
    simp at hb;simp[Region.wanted,L8,hy,ht,hb]
   .cases hb
 rcases gD.1 h with⟨hw,hs⟩|⟨hw,hs⟩
 .rw[if_pos (RD _ hw)];refine .inl (Cy (K:=λe' m'=>∃v,e'=yw o.dst v aX/\K v m') hi hI (zc hs λv m' hk=>rK.2 ⟨v,rfl,hk⟩) λfD m' U' a' w'⟨v,he,hk⟩pO=>?_)
  subst he;exact hn v m' U' a' w' hk pO
 .rw[if_neg (by simp[RD _ hw])]
  obtain⟨fD,K2,pO⟩:=hI.step (d:=o.dst) (c:= .undef) (v:=Go.undef) (K:=λe=>e=yw o.dst .undef aX) hI.mem rfl (Ext.refl _ _ _) (rK.2 rfl)
  subst K2;exact hn _ _ _ _ _ hs pO
theorem uO{lo:LO}{e e':List CV}{m:Mem}{K:CV->Mem->Prop}(hx:∀t,t∈lo.looks->kp e t=kp e' t)(h:nU P lo e m λ_ v m'=>K v m'):
  nU P lo e' m λ_ v m'=>K v m':=by
 rw[gD]at h|-;have hs:∀t,t∈lQ lo.BU.xs->kp e t=kp e' t:=λt ht=>hx t (by unfold LO.looks;split<;>simp[ht])
 have hw:lo.jV e=lo.jV e':=by
  unfold LO.jV;cases hg:lo.guard with
  |none=>rfl
  |some p=>simp only[hx p.1 (by unfold LO.looks;rw[hg];simp)]
 have y8:∀(xs:List X)(x:X),x∈xs->∀n,x= .t n->n∈lQ xs:=by
  intro xs
  induction xs with
  |nil=>intro x hx;cases hx
  |cons y r ih=>
   intro x hx n hn;subst hn;cases y with
   |t k=>
    simp only[lQ,aaB];rcases aaB.1 hx with h|h
    .cases h;exact .inl rfl
    .exact .inr (ih _ h n rfl)
   |c v=>
    simp only[lQ];rcases aaB.1 hx with h|h
    .cases h
    .exact ih _ h n rfl
 have Rt:∀x,x∈lo.BU.xs->x.ev e=x.ev e':=λx hx=>by
  cases x with
  |t n=>exact hs n (y8 _ _ hx n rfl)
  |c v=>rfl
 rw[<-hw];rcases h with⟨h1,h2⟩|h
 .exact .inl ⟨h1,EY Rt h2⟩
 .exact .inr h
def QV(P:Program)(lo:LO)(e:List CV)(m:Mem)(v:CV):Prop:=nU P lo e m λ_ v' m'=>v'=v/\m'=m
theorem uP{lo:LO}(hq:tf lo.BU=true){e:List CV}{m:Mem}{K:List CV->CV->Mem->Prop}(h:nU P lo e m K):∃v,K e v m/\QV P lo e m v:=by
 rcases gD.1 h with⟨h1,h2⟩|⟨h1,h2⟩
 .obtain⟨v,hv,fN⟩:=EX hq h2;exact⟨v,hv,gD.2 (.inl ⟨h1,fN _ ⟨rfl,rfl⟩⟩)⟩
 .exact⟨_,h2,gD.2 (.inr ⟨h1,rfl,rfl⟩)⟩
theorem QV.pure{lo:LO}(hq:yO lo.BU=true){e:List CV}{m:Mem}{v:CV}(h:QV P lo e m v)(m':Mem):QV P lo e m' v:=by
 rcases gD.1 h with⟨h1,h2⟩|⟨h1,h2⟩
 .obtain⟨v',hv,fN⟩:=I4 hq h2;exact gD.2 (.inl ⟨h1,fN m' _ ⟨hv.1,rfl⟩⟩)
 .exact gD.2 (.inr ⟨h1,h2.1,rfl⟩)
end
section
variable {P:Program}
def Edge(gT:List (List Nat))(i j:Nat):Prop:=∃l,gT[i]? =some l/\j∈l
def Td(gT:List (List Nat))(L:Nat->Prop):Prop:=∀i j,Edge gT i j->L i->L j
def Te(gT:List (List Nat))(i j:Nat):Prop:=∀L,Td gT L->(∀k,Edge gT i k->L k)->L j
theorem rL{c6:List Nat}{t:Nat}:∀{l:List Nat},Nat.testBit (Aj c6 l) t=true->
  ∃j,j∈l/\(t=j\/Nat.testBit ((cD c6 j).getD 0) t=true)
 | [],h=>by simp[Aj]at h
 |j::r,h=>by
  simp only[Aj,List.foldr_cons]at h;have h1:∀a b:Nat,Nat.testBit (Nat.lor a b) t=(Nat.testBit a t||Nat.testBit b t):=λa b=>Nat.testBit_or a b t
  rw[h1,h1]at h;simp only[ab8]at h;rcases h with h|h|h
  .obtain⟨k,hk,hr⟩:=rL (l:=r) h;exact⟨k,by simp[hk],hr⟩
  .refine⟨j,aC,.inl ?_⟩;have:Nat.shiftLeft 1 j=2^j:=by show 1<<<j=2^j;rw[Nat.shiftLeft_eq];simp
   rw[this,Nat.testBit_two_pow]at h;simpa using(of_decide_eq_true h).symm
  .exact⟨j,aC,.inr h⟩
def Mb(gT:List (List Nat))(c6:List Nat):Prop:=∀(i j:Nat),Nat.testBit ((cD c6 i).getD 0) j=true->Te gT i j
theorem Cz{gT:List (List Nat)}{c6:List Nat}(h:Mb gT c6):Mb gT (Eu gT c6):=by
 intro i j hb;rw[aT,Eu,Sf]at hb;cases hl:gT[i]? with
 |none=>rw[hl]at hb;simp at hb
 |some l=>
  rw[hl]at hb;simp only[aax,abH]at hb;obtain⟨k,hk,hr⟩:=rL hb;have he:Edge gT i k:=⟨l,hl,hk⟩;rcases hr with rfl|hr
  .exact λL _ hL=>hL _ he
  .exact λL hd hL=>h k j hr L hd λk' fS=>hd _ _ fS (hL _ he)
theorem uQ{gT:List (List Nat)}:∀(k:Nat){c6:List Nat},Mb gT c6->Mb gT (Ak gT k c6)
 |0,_,h=>h
 |k+1,c6,h=>by
  simp only[Ak];split
  .exact h
  .exact uQ k (Cz h)
theorem I5{n:Nat}{gT:List (List Nat)}:Mb gT (bl n gT):=uQ n λi j hb=>by simp[cD]at hb
theorem wz{gT:List (List Nat)}{n:Nat}{L:Nat->Prop}(jX:∀i,i<n->¬L i->∃j,Edge gT i j/\¬L j):
  ∀(l bf:List Nat),yP gT n bf l=true->(∀i,i∈bf->L i)->∀i,i<n->L i
 | [],bf,h,hb,i,hi=>by
  simp only[yP,abA]at h;exact hb i (by simpa using h i (by simpa using hi))
 |x::r,bf,h,hb,i,hi=>by
  simp only[yP,aac,abA]at h;refine wz jX r (x::bf) h.2 (λk hk=>?_) i hi
  rcases aaB.1 hk with e|hk
  .rw[e];by_cases h1:L x
   .exact h1
   .obtain⟨j,⟨l,hl,hj⟩,hnj⟩:=jX x (by have:=h.1.1;rwa [abW]at this) h1
    refine absurd (hb j ?_) hnj;have:=h.1.2 j (by rw[aT,hl];exact hj)
    simpa using this
  .exact hb k hk
variable {bS:List LO} {ms:List Nat} {n:Nat} {e0:List CV} {gT:List (List Nat)}
structure lZ(bS:List LO)(e0:List CV)(S:Nat->Prop)(val:Nat->CV)(e:List CV):Prop where
 len:e.length=e0.length
 on:∀t k,S k->dg bS t k=true->t<e0.length->e[t]? =some (val k)
 off:∀t,(∀k,S k->dg bS t k=false)->e[t]? =e0[t]?
theorem kX{t k:Nat}:dg bS t k=true↔∃lo,cD bS k=some lo/\lo.dst=some t:=by
 unfold dg;cases cD bS k with
 |none=>simp
 |some lo=>
  cases hd:lo.dst with
  |none=>simp[hd]
  |some d=>simp[hd]
theorem lZ.step{S:Nat->Prop}{val:Nat->CV}{e:List CV}(h:lZ bS e0 S val e){i:Nat}{lo:LO}(hi:cD bS i=some lo)(hu:∀t k,S k->lo.dst=some t->dg bS t k=false){v:CV}{jq:Nat->CV}(hv:jq i=v)(jM:∀k,S k->jq k=val k){S':Nat->Prop}(hS:∀k,S' k↔S k\/k=i):lZ bS e0 S' jq (yw lo.dst v e):=by
 have hw:∀t,dg bS t i=true↔lo.dst=some t:=λt=>by rw[kX];simp[hi]
 refine⟨?_,λt k hk BY aD=>?_,λt fN=>?_⟩
 .unfold yw;split<;>simp[h.len]
 .rcases(hS k).1 hk with hk|rfl
  .have du:lo.dst≠some t:=λhd=>by rw[hu t k hk hd]at BY;cases BY
   rw[jM k hk,<-h.on t k hk BY aD];unfold yw;cases hd:lo.dst with
   |none=>rfl
   |some d=>
    simp only;rw[Xg];rintro rfl;exact du hd
  .have hd:=(hw t).1 BY;rw[hd,hv];simp only[yw];rw[SC (by rw[h.len];exact aD)]
 .have du:lo.dst≠some t:=λhd=>by have:=fN i ((hS i).2 (.inr rfl));rw[(hw t).2 hd]at this;cases this
  rw[<-h.off t λk hk=>fN k ((hS k).2 (.inl hk))]
  unfold yw;cases hd:lo.dst with
  |none=>rfl
  |some d=>
   simp only;rw[Xg];rintro rfl;exact du hd
theorem lZ.V3{S S':Nat->Prop}{val jq:Nat->CV}{e:List CV}(h:lZ bS e0 S val e)(jM:∀k,S k->jq k=val k)(hS:∀k,S' k↔S k):lZ bS e0 S' jq e:=
 ⟨h.len,λt k hk hw hl=>by rw[jM k ((hS k).1 hk)];exact h.on t k ((hS k).1 hk) hw hl,λt fN=>h.off t λk hk=>fN k ((hS k).2 hk)⟩
theorem lZ.ext{S:Nat->Prop}{val:Nat->CV}{e e':List CV}(h:lZ bS e0 S val e)(h':lZ bS e0 S val e'):e=e':=by
 refine abN λt=>?_
 by_cases hex:∃k,S k/\dg bS t k=true
 .obtain⟨k,hk,hw⟩:=hex;rcases aaf t e0.length with aD|ek
  .rw[h.on t k hk hw aD,h'.on t k hk hw aD]
  .rw[aaz (by rw[h.len];exact ek),aaz (by rw[h'.len];exact ek)]
 .have:∀k,S k->dg bS t k=false:=λk hk=>by
   cases hw:dg bS t k with
   |false=>rfl
   |true=>exact absurd ⟨k,hk,hw⟩ hex
  rw[h.off t this,h'.off t this]
def Agree(bS:List LO)(ms:List Nat)(e0:List CV)(bf:List Nat)(val:Nat->CV)(j:Nat)(e1:List CV):Prop:=
 e1.length=e0.length/\∀t,t∈oA bS j->t<e0.length->
  (∃k,k∈bf/\dg bS t k=true/\nz ms j k=true/\e1[t]? =some (val k))\/
  ((∀k,k∈bf->dg bS t k=true->k=j\/nz ms k j=true)/\e1[t]? =e0[t]?)
theorem Agree.Yi{bf:List Nat}{val:Nat->CV}{j:Nat}{e1 aX:List CV}{L:Nat->Prop}(h:Agree bS ms e0 bf val j e1)(hE:lZ bS e0 L val aX)(BZ:∀i j,nz ms i j=true->Te gT i j)(hd:Td gT L)(iC:∀i,L i->i∈bf)(hj:¬L j)(hr:∀k,Edge gT j k->L k):
  ∀t,t∈oA bS j->kp e1 t=kp aX t:=by
 intro t ht;rw[lS,lS];rcases aaf t e0.length with aD|ek
 .rcases h.2 t ht aD with⟨k,hk,hw,hm,he⟩|⟨fN,he⟩
  .rw[he,hE.on t k (BZ _ _ hm L hd hr) hw aD]
  .rw[he,hE.off t λk hk=>?_]
   cases hw:dg bS t k with
   |false=>rfl
   |true=>
    rcases fN k (iC k hk) hw with rfl|hm
    .exact absurd hk hj
    .exact absurd (BZ _ _ hm L hd λk' fS=>hd _ _ fS hk) hj
 .rw[aaz (by rw[h.1];exact ek),aaz (by rw[hE.len];exact ek)]
structure DS(P:Program)(bS:List LO)(ms:List Nat)(n:Nat)(gT:List (List Nat))(e0:List CV)(K:List CV->Mem->Prop)(L:Nat->Prop)(bf:List Nat)(c:Bool)(R:nt)(val:Nat->CV)(d7:List (Nat×LO×List CV×CV))(e aX:List CV)(m:Mem):Prop where
 go:dX bS ms n c bf R=true
 V4:u5 P bS R d7 K e m
 rM:lZ bS e0 (·∈bf) val e
 yx:lZ bS e0 L val aX
 sub:∀i,L i->i∈bf
 down:Td gT L
 AE:∀t j k,j∈bf->k∈bf->dg bS t j=true->dg bS t k=true->j=k
 tw:∀j,j∈bf->¬L j->∃lo e1,cD bS j=some lo/\tf lo.BU=true/\vX j d7=some (lo,e1,val j)/\QV P lo e1 m (val j)/\Agree bS ms e0 bf val j e1
theorem jr{bf:List Nat}{i:Nat}(h:G1 bS ms n bf i=true):i<n/\i∉bf/\
  (∀t,t∈oA bS i->∀j,j∈bf->dg bS t j=true->nz ms i j=true)/\
  (∀t,Iz bS i=some t->∀j,j∈bf->dg bS t j=false/\(t∈oA bS j->nz ms i j=true)):=by
 simp only[G1,aac]at h;obtain⟨⟨⟨h1,h2⟩,h4⟩,h5⟩:=h;refine⟨by rwa [abW]at h1,by simpa using h2,?_,?_⟩
 .intro t ht j hj hw;have:=abA.1 (abA.1 h4 t ht) j hj;simpa[hw]using this
 .intro t ht j hj;rw[ht]at h5;have:=abA.1 h5 j hj;simp only[aac,ab2,ab8]at this;refine⟨this.1,λhl=>?_⟩
  rcases this.2 with h|h
  .simp[hl]at h
  .exact h
theorem ze{bf hd:List Nat}(h:SH ms n bf hd=true){i:Nat}(hi:i<n)(hb:i∉bf):i∈hd\/∃f,f∈hd/\nz ms i f=true:=by
 have:=abA.1 h i (by simpa using hi)
 simp only[ab8,aaT]at this;rcases this with h|h|⟨f,h1,h2⟩
 .exact absurd (by simpa using h) hb
 .exact .inl (by simpa using h)
 .exact .inr ⟨f,h1,h2⟩
theorem kY:∀{R:nt}{bf:List Nat},dX bS ms n false bf R=true->(∃f,f∈R.hd)/\∀f,f∈R.hd->f<n/\f∉bf
 | .nil,bf,h=>by simp[dX]at h
 | .cons i none r,bf,h=>by simp[dX]at h
 | .cons i (some l) r,bf,h=>by
  simp only[dX,aac]at h;obtain⟨h1,h2,_⟩:=jr h.2.1;exact⟨⟨i,by simp[nt.hd]⟩,λf hf=>by simp[nt.hd]at hf;subst hf;exact⟨h1,h2⟩⟩
 | .vJ x y,bf,h=>by
  simp only[dX,aac]at h;obtain⟨⟨f,hf⟩,hx⟩:=kY h.2.1;obtain⟨_,hy⟩:=kY h.2.2;exact⟨⟨f,by simp[nt.hd,hf]⟩,λf hf=>by simp only[nt.hd,abL]at hf;exact hf.elim (hx f) (hy f)⟩
theorem DS.ahead{K:List CV->Mem->Prop}{L:Nat->Prop}{bf:List Nat}{c:Bool}{q:Nat}{R:nt}{val:Nat->CV}{d7:List (Nat×LO×List CV×CV)}{e aX:List CV}{m:Mem}(h:DS P bS ms n gT e0 K L bf c (.cons q none R) val d7 e aX m):∃jq rN e',DS P bS ms n gT e0 K L (q::bf) true R jq rN e' aX m:=by
 have pP:=h.go;simp only[dX,aac]at pP;obtain⟨_,CA,g6,g8⟩:=pP;obtain⟨g1,g2,g4,g5⟩:=jr CA;have hc:=h.V4;simp only[yR,G5]at hc;obtain⟨lo,ia,hc⟩:=aV.1 hc;have hq:tf lo.BU=true:=by simpa[lR,ia]using g6
 obtain⟨v,hc,hqv⟩:=uP hq hc;have hc:=rK.1 hc;have Mc:Iz bS q=lo.dst:=by simp[Iz,ia]
 let jq:Nat->CV:=λk=>if k=q then v else val k
 have jM:∀k,k∈bf->jq k=val k:=λk hk=>if_neg λ(e:k=q)=>g2 (e▸hk)
 have BY:∀t k,k∈bf->lo.dst=some t->dg bS t k=false:=λt k hk hd=>(g5 t (by rw[Mc];exact hd) k hk).1
 have Tf:∀t,dg bS t q=true->lo.dst=some t:=λt hw=>by obtain⟨EN,h1,h2⟩:=kX.1 hw;rw[ia]at h1;cases h1;exact h2
 refine⟨jq,_,_,g8,hc,h.rM.step ia BY (by simp[jq]) jM (by simp[or_comm]),h.yx.V3 (λk hk=>jM k (h.sub k hk)) (λ_=>Iff.rfl),λi hi=>by simp[h.sub i hi],h.down,?_,?_⟩
 .intro t j k hj hk Md Hl;rcases aaB.1 hj with e1|yu<;>rcases aaB.1 hk with e2|kg
  .rw[e1,e2]
  .rw[e1]at Md;rw[BY t k kg (Tf t Md)]at Hl;cases Hl
  .rw[e2]at Hl;rw[BY t j yu (Tf t Hl)]at Md;cases Md
  .exact h.AE t j k yu kg Md Hl
 .intro j hj hL;rcases aaB.1 hj with rfl|hj
  .refine⟨lo,e,ia,hq,by simp[vX,jq],by simpa[jq]using hqv,h.rM.len,λt ht aD=>?_⟩
   by_cases hex:∃k,k∈bf/\dg bS t k=true
   .obtain⟨k,hk,hw⟩:=hex;exact .inl ⟨k,by simp[hk],hw,g4 t ht k hk hw,by rw[jM k hk];exact h.rM.on t k hk hw aD⟩
   .refine .inr ⟨λk hk hw=>?_,h.rM.off t λk hk=>?_⟩
    .rcases aaB.1 hk with rfl|hk
     .exact .inl rfl
     .exact absurd ⟨k,hk,hw⟩ hex
    .cases hw:dg bS t k with
     |false=>rfl
     |true=>exact absurd ⟨k,hk,hw⟩ hex
  .obtain⟨EN,e1,h1,h2,h3,h4,h5,h6⟩:=h.tw j hj hL;have du:q≠j:=λe=>g2 (e▸hj)
   refine⟨EN,e1,h1,h2,?_,by rw[jM j hj];exact h4,h5,λt ht aD=>?_⟩
   .have:Nat.beq q j=false:=by
     cases hb:Nat.beq q j with
     |false=>rfl
     |true=>exact absurd (aam hb) du
    simp only[vX,this];rw[h3,jM j hj]
   .rcases h6 t ht aD with⟨k,hk,hw,hm,he⟩|⟨fN,he⟩
    .exact .inl ⟨k,by simp[hk],hw,hm,by rw[jM k hk];exact he⟩
    .refine .inr ⟨λk hk hw=>?_,he⟩
     rcases aaB.1 hk with e2|kg
     .rw[e2]at hw|-;exact .inr ((g5 t (by rw[Mc];exact Tf t hw) j hj).2 ht)
     .exact fN k kg hw
end
section
variable {P:Program}
variable {N:Nat} {ρ0:bG} {m0:Mem} {w0:World}
variable {bS:List LO} {ms:List Nat} {n:Nat} {e0:List CV} {gT:List (List Nat)}
theorem zf{ops:Array Oper}:∀{l:List Oper}{bS:List LO},mH P ops l=some bS->l.length=bS.length/\∀(i:Nat)o,l[i]? =some o->∃lo,cD bS i=some lo/\vV P ops o=some lo
 | [],bS,h=>by simp[mH]at h;subst h;simp
 |o::r,bS,h=>by
  obtain⟨lo,lr,rfl,h1,h2⟩:=tu h o r rfl;obtain⟨h3,h4⟩:=zf h2;refine⟨by simp[h3],λi o' hi=>?_⟩
  cases i with
  |zero=>simp at hi;subst hi;exact⟨lo,rfl,h1⟩
  |succ i=>simpa[cD]using h4 i o' (by simpa using hi)
theorem CB{m:Mem}{d7:List (Nat×LO×List CV×CV)}{j:Nat}:∀{l:List Nat},Vq P m d7 l->j∈l->ok (vX j d7) λx=>nU P x.1 x.2.1 m λ_ v _=>v=x.2.2
 | [],_,h=>by cases h
 |k::r,hc,h=>by
  simp only[Ls]at hc;rcases aaB.1 h with e|h
  .rw[e];exact hc.1
  .exact CB hc.2 h
theorem DS.V5{K:List CV->Mem->Prop}{L:Nat->Prop}{bf:List Nat}{c:Bool}{R:nt}{val:Nat->CV}{d7:List (Nat×LO×List CV×CV)}{e aX:List CV}{m:Mem}(h:DS P bS ms n gT e0 K L bf c R val d7 e aX m){i:Nat}(hi:i∈bf)(hL:¬L i){lo:LO}(ia:cD bS i=some lo):∀t k,L k->lo.dst=some t->dg bS t k=false:=by
 intro t k hk hd;cases hw:dg bS t k with
 |false=>rfl
 |true=>
  have:=h.AE t i k hi (h.sub k hk) (kX.2 ⟨lo,ia,hd⟩) hw;exact absurd (this▸hk) hL
theorem DS.Hm{K:List CV->Mem->Prop}{L L':Nat->Prop}{bf:List Nat}{c:Bool}{R:nt}{val:Nat->CV}{d7:List (Nat×LO×List CV×CV)}{e aX:List CV}{m:Mem}(h:DS P bS ms n gT e0 K L bf c R val d7 e aX m)(BZ:∀i j,nz ms i j=true->Te gT i j){i:Nat}(hi:i∈bf)(hL:¬L i)(hr:∀k,Edge gT i k->L k)(zg:∀k,L' k↔L k\/k=i){ops:Array Oper}{o:Oper}{lo:LO}(ho:ops[i]? =some o)(ia:cD bS i=some lo)(jL:vV P ops o=some lo){ρ:bG}{a:Act}{w:World}(hI:Inv N ρ0 m0 w0 ⟨aX,m⟩ ρ a w){K1:Act->World->Prop}{Q:Exit->Act->World->Prop}(hn:∀fD U' a' w',Inv N ρ0 m0 w0 ⟨fD,m⟩ U' a' w'->DS P bS ms n gT e0 K L' bf c R val d7 e fD m->K1 a' w'):wpOp P ops Q i K1 a w:=by
 obtain⟨EN,e1,h1,h2,h3,h4,h5⟩:=h.tw i hi hL;rw[ia]at h1;cases h1;have ZD:=h5.Yi h.yx BZ h.down h.sub hL hr;have hv:=uO (lo:=lo) (K:=λv' m'=>v'=val i/\m'=m) (λt ht=>ZD t (by simpa[oA,ia]using ht)) h4
 refine zd ho jL hI hv λv m' U' a' w' hk pO=>?_
 obtain⟨rfl,rfl⟩:=hk;refine hn _ U' a' w' pO ⟨h.go,h.V4,h.rM,h.yx.step ia (h.V5 hi hL ia) rfl (λ_ _=>rfl) zg,λj hj=>?_,λx y I6 hx=>?_,h.AE,λj hj Ym=>h.tw j hj λhl=>Ym ((zg j).2 (.inl hl))⟩
 .rcases(zg j).1 hj with hj|rfl
  .exact h.sub j hj
  .exact hi
 .rcases(zg x).1 hx with hx|rfl
  .exact(zg y).2 (.inl (h.down x y I6 hx))
  .exact(zg y).2 (.inl (hr y I6))
theorem DS.Tg{K:List CV->Mem->Prop}{L L':Nat->Prop}{bf:List Nat}{c:Bool}{i:Nat}{l:List Nat}{R:nt}{val:Nat->CV}{d7:List (Nat×LO×List CV×CV)}{e aX:List CV}{m:Mem}(h:DS P bS ms n gT e0 K L bf c (.cons i (some l) R) val d7 e aX m)(BZ:∀i j,nz ms i j=true->Te gT i j)(hr:∀k,Edge gT i k->L k)(zg:∀k,L' k↔L k\/k=i){ops:Array Oper}{o:Oper}{lo:LO}(ho:ops[i]? =some o)(ia:cD bS i=some lo)(jL:vV P ops o=some lo){ρ:bG}{a:Act}{w:World}(hI:Inv N ρ0 m0 w0 ⟨aX,m⟩ ρ a w){K1:Act->World->Prop}{Q:Exit->Act->World->Prop}(hn:∀jq rN e' fD m' U' a' w',Inv N ρ0 m0 w0 ⟨fD,m'⟩ U' a' w'->DS P bS ms n gT e0 K L' (i::bf) true R jq rN e' fD m'->K1 a' w'):wpOp P ops Q i K1 a w:=by
 have pP:=h.go;simp only[dX,aac]at pP;obtain⟨_,CA,g7,g8⟩:=pP;obtain⟨g1,g2,g4,g5⟩:=jr CA;have hc:=h.V4;simp only[yR,G5]at hc;obtain⟨EN,V6,hc⟩:=aV.1 hc;rw[ia]at V6;cases V6;have hiL:¬L i:=λhl=>g2 (h.sub i hl)
 have V7:∀k,nz ms i k=true->L k:=λk hm=>BZ i k hm L h.down hr
 have wj:nU P lo e m λ_ v m'=>Vq P m' d7 l/\u5 P bS R d7 K (yw lo.dst v e) m':=by
  rw[gD]at hc|-;rcases hc with⟨h1,h2⟩|⟨h1,h2⟩
  .exact .inl ⟨h1,zc h2 λv m' hk=>rK.1 hk⟩
  .exact .inr ⟨h1,rK.1 h2⟩
 have Mc:Iz bS i=lo.dst:=by simp[Iz,ia]
 have ZD:∀t,t∈lo.looks->kp e t=kp aX t:=λt ht=>by
  rw[lS,lS];rcases aaf t e0.length with aD|ek
  .by_cases hex:∃k,k∈bf/\dg bS t k=true
   .obtain⟨k,hk,hw⟩:=hex;rw[h.rM.on t k hk hw aD,h.yx.on t k (V7 k (g4 t (by simpa[oA,ia]using ht) k hk hw)) hw aD]
   .have EZ:∀k,k∈bf->dg bS t k=false:=λk hk=>by
     cases hw:dg bS t k with
     |false=>rfl
     |true=>exact absurd ⟨k,hk,hw⟩ hex
    rw[h.rM.off t EZ,h.yx.off t λk hk=>EZ k (h.sub k hk)]
  .rw[aaz (by rw[h.rM.len];exact ek),aaz (by rw[h.yx.len];exact ek)]
 have hv:=uO ZD wj;have BY:∀t k,k∈bf->lo.dst=some t->dg bS t k=false:=λt k hk hd=>(g5 t (by rw[Mc];exact hd) k hk).1
 have Tf:∀t,dg bS t i=true->lo.dst=some t:=λt hw=>by obtain⟨EN,h1,h2⟩:=kX.1 hw;rw[ia]at h1;cases h1;exact h2
 refine zd ho jL hI hv λv m' U' a' w' hk pO=>?_
 obtain⟨ZE,hd⟩:=hk;let jq:Nat->CV:=λk=>if k=i then v else val k
 have jM:∀k,k∈bf->jq k=val k:=λk hk=>if_neg λ(e:k=i)=>g2 (e▸hk)
 refine hn jq d7 _ _ m' U' a' w' pO ⟨g8,hd,h.rM.step ia BY (by simp[jq]) jM (by simp[or_comm]),
  h.yx.step ia (λt k hk hd=>BY t k (h.sub k hk) hd) (by simp[jq]) (λk hk=>jM k (h.sub k hk)) zg,λj hj=>?_,λx y I6 hx=>?_,λt j k hj hk Md Hl=>?_,λj hj Ym=>?_⟩
 .rcases(zg j).1 hj with hj|rfl
  .simp[h.sub j hj]
  .simp
 .rcases(zg x).1 hx with hx|rfl
  .exact(zg y).2 (.inl (h.down x y I6 hx))
  .exact(zg y).2 (.inl (hr y I6))
 .rcases aaB.1 hj with e1|yu<;>rcases aaB.1 hk with e2|kg
  .rw[e1,e2]
  .rw[e1]at Md;rw[BY t k kg (Tf t Md)]at Hl;cases Hl
  .rw[e2]at Hl;rw[BY t j yu (Tf t Hl)]at Md;cases Md
  .exact h.AE t j k yu kg Md Hl
 .have hjL:¬L j:=λhl=>Ym ((zg j).2 (.inl hl))
  have hji:j≠i:=λe=>Ym ((zg j).2 (.inr e))
  have yu:j∈bf:=by
   rcases aaB.1 hj with e|h
   .exact absurd e hji
   .exact h
  obtain⟨EN,e1,h1,h2,h3,h4,h5,h6⟩:=h.tw j yu hjL;refine⟨EN,e1,h1,h2,by rw[jM j yu];exact h3,?_,h5,λt ht aD=>?_⟩
  .rw[jM j yu];have g7j:=abA.1 g7 j yu;have Th:lR bS j=true:=by simpa[lR,h1]using h2
   simp only[Th,adk,acw,ab8,List.contains_iff_mem]at g7j;rcases g7j with hm|hp|hl
   .exact absurd (V7 j hm) hjL
   .exact h4.pure (by simpa[Ev,h1]using hp) m'
   .have:=CB ZE hl;rw[h3]at this;obtain⟨_,hx,UR⟩:=aV.1 this;cases hx;obtain⟨v',hv',hq⟩:=uP h2 UR;simp only at hv';rw[<-hv'];exact hq
  .rcases h6 t ht aD with⟨k,hk,hw,hm,he⟩|⟨fN,he⟩
   .exact .inl ⟨k,by simp[hk],hw,hm,by rw[jM k hk];exact he⟩
   .refine .inr ⟨λk hk hw=>?_,he⟩
    rcases aaB.1 hk with e2|kg
    .rw[e2]at hw|-;exact .inr ((g5 t (by rw[Mc];exact Tf t hw) j yu).2 ht)
    .exact fN k kg hw
theorem DS.any{K:List CV->Mem->Prop}{L L':Nat->Prop}(BZ:∀i j,nz ms i j=true->Te gT i j){i:Nat}(iY:i<n)(hL:¬L i)(hr:∀k,Edge gT i k->L k)(zg:∀k,L' k↔L k\/k=i){ops:Array Oper}{o:Oper}{lo:LO}(ho:ops[i]? =some o)(ia:cD bS i=some lo)(jL:vV P ops o=some lo){aX:List CV}{m:Mem}{ρ:bG}{a:Act}{w:World}(hI:Inv N ρ0 m0 w0 ⟨aX,m⟩ ρ a w){K1:Act->World->Prop}{Q:Exit->Act->World->Prop}(hn:∀bf R jq rN e' fD m' U' a' w',Inv N ρ0 m0 w0 ⟨fD,m'⟩ U' a' w'->DS P bS ms n gT e0 K L' bf true R jq rN e' fD m'->K1 a' w'):
  ∀(R:nt)(bf:List Nat)(c:Bool)(val:Nat->CV)(d7:List (Nat×LO×List CV×CV))(e:List CV),(c=false->i∈R.hd)->DS P bS ms n gT e0 K L bf c R val d7 e aX m->wpOp P ops Q i K1 a w:=by
 intro R
 induction R with
 |nil=>
  intro bf c val d7 e hc h;cases c with
  |false=>have:=hc rfl;simp[nt.hd]at this
  |true=>
   have pP:=h.go;simp only[dX,adl,abA]at pP;have hi:i∈bf:=by simpa using pP i (by simpa using iY)
   exact h.Hm BZ hi hL hr zg ho ia jL hI λfD U' a' w'=>hn _ _ _ _ _ fD m U' a' w'
 |cons q Lm R ih=>
  intro bf c val d7 e hc h;cases Lm with
  |none=>
   have hct:c=true:=by have pP:=h.go;simp only[dX,aac]at pP;exact pP.1
   subst hct;by_cases hi:i∈bf
   .exact h.Hm BZ hi hL hr zg ho ia jL hI λfD U' a' w'=>hn _ _ _ _ _ fD m U' a' w'
   .obtain⟨jq,rN,e',h'⟩:=h.ahead;exact ih _ _ _ _ _ (λh=>by cases h) h'
  |some l=>
   have pP:=h.go;simp only[dX,aac]at pP;obtain⟨Me,CA,_⟩:=pP;obtain⟨_,g2,_⟩:=jr CA;by_cases hi:i∈bf
   .cases c with
    |false=>
     have hq:=hc rfl;simp only[nt.hd,acn]at hq;subst hq;exact absurd hi g2
    |true=>exact h.Hm BZ hi hL hr zg ho ia jL hI λfD U' a' w'=>hn _ _ _ _ _ fD m U' a' w'
   .have yy:q=i:=by
     cases c with
     |false=>
      have hq:=hc rfl;simp only[nt.hd,acn]at hq;exact hq.symm
     |true=>
      simp only[adk,acw]at Me;rcases ze Me iY hi with hq|⟨f,hf,hm⟩
      .simpa using Eq.symm (by simpa using hq)
      .simp only[acn]at hf;subst hf;exact absurd (h.sub _ (BZ i _ hm L h.down hr)) g2
    subst yy;exact h.Tg BZ hr zg ho ia jL hI λjq rN e' fD m' U' a' w'=>hn _ _ _ _ _ fD m' U' a' w'
 |vJ x y Ti Mf=>
  intro bf c val d7 e hc h;have pP:=h.go;simp only[dX,aac]at pP;obtain⟨Me,hgx,hgy⟩:=pP;obtain⟨_,hhx⟩:=kY hgx;obtain⟨_,hhy⟩:=kY hgy;have Tj:=h.V4;simp only[Lt]at Tj;have goX:i∈x.hd->wpOp P ops Q i K1 a w:=λhi=>Ti bf false val d7 e (λ_=>hi) ⟨hgx,Tj.1,h.rM,h.yx,h.sub,h.down,h.AE,h.tw⟩
  have goY:i∈y.hd->wpOp P ops Q i K1 a w:=λhi=>Mf bf false val d7 e (λ_=>hi) ⟨hgy,Tj.2,h.rM,h.yx,h.sub,h.down,h.AE,h.tw⟩
  cases c with
  |false=>
   have hq:=hc rfl;simp only[nt.hd,abL]at hq;exact hq.elim goX goY
  |true=>
   by_cases hi:i∈bf
   .exact h.Hm BZ hi hL hr zg ho ia jL hI λfD U' a' w'=>hn _ _ _ _ _ fD m U' a' w'
   .simp only[adk,acw]at Me;rcases ze Me iY hi with hq|⟨f,hf,hm⟩
    .rcases abL.1 hq with hq|hq
     .exact goX hq
     .exact goY hq
    .have hfL:=h.sub _ (BZ i f hm L h.down hr);rcases abL.1 hf with hf|hf
     .exact absurd hfL (hhx f hf).2
     .exact absurd hfL (hhy f hf).2
theorem zh:∀(l:List Bool)(i:Nat),l[i]? =some false->(l.set i true).count false+1=l.count false
 | [],i,h=>by simp at h
 |b::r,0,h=>by simp at h;subst h;simp
 |b::r,i+1,h=>by
  have:=zh r i (by simpa using h)
  cases b<;>simp[List.count_cons]at this|-<;>omega
theorem PM{md:Region.Mode}{ops:Array Oper}{Q:Exit->Act->World->Prop}{K:List CV->Mem->Prop}(hQ:∀aX m ρ a w,K aX m->Inv N ρ0 m0 w0 ⟨aX,m⟩ ρ a w->Q .normal a w)(BZ:∀i j,nz ms i j=true->Te (kV md ops) i j)(ZF:∃l,yP (kV md ops) n [] l=true)(AF:∀(i:Nat)o,ops[i]? =some o->∃lo,cD bS i=some lo/\vV P ops o=some lo)(hn:n=ops.size)(jY:n=bS.length):
  ∀(fuel:Nat) (listed:Array Bool) (a:Act) (w:World) (ρ:bG) (m:Mem) (aX:List CV) (bf:List Nat) (R:nt) (val:Nat->CV)
   (d7:List (Nat×LO×List CV×CV)) (e:List CV),listed.size=n->listed.toList.count false=fuel->Inv N ρ0 m0 w0 ⟨aX,m⟩ ρ a w->
   DS P bS ms n (kV md ops) e0 K (λi=>listed[i]? =some true) bf true R val d7 e aX m->wpAny P md ops Q fuel listed a w:=by
 have Mg:∀(listed:Array Bool)i,i∈Region.ready md ops listed->listed[i]? =some false/\i<ops.size/\∀k,Edge (kV md ops) i k->listed[k]? =some true:=by
  intro listed i hi;obtain⟨h0,o,ho,fN⟩:=mem_ready.1 hi;refine⟨?_,(aaw.1 ho).1,λk hk=>?_⟩
  .rw[abO]at h0;cases hg:listed[i]? with
   |none=>rw[hg]at h0;simp at h0
   |some b=>rw[hg]at h0;simp at h0;rw[h0]
  .obtain⟨l,hl,gj⟩:=hk;simp only[kV,Sf,abD,ho,aax,aat]at hl;subst hl;obtain⟨ed,V8,rfl⟩:=aas.1 gj;obtain⟨ZG,ZH⟩:=acm.1 V8;have:=fN ed (by simpa using ZG) ZH
   rw[abO]at this;cases hg:listed[ed.on]? with
   |none=>rw[hg]at this;simp at this
   |some b=>rw[hg]at this;simp at this;rw[this]
 have Tk:∀(i:Nat)o ed,ops[i]? =some o->ed∈o.after->Region.binds md ed=true->Edge (kV md ops) i ed.on:=by
  intro i o ed ho V8 hb;refine⟨(o.after.toList.filter (Region.binds md)).map (·.on),?_,?_⟩
  .simp[kV,Sf,ho]
  .exact aas.2 ⟨ed,acm.2 ⟨by simpa using V8,hb⟩,rfl⟩
 intro fuel
 induction fuel with
 |zero=>
  intro listed a w ρ m aX bf R val d7 e dj V9 hI h;have fN:∀i,i<n->listed[i]? =some true:=by
   intro i hi;have aD:i<listed.size:=om;rw[abV aD];have jX:=List.count_eq_zero.1 V9;cases hb:listed[i]with
   |true=>rfl
   |false=>exact absurd (by rw[<-hb];exact Array.getElem_mem_toList aD) jX
  constructor
  .rw[List.eq_nil_iff_forall_not_mem];intro i hi;obtain⟨h1,h2,_⟩:=Mg listed i hi;rw[fN i om]at h1;cases h1
  .have hR:R= .nil:=by
    cases R with
    |nil=>rfl
    |cons q Lm R=>
     have pP:=h.go;cases Lm with
     |none=>
      simp only[dX,aac]at pP;obtain⟨g1,g2,_⟩:=jr pP.2.1;exact absurd (h.sub q (fN q g1)) g2
     |some l=>
      simp only[dX,aac]at pP;obtain⟨g1,g2,_⟩:=jr pP.2.1;exact absurd (h.sub q (fN q g1)) g2
    |vJ x y=>
     have pP:=h.go;simp only[dX,aac]at pP;obtain⟨⟨f,hf⟩,hx⟩:=kY pP.2.1;obtain⟨g1,g2⟩:=hx f hf;exact absurd (h.sub f (fN f g1)) g2
   subst hR;have hbf:∀i,i∈bf->i<n\/n<=i:=λi _=>aaf i n
   have hnw:∀i t,n<=i->dg bS t i=false:=by
    intro i t hi;cases hw:dg bS t i with
    |false=>rfl
    |true=>
     obtain⟨lo,ia,_⟩:=kX.1 hw;rw[aT]at ia;have:=(JJ.1 ia).1;omega
   have he:e=aX:=by
    have e1:lZ bS e0 (λi=>i∈bf/\i<n) val e:=⟨h.rM.len,λt k hk=>h.rM.on t k hk.1,λt Wa=>h.rM.off t λk hk=>by
     rcases hbf k hk with aD|ek
     .exact Wa k ⟨hk,aD⟩
     .exact hnw k t ek⟩
    have e2:lZ bS e0 (λi=>i∈bf/\i<n) val aX:=h.yx.V3 (λ_ _=>rfl) λk=>⟨λhk=>fN k hk.2,λhk=>⟨h.sub k hk,by have:=(aaw.1 hk).1;omega⟩⟩
    exact e1.ext e2
   subst he;exact hQ _ _ ρ a w h.V4 hI
 |succ fuel ih=>
  intro listed a w ρ m aX bf R val d7 e dj V9 hI h;constructor
  .intro SU;exfalso;have hex:∃i:Nat,listed[i]? =some false:=by
    have:false∈listed.toList:=by apply List.count_pos_iff.1;omega
    obtain⟨i,hi⟩:=X1 this;exact⟨i,by simpa using hi⟩
   obtain⟨i,hi⟩:=hex;obtain⟨l,hl⟩:=ZF;have iY:i<n:=by have:=(aaw.1 hi).1;omega
   have:=wz (L:=λi=>listed[i]? =some true) (λi hi PN=>?_) l [] hl (λ_ h=>by cases h) i iY
   .rw[hi]at this;cases this
   .refine aaa λWb=>?_
    have aD:i<ops.size:=om;have CD:i<listed.size:=om;have hf:listed[i]? =some false:=by
     rw[abV CD]at PN|-;cases fx:listed[i]with
     |true=>rw[fx]at PN;exact absurd rfl PN
     |false=>rfl
    have hm:i∈Region.ready md ops listed:=by
     rw[mem_ready];refine⟨by rw[abO,hf];rfl,ops[i],abV aD,λed V8 hb=>?_⟩
     have hE:=Tk i _ ed (abV aD) V8 hb;have hL:listed[ed.on]? =some true:=aaa λhc=>Wb ⟨_,hE,hc⟩
     rw[abO,hL];rfl
    rw[SU]at hm;cases hm
  .intro i hi;obtain⟨h1,h2,h3⟩:=Mg listed i hi;obtain⟨lo,ia,jL⟩:=AF i _ (abV h2);have aD:i<listed.size:=om;refine DS.any (L:=λi=>listed[i]? =some true) (L':=λk=>(listed.setIfInBounds i true)[k]? =some true) BZ om (by rw[h1];simp) h3 (λk=>?_) (abV h2) ia jL hI
    (λbf R jq rN e' fD m' U' a' w' pO h'=>ih _ a' w' U' m' fD bf R jq rN e' (by simp[dj]) ?_ pO h') R bf true val d7 e (λh=>by cases h) h
   .by_cases hk:i=k
    .subst hk;rw[acd aD];simp
    .rw[aco hk];constructor
     .exact .inl
     .rintro(h|h)
      .exact h
      .exact absurd h.symm hk
   .have:=zh listed.toList i (by simpa using h1)
    rw[Array.toList_setIfInBounds];omega
theorem E0{md:Region.Mode}{ops:Array Oper}{Q:Exit->Act->World->Prop}{K:List CV->Mem->Prop}(hQ:∀aX m ρ a w,K aX m->Inv N ρ0 m0 w0 ⟨aX,m⟩ ρ a w->Q .normal a w){bS:List LO}(jL:mH P ops ops.toList=some bS){sched:nt}(fl:ry bS (kV md ops) sched=true){st:St}(h:u5 P bS sched [] K st.aX st.mem){ρ:bG}{a:Act}{w:World}(hI:Inv N ρ0 m0 w0 st ρ a w):wpAny P md ops Q ops.size (Array.replicate ops.size false) a w:=by
 obtain⟨hlen,AF⟩:=zf jL;simp only[ry,aac]at fl;have BZ:∀i j,nz (bl bS.length (kV md ops)) i j=true->Te (kV md ops) i j:=I5;have jX:∀i:Nat,¬(Array.replicate ops.size false)[i]? =some true:=by
  intro i hi;rw[Array.getElem?_replicate]at hi;split at hi<;>simp at hi
 refine PM (n:=bS.length) (e0:=st.aX) hQ BZ ⟨_,fl.1⟩ (λi o ho=>AF i o (by simpa using ho)) (by simpa using hlen.symm) rfl ops.size _ a w ρ st.mem st.aX [] sched (λ_=>.undef) [] st.aX
  (by simpa using hlen) aC hI ?_
 exact⟨fl.2,h,⟨rfl,λt k hk=>(acC hk).elim,λ_ _=>rfl⟩,⟨rfl,λt k hk=>absurd hk (jX k),λ_ _=>rfl⟩,λi hi=>absurd hi (jX i),λi j _ hi=>absurd hi (jX i),λt j k hj=>(acC hj).elim,λj hj=>(acC hj).elim⟩
theorem CE{bS:List LO}{K:Ex->St->Prop}{s:St}:∀{l:List nt},Pu P bS K s l->∀x,x∈l->u5 P bS x [] (IB K) s.aX s.mem
 | [],_,x,hx=>by cases hx
 | [y],h,x,hx=>by obtain rfl:=acn.1 hx;exact h
 |y::z::r,h,x,hx=>by
  rcases aaB.1 hx with rfl|hx
  .exact h.1
  .exact CE h.2 x hx
theorem AG{ops:Array Oper}{Q:Exit->Act->World->Prop}{K:Ex->St->Prop}(hQ:∀aX m ρ a w,K .normal ⟨aX,m⟩->Inv N ρ0 m0 w0 ⟨aX,m⟩ ρ a w->Q .normal a w){bS:List LO}(jL:mH P ops ops.toList=some bS){qx:List nt}(fl:vW P bS ops=some qx){st:St}(h:Pu P bS K st qx){ρ:bG}{a:Act}{w:World}(hI:Inv N ρ0 m0 w0 st ρ a w)(t:Nat):wpOps P ops Q (Region.schedule (P.follows .mixedOrders) ops t) a {w with drawn:=w.drawn+1}:=by
 have fN:∀md,md∈vz P ops->∃s,s∈qx/\ry bS (kV md ops) s=true:=by
  simp only[vW]at fl;split at fl
  .rename_i hc;cases fl;exact λmd UT=>⟨_,aC,abA.1 hc md UT⟩
  .split at fl
   .rename_i hc;cases fl;exact λmd UT=>by have:=abA.1 hc md UT;obtain⟨s,hs,Eh⟩:=aaT.1 this;exact⟨s,hs,Eh⟩
   .cases fl
 have lK:∀md,md∈vz P ops->wpAny P md ops Q ops.size (Array.replicate ops.size false) a {w with drawn:=w.drawn+1}:=λmd UT=>by obtain⟨s,hs,Eh⟩:=fN md UT;exact E0 (K:=IB K) hQ jL Eh (CE h s hs) hI.drew
 unfold Region.schedule;unfold vz at lK;split
 .rename_i hc;rw[if_pos hc]at lK;exact wpAny_sound ops.size t _ a _ (lK .any aC)
 .rename_i hc;rw[if_neg hc]at lK;split
  .exact wpAny_sound ops.size (t/2) _ a _ (lK .text aC)
  .exact wpAny_sound ops.size (t/2) _ a _ (lK .gc aC)
end
section
variable {P:Program}
def FR(r:Option Nat):Fence:={Fence.wide with round:=r}
theorem PQ:FR none=Fence.wide:=rfl
theorem Hn(l:Nat):FR (some l)=Fence.wide.inRound l:=rfl
theorem PR{o:Oper}{i:I}(h:te P o=some i):∀c,o.op≠.defer c:=by
 intro c e;unfold te at h;have h0:vU P o=none:=by unfold vU;rw[e]
 rw[h0,e]at h;cases h
theorem wA{ops:Array Oper}:∀{l:List Oper}{bS:List LO},mH P ops l=some bS->∀o,o∈l->∀c,o.op≠.defer c
 | [],bS,h,o,ho=>by cases ho
 |o1::r,bS,h,o,ho=>by
  obtain⟨lo,lr,rfl,h1,h2⟩:=tu h o1 r rfl;cases ho with
  |head=>
   simp only[vV,T3,OJ]at h1;obtain⟨i,hi,_⟩:=h1;exact PR hi
  |tail _ ho=>exact wA h2 o ho
theorem iK{r:Option Nat}{ops:Array Oper}{Q:Exit->Act->World->Prop}(lH:∀o,o∈ops.toList->∀c,o.op≠.defer c)(hQ:¬LetsOut Q):
  ∀(l:List Nat)(a:Act)(w:World),wpOps P ops Q l a w->wpOpsIn (FR r) 0 P ops Q l a w
 | [],a,w,h=>h
 |i::rest,a,w,h=>by
  simp only[wpOps]at h;simp only[wpOpsIn];cases ho:ops[i]? with
  |none=>rw[ho]at h;exact iK lH hQ rest a w h
  |some o=>
   rw[ho]at h;simp only at h|-;have ic:o∈ops.toList:=by have:=aaw.1 ho;obtain⟨h1,h2⟩:=this;rw[<-h2];exact ac6.2 (Array.getElem_mem h1)
   split
   .rename_i hw;rw[if_pos hw]at h;rcases h with h|⟨_,h⟩
    .refine⟨λ_ _=>trivial,?_⟩
     have e:o.semAt (FR r).round a.eval=execOp a.eval o:=Oper.semAt_eq _ _ _ (lH o ic);rw[e];unfold Oper.wp at h;have up:∀{lP:Result Next},o.upon P a (wpOps P ops Q rest) Q lP->o.uponIn (FR r) 0 P a (wpOpsIn (FR r) 0 P ops Q rest) Q lP:=by
      intro lP h;unfold Oper.upon at h;split at h
      .exact iK lH hQ rest _ _ h
      .exact iK lH hQ rest _ _ h
      .exact iK lH hQ rest _ _ h
      .refine⟨by simp[FR,Fence.wide],?_⟩
       have h2:=(callsIn_wide (n:=0-1)).2 h;have h3:CallsIn (FR r) (0-1) P _ _ _ _:=h2;refine h3.mono λe w' hR=>?_
       cases e with
       |returned v=>exact iK lH hQ rest _ _ hR
       |panicked c=>exact hR
       |outgrown=>exact hR
      .refine⟨by simp[FR,Fence.wide],?_⟩
       intro c cs _;obtain⟨v,w',hR,hs⟩:=h c cs;exact⟨v,w',iK lH hQ rest _ _ hR,(stepsIn_wide.2 hs:StepsIn (Machine.fenced P Fence.wide) P _ _)⟩
      .exact h
      .exact h.elim
     exact up h
    .exact absurd h hQ
   .rename_i hw;rw[if_neg hw]at h;exact⟨λ_ _=>trivial,iK lH hQ rest _ _ h⟩
theorem ve{F:Fence}{n:Nat}{γ:Type}{c:Code}{Q:Exit->Act->World->Prop}{a:Act}{w:World}(I:γ->Act->World->Prop)(μ:γ->Nat)(g0:γ)(h₀:I g0 a w)(round:∀g a w,I g a w->c.wpIn F n P (Exit.then (λa' w'=>∃g',I g' a' w'/\μ g'<μ g) Q) a w):(Code.loop c).wpIn F n P Q a w:=by
 intro b k cs ZI hb hr;have key:∀j g a w,μ g=j->I g a w->
   ∃e a' w',Q e a' w'/\ArrivesIn (Machine.fenced P F) P (lone (b.atR a (.code c:: .inLoop c::k)) cs w) b k cs e a' w':=by
  intro j
  induction j using Nat.strongRecOn with
  |_ j ih=>
   intro g a w hn hI;obtain⟨e,a₁,w₁,hq,CF⟩:=round g a w hI b (.inLoop c::k) cs ZI hb hr;cases e with
   |normal=>
    obtain⟨g₁,Wc,aD⟩:=hq;obtain⟨e₂,a₂,w₂,Wd,PS⟩:=ih (μ g₁) (hn▸aD) g₁ a₁ w₁ rfl Wc;exact⟨e₂,a₂,w₂,Wd,.of_steps (StepsIn.trans CF (.one (fenced_calm hb hr rfl) stepR_inLoop)) PS⟩
   |exit id=>exact⟨_,a₁,w₁,hq,.pass (x:= .inLoop c) rfl (λ_ _=>.inl aC) CF⟩
   |goto l=>exact⟨_,a₁,w₁,hq,.pass (x:= .inLoop c) rfl (λ_ _=>.inl aC) CF⟩
   |ret=>exact⟨_,a₁,w₁,hq,.pass (x:= .inLoop c) rfl (λ_ _=>.inl aC) CF⟩
   |panic ch=>exact⟨_,a₁,w₁,hq,.pass (x:= .inLoop c) rfl (λ_ _=>.inl aC) CF⟩
   |outgrown=>exact⟨_,a₁,w₁,hq,.pass (x:= .inLoop c) rfl (λ_ _=>.inl aC) CF⟩
 obtain⟨e,a',w',hq,CF⟩:=key _ g0 a w rfl h₀;exact⟨e,a',w',hq,.of_steps (.one (fenced_calm hb hr rfl) stepR_loop) CF⟩
structure vf(ρ:bG)(m:Mem)(w w':World):Prop where
 size:w.heap.size<=w'.heap.size
 S:∀b,ρ.S b->w'.heap[b]? =w.heap[b]?
 aP:∀k,Live ρ m k->w'.heap[(ρ.aH k).b]? =w.heap[(ρ.aH k).b]?
theorem vf.ce{ρ:bG}{m:Mem}{w w':World}(h:vf ρ m w w'):iA ρ w ρ w':=⟨T5 _,λ_ _=>rfl,λ_ h=>h,h.S⟩
theorem ax.vg{ρ:bG}{m:Mem}{w w':World}(hM:ax ρ m w)(h:vf ρ m w w'):ax ρ m w':=by
 have g:=h.ce;refine⟨hM.n,λb hb=>aaA (hM.S b hb) h.size,λk hk=>⟨aaA (hM.aP k hk).1 h.size,(hM.aP k hk).2⟩,hM.inj,λid b hb=>?_,λid i j esz el ho bc=>?_⟩
 .have h1:=hM.bk id b hb;cases b with
  |aR=>trivial
  |var cs=>
   obtain⟨cur,bW,h2⟩:=h1;exact⟨cur,bW.dB (h.aP (.aj id) ⟨_,hb,aC,aC⟩),λj c hj=>let⟨u,hu,hd⟩:=h2 j c hj;⟨u,hu,bi.ce g aC hd⟩⟩
  |row esz elems=>
   obtain⟨h2,h3,h4,h5,h6⟩:=h1;refine⟨h2,h3,h4,h5,λhp=>?_⟩
   obtain⟨cur,bW,h7,h8⟩:=h6 hp;exact⟨cur,bW.dB (h.aP (.aj id) ⟨_,hb,aC,λ_=>hp⟩),h7,λi cs j c hi hj=>let⟨u,hu,hd⟩:=h8 i cs j c hi hj;⟨u,hu,bi.ce g (by intro j9 i' j' e';cases e';rw[hM.n];exact(JJ.1 hb).1) hd⟩⟩
  |mp es=>
   obtain⟨br,ck,h2,h3,h4⟩:=h1;exact⟨br,ck,⟨(h.aP (.aj id) ⟨_,hb,aC,aC⟩).trans h2.1,h2.2⟩,h3,λi e he=>let⟨e',mD,hk,hd⟩:=h4 i e he;⟨e',mD,hk,df.ce g hd⟩⟩
  |it cur left=>
   obtain⟨mb,seen,ck,br,h2,h3,h4,h5,h6⟩:=h1;exact⟨mb,seen,ck,br,(h.aP (.aj id) ⟨_,hb,aC,aC⟩).trans h2,h3,h4,(h.S mb h4).trans h5,h6⟩
  |mo esz es so=>exact cI.ce (bk:= .mo esz es so) g (by rw[hM.n];exact(JJ.1 hb).1) (λ_ _=>h.aP (.aj id) ⟨_,hb,aC,aC⟩) h1
  |iw mid gZ seen=>exact cI.ce (bk:= .iw mid gZ seen) g (by rw[hM.n];exact(JJ.1 hb).1) (λ_ _=>h.aP (.aj id) ⟨_,hb,aC,aC⟩) h1
 .obtain⟨cur,bW,h2,h3,h4⟩:=hM.d5 id i j esz el ho bc;exact⟨cur,bW.dB (h.aP (.sub id i j) ⟨⟨_,_,ho⟩,bc⟩),h2,h3,λi cs j d hi hj=>let⟨u,hu,hd⟩:=h4 i cs j d hi hj;⟨u,hu,de.mono g.S g.heap hd⟩⟩
theorem bj.ce{ρ U':bG}{w w':World}{aX:List CV}{tmps:Array Value}(g:iA ρ w U' w')(hE:bj ρ w aX tmps):bj U' w' aX tmps:=
 ⟨hE.size,λi c hi=>let⟨v,hv,hd⟩:=hE.jD i c hi;⟨v,hv,bZ.ce g hd⟩⟩
theorem EW.vg{N:Nat}{ρ:bG}{m:Mem}{w w':World}{ds:List Deferred}(h:vf ρ m w w')(hd:EW N ρ w ds):EW N ρ w' ds:=by obtain⟨Ds,h1,h2,h3⟩:=hd;exact⟨Ds,h1,h2,λD hD=>⟨(h3 D hD).1,(h3 D hD).2.1,(h.S D (h3 D hD).2.1).trans (h3 D hD).2.2⟩⟩
variable {N:Nat} {ρ0:bG} {m0:Mem} {w0:World}
theorem Inv.vg{st:St}{ρ:bG}{a:Act}{w w':World}(hI:Inv N ρ0 m0 w0 st ρ a w)(h:vf ρ st.mem w w')(hb:∀b,b<w0.heap.size->w'.heap[b]? =w.heap[b]?)(ho:w'.os=w.os)(ht:w'.tape=w.tape)(hu:w'.output=w.output):Inv N ρ0 m0 w0 st ρ a w':=
 ⟨⟨hI.ext.n,hI.ext.aH,hI.ext.S,hI.ext.S',hI.ext.aP,λb tn hk=>(hb b tn).trans (hI.ext.frame b tn hk),abP hI.ext.size h.size,ho.trans hI.ext.os,ht.trans hI.ext.tape,hu.trans hI.ext.output⟩,
  hI.mem.vg h,hI.aX.ce h.ce,hI.defers.vg h,hI.hN,hI.n0⟩
def qH(ρ:bG)(m:Mem)(b:Nat):Prop:= ¬ρ.S b/\∀k,Live ρ m k->(ρ.aH k).b≠b
theorem qH.ext{ρ U':bG}{m m':Mem}{w w':World}{b:Nat}(h:qH ρ m b)(x:Ext ρ m w U' m' w')(hb:b<w.heap.size):qH U' m' b:=by
 refine⟨λhs=>?_,λk hk e=>?_⟩
 .rcases x.S' b hs with h1|h1|⟨k,hk,e⟩
  .exact h.1 h1
  .omega
  .exact h.2 k hk e
 .rcases x.aP k hk with h1|⟨k0,h0,e0⟩
  .omega
  .exact h.2 k0 h0 (e0.trans e)
theorem qH.chg{n0:Nat}{ρ U':bG}{m m':Mem}{b:Nat}(h:qH ρ m b)(x:SL n0 ρ m U' m'):qH U' m' b:=by
 refine⟨λhs=>?_,λk hk e=>?_⟩
 .rcases x.S' b hs with h1|⟨k,hk,e⟩
  .exact h.1 h1
  .exact h.2 k hk e
 .obtain⟨k0,h0,e0⟩:=x.aP k hk;exact h.2 k0 h0 (e0.trans e)
theorem vf.put{ρ:bG}{m:Mem}{w:World}{l:Nat}(h:qH ρ m l)(o:Obj):vf ρ m w (w.putObj l o):=
 ⟨aC,λb hb=>World.putObj_heap_other (by rintro rfl;exact h.1 hb),λk hk=>World.putObj_heap_other (h.2 k hk)⟩
theorem Inv.put{st:St}{ρ:bG}{a:Act}{w:World}{l:Nat}(hI:Inv N ρ0 m0 w0 st ρ a w)(h:qH ρ st.mem l)(hl:w0.heap.size<=l)(o:Obj):Inv N ρ0 m0 w0 st ρ a (w.putObj l o):=
 hI.vg (vf.put h o) (λb hb=>World.putObj_heap_other om) rfl rfl rfl
theorem Inv.view{st jp:St}{ρ:bG}{a:Act}{w:World}(hI:Inv N ρ0 m0 w0 st ρ a w)(lY:ρ0.n=m0.length)(hw:View m0.length st jp):
  ∃U',Inv N ρ0 m0 w0 jp U' a w/\∀b,qH ρ st.mem b->qH U' jp.mem b:=by
 obtain⟨U',hM,hc,hd⟩:=hw.go ρ w hI.mem;refine⟨U',⟨⟨by rw[lY,hM.n];exact hw.hn,λid hid=>(hc.aH id (by rw[<-lY];exact hid)).trans (hI.ext.aH id hid),λb hb=>hc.S b (hI.ext.S b hb),λb hb=>?_,λk hk=>?_,hI.ext.frame,hI.ext.size,hI.ext.os,hI.ext.tape,hI.ext.output⟩,hM,?_,hI.defers.s hc.S,hI.hN,hw.hn⟩,λb h=>h.chg hc⟩
 .rcases hc.S' b hb with h|⟨k,hk,rfl⟩
  .exact hI.ext.S' b h
  .exact .inr (hI.ext.aP k hk)
 .obtain⟨k0,h0,e0⟩:=hc.aP k hk;rw[<-e0];exact hI.ext.aP k0 h0
 .refine⟨hI.aX.size.trans hw.len.symm,λi c hi=>?_⟩
  obtain⟨c0,vy,L9⟩:=hd i c hi;obtain⟨v,hv,pL⟩:=hI.aX.jD i c0 vy;exact⟨v,hv,L9 v pL⟩
theorem tx:∀(m:Mem)(j8:List Nat),(pW m j8).length=m.length
 |m,[]=>rfl
 |m,id::r=>by rw[pW,tx,aY,aay]
theorem mQ:∀(m:Mem)(j8:List Nat)(i:Nat)(bk:Bk),(pW m j8)[i]? =some bk->bk= .aR\/(m[i]? =some bk/\i∉j8)
 |m,[],i,bk,h=>.inr ⟨h,aC⟩
 |m,id::r,i,bk,h=>by
  rcases mQ _ r i bk h with h|⟨h,hn⟩
  .exact .inl h
  .rw[aY]at h;by_cases hi:id=i
   .subst hi;have aD:id<m.length:=by have:=(JJ.1 h).1;simpa using this
    rw[SC aD]at h;exact .inl (by cases h;rfl)
   .rw[Xg hi]at h;exact .inr ⟨h,by simp;exact⟨λe=>hi e.symm,hn⟩⟩
theorem uR:∀{m:Mem}{j8:List Nat}{cs:List Value},Al m j8 cs->j8.length=cs.length/\∀(i:Nat)id v,j8[i]? =some id->cs[i]? =some v->m[id]? =some (.var [.ah (.val v)])/\cn v=true
 |m,[],[],_=>⟨rfl,aC⟩
 |m,id::r,v::vs,h=>by
  obtain⟨h1,h2⟩:=h;obtain⟨e,g⟩:=uR h2;refine⟨by simp[e],λi j9 v' hi hv=>?_⟩
  cases i with
  |zero=>simp at hi hv;subst hi hv;rw[<-aT];exact h1
  |succ i=>exact g i j9 v' (by simpa using hi) (by simpa using hv)
end
section
variable {P:Program} {N:Nat} {ρ0:bG} {m0:Mem} {w0:World}
structure UU(ρ:bG)(m:Mem)(w w':World):Prop where
 size:w.heap.size<=w'.heap.size
 S:∀b off,ρ.S b->w'.cell? ⟨b,off,none⟩=w.cell? ⟨b,off,none⟩
 aP:∀k,Live ρ m k->w'.heap[(ρ.aH k).b]? =w.heap[(ρ.aH k).b]?
 maps:∀b es ck,ρ.S b->w.heap[b]? =some (.map es ck)->w'.heap[b]? =some (.map es ck)
theorem de.AH{S:Nat->Prop}{w w':World}(hw:∀b off,S b->w'.cell? ⟨b,off,none⟩=w.cell? ⟨b,off,none⟩){d:Dt}{v:Value}(h:de S w d v):de S w' d v:=by
 induction h with
 |val v h=>exact .val v h
 |no a=>exact .no a
 |nil esz a cap hc=>exact .nil esz a cap hc
 |sl esz elems b off cap u hb hl bc dj hc hd ih=>
  exact .sl esz elems b off cap u hb hl bc dj (λi cs j d hi hj=>(hw b _ hb).trans (hc i cs j d hi hj)) ih
theorem bi.AH{ρ:bG}{m:Mem}{w w':World}(x:UU ρ m w w'){pos:Option (Nat×Nat×Nat)}{c:CC}{v:Value}(h:bi ρ w pos c v):bi ρ w' pos c v:=by
 cases c<;>simp only[bi]at h|-
 case ah=>exact h.AH x.S
 case rk cs=>
  obtain⟨b,off,hv,hb,hc⟩:=h;exact⟨b,off,hv,hb,λj d hj=>let⟨u,hu,hd⟩:=hc j d hj;⟨u,(x.S b _ hb).trans hu,hd.AH x.S⟩⟩
 all_goals exact h
theorem df.AH{ρ:bG}{m:Mem}{w w':World}(x:UU ρ m w w'){r:RV}{v:Value}(h:df ρ w r v):df ρ w' r v:=by
 cases r with
 |one c=>exact bi.AH x h
 |agg cs=>
  obtain⟨vs,hv,hl,hc⟩:=h;exact⟨vs,hv,hl,λi c hi=>let⟨u,hu,hd⟩:=hc i c hi;⟨u,hu,hd.AH x⟩⟩
theorem bZ.AH{ρ:bG}{m:Mem}{w w':World}(x:UU ρ m w w'){r:CV}{v:Value}(h:bZ ρ w r v):bZ ρ w' r v:=by
 cases r with
 |aF=>trivial
 |undef=>exact h
 |rv r=>exact df.AH x h
 |bz rs=>
  obtain⟨vs,hv,hl,hc⟩:=h;exact⟨vs,hv,hl,λi c hi=>let⟨u,hu,hd⟩:=hc i c hi;⟨u,hu,hd.AH x⟩⟩
theorem ax.AH{ρ:bG}{m:Mem}{w w':World}(hM:ax ρ m w)(h:UU ρ m w w'):ax ρ m w':=by
 refine⟨hM.n,λb hb=>aaA (hM.S b hb) h.size,λk hk=>⟨aaA (hM.aP k hk).1 h.size,(hM.aP k hk).2⟩,hM.inj,λid b hb=>?_,λid i j esz el ho bc=>?_⟩
 .have h1:=hM.bk id b hb;cases b with
  |aR=>trivial
  |var cs=>
   obtain⟨cur,bW,h2⟩:=h1;exact⟨cur,bW.dB (h.aP (.aj id) ⟨_,hb,aC,aC⟩),λj c hj=>let⟨u,hu,hd⟩:=h2 j c hj;⟨u,hu,hd.AH h⟩⟩
  |row esz elems=>
   obtain⟨h2,h3,h4,h5,h6⟩:=h1;refine⟨h2,h3,h4,h5,λhp=>?_⟩
   obtain⟨cur,bW,h7,h8⟩:=h6 hp;exact⟨cur,bW.dB (h.aP (.aj id) ⟨_,hb,aC,λ_=>hp⟩),h7,λi cs j c hi hj=>let⟨u,hu,hd⟩:=h8 i cs j c hi hj;⟨u,hu,hd.AH h⟩⟩
  |mp es=>
   obtain⟨br,ck,h2,h3,h4⟩:=h1;exact⟨br,ck,⟨(h.aP (.aj id) ⟨_,hb,aC,aC⟩).trans h2.1,h2.2⟩,h3,λi e he=>let⟨e',mD,hk,hd⟩:=h4 i e he;⟨e',mD,hk,hd.AH h⟩⟩
  |it cur left=>
   obtain⟨mb,seen,ck,br,h2,h3,h4,h5,h6⟩:=h1;exact⟨mb,seen,ck,br,(h.aP (.aj id) ⟨_,hb,aC,aC⟩).trans h2,h3,h4,h.maps mb br ck h4 h5,h6⟩
  |mo esz es so=>
   obtain⟨br,ck,h2,⟨h3,h4⟩,h5⟩:=h1;exact⟨br,ck,⟨(h.aP (.aj id) ⟨_,hb,aC,aC⟩).trans h2.1,h2.2⟩,⟨h3,λi e he=>let⟨e',mD,hk,hp,hd⟩:=h4 i e he;⟨e',mD,hk,hp,hd.AH h⟩⟩,h5⟩
  |iw mid gZ seen=>
   obtain⟨h2,h3,s,h4,h5⟩:=h1;exact⟨h2,h3,s,(h.aP (.aj id) ⟨_,hb,aC,aC⟩).trans h4,h5⟩
 .obtain⟨cur,bW,h2,h3,h4⟩:=hM.d5 id i j esz el ho bc;exact⟨cur,bW.dB (h.aP (.sub id i j) ⟨⟨_,_,ho⟩,bc⟩),h2,h3,λi cs j d hi hj=>let⟨u,hu,hd⟩:=h4 i cs j d hi hj;⟨u,hu,hd.AH h.S⟩⟩
theorem bj.AH{ρ:bG}{m:Mem}{w w':World}(x:UU ρ m w w'){aX:List CV}{tmps:Array Value}(hE:bj ρ w aX tmps):bj ρ w' aX tmps:=
 ⟨hE.size,λi c hi=>let⟨v,hv,hd⟩:=hE.jD i c hi;⟨v,hv,hd.AH x⟩⟩
theorem rO{fn:Func}{tmps:Array Value}{R:Ending->World->Prop}{ρ:bG}{m:Mem}{aX:List CV}(hN:N=w0.heap.size):∀(Ds:List Nat)(w:World),Ds.Nodup->
  (∀D,D∈Ds->N<=D/\ρ.S D/\w.heap[D]? =some (.deferred (some [])))->ax ρ m w->bj ρ w aX tmps->Ext ρ0 m0 w0 ρ m w->
  (∀w',ax ρ m w'->bj ρ w' aX tmps->Ext ρ0 m0 w0 ρ m w'->∃v,(results fn tmps).run P w'= .ok v w'/\R (.returned v) w')->
  LeavesInM Fence.wide 0 P fn tmps R (Ds.map λD=>{target:= .collected D,args:= #[]}) .returning w
 | [],w,_,_,hM,hE,hx,h=>by obtain⟨v,h1,h2⟩:=h w hM hE hx;exact⟨v,h1,h2⟩
 |D::Ds,w,hn,hD,hM,hE,hx,h=>by
  obtain⟨qE,PT⟩:=abS.1 hn;obtain⟨d1,d2,d3⟩:=hD D aC;have aD:=(aaw.1 d3).1;have hc:UU ρ m w (w.putObj D (.deferred none)):=by
   refine⟨aC,λb off hS=>?_,λk hk=>World.putObj_heap_other λe=>(hM.aP k hk).2 (e▸d2),λb es ck hS We=>by
    have hb:b≠D:=λe=>by subst e;rw[d3]at We;cases We
    rw[World.putObj_heap_other hb];exact We⟩
   by_cases hb:b=D
   .subst hb;simp only[World.cell?,d3,World.putObj_heap_same aD]
   .simp only[World.cell?,World.putObj_heap_other hb]
  refine⟨aC,.inl ⟨D,_,rfl,run_takeDeferred d3,?_⟩⟩;refine rO hN Ds _ PT (λD' VD=>?_) (hM.AH hc) (hE.AH hc) ?_ h
  .obtain⟨e1,e2,e3⟩:=hD D' (by simp[VD])
   exact⟨e1,e2,(World.putObj_heap_other (by rintro rfl;exact qE VD)).trans e3⟩
  .exact⟨hx.n,hx.aH,hx.S,hx.S',hx.aP,λb hb hk=>(World.putObj_heap_other om).trans (hx.frame b hb hk),by simpa using hx.size,hx.os,hx.tape,hx.output⟩
end
section
variable {P:Program} {N:Nat} {ρ0:bG} {m0:Mem} {w0:World}
theorem Ho{K:Ex->St->Prop}:¬LetsOut (AA N ρ0 m0 w0 K):=by rintro⟨a,w,ex,st,ρ,he,_⟩;simp[Cx]at he
theorem Hp:∀lc:LC,lc.er.rn=lc.rn:=by
 intro lc
 induction lc<;>simp_all[LC.er,LC.rn]
theorem CG{l:Nat}{n0:Nat}{st:St}{ρ:bG}{act:Act}{W:World}{fn:FuncId}{rec0:Loop}{p:Nat}{la lb:LC}{ca cb:Code}{y:ByteArray}{K:Ex->St->Prop}(SI:∀(ρ0:bG)(m0:Mem)(w0:World)(K:Ex->St->Prop)(st:St)(ρ:bG)(a:Act)(w:World),ρ0.n=m0.length->aw P m0.length la K st->Inv 0 ρ0 m0 w0 st ρ a w->ca.wpIn (FR (some l)) 0 P (AA 0 ρ0 m0 w0 K) a w)(SJ:∀(ρ0:bG)(m0:Mem)(w0:World)(K:Ex->St->Prop)(st:St)(ρ:bG)(a:Act)(w:World),ρ0.n=m0.length->aw P m0.length lb K st->Inv 0 ρ0 m0 w0 st ρ a w->cb.wpIn (FR (some l)) 0 P (AA 0 ρ0 m0 w0 K) a w)(hr:rec0.state= .ready/\rec0.pending=none/\rec0.fn=fn/\rec0.tmps=act.tmps/\rec0.params= #[p]/\rec0.assign=ca/\rec0.body=cb)(hI:Inv N ρ0 m0 w0 st ρ act W)(hl:W.heap[l]? =some (.loop rec0))(EZ:qH ρ st.mem l)(Yn:w0.heap.size<=l)(h:ny st.mem λn1=>aw P n1 la (λex s2=>match ex with
    | .normal=>ny s2.mem λn2=>aw P n2 lb K s2
    |_=>False) ⟨aW st.aX p (eU y),st.mem⟩):
  Rq P l #[.string y] W λe W'=>∃ex jp U' jump,K ex jp/\Inv N ρ0 m0 w0 ⟨st.aX,jp.mem⟩ U' act W'/\e= .returned (.bool jump.isNone)/\
   W'.heap[l]? =some (.loop {rec0 with state:=if jump.isNone then .ready else .done,pending:=jump})/\
   ((jump=none/\ex= .normal)\/(jump=some .ret/\ex= .ret)\/∃id,jump=some (.exit id)/\ex= .exit id)/\
   (∀b,b<W.heap.size->b≠l->qH ρ st.mem b->qH U' jp.mem b/\W'.heap[b]? =W.heap[b]?)/\qH U' jp.mem l/\W.heap.size<=W'.heap.size:=by
 obtain⟨r1,r2,r3,r4,r5,r6,r7⟩:=hr;have hy:=run_yield (P:=P) (args:= #[.string y]) hl (by rw[r5];rfl)
 rw[r3,r4,r5,r6,r7]at hy;refine⟨_,_,_,_,hy,?_⟩;have aD:l<W.heap.size:=(aaw.1 hl).1;simp only[gC]at h;have hRo:RoundIn Fence.wide 0 P l fn (act.tmps.setIfInBounds p (.string y)) ca cb W λe W'=>∃ex jp U' jump,K ex jp/\Inv N ρ0 m0 w0 ⟨st.aX,jp.mem⟩ U' act W'/\e= .returned (.bool jump.isNone)/\
   W'.heap[l]? =some (.loop {rec0 with state:=if jump.isNone then .ready else .done,pending:=jump})/\
   ((jump=none/\ex= .normal)\/(jump=some .ret/\ex= .ret)\/∃id,jump=some (.exit id)/\ex= .exit id)/\
   (∀b,b<W.heap.size->b≠l->qH ρ st.mem b->qH U' jp.mem b/\W'.heap[b]? =W.heap[b]?)/\qH U' jp.mem l/\W.heap.size<=W'.heap.size:=by
  refine roundIn_of_wpIn trivial ?_;have Av:bj ρ W (aW st.aX p (eU y)) (act.tmps.setIfInBounds p (.string y)):=by rw[aY];exact hI.aX.set (de.val _ rfl:bZ ρ W (eU y) (.string y))
  have ZJ:Inv 0 ρ st.mem W ⟨aW st.aX p (eU y),st.mem⟩ ρ {tmps:=act.tmps.setIfInBounds p (.string y),defers:=[]} W:=
   ⟨Ext.refl _ _ _,hI.mem,Av,EW.nil,aan _,T5 _⟩
  have hwa:=SI ρ st.mem W _ _ ρ _ W hI.mem.n h ZJ;rw[Hn]at hwa;refine wpIn_mono hwa λe a1 W1 hp=>?_
  obtain⟨ex,s2,ρ2,he,hK,I7⟩:=hp;cases e<;>simp[Cx]at he<;>subst he<;>simp only at hK
  simp only[Exit.then];have yW:W1.heap[l]? =some (.loop rec0):=(I7.ext.frame l aD EZ.2).trans hl;have Mh:qH ρ2 s2.mem l:=EZ.ext I7.ext aD;have Wf:l<W1.heap.size:=(aaw.1 yW).1;refine⟨_,run_beginRound yW r1,?_⟩;obtain⟨W2,RE⟩:∃W2,W1.putObj l (.loop {rec0 with state:= .busy})=W2:=⟨_,rfl⟩
  rw[RE];have wB:vf ρ2 s2.mem W1 W2:=by rw[<-RE];exact vf.put Mh _
  have E3:=I7.mem.vg wB;have ZK:Inv 0 ρ2 s2.mem W2 s2 ρ2 a1 W2:=⟨Ext.refl _ _ _,E3,I7.aX.ce wB.ce,I7.defers.vg wB,aan _,T5 _⟩;have hwb:=SJ ρ2 s2.mem W2 _ _ ρ2 _ W2 E3.n hK ZK;rw[Hn]at hwb;refine wpIn_mono hwb λe a3 W3 hp=>?_
  obtain⟨ex,s3,ρ3,he,hK3,Pb⟩:=hp;have CD:l<W2.heap.size:=by rw[<-RE];simpa using Wf
  have Yo:W3.heap[l]? =some (.loop {rec0 with state:= .busy}):=by rw[Pb.ext.frame l CD Mh.2,<-RE];exact World.putObj_heap_same Wf
  have ZL:l<W3.heap.size:=(aaw.1 Yo).1;have RF:qH ρ3 s3.mem l:=Mh.ext Pb.ext CD;have ib:∀(jump:Option Code),((jump=none/\ex= .normal)\/(jump=some .ret/\ex= .ret)\/∃id,jump=some (.exit id)/\ex= .exit id)->
    ∃v w',(Instr.endRound l jump).run P W3= .ok v w'/\∃ex jp U' jump,K ex jp/\Inv N ρ0 m0 w0 ⟨st.aX,jp.mem⟩ U' act w'/\Ending.returned v= .returned (.bool jump.isNone)/\
     w'.heap[l]? =some (.loop {rec0 with state:=if jump.isNone then .ready else .done,pending:=jump})/\
     ((jump=none/\ex= .normal)\/(jump=some .ret/\ex= .ret)\/∃id,jump=some (.exit id)/\ex= .exit id)/\
     (∀b,b<W.heap.size->b≠l->qH ρ st.mem b->qH U' jp.mem b/\w'.heap[b]? =W.heap[b]?)/\qH U' jp.mem l/\W.heap.size<=w'.heap.size:=by
   intro jump hj;have PU:=run_endRound (P:=P) jump Yo;refine⟨_,_,PU,ex,s3,ρ3,jump,hK3,?_,rfl,World.putObj_heap_same ZL,hj,λb hb Tl ho=>?_,RF,?_⟩
   .have x1:Ext ρ0 m0 w0 ρ2 s2.mem W1:=hI.ext.trans I7.ext;have x2:Ext ρ0 m0 w0 ρ2 s2.mem W2:=by rw[<-RE];exact⟨x1.n,x1.aH,x1.S,x1.S',x1.aP,λb hb hk=>(World.putObj_heap_other om).trans (x1.frame b hb hk),by simpa using x1.size,x1.os,x1.tape,x1.output⟩
    have x3:Ext ρ0 m0 w0 ρ3 s3.mem W3:=x2.trans Pb.ext;have e1:bj ρ2 W1 st.aX act.tmps:=hI.aX.ext hI.mem I7.ext;have e3:bj ρ3 W3 st.aX act.tmps:=(e1.ce wB.ce).ext E3 Pb.ext;have d3:EW N ρ3 W3 act.defers:=((hI.defers.ext hI.mem I7.ext).vg wB).ext E3 Pb.ext;have hI5:Inv N ρ0 m0 w0 ⟨st.aX,s3.mem⟩ ρ3 act W3:=⟨x3,Pb.mem,e3,d3,hI.hN,abP hI.n0 (abP I7.n0 Pb.n0)⟩;exact hI5.put RF Yn _
   .have gQ:qH ρ2 s2.mem b:=ho.ext I7.ext hb;have VN:b<W1.heap.size:=aaA hb I7.ext.size;have fx:b<W2.heap.size:=by rw[<-RE];simpa using VN
    refine⟨gQ.ext Pb.ext fx,?_⟩;rw[World.putObj_heap_other Tl,Pb.ext.frame b fx gQ.2,<-RE,World.putObj_heap_other Tl,I7.ext.frame b hb ho.2]
   .have h1:=I7.ext.size;have h2:W1.heap.size=W2.heap.size:=by rw[<-RE];simp
    have h3:=Pb.ext.size;simp only[World.putObj_size];omega
  cases e<;>simp[Cx]at he<;>subst he
  .exact ib none (.inl ⟨rfl,rfl⟩)
  .rename_i id;exact ib (some (.exit id)) (.inr (.inr ⟨id,rfl,rfl⟩))
  .exact ib (some .ret) (.inr (.inl ⟨rfl,rfl⟩))
 have hz:(#[p].zip #[Value.string y]).foldl (λtmps x=>tmps.setIfInBounds x.1 x.2) act.tmps=act.tmps.setIfInBounds p (.string y):=aC
 exact hz▸hRo
theorem Inv.Wg{st:St}{ρ:bG}{a:Act}{w w':World}(hI:Inv N ρ0 m0 w0 st ρ a w)(h:vf ρ st.mem w w')(hb:∀b,b<w0.heap.size->(∀k,Live ρ0 m0 k->(ρ0.aH k).b≠b)->w'.heap[b]? =w.heap[b]?)(ho:w'.os=w.os)(ht:w'.tape=w.tape)(hu:w'.output=w.output):Inv N ρ0 m0 w0 st ρ a w':=
 ⟨⟨hI.ext.n,hI.ext.aH,hI.ext.S,hI.ext.S',hI.ext.aP,λb tn hk=>(hb b tn hk).trans (hI.ext.frame b tn hk),abP hI.ext.size h.size,ho.trans hI.ext.os,ht.trans hI.ext.tape,hu.trans hI.ext.output⟩,
  hI.mem.vg h,hI.aX.ce h.ce,hI.defers.vg h,hI.hN,hI.n0⟩
theorem ax.ZM{ρ:bG}{m:Mem}{w:World}{D:Nat}(hM:ax ρ m w)(hD:D<w.heap.size)(hl:∀k,Live ρ m k->(ρ.aH k).b≠D):ax {ρ with S:=λb=>ρ.S b\/b=D} m w:=by
 have g:iA ρ w {ρ with S:=λb=>ρ.S b\/b=D} w:=⟨T5 _,λ_ _=>rfl,λ_ h=>.inl h,λ_ _=>rfl⟩
 have b9:∀k,Live {ρ with S:=λb=>ρ.S b\/b=D} m k↔Live ρ m k:=λk=>by cases k<;>rfl
 refine⟨hM.n,λb hb=>?_,λk hk=>⟨(hM.aP k ((b9 k).1 hk)).1,?_⟩,λk k' hk fS e=>hM.inj k k' ((b9 k).1 hk) ((b9 k').1 fS) e,λid b hb=>?_,λid i j esz el ho bc=>?_⟩
 .rcases hb with hb|rfl
  .exact hM.S b hb
  .exact hD
 .rintro(hs|hs)
  .exact(hM.aP k ((b9 k).1 hk)).2 hs
  .exact hl k ((b9 k).1 hk) hs
 .have h1:=hM.bk id b hb;cases b with
  |aR=>trivial
  |var cs=>
   obtain⟨cur,bW,h2⟩:=h1;exact⟨cur,bW,λj c hj=>let⟨u,hu,hd⟩:=h2 j c hj;⟨u,hu,bi.ce g aC hd⟩⟩
  |row esz elems=>
   obtain⟨h2,h3,h4,h5,h6⟩:=h1;refine⟨h2,h3,h4,h5,λhp=>?_⟩
   obtain⟨cur,bW,h7,h8⟩:=h6 hp;exact⟨cur,bW,h7,λi cs j c hi hj=>let⟨u,hu,hd⟩:=h8 i cs j c hi hj;⟨u,hu,bi.ce g (by intro j9 i' j' e';cases e';rw[hM.n];exact(JJ.1 hb).1) hd⟩⟩
  |mp es=>
   obtain⟨br,ck,h2,h3,h4⟩:=h1;exact⟨br,ck,h2,h3,λi e he=>let⟨e',mD,hk,hd⟩:=h4 i e he;⟨e',mD,hk,df.ce g hd⟩⟩
  |it cur left=>
   obtain⟨mb,seen,ck,br,h2,h3,h4,h5,h6⟩:=h1;exact⟨mb,seen,ck,br,h2,h3,g.S _ h4,(g.heap mb h4).trans h5,h6⟩
  |mo esz es so=>exact cI.ce (bk:= .mo esz es so) g (by rw[hM.n];exact(JJ.1 hb).1) (λ_ _=>rfl) h1
  |iw mid gZ seen=>exact cI.ce (bk:= .iw mid gZ seen) g (by rw[hM.n];exact(JJ.1 hb).1) (λ_ _=>rfl) h1
 .obtain⟨cur,bW,h2,h3,h4⟩:=hM.d5 id i j esz el ho bc;exact⟨cur,bW,h2,h3,λi cs j d hi hj=>let⟨u,hu,hd⟩:=h4 i cs j d hi hj;⟨u,hu,de.mono g.S g.heap hd⟩⟩
theorem Live.iZ{ρ:bG}{m:Mem}{j8:List Nat}{k:gd}(h:Live ρ (pW m j8) k):Live ρ m k/\k.id∉j8:=by
 cases k with
 |aj id=>
  obtain⟨bk,h1,h2,h3⟩:=h;rcases mQ m j8 id bk h1 with rfl|⟨h4,h5⟩
  .exact absurd rfl h2
  .exact⟨⟨bk,h4,h2,h3⟩,h5⟩
 |sub id i j=>
  obtain⟨⟨esz,elems,b2,h1,h2⟩,h4⟩:=h;rcases mQ m j8 id _ h1 with rfl|⟨h5,h6⟩
  .cases h2
  .exact⟨⟨⟨esz,elems,b2,h5,h2⟩,h4⟩,h6⟩
theorem ax.iZ{ρ:bG}{m:Mem}{w:World}(hM:ax ρ m w)(j8:List Nat):ax ρ (pW m j8) w:=by
 refine⟨by rw[tx];exact hM.n,hM.S,λk hk=>hM.aP k hk.iZ.1,λk k' hk fS=>hM.inj k k' hk.iZ.1 fS.iZ.1,λid b hb=>?_,λid i j esz el ho bc=>?_⟩
 .rcases mQ m j8 id b hb with rfl|⟨h,_⟩
  .trivial
  .exact hM.bk id b h
 .obtain⟨b2,h1,h2⟩:=ho;rcases mQ m j8 id _ h1 with rfl|⟨h5,_⟩
  .cases h2
  .exact hM.d5 id i j esz el ⟨b2,h5,h2⟩ bc
theorem Inv.iZ{st:St}{ρ:bG}{a:Act}{w:World}(hI:Inv N ρ0 m0 w0 st ρ a w)(j8:List Nat):Inv N ρ0 m0 w0 ⟨st.aX,pW st.mem j8⟩ ρ a w:=
 ⟨⟨hI.ext.n,hI.ext.aH,hI.ext.S,hI.ext.S',λk hk=>hI.ext.aP k hk.iZ.1,hI.ext.frame,hI.ext.size,hI.ext.os,hI.ext.tape,hI.ext.output⟩,
  hI.mem.iZ j8,hI.aX,hI.defers,hI.hN,by rw[tx];exact hI.n0⟩
theorem E4{x:X}{f:Operand}{p:Nat}{ps:Array Tmp}{la lb:LC}{ca cb:Code}{K:Ex->St->Prop}{st:St}{ρ:bG}{a:Act}{w:World}(lY:ρ0.n=m0.length)(pQ:ps= #[p])(hx:bn f=some x)(SI:∀(l:Nat)(ρ0:bG)(m0:Mem)(w0:World)(K:Ex->St->Prop)(st:St)(ρ:bG)(a:Act)(w:World),ρ0.n=m0.length->aw P m0.length la K st->Inv 0 ρ0 m0 w0 st ρ a w->ca.wpIn (FR (some l)) 0 P (AA 0 ρ0 m0 w0 K) a w)(SJ:∀(l:Nat)(ρ0:bG)(m0:Mem)(w0:World)(K:Ex->St->Prop)(st:St)(ρ:bG)(a:Act)(w:World),ρ0.n=m0.length->aw P m0.length lb K st->Inv 0 ρ0 m0 w0 st ρ a w->cb.wpIn (FR (some l)) 0 P (AA 0 ρ0 m0 w0 K) a w)(h:aw P m0.length (.yk x p la lb) K st)(hI:Inv N ρ0 m0 w0 st ρ a w):(Code.rangeFunc f ps ca cb).wpIn (FR none) 0 P (AA N ρ0 m0 w0 K) a w:=by
 obtain⟨gf,j8,cs,xs,α,J,S,ZN,L6,⟨lH,du⟩,ZO,⟨x0,hJ0,UW⟩,E5,Wh⟩:=h;have hd:=aQ hI.aX hx;rw[ZN]at hd;obtain⟨im,hv⟩:=hd;rw[PQ];refine wpIn_rangeFunc λfn _=>?_
 obtain⟨rec0,AI⟩:∃rec0:Loop,rec0={state:= .ready,pending:=none,fn,tmps:=a.tmps,params:=ps,assign:=ca,body:=cb,defers:=w.heap.size}:=⟨_,rfl⟩;obtain⟨W1,B0⟩:∃W1,(w.alloc (.deferred (some []))).alloc (.loop rec0)=W1:=⟨_,rfl⟩;have Wi:W1.heap.size=w.heap.size+2:=by rw[<-B0];simp
 have hold:∀b,b<w.heap.size->W1.heap[b]? =w.heap[b]? :=λb hb=>by
  rw[<-B0];exact(Go.RowKit.Below.heap_alloc _ _ _ (by simp;omega)).trans (Go.RowKit.Below.heap_alloc _ _ _ hb)
 have hL1:W1.heap[w.heap.size+1]? =some (.loop rec0):=by rw[<-B0];have:=World.alloc_heap_new (w.alloc (.deferred (some []))) (.loop rec0);rwa [World.size_alloc]at this
 have Tm:W1.heap[w.heap.size]? =some (.deferred (some [])):=by rw[<-B0];exact(Go.RowKit.Below.heap_alloc _ _ _ aC).trans (World.alloc_heap_new w _)
 have VA:W1.os=w.os/\W1.tape=w.tape/\W1.output=w.output:=by rw[<-B0];exact⟨rfl,rfl,rfl⟩
 obtain⟨⟨gfn,hgf,hgb,Pc⟩,hT⟩:=ZO;have ZP:gfn.body≠none:=by intro e;rw[e]at hgb;cases hgb
 have ZQ:gfn.name≠ "runtime.NumGoroutine" :=by intro e;rw[e]at Pc;simp at Pc
 obtain⟨as,has⟩:∃as:List (Nat×Nat),as=j8.map λid=>((ρ.aH (.aj id)).b,(ρ.aH (.aj id)).ar):=⟨_,rfl⟩
 have ZR:(j8.map λid=>Value.pointer (some ⟨(ρ.aH (.aj id)).b,(ρ.aH (.aj id)).ar,none⟩))=rz as:=by rw[has,rz,abZ];rfl
 rw[ZR]at hv;have Wj:vf ρ st.mem w W1:=⟨om,λb hb=>hold b (hI.mem.S b hb),λk hk=>hold _ (hI.mem.aP k hk).1⟩
 have Hq:Inv N ρ0 m0 w0 st ρ a W1:=hI.vg Wj (λb hb=>hold b (aaA hb hI.ext.size)) VA.1 VA.2.1 VA.2.2
 let ρ1:bG:={ρ with S:=λb=>ρ.S b\/b=w.heap.size}
 let act:Act:={a with defers:=[{target:= .collected w.heap.size,args:= #[]}]++a.defers}
 have aD:∀k,Live ρ st.mem k->(ρ.aH k).b<w.heap.size:=λk hk=>(hI.mem.aP k hk).1
 have b9:∀(m:Mem)k,Live ρ1 m k↔Live ρ m k:=λm k=>by cases k<;>rfl
 have g1:iA ρ W1 ρ1 W1:=⟨T5 _,λ_ _=>rfl,λ_ h=>.inl h,λ_ _=>rfl⟩
 have hIb:Inv N ρ0 m0 w0 st ρ1 act W1:=by
  refine⟨⟨Hq.ext.n,Hq.ext.aH,λb hb=>.inl (Hq.ext.S b hb),λb hb=>?_,λk hk=>Hq.ext.aP k ((b9 _ k).1 hk),Hq.ext.frame,Hq.ext.size,Hq.ext.os,Hq.ext.tape,Hq.ext.output⟩,
   Hq.mem.ZM om (λk hk e=>by have:=aD k hk;omega),Hq.aX.ce g1,?_,hI.hN,hI.n0⟩
  .rcases hb with hb|rfl
   .exact Hq.ext.S' b hb
   .exact .inr (.inl hI.ext.size)
  .obtain⟨Ds,h1,h2,h3⟩:=Hq.defers;refine⟨w.heap.size::Ds,by simp[act,h1],abS.2 ⟨λhm=>?_,h2⟩,λD hD=>?_⟩
   .have:=hI.mem.S _ (h3 _ hm).2.1;omega
   .rcases aaB.1 hD with rfl|hD
    .exact⟨abP hI.hN hI.ext.size,.inr rfl,Tm⟩
    .exact⟨(h3 D hD).1,.inl (h3 D hD).2.1,(h3 D hD).2.2⟩
 have hIc:=hIb.iZ j8;have Wk:qH ρ1 (pW st.mem j8) (w.heap.size+1):=by
  refine⟨?_,λk hk e=>?_⟩
  .rintro(hs|hs)
   .have:=hI.mem.S _ hs;omega
   .omega
  .have:=aD k ((b9 _ k).1 hk).iZ.1;have h2:(ρ1.aH k).b=(ρ.aH k).b:=rfl;omega
 obtain⟨Wl,UX⟩:=uR L6;have bX:∀id,id∈j8->Live ρ st.mem (.aj id):=λid hid=>by
  obtain⟨i,hi⟩:=X1 hid;have aD:i<cs.length:=by rw[<-Wl];exact(JJ.1 hi).1
  obtain⟨h1,_⟩:=UX i id _ hi (vl aD);exact⟨_,h1,aC,aC⟩
 have Wm:∀b,b∈as.map (·.1)->qH ρ1 (pW st.mem j8) b:=by
  intro b hb;rw[has,abZ]at hb;obtain⟨id,hid,rfl⟩:=aas.1 hb;have hL:=bX id hid;refine⟨?_,λk hk e=>?_⟩
  .rintro(hs|hs)
   .exact(hI.mem.aP _ hL).2 hs
   .have:=aD _ hL;simp only[Function.comp]at hs;omega
  .have kg:=(b9 _ k).1 hk;have:=hI.mem.inj k _ kg.iZ.1 hL e;subst this;exact kg.iZ.2 hid
 obtain⟨ρ2,hId,RG⟩:=hIc.view lY UW;have ZS:as.length=cs.length:=by rw[has,Nr,Wl]
 have ZT:(as.map (·.1)).Nodup:=by
  rw[has,abZ];have key:∀l:List Nat,(∀id,id∈l->id∈j8)->l.Nodup->(l.map λid=>(ρ.aH (.aj id)).b).Nodup:=by
   intro l
   induction l with
   |nil=>intro _ _;exact List.nodup_nil
   |cons id r ih=>
    intro hm hn;obtain⟨qE,PT⟩:=abS.1 hn;refine abS.2 ⟨λhb=>?_,ih (λid h=>hm id (by simp[h])) PT⟩
    obtain⟨j9,Mi,e⟩:=aas.1 hb;have:=hI.mem.inj _ _ (bX j9 (hm j9 (by simp[Mi]))) (bX id (hm id aC)) e
    cases this;exact qE Mi
  exact key j8 (λ_ h=>h) lH
 have RH:∀b,b∈as.map (·.1)->b<w.heap.size:=by intro b hb;rw[has,abZ]at hb;obtain⟨id,hid,rfl⟩:=aas.1 hb;exact aD _ (bX id hid)
 have ZU:∀b,b∈as.map (·.1)->w0.heap.size<=b\/∃k0,Live ρ0 m0 k0/\(ρ0.aH k0).b=b:=by intro b hb;rw[has,abZ]at hb;obtain⟨id,hid,rfl⟩:=aas.1 hb;exact hI.ext.aP _ (bX id hid)
 have PV:∀a0,a0∈as->a0.1∈as.map (·.1):=λa0 h0=>aas.2 ⟨a0,h0,rfl⟩
 let Jw:Nat->World->Prop:=λk W=>∃y U',J k y/\Inv N ρ0 m0 w0 (S y) U' act W/\qH U' (S y).mem (w.heap.size+1)/\(∀b,b∈as.map (·.1)->qH U' (S y).mem b)/\
  W.heap[w.heap.size+1]? =some (.loop rec0)
 let Jx:World->Prop:=λW=>∃c ex jp U',K ex jp/\Inv N ρ0 m0 w0 jp U' act W/\qH U' jp.mem (w.heap.size+1)/\(∀b,b∈as.map (·.1)->qH U' jp.mem b)/\
  ((c= .ret/\ex= .ret)\/∃id,c= .exit id/\ex= .exit id)/\W.heap[w.heap.size+1]? =some (.loop {rec0 with state:= .done,pending:=some c})
 have RI:∀(jp:St)(U':bG)(o:Obj)(W W':World),Inv N ρ0 m0 w0 jp U' act W->(∀b,b∈as.map (·.1)->qH U' jp.mem b)->W.heap[w.heap.size+1]? =some o->
   W.heap.size<=W'.heap.size->(∀b,b<W.heap.size->(∀a,a∈as->b≠a.1)->W'.heap[b]? =W.heap[b]?)->W'.os=W.os->W'.tape=W.tape->W'.output=W.output->
   Inv N ρ0 m0 w0 jp U' act W'/\W'.heap[w.heap.size+1]? =some o:=by
  intro jp U' o W W' hI ho hl hs hb h1 h2 h3;refine⟨hI.Wg ⟨hs,λb hS=>hb b (hI.mem.S b hS) λa ha e=>(ho _ (PV a ha)).1 (e▸hS),λk hk=>hb _ (hI.mem.aP k hk).1 λa ha e=>(ho _ (PV a ha)).2 k hk e⟩
   (λb tn hk=>hb b (aaA tn hI.ext.size) λa ha e=>?_) h1 h2 h3,?_⟩
  .rcases ZU _ (PV a ha)with h|⟨k0,h0,e0⟩
   .omega
   .exact hk k0 h0 (e0.trans e.symm)
  .rw[hb _ (aaw.1 hl).1 λa ha e=>?_]
   .exact hl
   .have:=RH _ (PV a ha);omega
 have main:=hT (w.heap.size+1) as W1 Jw Jx ZS ZT
  (λi a0 v hi hv=>by
   rw[has,Sf]at hi;cases hid:j8[i]? with
   |none=>rw[hid]at hi;cases hi
   |some id=>
    rw[hid]at hi;simp only[aax,aat]at hi;subst hi;obtain⟨hm,i3⟩:=UX i id v hid hv;obtain⟨cur,bW,jd⟩:=Hq.mem.bk id _ hm;obtain⟨u,hu,cu⟩:=jd 0 _ rfl;have va:u=v:=by
     cases cu with
     |val _ _=>rfl
     |no _=>simp[cn]at i3
    subst va;exact⟨by rw[bW.cell];simpa using hu,bW.qt (by have:=(aaw.1 hu).1;simpa using this)⟩)
  (λk W W'⟨y,U',h1,h2,h3,h4,h5⟩hs hb e1 e2 e3=>by obtain⟨q1,q2⟩:=RI _ _ _ W W' h2 h4 h5 hs hb e1 e2 e3;exact⟨y,U',h1,q1,h3,h4,q2⟩)
  (λW W'⟨c,ex,jp,U',h0,h2,h3,h4,h6,h5⟩hs hb e1 e2 e3=>by obtain⟨q1,q2⟩:=RI _ _ _ W W' h2 h4 h5 hs hb e1 e2 e3;exact⟨c,ex,jp,U',h0,q1,h3,h4,h6,q2⟩)
  (λk y W hk⟨z,U',h1,h2,h3,h4,h5⟩=>by
   have hr:=E5 k y z hk h1;have Tn:=CG (SI _) (SJ _) (l:=w.heap.size+1) (n0:=0) (rec0:=rec0) (act:=act) (fn:=fn) (p:=p) (by rw[AI];exact⟨rfl,rfl,rfl,rfl,pQ,rfl,rfl⟩) h2 h5 h3
    (by have:=hI.ext.size;omega) hr
   obtain⟨f1,t1,a1,b1,hy,hR⟩:=Tn;refine⟨f1,t1,a1,b1,hy,hR.mono λe W' hp=>?_⟩
   obtain⟨ex,jp,ρ3,jump,hK,hIn,he,hl,hj,ZV,AJ,dj⟩:=hp;have Yp:∀b,b∈as.map (·.1)->qH ρ3 jp.mem b/\W'.heap[b]? =W.heap[b]? :=λb hb=>by have aD:=RH b hb;have CD:w.heap.size+1<W.heap.size:=(aaw.1 h5).1;exact ZV b om om (h4 b hb)
   rcases hj with⟨rfl,rfl⟩|⟨rfl,rfl⟩|⟨id,rfl,rfl⟩
   .left;obtain⟨z',O5,Rx⟩:=hK;obtain⟨ρ4,hIv,Yq⟩:=hIn.view lY Rx;refine⟨he,⟨z',ρ4,O5,hIv,Yq _ AJ,λb hb=>Yq b (Yp b hb).1,?_⟩,dj,λa ha=>(Yp a.1 (aas.2 ⟨a,ha,rfl⟩)).2⟩
    rw[hl,AI];rfl
   .right;exact⟨he,.ret,.ret,_,ρ3,hK,hIn,AJ,λb hb=>(Yp b hb).1,.inl ⟨rfl,rfl⟩,hl⟩
   .right;exact⟨he,.exit id,.exit id,_,ρ3,hK,hIn,AJ,λb hb=>(Yp b hb).1,.inr ⟨id,rfl,rfl⟩,hl⟩)
  ⟨x0,ρ2,hJ0,hId,RG _ Wk,λb hb=>RG b (Wm b hb),hL1⟩
 refine⟨w.heap.size+1,[{target:= .collected w.heap.size,args:= #[]}],W1,{target:= .fn (.func gf) (rz as).toArray,args:= #[.func (.yield (w.heap.size+1)) #[] #[]]},W1,gf,
  #[.func (.yield (w.heap.size+1)) #[] #[]]++(rz as).toArray,W1,?_,?_,λ_ _=>trivial,?_,by simp[Fence.wide],?_⟩
 .rw[<-B0,AI];exact run_enterLoop_outer _ _ _ _ _
 .simp only[resolve,hv];simp[go_sem]
 .simp[invoke,callFunc,hgf,ZQ,ZP]
 .refine main.mono λe W' hp=>?_
  obtain⟨⟨v,rfl⟩,hp⟩:=hp;rcases hp with⟨y,U',h1,h2,h3,h4,h5⟩|⟨c,ex,jp,U',h0,h2,h3,h4,h6,h5⟩
  .refine⟨none,_,by have:=run_endLoop (P:=P) h5 (by rw[AI];simp);rw[AI]at this;exact this,?_⟩
   exact⟨.normal,S y,U',rfl,Wh y h1,h2.put h3 (by have:=hI.ext.size;omega) _⟩
  .refine⟨some c,_,by have:=run_endLoop (P:=P) h5 (by simp);exact this,?_⟩
   have Wn:=h2.put h3 (by have:=hI.ext.size;omega) (.loop {rec0 with state:= .exhausted,pending:=some c})
   rcases h6 with⟨rfl,rfl⟩|⟨id,rfl,rfl⟩
   .exact wpIn_ret ⟨.ret,jp,U',rfl,h0,Wn⟩
   .exact wpIn_exit ⟨.exit id,jp,U',rfl,h0,Wn⟩
end
section
variable {P:Program} {N:Nat} {ρ0:bG} {m0:Mem} {w0:World}
theorem kG{f:Operand}{ps:Array Tmp}{x y:Code}{lc:LC}(h:dV P (.rangeFunc f ps x y)=some lc):∃x' p la lb,lc= .yk x' p la lb:=by
 simp only[dV,T3]at h;split at h
 case h_2=>cases h
 simp only[OJ]at h;obtain⟨lx,hx,ly,hy,h⟩:=h;split at h
 case isFalse=>cases h
 simp only[OJ]at h;obtain⟨x',_,h⟩:=h;cases h;exact⟨_,_,_,_,rfl⟩
theorem Mj:∀(lc:LC)(r:Option Nat)(AK:r=none\/lc.rn=true)(N:Nat)(ρ0:bG)(m0:Mem)(w0:World)(lY:ρ0.n=m0.length)(c:Code)(K:Ex->St->Prop)(st:St)(ρ:bG)(a:Act)(w:World),
  dV P c=some lc.er->aw P m0.length lc K st->Inv N ρ0 m0 w0 st ρ a w->c.wpIn (FR r) 0 P (AA N ρ0 m0 w0 K) a w:=by
 intro lc
 induction lc with
 |cU b ih=>
  intro r AK N ρ0 m0 w0 lY c K st ρ a w hl h hI;obtain⟨s',hv,h⟩:=h;obtain⟨U',pO⟩:=hI.Lv lY hv;exact ih r AK N ρ0 m0 w0 lY c K s' U' a w hl h pO
 |skip=>
  intro r AK N ρ0 m0 w0 lY c K st ρ a w hl h hI;cases c with
  |skip=>exact wpIn_skip ⟨_,st,ρ,rfl,h,hI⟩
  |region id ops bR=>cases bR<;>simp[dV,LC.er,OJ]at hl
  |rangeFunc f ps ca cb=>obtain⟨_,_,_,_,e⟩:=kG hl;simp[LC.er]at e
  |_=>simp[dV,LC.er,OJ]at hl
 |ai ZW=>
  intro r AK N ρ0 m0 w0 lY c K st ρ a w hl h hI;cases c with
  |region id ops bR=>
   cases bR with
   |true=>simp[dV,LC.er,OJ]at hl
   |false=>
    simp only[dV,LC.er,T3,OJ]at hl;obtain⟨bS,AF,hl⟩:=hl;cases hl;refine wpIn_region (iK (wA AF) Ho _ _ _ ?_);have:=wy (Q:=AA N ρ0 m0 w0 K) (K:=IB K) (λaX m ρ a w hK hI=>⟨_,_,ρ,rfl,hK,hI⟩) ops.toList 0 _ st.aX st.mem ρ a w rfl AF h hI
    simpa[ac4]using this
  |rangeFunc f ps ca cb=>obtain⟨_,_,_,_,e⟩:=kG hl;simp[LC.er]at e
  |_=>simp[dV,LC.er,OJ]at hl
 |bR ZW Y0=>
  intro r AK N ρ0 m0 w0 lY c K st ρ a w hl h hI;cases c with
  |region id ops bR=>
   cases bR with
   |true=>
    simp only[dV,LC.er,T3,OJ]at hl;obtain⟨bS,AF,hl⟩:=hl;obtain⟨qx,hs,hl⟩:=hl;cases hl;refine wpIn_region_draw λt=>iK (wA AF) Ho _ _ _ ?_
    exact AG (Q:=AA N ρ0 m0 w0 K) (K:=K) (λaX m ρ a w hK hI=>⟨_,_,ρ,rfl,hK,hI⟩) AF hs h hI t
   |false=>simp[dV,LC.er,OJ]at hl
  |rangeFunc f ps ca cb=>obtain⟨_,_,_,_,e⟩:=kG hl;simp[LC.er]at e
  |_=>simp[dV,LC.er,OJ]at hl
 |seq lx ly Ti Mf=>
  intro r AK N ρ0 m0 w0 lY c K st ρ a w hl h hI;cases c with
  |seq x y=>
   simp only[dV,LC.er,T3,OJ,aat,LC.seq.injEq]at hl;obtain⟨lx',hx,ly',hy,rfl,rfl⟩:=hl;refine wpIn_seq (wpIn_mono (Ti r (AK.imp id λh=>(acK.1 h).1) N ρ0 m0 w0 lY x _ st ρ a w hx h hI) λe a' w' hp=>?_)
   obtain⟨ex,jp,U',he,hK,pO⟩:=hp;cases e<;>simp[Cx]at he<;>subst he
   .exact Mf r (AK.imp id λh=>(acK.1 h).2) N ρ0 m0 w0 lY y K jp U' a' w' hy hK pO
   .exact⟨_,jp,U',rfl,hK,pO⟩
   .exact⟨_,jp,U',rfl,hK,pO⟩
  |region id ops bR=>cases bR<;>simp[dV,LC.er,OJ]at hl
  |rangeFunc f ps ca cb=>obtain⟨_,_,_,_,e⟩:=kG hl;simp[LC.er]at e
  |_=>simp[dV,LC.er,OJ]at hl
 |cond x0 ly0 lz0 Mf ZX=>
  intro r AK N ρ0 m0 w0 lY c K st ρ a w hl h hI;cases c with
  |cond x y z=>
   simp only[dV,LC.er,T3,OJ,aat,LC.cond.injEq]at hl;obtain⟨x',hx,ly,hy,lz,hz,rfl,rfl,rfl⟩:=hl;have hd:=aQ hI.aX hx;simp only[aw]at h;split at h
   .rename_i t tm;rw[tm]at hd;have ht:=(bC hd).1;have rJ:∀b,t=b->SK x' (aE b) st.aX=st.aX:=λb hb=>by
     subst hb;cases x' with
     |t n=>exact AD tm
     |c v=>rfl
    refine wpIn_cond ht ?_;rcases cf.1 h with⟨rfl,h⟩|⟨rfl,h⟩
    .simp only[fe,rJ true rfl]at h;exact Mf r (AK.imp id λh=>(acK.1 h).1) N ρ0 m0 w0 lY y K st ρ a w hy h hI
    .simp only[fe,rJ false rfl]at h;exact ZX r (AK.imp id λh=>(acK.1 h).2) N ρ0 m0 w0 lY z K st ρ a w hz h hI
   .exact h.elim
  |region id ops bR=>cases bR<;>simp[dV,LC.er,OJ]at hl
  |rangeFunc f ps ca cb=>obtain⟨_,_,_,_,e⟩:=kG hl;simp[LC.er]at e
  |_=>simp[dV,LC.er,OJ]at hl
 |block id0 lb0 ih=>
  intro r AK N ρ0 m0 w0 lY c K st ρ a w hl h hI;cases c with
  |block id b=>
   simp only[dV,LC.er,T3,OJ,aat,LC.block.injEq]at hl;obtain⟨lb,hb,rfl,rfl⟩:=hl;refine wpIn_block (wpIn_mono (ih r AK N ρ0 m0 w0 lY b _ st ρ a w hb h hI) λe a' w' hp=>?_)
   obtain⟨ex,jp,U',he,hK,pO⟩:=hp;cases e<;>simp[Cx]at he<;>subst he
   .exact⟨_,jp,U',rfl,hK,pO⟩
   .rename_i j9;simp only[Ew]at hK;simp only[Exit.inBlock];rcases cf.1 hK with⟨hid,hK⟩|⟨hid,hK⟩
    .rw[if_pos (aam hid)];exact⟨_,jp,U',rfl,hK,pO⟩
    .rw[if_neg (acG hid)];exact⟨_,jp,U',rfl,hK,pO⟩
   .exact⟨_,jp,U',rfl,hK,pO⟩
  |region id ops bR=>cases bR<;>simp[dV,LC.er,OJ]at hl
  |rangeFunc f ps ca cb=>obtain⟨_,_,_,_,e⟩:=kG hl;simp[LC.er]at e
  |_=>simp[dV,LC.er,OJ]at hl
 |loop lb0 ih=>
  intro r AK N ρ0 m0 w0 lY c K st ρ a w hl h hI;cases c with
  |loop b=>
   simp only[dV,LC.er,T3,OJ,aat,LC.loop.injEq]at hl;obtain⟨lb,hb,rfl⟩:=hl;obtain⟨α,J,S,μ,⟨a1,hJ1,Yr⟩,E5⟩:=h;obtain⟨ρ1,ZJ⟩:=hI.Lv lY Yr;refine ve (γ:=α) (I:=λx a w=>J x/\∃ρ,Inv N ρ0 m0 w0 (S x) ρ a w) (μ:=μ) a1 ⟨hJ1,ρ1,ZJ⟩ λx a w⟨hJ,ρ,hI⟩=>?_
   refine wpIn_mono (ih r AK N ρ0 m0 w0 lY b _ (S x) ρ a w hb (E5 x hJ) hI) λe a' w' hp=>?_
   obtain⟨ex,jp,U',he,hK,pO⟩:=hp;cases e<;>simp[Cx]at he<;>subst he
   .obtain⟨x3,hJ3,aD,hw3⟩:=hK;obtain⟨ρ3,ZK⟩:=pO.Lv lY hw3;exact⟨x3,⟨hJ3,ρ3,ZK⟩,aD⟩
   .exact⟨_,jp,U',rfl,hK,pO⟩
   .exact⟨_,jp,U',rfl,hK,pO⟩
  |region id ops bR=>cases bR<;>simp[dV,LC.er,OJ]at hl
  |rangeFunc f ps ca cb=>obtain⟨_,_,_,_,e⟩:=kG hl;simp[LC.er]at e
  |_=>simp[dV,LC.er,OJ]at hl
 |exit id0=>
  intro r AK N ρ0 m0 w0 lY c K st ρ a w hl h hI;cases c with
  |exit id=>
   simp[dV,LC.er]at hl;subst hl;exact wpIn_exit ⟨_,st,ρ,rfl,h,hI⟩
  |region id ops bR=>cases bR<;>simp[dV,LC.er,OJ]at hl
  |rangeFunc f ps ca cb=>obtain⟨_,_,_,_,e⟩:=kG hl;simp[LC.er]at e
  |_=>simp[dV,LC.er,OJ]at hl
 |ret=>
  intro r AK N ρ0 m0 w0 lY c K st ρ a w hl h hI;cases c with
  |ret=>exact wpIn_ret ⟨_,st,ρ,rfl,h,hI⟩
  |region id ops bR=>cases bR<;>simp[dV,LC.er,OJ]at hl
  |rangeFunc f ps ca cb=>obtain⟨_,_,_,_,e⟩:=kG hl;simp[LC.er]at e
  |_=>simp[dV,LC.er,OJ]at hl
 |yk x0 p la0 lb0 SI SJ=>
  intro r AK N ρ0 m0 w0 lY c K st ρ a w hl h hI;have hr0:r=none:=AK.resolve_right (by simp[LC.rn])
  subst hr0;cases c with
  |rangeFunc f ps ca cb=>
   simp only[dV,LC.er,T3]at hl;split at hl
   case h_2=>cases hl
   rename_i p' pQ;simp only[OJ]at hl;obtain⟨la,hla,lb,ZR,hl⟩:=hl;split at hl
   case isFalse=>cases hl
   rename_i jX;simp only[OJ,aat,LC.yk.injEq]at hl;obtain⟨x',hx,rfl,rfl,rfl,rfl⟩:=hl;rw[aac,Hp,Hp]at jX;exact E4 lY (by apply ab9;simpa using pQ) hx (λl ρ0 m0 w0 K st ρ a w hM h hI=>SI (some l) (.inr jX.1) 0 ρ0 m0 w0 hM ca K st ρ a w hla h hI)
    (λl ρ0 m0 w0 K st ρ a w hM h hI=>SJ (some l) (.inr jX.2) 0 ρ0 m0 w0 hM cb K st ρ a w ZR h hI) h hI
  |region id ops bR=>cases bR<;>simp[dV,LC.er,OJ]at hl
  |_=>simp[dV,LC.er,OJ]at hl
def tz(tmps:Array Value):ResultVar->Sem Value
 | .tmp t=>pure (tmps.getD t Go.undef)
 | .cell ad t=>do loadVar t (<-asAddr (tmps.getD ad Go.undef))
theorem E6(fn:Func)(tmps:Array Value):results fn tmps=(do let vs<-fn.results.mapM (tz tmps);pure (if h:vs.size=1 then vs[0]else .tuple vs)):=by
 unfold results;have e:(λ(r:ResultVar)=>match r with
  | .tmp t=>(pure (tmps.getD t Go.undef):Sem Value)
  | .cell ad t=>do loadVar t (<-asAddr (tmps.getD ad Go.undef)))=tz tmps:=by
  funext r;cases r<;>rfl
 rw[<-e];rfl
theorem qI:∀{rs:List ResultVar}{I8:List Rv},oB P rs=some I8->∀{st:St}{ρ:bG}{a:Act}{w:World}{K:List RV->Prop},
  ax ρ st.mem w->bj ρ w st.aX a.tmps->Cd P st I8 K->
  ∃(vs:List RV)(us:List Value),K vs/\(rs.mapM (tz a.tmps)).run P w= .ok us w/\
   us.length=vs.length/\∀(i:Nat)r,vs[i]? =some r->∃u,us[i]? =some u/\df ρ w r u
 | [],I8,h,st,ρ,a,w,K,hM,hE,hr=>by simp[oB]at h;subst h;exact⟨[],[],hr,rfl,rfl,aC⟩
 | .tmp t::r,I8,h,st,ρ,a,w,K,hM,hE,hr=>by
  simp only[oB,T3,OJ]at h;obtain⟨r',ZY,h⟩:=h;cases h;simp only[Cd]at hr;obtain⟨v,hv,hr⟩:=aV.1 hr;obtain⟨vs,us,hK,cN,hlen,cg⟩:=qI ZY hM hE hr;have hd:=hE.get t;have PK:kp st.aX t= .rv v:=by
   cases hg:kp st.aX t<;>rw[hg]at hv<;>simp[B9]at hv
   rw[hv]
  rw[PK]at hd;refine⟨v::vs,a.tmps.getD t Go.undef::us,hK,?_,by simp[hlen],λi r hi=>?_⟩
  .rw[List.mapM_cons,Sem.run_bind];simp only[tz,Sem.run_pure,Result.andThen_ok];rw[Sem.run_bind,cN];rfl
  .cases i with
   |zero=>simp at hi;subst hi;exact⟨_,aC,hd⟩
   |succ i=>simpa using cg i r (by simpa using hi)
 | .cell ad t::r,I8,h,st,ρ,a,w,K,hM,hE,hr=>by
  simp only[oB,T3,OJ]at h;obtain⟨agg,ha,n,hn,r',ZY,h⟩:=h;cases h;simp only[Cd]at hr;obtain⟨addr,u,cv,hv,Wo,Tm,cu⟩:=uy hM ha hn hr (hE.get ad);obtain⟨v,vd,hr⟩:=aV.1 Tm;obtain⟨vs,us,hK,cN,hlen,cg⟩:=qI ZY hM hE hr;have PK:cv= .rv v:=by
   cases cv<;>simp[B9]at vd
   rw[vd]
  subst PK;refine⟨v::vs,u::us,hK,?_,by simp[hlen],λi r hi=>?_⟩
  .rw[List.mapM_cons,Sem.run_bind];simp only[tz,hv,asAddr,Sem.run_bind,Sem.run_pure,Result.andThen_ok,Wo];rw[cN];rfl
  .cases i with
   |zero=>simp at hi;subst hi;exact⟨_,aC,cu⟩
   |succ i=>simpa using cg i r (by simpa using hi)
theorem yz{fn:Func}{rs:List Rv}(h:oB P fn.results.toList=some rs){st:St}{ρ:bG}{a:Act}{w:World}{K:CV->Prop}(hM:ax ρ st.mem w)(hE:bj ρ w st.aX a.tmps)(hr:Cd P st rs λvs=>K (SN vs)):∃v r,(results fn a.tmps).run P w= .ok v w/\K r/\bZ ρ w r v:=by
 obtain⟨vs,us,hK,cN,hlen,cg⟩:=qI h hM hE hr;have yY:(fn.results.mapM (tz a.tmps)).run P w= .ok us.toArray w:=by rw[Array.mapM_eq_mapM_toList,Sem.run_map,cN];rfl
 rw[E6,Sem.run_bind,yY];refine⟨_,_,rfl,hK,?_⟩
 match vs,us,hlen,cg with
 | [r],[u],_,cg=>
  obtain⟨u',hu,hd⟩:=cg 0 r aC;simp at hu;subst hu;exact hd
 | [],[],_,cg=>exact⟨[],rfl,rfl,aC⟩
 |r1::r2::rs,u1::u2::us,hlen,cg=>
  refine⟨u1::u2::us,?_,hlen,cg⟩;simp
theorem nG{f:Nat}{fn:Func}{lf:LF}{args:List CV}{m:Mem}{K:CV->Mem->Prop}(hf:P.funcs[f]? =some fn)(hl:bw P fn=some lf.er)(hn:(fn.name== "runtime.NumGoroutine")=false)(hle:args.length<=lf.n)(h:body P lf args m K):ap P f args m K:=by
 simp only[bw,LF.er,T3,OJ,aat,LF.mk.injEq]at hl;obtain⟨rs,Tn,c,hc,lc0,oI,qE,ZZ,Wp⟩:=hl;subst Wp ZZ;obtain⟨lfn,lfr,lc⟩:=lf;simp only at qE Tn oI;subst qE;refine⟨⟨fn,hf,by simp[hc],hn⟩,λρ w vs hM hlen cg=>?_⟩
 simp only[body,fe,gC,b7,fM]at h;simp only at hle;have hI:Inv w.heap.size ρ m w ⟨args++List.replicate (fn.ntmps-args.length) .undef,m⟩ ρ {tmps:=vs.toArray++Array.replicate (fn.ntmps-vs.toArray.size) Go.undef,defers:=[]} w:=by
  refine⟨Ext.refl _ _ _,hM,⟨by simp[hlen],λi c hi=>?_⟩,EW.nil,T5 _,T5 _⟩
  rcases aaf i args.length with aD|ek
  .rw[YN aD]at hi;obtain⟨v,hv,hd⟩:=cg i c hi;refine⟨v,?_,hd⟩;rw[acv (by simp[hlen];exact aD)]
   simpa using hv
  .rw[Xi ek,acV]at hi;split at hi
   .rename_i aD;cases hi;refine⟨Go.undef,?_,rfl⟩;rw[Array.getElem?_append_right (by simp[hlen];exact ek),Array.getElem?_replicate,if_pos (by simp[hlen];exact aD)]
   .cases hi
 refine(callsIn_wide (n:=0)).1 (callsIn_of_wp_marks (F:=Fence.wide) hf hc trivial (wpIn_mono (Mj lc none (.inl rfl) _ ρ m w hM.n c _ _ ρ _ w oI h hI) λe a' w' hp=>?_))
 obtain⟨ex,jp,U',he,hK,pO⟩:=hp;have ib:Cd P jp lfr (λvs=>K (SN vs) jp.mem)->LeavesInM Fence.wide 0 P fn a'.tmps (λe w'=>∃Wq r m' U',e=Ending.returned Wq/\K r m'/\ax U' m' w'/\bZ U' w' r Wq/\Ext ρ m w U' m' w') a'.defers .returning w':=λhr=>by
  obtain⟨Ds,h1,h2,h3⟩:=pO.defers;rw[h1];refine rO rfl Ds w' h2 h3 pO.mem pO.aX pO.ext λw2 E3 Ee UR=>?_
  obtain⟨v,r,cN,hKr,hd⟩:=yz (K:=λr=>K r jp.mem) Tn E3 Ee hr
  exact⟨v,cN,v,r,jp.mem,U',rfl,hKr,E3,hd,UR⟩
 cases e<;>simp[Cx]at he<;>subst he
 .exact ib hK
 .exact hK.elim
 .exact ib hK
theorem PW:∀(c:Code)(lc:LC),dV P c=some lc->lc.er=lc:=by
 intro c
 induction c with
 |skip=>intro lc h;simp[dV]at h;subst h;rfl
 |region id ops bR=>
  intro lc h;cases bR with
  |true=>
   simp only[dV,T3,OJ]at h;obtain⟨bS,_,Y0,_,h⟩:=h;cases h;rfl
  |false=>
   simp only[dV,T3,OJ]at h;obtain⟨bS,_,h⟩:=h;cases h;rfl
 |seq x y Ti Mf=>
  intro lc h;simp only[dV,T3,OJ]at h;obtain⟨lx,hx,ly,hy,h⟩:=h;cases h;simp only[LC.er,Ti lx hx,Mf ly hy]
 |cond x y z Mf ZX=>
  intro lc h;simp only[dV,T3,OJ]at h;obtain⟨x',_,ly,hy,lz,hz,h⟩:=h;cases h;simp only[LC.er,Mf ly hy,ZX lz hz]
 |block id b ih=>
  intro lc h;simp only[dV,T3,OJ]at h;obtain⟨lb,hb,h⟩:=h;cases h;simp only[LC.er,ih lb hb]
 |loop b ih=>
  intro lc h;simp only[dV,T3,OJ]at h;obtain⟨lb,hb,h⟩:=h;cases h;simp only[LC.er,ih lb hb]
 |exit id=>intro lc h;simp[dV]at h;subst h;rfl
 |ret=>intro lc h;simp[dV]at h;subst h;rfl
 |rangeFunc f ps x y Ti Mf=>
  intro lc h;simp only[dV,T3]at h;split at h
  case h_2=>cases h
  simp only[OJ]at h;obtain⟨lx,hx,ly,hy,h⟩:=h;split at h
  case isFalse=>cases h
  simp only[OJ]at h;obtain⟨x',_,h⟩:=h;cases h;simp only[LC.er,Ti lx hx,Mf ly hy]
 |_=>intro lc h;simp[dV]at h
theorem wC{f:Nat}{fn:Func}{lf:LF}{args:List CV}{m:Mem}{K:CV->Mem->Prop}(hf:P.funcs[f]? =some fn)(hl:bw P fn=some lf)(hn:(fn.name== "runtime.NumGoroutine")=false)(hle:args.length<=lf.n)(h:body P lf args m K):ap P f args m K:=by
 refine nG hf ?_ hn hle h;have Yn:=hl;simp only[bw,T3,OJ]at hl;obtain⟨rs,Tn,c,hc,lc,oI,hl⟩:=hl;cases hl;rw[Yn];simp only[LF.er,PW c lc oI]
end
end Go.AM
