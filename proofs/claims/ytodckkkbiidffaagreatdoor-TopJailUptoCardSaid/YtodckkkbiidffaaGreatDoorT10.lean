/- Part 10 of 39: what the law stands on. -/
import Derived.Test.YtodckkkbiidffaaGreatDoorT09
import Derived.Orders
set_option linter.unusedVariables false
set_option linter.unusedSimpArgs false
set_option linter.unnecessarySimpa false
set_option maxRecDepth 100000
set_option maxHeartbeats 64000000
namespace Go.AM
section
variable {P:Program}
def LO.iF(lo:LO)(e:List CV):Option Bool:=
 match lo.guard with
 |none=>some true
 |some (s,iF)=>match iV e s with
  | .undef=>some false
  | .rv (.one (.aa (.val (.bool t))))=>some (t==iF)
  |_=>none
theorem fD{lo:LO}{e:List CV}{m:Mem}{K:List CV->CV->Mem->Prop}:
  l7 P lo e m K↔(lo.iF e=some true/\step P lo.yG e m (K e))\/(lo.iF e=some false/\K e .undef m):=by
 unfold l7 LO.iF;cases hg:lo.guard with
 |none=>simp[ei]
 |some p=>
  obtain⟨s,iF⟩:=p;simp only;generalize eu:iV e s=c;split
  .simp
  .rename_i t;have h1:∀b,t=b->aZ e s (ay b)=e:=fun b hb=>by subst hb;exact xr eu
   rw[cg];cases t
   .simp only[ei,h1 false rfl];cases iF<;>simp
   .simp only[ei,h1 true rfl];cases iF<;>simp
  .rename_i n1 n2;have:∀b,¬(match c with
     |CV.undef=>some false
     |CV.rv (RV.one (CC.aa (Dt.val (Value.bool t))))=>some (t==iF)
     |x=>none)=some b:=by
    intro b hb;split at hb
    .exact n1 rfl
    .exact n2 _ rfl
    .cases hb
   constructor
   .exact fun h=>h.elim
   .rintro(⟨h,_⟩|⟨h,_⟩)<;>exact this _ h
def vh(d:Option Nat)(v:CV)(e:List CV):List CV:=
 match d with
 |none=>e
 |some d=>e.set d v
theorem pd{d:Option Nat}{v:CV}{e:List CV}{K:List CV->Prop}:put d v e K↔K (vh d v e):=by
 rw[H4];cases d<;>rfl
variable {N:Nat} {ρ0:bG} {m0:Mem} {w0:World}
theorem Inv.drew{st:St}{ρ:bG}{a:Act}{w:World}(h:Inv N ρ0 m0 w0 st ρ a w):Inv N ρ0 m0 w0 st ρ a {w with drawn:=w.drawn+1}:=by
 obtain⟨x,M,E,d,hN,n⟩:=h;have g:hB ρ w ρ {w with drawn:=w.drawn+1}:=⟨Pq _,fun _ _=>rfl,fun _ h=>h,fun _ _=>rfl⟩
 have e:Ext ρ st.mem w ρ st.mem {w with drawn:=w.drawn+1}:=⟨Pq _,fun _ _=>rfl,fun _ h=>h,fun _ h=>.inl h,fun k h=>.inr ⟨k,h,rfl⟩,fun _ _ _=>rfl,Pq _,rfl,rfl,rfl⟩
 have hc:∀{mk:Prop}b cur,kQ mk w b cur->kQ mk {w with drawn:=w.drawn+1} b cur:=fun{mk}b cur hc=>hc.dv rfl
 refine⟨x.trans e,?_,?_,d,hN,n⟩
 .refine⟨M.n,M.S,M.a7,M.inj,fun id b hb=>?_,fun id i j esz el ho bl=>?_⟩
  .have h1:=M.bk id b hb;cases b with
   |aO=>trivial
   |var cs=>
    obtain⟨cur,bS,h2⟩:=h1;exact⟨cur,hc _ _ bS,fun j c hj=>let⟨u,hu,hd⟩:=h2 j c hj;⟨u,hu,bq.cE g aI hd⟩⟩
   |row esz elems=>
    obtain⟨h2,h3,h4,h5,h6⟩:=h1;refine⟨h2,h3,h4,h5,fun hp=>?_⟩
    obtain⟨cur,bS,h7,h8⟩:=h6 hp;exact⟨cur,hc _ _ bS,h7,fun i cs j c hi hj=>let⟨u,hu,hd⟩:=h8 i cs j c hi hj;⟨u,hu,bq.cE g (by intro iO i' j' e';cases e';rw[M.n];exact(Gf.1 hb).1) hd⟩⟩
   |mp es=>
    obtain⟨cH,ck,h2,h3,h4⟩:=h1;exact⟨cH,ck,h2,h3,fun i e he=>let⟨e',rz,hk,hd⟩:=h4 i e he;⟨e',rz,hk,du.cE g hd⟩⟩
   |it cur left=>exact h1
  .obtain⟨cur,bS,h2,h3,h4⟩:=M.gh id i j esz el ho bl;exact⟨cur,hc _ _ bS,h2,h3,fun i cs j d hi hj=>let⟨u,hu,hd⟩:=h4 i cs j d hi hj;⟨u,hu,cZ.mono (S:=ρ.S) (S':=ρ.S) (w:=w) (w':={w with drawn:=w.drawn+1}) (fun _ h=>h) (fun _ _=>rfl) hd⟩⟩
 .exact⟨E.size,fun i c hi=>let⟨v,hv,hd⟩:=E.jP i c hi;⟨v,hv,bV.cE g hd⟩⟩
theorem vW{ops:Array Oper}{k:Nat}{o:Oper}{lo:LO}{aV:List CV}{m:Mem}{ρ:bG}{a:Act}{w:World}{K:CV->Mem->Prop}{K1:Act->World->Prop}{Q:Exit->Act->World->Prop}(ho:ops[k]? =some o)(gx:ta P ops o=some lo)(hI:Inv N ρ0 m0 w0 ⟨aV,m⟩ ρ a w)(h:l7 P lo aV m fun _ v m'=>K v m')(hn:∀v m' ρ' a' w',K v m'->Inv N ρ0 m0 w0 ⟨vh lo.dst v aV,m'⟩ ρ' a' w'->K1 a' w'):wpOp P ops Q k K1 a w:=by
 simp only[ta,N7,Jm]at gx;obtain⟨i,hi,g,hg,gx⟩:=gx;cases gx;unfold wpOp;rw[ho];simp only;have Ni:∀b,LO.iF ⟨o.dst,i,g⟩ aV=some b->Region.wanted o (yielded ops a.tmps)=b:=by
  intro b hb;unfold LO.iF at hb;cases H6:o.guard with
  |none=>
   rw[H6]at hg;simp[HG]at hg;subst hg;simp at hb;subst hb;simp[Region.wanted,H6]
  |some jb=>
   obtain⟨j,iF⟩:=jb;rw[H6]at hg;simp only[HG,N7,Jm]at hg;obtain⟨oj,U2,s,hs,hg⟩:=hg;cases hg;have hy:yielded ops a.tmps j=match a.tmps[s]? with|some (.bool b)=>some b|_=>none:=by simp[yielded,U2,hs];rfl
   simp only at hb;split at hb
   .rename_i eu;have bY:=hI.aV.get s;rw[eu]at bY;have hu:a.tmps[s]? =some Go.undef\/a.tmps[s]? =none:=by
     simp only[bV,aaK]at bY;cases ht:a.tmps[s]? with
     |none=>exact .inr rfl
     |some v=>rw[ht]at bY;simp at bY;exact .inl (by rw[bY])
    cases hb;simp only[Region.wanted,H6,hy];rcases hu with hu|hu<;>rw[hu]<;>rfl
   .rename_i t eu;have bY:=hI.aV.get s;rw[eu]at bY;have ht:a.tmps[s]? =some (.bool t):=by
     have:=(bJ bY).1;rw[aaK]at this;cases ht:a.tmps[s]? with
     |none=>rw[ht]at this;cases this
     |some v=>rw[ht]at this;simp at this;rw[this]
    simp at hb;simp[Region.wanted,H6,hy,ht,hb]
   .cases hb
 rcases fD.1 h with⟨hw,hs⟩|⟨hw,hs⟩
 .rw[if_pos (Ni _ hw)];refine .inl (zj (K:=fun e' m'=>∃v,e'=vh o.dst v aV/\K v m') hi hI (vV hs fun v m' hk=>pd.2 ⟨v,rfl,hk⟩) fun e7 m' ρ' a' w'⟨v,he,hk⟩nF=>?_)
  subst he;exact hn v m' ρ' a' w' hk nF
 .rw[if_neg (by simp[Ni _ hw])]
  obtain⟨e7,Hk,nF⟩:=hI.step (d:=o.dst) (c:= .undef) (v:=Go.undef) (K:=fun e=>e=vh o.dst .undef aV) hI.mem rfl (Ext.refl _ _ _) (pd.2 rfl)
  subst Hk;exact hn _ _ _ _ _ hs nF
theorem rO{lo:LO}{e e':List CV}{m:Mem}{K:CV->Mem->Prop}(hx:∀t,t∈lo.looks->iV e t=iV e' t)(h:l7 P lo e m fun _ v m'=>K v m'):
  l7 P lo e' m fun _ v m'=>K v m':=by
 rw[fD]at h⊢;have hs:∀t,t∈jX lo.yG.xs->iV e t=iV e' t:=fun t ht=>hx t (by unfold LO.looks;split<;>simp[ht])
 have hw:lo.iF e=lo.iF e':=by
  unfold LO.iF;cases hg:lo.guard with
  |none=>rfl
  |some p=>simp only[hx p.1 (by unfold LO.looks;rw[hg];simp)]
 have D6:∀(xs:List X)(x:X),x∈xs->∀n,x= .t n->n∈jX xs:=by
  intro xs
  induction xs with
  |nil=>intro x hx;cases hx
  |cons y r ih=>
   intro x hx n hn;subst hn;cases y with
   |t k=>
    simp only[jX,aaf];rcases aaf.1 hx with h|h
    .cases h;exact .inl rfl
    .exact .inr (ih _ h n rfl)
   |c v=>
    simp only[jX];rcases aaf.1 hx with h|h
    .cases h
    .exact ih _ h n rfl
 have M9:∀x,x∈lo.yG.xs->x.ev e=x.ev e':=fun x hx=>by
  cases x with
  |t n=>exact hs n (D6 _ _ hx n rfl)
  |c v=>rfl
 rw[<-hw];rcases h with⟨h1,h2⟩|h
 .exact .inl ⟨h1,BU M9 h2⟩
 .exact .inr h
def QV(P:Program)(lo:LO)(e:List CV)(m:Mem)(v:CV):Prop:=l7 P lo e m fun _ v' m'=>v'=v/\m'=m
theorem rP{lo:LO}(hq:p6 lo.yG=true){e:List CV}{m:Mem}{K:List CV->CV->Mem->Prop}(h:l7 P lo e m K):∃v,K e v m/\QV P lo e m v:=by
 rcases fD.1 h with⟨h1,h2⟩|⟨h1,h2⟩
 .obtain⟨v,hv,fm⟩:=BT hq h2;exact⟨v,hv,fD.2 (.inl ⟨h1,fm _ ⟨rfl,rfl⟩⟩)⟩
 .exact⟨_,h2,fD.2 (.inr ⟨h1,rfl,rfl⟩)⟩
theorem QV.pure{lo:LO}(hq:vC lo.yG=true){e:List CV}{m:Mem}{v:CV}(h:QV P lo e m v)(m':Mem):QV P lo e m' v:=by
 rcases fD.1 h with⟨h1,h2⟩|⟨h1,h2⟩
 .obtain⟨v',hv,fm⟩:=FC hq h2;exact fD.2 (.inl ⟨h1,fm m' _ ⟨hv.1,rfl⟩⟩)
 .exact fD.2 (.inr ⟨h1,h2.1,rfl⟩)
end
section
variable {P:Program}
def Edge(fP:List (List Nat))(i j:Nat):Prop:=∃l,fP[i]? =some l/\j∈l
def OB(fP:List (List Nat))(L:Nat->Prop):Prop:=∀i j,Edge fP i j->L i->L j
def OC(fP:List (List Nat))(i j:Nat):Prop:=∀L,OB fP L->(∀k,Edge fP i k->L k)->L j
theorem pf{d7:List Nat}{t:Nat}:∀{l:List Nat},Nat.testBit (wZ d7 l) t=true->
  ∃j,j∈l/\(t=j\/Nat.testBit ((cR d7 j).getD 0) t=true)
 | [],h=>by simp[wZ]at h
 |j::r,h=>by
  simp only[wZ,List.foldr_cons]at h;have h1:∀a b:Nat,Nat.testBit (Nat.lor a b) t=(Nat.testBit a t||Nat.testBit b t):=fun a b=>Nat.testBit_or a b t
  rw[h1,h1]at h;simp only[aaX]at h;rcases h with h|h|h
  .obtain⟨k,hk,hr⟩:=pf (l:=r) h;exact⟨k,by simp[hk],hr⟩
  .refine⟨j,aI,.inl ?_⟩;have:Nat.shiftLeft 1 j=2^j:=by show 1<<<j=2^j;rw[Nat.shiftLeft_eq];simp
   rw[this,Nat.testBit_two_pow]at h;simpa using(of_decide_eq_true h).symm
  .exact⟨j,aI,.inr h⟩
def H9(fP:List (List Nat))(d7:List Nat):Prop:=∀(i j:Nat),Nat.testBit ((cR d7 i).getD 0) j=true->OC fP i j
theorem zk{fP:List (List Nat)}{d7:List Nat}(h:H9 fP d7):H9 fP (Bq fP d7):=by
 intro i j hb;rw[aU,Bq,NO]at hb;cases hl:fP[i]? with
 |none=>rw[hl]at hb;simp at hb
 |some l=>
  rw[hl]at hb;simp only[Wn,aax]at hb;obtain⟨k,hk,hr⟩:=pf hb;have he:Edge fP i k:=⟨l,hl,hk⟩;rcases hr with rfl|hr
  .exact fun L _ hL=>hL _ he
  .exact fun L hd hL=>h k j hr L hd fun k' gv=>hd _ _ gv (hL _ he)
theorem rQ{fP:List (List Nat)}:∀(k:Nat){d7:List Nat},H9 fP d7->H9 fP (w8 fP k d7)
 |0,_,h=>h
 |k+1,d7,h=>by
  simp only[w8];split
  .exact h
  .exact rQ k (zk h)
theorem FD{n:Nat}{fP:List (List Nat)}:H9 fP (bn n fP):=rQ n fun i j hb=>by simp[cR]at hb
theorem tF{fP:List (List Nat)}{n:Nat}{L:Nat->Prop}(iH:∀i,i<n->¬L i->∃j,Edge fP i j/\¬L j):
  ∀(l bf:List Nat),vD fP n bf l=true->(∀i,i∈bf->L i)->∀i,i<n->L i
 | [],bf,h,hb,i,hi=>by
  simp only[vD,aau]at h;exact hb i (by simpa using h i (by simpa using hi))
 |x::r,bf,h,hb,i,hi=>by
  simp only[vD,SD,aau]at h;refine tF iH r (x::bf) h.2 (fun k hk=>?_) i hi
  rcases aaf.1 hk with e|hk
  .rw[e];by_cases h1:L x
   .exact h1
   .obtain⟨j,⟨l,hl,hj⟩,Y0⟩:=iH x (by have:=h.1.1;rwa [aaQ]at this) h1
    refine absurd (hb j ?_) Y0;have:=h.1.2 j (by rw[aU,hl];exact hj)
    simpa using this
  .exact hb k hk
variable {bO:List LO} {ms:List Nat} {n:Nat} {e0:List CV} {fP:List (List Nat)}
structure ki(bO:List LO)(e0:List CV)(S:Nat->Prop)(val:Nat->CV)(e:List CV):Prop where
 len:e.length=e0.length
 on:∀t k,S k->cS bO t k=true->t<e0.length->e[t]? =some (val k)
 off:∀t,(∀k,S k->cS bO t k=false)->e[t]? =e0[t]?
theorem jy{t k:Nat}:cS bO t k=true↔∃lo,cR bO k=some lo/\lo.dst=some t:=by
 unfold cS;cases cR bO k with
 |none=>simp
 |some lo=>
  cases hd:lo.dst with
  |none=>simp[hd]
  |some d=>simp[hd]
theorem ki.step{S:Nat->Prop}{val:Nat->CV}{e:List CV}(h:ki bO e0 S val e){i:Nat}{lo:LO}(hi:cR bO i=some lo)(hu:∀t k,S k->lo.dst=some t->cS bO t k=false){v:CV}{ic:Nat->CV}(hv:ic i=v)(iz:∀k,S k->ic k=val k){S':Nat->Prop}(hS:∀k,S' k↔S k\/k=i):ki bO e0 S' ic (vh lo.dst v e):=by
 have hw:∀t,cS bO t i=true↔lo.dst=some t:=fun t=>by rw[jy];simp[hi]
 refine⟨?_,fun t k hk yL aE=>?_,fun t fm=>?_⟩
 .unfold vh;split<;>simp[h.len]
 .rcases(hS k).1 hk with hk|rfl
  .have eG:lo.dst≠some t:=fun hd=>by rw[hu t k hk hd]at yL;cases yL
   rw[iz k hk,<-h.on t k hk yL aE];unfold vh;cases hd:lo.dst with
   |none=>rfl
   |some d=>
    simp only;rw[Wf];rintro rfl;exact eG hd
  .have hd:=(hw t).1 yL;rw[hd,hv];simp only[vh];rw[Pr (by rw[h.len];exact aE)]
 .have eG:lo.dst≠some t:=fun hd=>by have:=fm i ((hS i).2 (.inr rfl));rw[(hw t).2 hd]at this;cases this
  rw[<-h.off t fun k hk=>fm k ((hS k).2 (.inl hk))]
  unfold vh;cases hd:lo.dst with
  |none=>rfl
  |some d=>
   simp only;rw[Wf];rintro rfl;exact eG hd
theorem ki.Rj{S S':Nat->Prop}{val ic:Nat->CV}{e:List CV}(h:ki bO e0 S val e)(iz:∀k,S k->ic k=val k)(hS:∀k,S' k↔S k):ki bO e0 S' ic e:=
 ⟨h.len,fun t k hk hw hl=>by rw[iz k ((hS k).1 hk)];exact h.on t k ((hS k).1 hk) hw hl,fun t fm=>h.off t fun k hk=>fm k ((hS k).2 hk)⟩
theorem ki.ext{S:Nat->Prop}{val:Nat->CV}{e e':List CV}(h:ki bO e0 S val e)(h':ki bO e0 S val e'):e=e':=by
 refine aaL fun t=>?_
 by_cases hex:∃k,S k/\cS bO t k=true
 .obtain⟨k,hk,hw⟩:=hex;rcases Wj t e0.length with aE|eu
  .rw[h.on t k hk hw aE,h'.on t k hk hw aE]
  .rw[aae (by rw[h.len];exact eu),aae (by rw[h'.len];exact eu)]
 .have:∀k,S k->cS bO t k=false:=fun k hk=>by
   cases hw:cS bO t k with
   |false=>rfl
   |true=>exact absurd ⟨k,hk,hw⟩ hex
  rw[h.off t this,h'.off t this]
def Agree(bO:List LO)(ms:List Nat)(e0:List CV)(bf:List Nat)(val:Nat->CV)(j:Nat)(e1:List CV):Prop:=
 e1.length=e0.length/\∀t,t∈mH bO j->t<e0.length->
  (∃k,k∈bf/\cS bO t k=true/\lD ms j k=true/\e1[t]? =some (val k))\/
  ((∀k,k∈bf->cS bO t k=true->k=j\/lD ms k j=true)/\e1[t]? =e0[t]?)
theorem Agree.TM{bf:List Nat}{val:Nat->CV}{j:Nat}{e1 aV:List CV}{L:Nat->Prop}(h:Agree bO ms e0 bf val j e1)(hE:ki bO e0 L val aV)(yM:∀i j,lD ms i j=true->OC fP i j)(hd:OB fP L)(qk:∀i,L i->i∈bf)(hj:¬L j)(hr:∀k,Edge fP j k->L k):
  ∀t,t∈mH bO j->iV e1 t=iV aV t:=by
 intro t ht;rw[jZ,jZ];rcases Wj t e0.length with aE|eu
 .rcases h.2 t ht aE with⟨k,hk,hw,hm,he⟩|⟨fm,he⟩
  .rw[he,hE.on t k (yM _ _ hm L hd hr) hw aE]
  .rw[he,hE.off t fun k hk=>?_]
   cases hw:cS bO t k with
   |false=>rfl
   |true=>
    rcases fm k (qk k hk) hw with rfl|hm
    .exact absurd hk hj
    .exact absurd (yM _ _ hm L hd fun k' gv=>hd _ _ gv hk) hj
 .rw[aae (by rw[h.1];exact eu),aae (by rw[hE.len];exact eu)]
structure DS(P:Program)(bO:List LO)(ms:List Nat)(n:Nat)(fP:List (List Nat))(e0:List CV)(K:List CV->Mem->Prop)(L:Nat->Prop)(bf:List Nat)(c:Bool)(R:l6)(val:Nat->CV)(dC:List (Nat×LO×List CV×CV))(e aV:List CV)(m:Mem):Prop where
 go:dA bO ms n c bf R=true
 Rk:te P bO R dC K e m
 pg:ki bO e0 (·∈bf) val e
 vj:ki bO e0 L val aV
 sub:∀i,L i->i∈bf
 down:OB fP L
 zl:∀t j k,j∈bf->k∈bf->cS bO t j=true->cS bO t k=true->j=k
 qy:∀j,j∈bf->¬L j->∃lo e1,cR bO j=some lo/\p6 lo.yG=true/\td j dC=some (lo,e1,val j)/\QV P lo e1 m (val j)/\Agree bO ms e0 bf val j e1
theorem ig{bf:List Nat}{i:Nat}(h:DQ bO ms n bf i=true):i<n/\i∉bf/\
  (∀t,t∈mH bO i->∀j,j∈bf->cS bO t j=true->lD ms i j=true)/\
  (∀t,Fc bO i=some t->∀j,j∈bf->cS bO t j=false/\(t∈mH bO j->lD ms i j=true)):=by
 simp only[DQ,SD]at h;obtain⟨⟨⟨h1,h2⟩,h4⟩,h5⟩:=h;refine⟨by rwa [aaQ]at h1,by simpa using h2,?_,?_⟩
 .intro t ht j hj hw;have:=aau.1 (aau.1 h4 t ht) j hj;simpa[hw]using this
 .intro t ht j hj;rw[ht]at h5;have:=aau.1 h5 j hj;simp only[SD,aaT,aaX]at this;refine⟨this.1,fun hl=>?_⟩
  rcases this.2 with h|h
  .simp[hl]at h
  .exact h
theorem vX{bf hd:List Nat}(h:Od ms n bf hd=true){i:Nat}(hi:i<n)(hb:i∉bf):i∈hd\/∃f,f∈hd/\lD ms i f=true:=by
 have:=aau.1 h i (by simpa using hi)
 simp only[aaX,aaB]at this;rcases this with h|h|⟨f,h1,h2⟩
 .exact absurd (by simpa using h) hb
 .exact .inl (by simpa using h)
 .exact .inr ⟨f,h1,h2⟩
theorem jz:∀{R:l6}{bf:List Nat},dA bO ms n false bf R=true->(∃f,f∈R.hd)/\∀f,f∈R.hd->f<n/\f∉bf
 | .nil,bf,h=>by simp[dA]at h
 | .cons i none r,bf,h=>by simp[dA]at h
 | .cons i (some l) r,bf,h=>by
  simp only[dA,SD]at h;obtain⟨h1,h2,_⟩:=ig h.2.1;exact⟨⟨i,by simp[l6.hd]⟩,fun f hf=>by simp[l6.hd]at hf;subst hf;exact⟨h1,h2⟩⟩
 | .yU x y,bf,h=>by
  simp only[dA,SD]at h;obtain⟨⟨f,hf⟩,hx⟩:=jz h.2.1;obtain⟨_,hy⟩:=jz h.2.2;exact⟨⟨f,by simp[l6.hd,hf]⟩,fun f hf=>by simp only[l6.hd,aaN]at hf;exact hf.elim (hx f) (hy f)⟩
theorem DS.ahead{K:List CV->Mem->Prop}{L:Nat->Prop}{bf:List Nat}{c:Bool}{q:Nat}{R:l6}{val:Nat->CV}{dC:List (Nat×LO×List CV×CV)}{e aV:List CV}{m:Mem}(h:DS P bO ms n fP e0 K L bf c (.cons q none R) val dC e aV m):∃ic ph e',DS P bO ms n fP e0 K L (q::bf) true R ic ph e' aV m:=by
 have nG:=h.go;simp only[dA,SD]at nG;obtain⟨_,zm,g6,g8⟩:=nG;obtain⟨g1,g2,g4,g5⟩:=ig zm;have hc:=h.Rk;simp only[vF,DV]at hc;obtain⟨lo,gx,hc⟩:=bc.1 hc;have hq:p6 lo.yG=true:=by simpa[jY,gx]using g6
 obtain⟨v,hc,Y1⟩:=rP hq hc;have hc:=pd.1 hc;have Ia:Fc bO q=lo.dst:=by simp[Fc,gx]
 let ic:Nat->CV:=fun k=>if k=q then v else val k
 have iz:∀k,k∈bf->ic k=val k:=fun k hk=>if_neg fun(e:k=q)=>g2 (e▸hk)
 have yL:∀t k,k∈bf->lo.dst=some t->cS bO t k=false:=fun t k hk hd=>(g5 t (by rw[Ia];exact hd) k hk).1
 have OD:∀t,cS bO t q=true->lo.dst=some t:=fun t hw=>by obtain⟨BL,h1,h2⟩:=jy.1 hw;rw[gx]at h1;cases h1;exact h2
 refine⟨ic,_,_,g8,hc,h.pg.step gx yL (by simp[ic]) iz (by simp[or_comm]),h.vj.Rj (fun k hk=>iz k (h.sub k hk)) (fun _=>Iff.rfl),fun i hi=>by simp[h.sub i hi],h.down,?_,?_⟩
 .intro t j k hj hk Ib D7;rcases aaf.1 hj with e1|yJ<;>rcases aaf.1 hk with e2|iP
  .rw[e1,e2]
  .rw[e1]at Ib;rw[yL t k iP (OD t Ib)]at D7;cases D7
  .rw[e2]at D7;rw[yL t j yJ (OD t D7)]at Ib;cases Ib
  .exact h.zl t j k yJ iP Ib D7
 .intro j hj hL;rcases aaf.1 hj with rfl|hj
  .refine⟨lo,e,gx,hq,by simp[td,ic],by simpa[ic]using Y1,h.pg.len,fun t ht aE=>?_⟩
   by_cases hex:∃k,k∈bf/\cS bO t k=true
   .obtain⟨k,hk,hw⟩:=hex;exact .inl ⟨k,by simp[hk],hw,g4 t ht k hk hw,by rw[iz k hk];exact h.pg.on t k hk hw aE⟩
   .refine .inr ⟨fun k hk hw=>?_,h.pg.off t fun k hk=>?_⟩
    .rcases aaf.1 hk with rfl|hk
     .exact .inl rfl
     .exact absurd ⟨k,hk,hw⟩ hex
    .cases hw:cS bO t k with
     |false=>rfl
     |true=>exact absurd ⟨k,hk,hw⟩ hex
  .obtain⟨BL,e1,h1,h2,h3,h4,h5,h6⟩:=h.qy j hj hL;have eG:q≠j:=fun e=>g2 (e▸hj)
   refine⟨BL,e1,h1,h2,?_,by rw[iz j hj];exact h4,h5,fun t ht aE=>?_⟩
   .have:Nat.beq q j=false:=by
     cases hb:Nat.beq q j with
     |false=>rfl
     |true=>exact absurd (Wh hb) eG
    simp only[td,this];rw[h3,iz j hj]
   .rcases h6 t ht aE with⟨k,hk,hw,hm,he⟩|⟨fm,he⟩
    .exact .inl ⟨k,by simp[hk],hw,hm,by rw[iz k hk];exact he⟩
    .refine .inr ⟨fun k hk hw=>?_,he⟩
     rcases aaf.1 hk with e2|iP
     .rw[e2]at hw⊢;exact .inr ((g5 t (by rw[Ia];exact OD t hw) j hj).2 ht)
     .exact fm k iP hw
end
section
variable {P:Program}
variable {N:Nat} {ρ0:bG} {m0:Mem} {w0:World}
variable {bO:List LO} {ms:List Nat} {n:Nat} {e0:List CV} {fP:List (List Nat)}
theorem vY{ops:Array Oper}:∀{l:List Oper}{bO:List LO},kW P ops l=some bO->l.length=bO.length/\∀(i:Nat)o,l[i]? =some o->∃lo,cR bO i=some lo/\ta P ops o=some lo
 | [],bO,h=>by simp[kW]at h;subst h;simp
 |o::r,bO,h=>by
  obtain⟨lo,lr,rfl,h1,h2⟩:=qv h o r rfl;obtain⟨h3,h4⟩:=vY h2;refine⟨by simp[h3],fun i o' hi=>?_⟩
  cases i with
  |zero=>simp at hi;subst hi;exact⟨lo,rfl,h1⟩
  |succ i=>simpa[cR]using h4 i o' (by simpa using hi)
theorem zn{m:Mem}{dC:List (Nat×LO×List CV×CV)}{j:Nat}:∀{l:List Nat},QF P m dC l->j∈l->ok (td j dC) fun x=>l7 P x.1 x.2.1 m fun _ v _=>v=x.2.2
 | [],_,h=>by cases h
 |k::r,hc,h=>by
  simp only[HI]at hc;rcases aaf.1 h with e|h
  .rw[e];exact hc.1
  .exact zn hc.2 h
theorem DS.Rl{K:List CV->Mem->Prop}{L:Nat->Prop}{bf:List Nat}{c:Bool}{R:l6}{val:Nat->CV}{dC:List (Nat×LO×List CV×CV)}{e aV:List CV}{m:Mem}(h:DS P bO ms n fP e0 K L bf c R val dC e aV m){i:Nat}(hi:i∈bf)(hL:¬L i){lo:LO}(gx:cR bO i=some lo):∀t k,L k->lo.dst=some t->cS bO t k=false:=by
 intro t k hk hd;cases hw:cS bO t k with
 |false=>rfl
 |true=>
  have:=h.zl t i k hi (h.sub k hk) (jy.2 ⟨lo,gx,hd⟩) hw;exact absurd (this▸hk) hL
theorem DS.D8{K:List CV->Mem->Prop}{L L':Nat->Prop}{bf:List Nat}{c:Bool}{R:l6}{val:Nat->CV}{dC:List (Nat×LO×List CV×CV)}{e aV:List CV}{m:Mem}(h:DS P bO ms n fP e0 K L bf c R val dC e aV m)(yM:∀i j,lD ms i j=true->OC fP i j){i:Nat}(hi:i∈bf)(hL:¬L i)(hr:∀k,Edge fP i k->L k)(vZ:∀k,L' k↔L k\/k=i){ops:Array Oper}{o:Oper}{lo:LO}(ho:ops[i]? =some o)(gx:cR bO i=some lo)(i3:ta P ops o=some lo){ρ:bG}{a:Act}{w:World}(hI:Inv N ρ0 m0 w0 ⟨aV,m⟩ ρ a w){K1:Act->World->Prop}{Q:Exit->Act->World->Prop}(hn:∀e7 ρ' a' w',Inv N ρ0 m0 w0 ⟨e7,m⟩ ρ' a' w'->DS P bO ms n fP e0 K L' bf c R val dC e e7 m->K1 a' w'):wpOp P ops Q i K1 a w:=by
 obtain⟨BL,e1,h1,h2,h3,h4,h5⟩:=h.qy i hi hL;rw[gx]at h1;cases h1;have U4:=h5.TM h.vj yM h.down h.sub hL hr;have hv:=rO (lo:=lo) (K:=fun v' m'=>v'=val i/\m'=m) (fun t ht=>U4 t (by simpa[mH,gx]using ht)) h4
 refine vW ho i3 hI hv fun v m' ρ' a' w' hk nF=>?_
 obtain⟨rfl,rfl⟩:=hk;refine hn _ ρ' a' w' nF ⟨h.go,h.Rk,h.pg,h.vj.step gx (h.Rl hi hL gx) rfl (fun _ _=>rfl) vZ,fun j hj=>?_,fun x y OE hx=>?_,h.zl,fun j hj TS=>h.qy j hj fun hl=>TS ((vZ j).2 (.inl hl))⟩
 .rcases(vZ j).1 hj with hj|rfl
  .exact h.sub j hj
  .exact hi
 .rcases(vZ x).1 hx with hx|rfl
  .exact(vZ y).2 (.inl (h.down x y OE hx))
  .exact(vZ y).2 (.inl (hr y OE))
theorem DS.OF{K:List CV->Mem->Prop}{L L':Nat->Prop}{bf:List Nat}{c:Bool}{i:Nat}{l:List Nat}{R:l6}{val:Nat->CV}{dC:List (Nat×LO×List CV×CV)}{e aV:List CV}{m:Mem}(h:DS P bO ms n fP e0 K L bf c (.cons i (some l) R) val dC e aV m)(yM:∀i j,lD ms i j=true->OC fP i j)(hr:∀k,Edge fP i k->L k)(vZ:∀k,L' k↔L k\/k=i){ops:Array Oper}{o:Oper}{lo:LO}(ho:ops[i]? =some o)(gx:cR bO i=some lo)(i3:ta P ops o=some lo){ρ:bG}{a:Act}{w:World}(hI:Inv N ρ0 m0 w0 ⟨aV,m⟩ ρ a w){K1:Act->World->Prop}{Q:Exit->Act->World->Prop}(hn:∀ic ph e' e7 m' ρ' a' w',Inv N ρ0 m0 w0 ⟨e7,m'⟩ ρ' a' w'->DS P bO ms n fP e0 K L' (i::bf) true R ic ph e' e7 m'->K1 a' w'):wpOp P ops Q i K1 a w:=by
 have nG:=h.go;simp only[dA,SD]at nG;obtain⟨_,zm,g7,g8⟩:=nG;obtain⟨g1,g2,g4,g5⟩:=ig zm;have hc:=h.Rk;simp only[vF,DV]at hc;obtain⟨BL,Rm,hc⟩:=bc.1 hc;rw[gx]at Rm;cases Rm;have hiL:¬L i:=fun hl=>g2 (h.sub i hl)
 have Rn:∀k,lD ms i k=true->L k:=fun k hm=>yM i k hm L h.down hr
 have tt:l7 P lo e m fun _ v m'=>QF P m' dC l/\te P bO R dC K (vh lo.dst v e) m':=by
  rw[fD]at hc⊢;rcases hc with⟨h1,h2⟩|⟨h1,h2⟩
  .exact .inl ⟨h1,vV h2 fun v m' hk=>pd.1 hk⟩
  .exact .inr ⟨h1,pd.1 h2⟩
 have Ia:Fc bO i=lo.dst:=by simp[Fc,gx]
 have U4:∀t,t∈lo.looks->iV e t=iV aV t:=fun t ht=>by
  rw[jZ,jZ];rcases Wj t e0.length with aE|eu
  .by_cases hex:∃k,k∈bf/\cS bO t k=true
   .obtain⟨k,hk,hw⟩:=hex;rw[h.pg.on t k hk hw aE,h.vj.on t k (Rn k (g4 t (by simpa[mH,gx]using ht) k hk hw)) hw aE]
   .have BV:∀k,k∈bf->cS bO t k=false:=fun k hk=>by
     cases hw:cS bO t k with
     |false=>rfl
     |true=>exact absurd ⟨k,hk,hw⟩ hex
    rw[h.pg.off t BV,h.vj.off t fun k hk=>BV k (h.sub k hk)]
  .rw[aae (by rw[h.pg.len];exact eu),aae (by rw[h.vj.len];exact eu)]
 have hv:=rO U4 tt;have yL:∀t k,k∈bf->lo.dst=some t->cS bO t k=false:=fun t k hk hd=>(g5 t (by rw[Ia];exact hd) k hk).1
 have OD:∀t,cS bO t i=true->lo.dst=some t:=fun t hw=>by obtain⟨BL,h1,h2⟩:=jy.1 hw;rw[gx]at h1;cases h1;exact h2
 refine vW ho i3 hI hv fun v m' ρ' a' w' hk nF=>?_
 obtain⟨U5,hd⟩:=hk;let ic:Nat->CV:=fun k=>if k=i then v else val k
 have iz:∀k,k∈bf->ic k=val k:=fun k hk=>if_neg fun(e:k=i)=>g2 (e▸hk)
 refine hn ic dC _ _ m' ρ' a' w' nF ⟨g8,hd,h.pg.step gx yL (by simp[ic]) iz (by simp[or_comm]),
  h.vj.step gx (fun t k hk hd=>yL t k (h.sub k hk) hd) (by simp[ic]) (fun k hk=>iz k (h.sub k hk)) vZ,fun j hj=>?_,fun x y OE hx=>?_,fun t j k hj hk Ib D7=>?_,fun j hj TS=>?_⟩
 .rcases(vZ j).1 hj with hj|rfl
  .simp[h.sub j hj]
  .simp
 .rcases(vZ x).1 hx with hx|rfl
  .exact(vZ y).2 (.inl (h.down x y OE hx))
  .exact(vZ y).2 (.inl (hr y OE))
 .rcases aaf.1 hj with e1|yJ<;>rcases aaf.1 hk with e2|iP
  .rw[e1,e2]
  .rw[e1]at Ib;rw[yL t k iP (OD t Ib)]at D7;cases D7
  .rw[e2]at D7;rw[yL t j yJ (OD t D7)]at Ib;cases Ib
  .exact h.zl t j k yJ iP Ib D7
 .have Xz:¬L j:=fun hl=>TS ((vZ j).2 (.inl hl))
  have Y2:j≠i:=fun e=>TS ((vZ j).2 (.inr e))
  have yJ:j∈bf:=by
   rcases aaf.1 hj with e|h
   .exact absurd e Y2
   .exact h
  obtain⟨BL,e1,h1,h2,h3,h4,h5,h6⟩:=h.qy j yJ Xz;refine⟨BL,e1,h1,h2,by rw[iz j yJ];exact h3,?_,h5,fun t ht aE=>?_⟩
  .rw[iz j yJ];have XA:=aau.1 g7 j yJ;have OG:jY bO j=true:=by simpa[jY,h1]using h2
   simp only[OG,ab1,abM,aaX,List.contains_iff_mem]at XA;rcases XA with hm|hp|hl
   .exact absurd (Rn j hm) Xz
   .exact h4.pure (by simpa[Br,h1]using hp) m'
   .have:=zn U5 hl;rw[h3]at this;obtain⟨_,hx,TT⟩:=bc.1 this;cases hx;obtain⟨v',XB,hq⟩:=rP h2 TT;simp only at XB;rw[<-XB];exact hq
  .rcases h6 t ht aE with⟨k,hk,hw,hm,he⟩|⟨fm,he⟩
   .exact .inl ⟨k,by simp[hk],hw,hm,by rw[iz k hk];exact he⟩
   .refine .inr ⟨fun k hk hw=>?_,he⟩
    rcases aaf.1 hk with e2|iP
    .rw[e2]at hw⊢;exact .inr ((g5 t (by rw[Ia];exact OD t hw) j yJ).2 ht)
    .exact fm k iP hw
theorem DS.any{K:List CV->Mem->Prop}{L L':Nat->Prop}(yM:∀i j,lD ms i j=true->OC fP i j){i:Nat}(jx:i<n)(hL:¬L i)(hr:∀k,Edge fP i k->L k)(vZ:∀k,L' k↔L k\/k=i){ops:Array Oper}{o:Oper}{lo:LO}(ho:ops[i]? =some o)(gx:cR bO i=some lo)(i3:ta P ops o=some lo){aV:List CV}{m:Mem}{ρ:bG}{a:Act}{w:World}(hI:Inv N ρ0 m0 w0 ⟨aV,m⟩ ρ a w){K1:Act->World->Prop}{Q:Exit->Act->World->Prop}(hn:∀bf R ic ph e' e7 m' ρ' a' w',Inv N ρ0 m0 w0 ⟨e7,m'⟩ ρ' a' w'->DS P bO ms n fP e0 K L' bf true R ic ph e' e7 m'->K1 a' w'):
  ∀(R:l6)(bf:List Nat)(c:Bool)(val:Nat->CV)(dC:List (Nat×LO×List CV×CV))(e:List CV),(c=false->i∈R.hd)->DS P bO ms n fP e0 K L bf c R val dC e aV m->wpOp P ops Q i K1 a w:=by
 intro R
 induction R with
 |nil=>
  intro bf c val dC e hc h;cases c with
  |false=>have:=hc rfl;simp[l6.hd]at this
  |true=>
   have nG:=h.go;simp only[dA,Bool.true_and,aau]at nG;have hi:i∈bf:=by simpa using nG i (by simpa using jx)
   exact h.D8 yM hi hL hr vZ ho gx i3 hI fun e7 ρ' a' w'=>hn _ _ _ _ _ e7 m ρ' a' w'
 |cons q HA R ih=>
  intro bf c val dC e hc h;cases HA with
  |none=>
   have Y3:c=true:=by have nG:=h.go;simp only[dA,SD]at nG;exact nG.1
   subst Y3;by_cases hi:i∈bf
   .exact h.D8 yM hi hL hr vZ ho gx i3 hI fun e7 ρ' a' w'=>hn _ _ _ _ _ e7 m ρ' a' w'
   .obtain⟨ic,ph,e',h'⟩:=h.ahead;exact ih _ _ _ _ _ (fun h=>by cases h) h'
  |some l=>
   have nG:=h.go;simp only[dA,SD]at nG;obtain⟨Ic,zm,_⟩:=nG;obtain⟨_,g2,_⟩:=ig zm;by_cases hi:i∈bf
   .cases c with
    |false=>
     have hq:=hc rfl;simp only[l6.hd,abg]at hq;subst hq;exact absurd hi g2
    |true=>exact h.D8 yM hi hL hr vZ ho gx i3 hI fun e7 ρ' a' w'=>hn _ _ _ _ _ e7 m ρ' a' w'
   .have vl:q=i:=by
     cases c with
     |false=>
      have hq:=hc rfl;simp only[l6.hd,abg]at hq;exact hq.symm
     |true=>
      simp only[ab1,abM]at Ic;rcases vX Ic jx hi with hq|⟨f,hf,hm⟩
      .simpa using Eq.symm (by simpa using hq)
      .simp only[abg]at hf;subst hf;exact absurd (h.sub _ (yM i _ hm L h.down hr)) g2
    subst vl;exact h.OF yM hr vZ ho gx i3 hI fun ic ph e' e7 m' ρ' a' w'=>hn _ _ _ _ _ e7 m' ρ' a' w'
 |yU x y OH Ie=>
  intro bf c val dC e hc h;have nG:=h.go;simp only[dA,SD]at nG;obtain⟨Ic,XC,XD⟩:=nG;obtain⟨_,Y4⟩:=jz XC;obtain⟨_,Y5⟩:=jz XD;have OI:=h.Rk;simp only[HK]at OI;have XE:i∈x.hd->wpOp P ops Q i K1 a w:=fun hi=>OH bf false val dC e (fun _=>hi) ⟨XC,OI.1,h.pg,h.vj,h.sub,h.down,h.zl,h.qy⟩
  have XF:i∈y.hd->wpOp P ops Q i K1 a w:=fun hi=>Ie bf false val dC e (fun _=>hi) ⟨XD,OI.2,h.pg,h.vj,h.sub,h.down,h.zl,h.qy⟩
  cases c with
  |false=>
   have hq:=hc rfl;simp only[l6.hd,aaN]at hq;exact hq.elim XE XF
  |true=>
   by_cases hi:i∈bf
   .exact h.D8 yM hi hL hr vZ ho gx i3 hI fun e7 ρ' a' w'=>hn _ _ _ _ _ e7 m ρ' a' w'
   .simp only[ab1,abM]at Ic;rcases vX Ic jx hi with hq|⟨f,hf,hm⟩
    .rcases aaN.1 hq with hq|hq
     .exact XE hq
     .exact XF hq
    .have XG:=h.sub _ (yM i f hm L h.down hr);rcases aaN.1 hf with hf|hf
     .exact absurd XG (Y4 f hf).2
     .exact absurd XG (Y5 f hf).2
theorem v6:∀(l:List Bool)(i:Nat),l[i]? =some false->(l.set i true).count false+1=l.count false
 | [],i,h=>by simp at h
 |b::r,0,h=>by simp at h;subst h;simp
 |b::r,i+1,h=>by
  have:=v6 r i (by simpa using h)
  cases b<;>simp[List.count_cons]at this⊢<;>omega
theorem Lo{md:Region.Mode}{ops:Array Oper}{Q:Exit->Act->World->Prop}{K:List CV->Mem->Prop}(hQ:∀aV m ρ a w,K aV m->Inv N ρ0 m0 w0 ⟨aV,m⟩ ρ a w->Q .normal a w)(yM:∀i j,lD ms i j=true->OC (ju md ops) i j)(U6:∃l,vD (ju md ops) n [] l=true)(xt:∀(i:Nat)o,ops[i]? =some o->∃lo,cR bO i=some lo/\ta P ops o=some lo)(hn:n=ops.size)(jQ:n=bO.length):
  ∀(fuel:Nat) (listed:Array Bool) (a:Act) (w:World) (ρ:bG) (m:Mem) (aV:List CV) (bf:List Nat) (R:l6) (val:Nat->CV)
   (dC:List (Nat×LO×List CV×CV)) (e:List CV),listed.size=n->listed.toList.count false=fuel->Inv N ρ0 m0 w0 ⟨aV,m⟩ ρ a w->
   DS P bO ms n (ju md ops) e0 K (fun i=>listed[i]? =some true) bf true R val dC e aV m->wpAny P md ops Q fuel listed a w:=by
 have Ig:∀(listed:Array Bool)i,i∈Region.ready md ops listed->listed[i]? =some false/\i<ops.size/\∀k,Edge (ju md ops) i k->listed[k]? =some true:=by
  intro listed i hi;obtain⟨h0,o,ho,fm⟩:=mem_ready.1 hi;refine⟨?_,(Z4.1 ho).1,fun k hk=>?_⟩
  .rw[aaK]at h0;cases hg:listed[i]? with
   |none=>rw[hg]at h0;simp at h0
   |some b=>rw[hg]at h0;simp at h0;rw[h0]
  .obtain⟨l,hl,fj⟩:=hk;simp only[ju,NO,aa8,ho,Wn,Wm]at hl;subst hl;obtain⟨ed,Ro,rfl⟩:=Z5.1 fj;obtain⟨U7,U8⟩:=acb.1 Ro;have:=fm ed (by simpa using U7) U8
   rw[aaK]at this;cases hg:listed[ed.on]? with
   |none=>rw[hg]at this;simp at this
   |some b=>rw[hg]at this;simp at this;rw[this]
 have OJ:∀(i:Nat)o ed,ops[i]? =some o->ed∈o.after->Region.binds md ed=true->Edge (ju md ops) i ed.on:=by
  intro i o ed ho Ro hb;refine⟨(o.after.toList.filter (Region.binds md)).map (·.on),?_,?_⟩
  .simp[ju,NO,ho]
  .exact Z5.2 ⟨ed,acb.2 ⟨by simpa using Ro,hb⟩,rfl⟩
 intro fuel
 induction fuel with
 |zero=>
  intro listed a w ρ m aV bf R val dC e dn Rp hI h;have fm:∀i,i<n->listed[i]? =some true:=by
   intro i hi;have aE:i<listed.size:=om;rw[aaO aE];have iH:=List.count_eq_zero.1 Rp;cases hb:listed[i]with
   |true=>rfl
   |false=>exact absurd (by rw[<-hb];exact Array.getElem_mem_toList aE) iH
  constructor
  .rw[List.eq_nil_iff_forall_not_mem];intro i hi;obtain⟨h1,h2,_⟩:=Ig listed i hi;rw[fm i om]at h1;cases h1
  .have hR:R= .nil:=by
    cases R with
    |nil=>rfl
    |cons q HA R=>
     have nG:=h.go;cases HA with
     |none=>
      simp only[dA,SD]at nG;obtain⟨g1,g2,_⟩:=ig nG.2.1;exact absurd (h.sub q (fm q g1)) g2
     |some l=>
      simp only[dA,SD]at nG;obtain⟨g1,g2,_⟩:=ig nG.2.1;exact absurd (h.sub q (fm q g1)) g2
    |yU x y=>
     have nG:=h.go;simp only[dA,SD]at nG;obtain⟨⟨f,hf⟩,hx⟩:=jz nG.2.1;obtain⟨g1,g2⟩:=hx f hf;exact absurd (h.sub f (fm f g1)) g2
   subst hR;have Y6:∀i,i∈bf->i<n\/n<=i:=fun i _=>Wj i n
   have Y7:∀i t,n<=i->cS bO t i=false:=by
    intro i t hi;cases hw:cS bO t i with
    |false=>rfl
    |true=>
     obtain⟨lo,gx,_⟩:=jy.1 hw;rw[aU]at gx;have:=(Gf.1 gx).1;omega
   have he:e=aV:=by
    have e1:ki bO e0 (fun i=>i∈bf/\i<n) val e:=⟨h.pg.len,fun t k hk=>h.pg.on t k hk.1,fun t Rq=>h.pg.off t fun k hk=>by
     rcases Y6 k hk with aE|eu
     .exact Rq k ⟨hk,aE⟩
     .exact Y7 k t eu⟩
    have e2:ki bO e0 (fun i=>i∈bf/\i<n) val aV:=h.vj.Rj (fun _ _=>rfl) fun k=>⟨fun hk=>fm k hk.2,fun hk=>⟨h.sub k hk,by have:=(Z4.1 hk).1;omega⟩⟩
    exact e1.ext e2
   subst he;exact hQ _ _ ρ a w h.Rk hI
 |succ fuel ih=>
  intro listed a w ρ m aV bf R val dC e dn Rp hI h;constructor
  .intro Ot;exfalso;have hex:∃i:Nat,listed[i]? =some false:=by
    have:false∈listed.toList:=by apply List.count_pos_iff.1;omega
    obtain⟨i,hi⟩:=Un this;exact⟨i,by simpa using hi⟩
   obtain⟨i,hi⟩:=hex;obtain⟨l,hl⟩:=U6;have jx:i<n:=by have:=(Z4.1 hi).1;omega
   have:=tF (L:=fun i=>listed[i]? =some true) (fun i hi Lp=>?_) l [] hl (fun _ h=>by cases h) i jx
   .rw[hi]at this;cases this
   .refine Yh fun Rr=>?_
    have aE:i<ops.size:=om;have zo:i<listed.size:=om;have hf:listed[i]? =some false:=by
     rw[aaO zo]at Lp⊢;cases mL:listed[i]with
     |true=>rw[mL]at Lp;exact absurd rfl Lp
     |false=>rfl
    have hm:i∈Region.ready md ops listed:=by
     rw[mem_ready];refine⟨by rw[aaK,hf];rfl,ops[i],aaO aE,fun ed Ro hb=>?_⟩
     have hE:=OJ i _ ed (aaO aE) Ro hb;have hL:listed[ed.on]? =some true:=Yh fun hc=>Rr ⟨_,hE,hc⟩
     rw[aaK,hL];rfl
    rw[Ot]at hm;cases hm
  .intro i hi;obtain⟨h1,h2,h3⟩:=Ig listed i hi;obtain⟨lo,gx,i3⟩:=xt i _ (aaO h2);have aE:i<listed.size:=om;refine DS.any (L:=fun i=>listed[i]? =some true) (L':=fun k=>(listed.setIfInBounds i true)[k]? =some true) yM om (by rw[h1];simp) h3 (fun k=>?_) (aaO h2) gx i3 hI
    (fun bf R ic ph e' e7 m' ρ' a' w' nF h'=>ih _ a' w' ρ' m' e7 bf R ic ph e' (by simp[dn]) ?_ nF h') R bf true val dC e (fun h=>by cases h) h
   .by_cases hk:i=k
    .subst hk;rw[abc aE];simp
    .rw[abo hk];constructor
     .exact .inl
     .rintro(h|h)
      .exact h
      .exact absurd h.symm hk
   .have:=v6 listed.toList i (by simpa using h1)
    rw[Array.toList_setIfInBounds];omega
theorem BW{md:Region.Mode}{ops:Array Oper}{Q:Exit->Act->World->Prop}{K:List CV->Mem->Prop}(hQ:∀aV m ρ a w,K aV m->Inv N ρ0 m0 w0 ⟨aV,m⟩ ρ a w->Q .normal a w){bO:List LO}(i3:kW P ops ops.toList=some bO){sched:l6}(iQ:oV bO (ju md ops) sched=true){st:St}(h:te P bO sched [] K st.aV st.mem){ρ:bG}{a:Act}{w:World}(hI:Inv N ρ0 m0 w0 st ρ a w):wpAny P md ops Q ops.size (Array.replicate ops.size false) a w:=by
 obtain⟨hlen,xt⟩:=vY i3;simp only[oV,SD]at iQ;have yM:∀i j,lD (bn bO.length (ju md ops)) i j=true->OC (ju md ops) i j:=FD;have iH:∀i:Nat,¬(Array.replicate ops.size false)[i]? =some true:=by
  intro i hi;rw[Array.getElem?_replicate]at hi;split at hi<;>simp at hi
 refine Lo (n:=bO.length) (e0:=st.aV) hQ yM ⟨_,iQ.1⟩ (fun i o ho=>xt i o (by simpa using ho)) (by simpa using hlen.symm) rfl ops.size _ a w ρ st.mem st.aV [] sched (fun _=>.undef) [] st.aV
  (by simpa using hlen) aI hI ?_
 exact⟨iQ.2,h,⟨rfl,fun t k hk=>(abf hk).elim,fun _ _=>rfl⟩,⟨rfl,fun t k hk=>absurd hk (iH k),fun _ _=>rfl⟩,fun i hi=>absurd hi (iH i),fun i j _ hi=>absurd hi (iH i),fun t j k hj=>(abf hj).elim,fun j hj=>(abf hj).elim⟩
theorem zp{bO:List LO}{K:Ex->St->Prop}{s:St}:∀{l:List l6},La P bO K s l->∀x,x∈l->te P bO x [] (Fe K) s.aV s.mem
 | [],_,x,hx=>by cases hx
 | [y],h,x,hx=>by obtain rfl:=abg.1 hx;exact h
 |y::z::r,h,x,hx=>by
  rcases aaf.1 hx with rfl|hx
  .exact h.1
  .exact zp h.2 x hx
theorem xu{ops:Array Oper}{Q:Exit->Act->World->Prop}{K:Ex->St->Prop}(hQ:∀aV m ρ a w,K .normal ⟨aV,m⟩->Inv N ρ0 m0 w0 ⟨aV,m⟩ ρ a w->Q .normal a w){bO:List LO}(i3:kW P ops ops.toList=some bO){n8:List l6}(iQ:tc P bO ops=some n8){st:St}(h:La P bO K st n8){ρ:bG}{a:Act}{w:World}(hI:Inv N ρ0 m0 w0 st ρ a w)(t:Nat):wpOps P ops Q (Region.schedule (P.follows .mixedOrders) ops t) a {w with drawn:=w.drawn+1}:=by
 have fm:∀md,md∈sI P ops->∃s,s∈n8/\oV bO (ju md ops) s=true:=by
  simp only[tc]at iQ;split at iQ
  .rename_i hc;cases iQ;exact fun md Qb=>⟨_,aI,aau.1 hc md Qb⟩
  .split at iQ
   .rename_i hc;cases iQ;exact fun md Qb=>by have:=aau.1 hc md Qb;obtain⟨s,hs,KQ⟩:=aaB.1 this;exact⟨s,hs,KQ⟩
   .cases iQ
 have jR:∀md,md∈sI P ops->wpAny P md ops Q ops.size (Array.replicate ops.size false) a {w with drawn:=w.drawn+1}:=fun md Qb=>by obtain⟨s,hs,KQ⟩:=fm md Qb;exact BW (K:=Fe K) hQ i3 KQ (zp h s hs) hI.drew
 unfold Region.schedule;unfold sI at jR;split
 .rename_i hc;rw[if_pos hc]at jR;exact wpAny_sound ops.size t _ a _ (jR .any aI)
 .rename_i hc;rw[if_neg hc]at jR;split
  .exact wpAny_sound ops.size (t/2) _ a _ (jR .text aI)
  .exact wpAny_sound ops.size (t/2) _ a _ (jR .gc aI)
end
section
variable {P:Program}
def FR(r:Option Nat):Fence:={Fence.wide with round:=r}
theorem Lq:FR none=Fence.wide:=rfl
theorem D9(l:Nat):FR (some l)=Fence.wide.inRound l:=rfl
theorem Lr{o:Oper}{i:I}(h:p5 P o=some i):∀c,o.op≠.defer c:=by
 intro c e;unfold p5 at h;have h0:s9 P o=none:=by unfold s9;rw[e]
 rw[h0,e]at h;cases h
theorem tG{ops:Array Oper}:∀{l:List Oper}{bO:List LO},kW P ops l=some bO->∀o,o∈l->∀c,o.op≠.defer c
 | [],bO,h,o,ho=>by cases ho
 |o1::r,bO,h,o,ho=>by
  obtain⟨lo,lr,rfl,h1,h2⟩:=qv h o1 r rfl;cases ho with
  |head=>
   simp only[ta,N7,Jm]at h1;obtain⟨i,hi,_⟩:=h1;exact Lr hi
  |tail _ ho=>exact tG h2 o ho
theorem gC{r:Option Nat}{ops:Array Oper}{Q:Exit->Act->World->Prop}(pZ:∀o,o∈ops.toList->∀c,o.op≠.defer c)(hQ:¬LetsOut Q):
  ∀(l:List Nat)(a:Act)(w:World),wpOps P ops Q l a w->wpOpsIn (FR r) 0 P ops Q l a w
 | [],a,w,h=>h
 |i::rest,a,w,h=>by
  simp only[wpOps]at h;simp only[wpOpsIn];cases ho:ops[i]? with
  |none=>rw[ho]at h;exact gC pZ hQ rest a w h
  |some o=>
   rw[ho]at h;simp only at h⊢;have my:o∈ops.toList:=by have:=Z4.1 ho;obtain⟨h1,h2⟩:=this;rw[<-h2];exact abT.2 (Array.getElem_mem h1)
   split
   .rename_i hw;rw[if_pos hw]at h;rcases h with h|⟨_,h⟩
    .refine⟨fun _ _=>trivial,?_⟩
     have e:o.semAt (FR r).round a.eval=execOp a.eval o:=Oper.semAt_eq _ _ _ (pZ o my);rw[e];unfold Oper.wp at h;have up:∀{jW:Result Next},o.upon P a (wpOps P ops Q rest) Q jW->o.uponIn (FR r) 0 P a (wpOpsIn (FR r) 0 P ops Q rest) Q jW:=by
      intro jW h;unfold Oper.upon at h;split at h
      .exact gC pZ hQ rest _ _ h
      .exact gC pZ hQ rest _ _ h
      .exact gC pZ hQ rest _ _ h
      .refine⟨by simp[FR,Fence.wide],?_⟩
       have h2:=(callsIn_wide (n:=0-1)).2 h;have h3:CallsIn (FR r) (0-1) P _ _ _ _:=h2;refine h3.mono fun e w' hR=>?_
       cases e with
       |returned v=>exact gC pZ hQ rest _ _ hR
       |panicked c=>exact hR
       |outgrown=>exact hR
      .refine⟨by simp[FR,Fence.wide],?_⟩
       intro c cs _;obtain⟨v,w',hR,hs⟩:=h c cs;exact⟨v,w',gC pZ hQ rest _ _ hR,(stepsIn_wide.2 hs:StepsIn (Machine.fenced P Fence.wide) P _ _)⟩
      .exact h
      .exact h.elim
     exact up h
    .exact absurd h hQ
   .rename_i hw;rw[if_neg hw]at h;exact⟨fun _ _=>trivial,gC pZ hQ rest _ _ h⟩
theorem sq{F:Fence}{n:Nat}{γ:Type}{c:Code}{Q:Exit->Act->World->Prop}{a:Act}{w:World}(I:γ->Act->World->Prop)(μ:γ->Nat)(g0:γ)(h₀:I g0 a w)(round:∀g a w,I g a w->c.wpIn F n P (Exit.then (fun a' w'=>∃g',I g' a' w'/\μ g'<μ g) Q) a w):(Code.loop c).wpIn F n P Q a w:=by
 intro b k cs U9 hb hr;have key:∀j g a w,μ g=j->I g a w->
   ∃e a' w',Q e a' w'/\ArrivesIn (Machine.fenced P F) P (lone (b.atR a (.code c:: .inLoop c::k)) cs w) b k cs e a' w':=by
  intro j
  induction j using Nat.strongRecOn with
  |_ j ih=>
   intro g a w hn hI;obtain⟨e,a₁,w₁,hq,zq⟩:=round g a w hI b (.inLoop c::k) cs U9 hb hr;cases e with
   |normal=>
    obtain⟨g₁,Rs,aE⟩:=hq;obtain⟨e₂,a₂,w₂,Rt,Ls⟩:=ih (μ g₁) (hn▸aE) g₁ a₁ w₁ rfl Rs;exact⟨e₂,a₂,w₂,Rt,.of_steps (StepsIn.trans zq (.one (fenced_calm hb hr rfl) stepR_inLoop)) Ls⟩
   |exit id=>exact⟨_,a₁,w₁,hq,.pass (x:= .inLoop c) rfl (fun _ _=>.inl aI) zq⟩
   |goto l=>exact⟨_,a₁,w₁,hq,.pass (x:= .inLoop c) rfl (fun _ _=>.inl aI) zq⟩
   |ret=>exact⟨_,a₁,w₁,hq,.pass (x:= .inLoop c) rfl (fun _ _=>.inl aI) zq⟩
   |panic ch=>exact⟨_,a₁,w₁,hq,.pass (x:= .inLoop c) rfl (fun _ _=>.inl aI) zq⟩
   |outgrown=>exact⟨_,a₁,w₁,hq,.pass (x:= .inLoop c) rfl (fun _ _=>.inl aI) zq⟩
 obtain⟨e,a',w',hq,zq⟩:=key _ g0 a w rfl h₀;exact⟨e,a',w',hq,.of_steps (.one (fenced_calm hb hr rfl) stepR_loop) zq⟩
structure sr(ρ:bG)(m:Mem)(w w':World):Prop where
 size:w.heap.size<=w'.heap.size
 S:∀b,ρ.S b->w'.heap[b]? =w.heap[b]?
 a7:∀k,Live ρ m k->w'.heap[(ρ.aP k).b]? =w.heap[(ρ.aP k).b]?
theorem sr.cE{ρ:bG}{m:Mem}{w w':World}(h:sr ρ m w w'):hB ρ w ρ w':=⟨Pq _,fun _ _=>rfl,fun _ h=>h,h.S⟩
theorem aA.su{ρ:bG}{m:Mem}{w w':World}(hM:aA ρ m w)(h:sr ρ m w w'):aA ρ m w':=by
 have g:=h.cE;refine⟨hM.n,fun b hb=>aad (hM.S b hb) h.size,fun k hk=>⟨aad (hM.a7 k hk).1 h.size,(hM.a7 k hk).2⟩,hM.inj,fun id b hb=>?_,fun id i j esz el ho bl=>?_⟩
 .have h1:=hM.bk id b hb;cases b with
  |aO=>trivial
  |var cs=>
   obtain⟨cur,bS,h2⟩:=h1;exact⟨cur,bS.dv (h.a7 (.ap id) ⟨_,hb,aI,aI⟩),fun j c hj=>let⟨u,hu,hd⟩:=h2 j c hj;⟨u,hu,bq.cE g aI hd⟩⟩
  |row esz elems=>
   obtain⟨h2,h3,h4,h5,h6⟩:=h1;refine⟨h2,h3,h4,h5,fun hp=>?_⟩
   obtain⟨cur,bS,h7,h8⟩:=h6 hp;exact⟨cur,bS.dv (h.a7 (.ap id) ⟨_,hb,aI,fun _=>hp⟩),h7,fun i cs j c hi hj=>let⟨u,hu,hd⟩:=h8 i cs j c hi hj;⟨u,hu,bq.cE g (by intro iO i' j' e';cases e';rw[hM.n];exact(Gf.1 hb).1) hd⟩⟩
  |mp es=>
   obtain⟨cH,ck,h2,h3,h4⟩:=h1;exact⟨cH,ck,⟨(h.a7 (.ap id) ⟨_,hb,aI,aI⟩).trans h2.1,h2.2⟩,h3,fun i e he=>let⟨e',rz,hk,hd⟩:=h4 i e he;⟨e',rz,hk,du.cE g hd⟩⟩
  |it cur left=>
   obtain⟨mb,seen,ck,cH,h2,h3,h4,h5,h6⟩:=h1;exact⟨mb,seen,ck,cH,(h.a7 (.ap id) ⟨_,hb,aI,aI⟩).trans h2,h3,h4,(h.S mb h4).trans h5,h6⟩
 .obtain⟨cur,bS,h2,h3,h4⟩:=hM.gh id i j esz el ho bl;exact⟨cur,bS.dv (h.a7 (.sub id i j) ⟨⟨_,_,ho⟩,bl⟩),h2,h3,fun i cs j d hi hj=>let⟨u,hu,hd⟩:=h4 i cs j d hi hj;⟨u,hu,cZ.mono g.S g.heap hd⟩⟩
theorem be.cE{ρ ρ':bG}{w w':World}{aV:List CV}{tmps:Array Value}(g:hB ρ w ρ' w')(hE:be ρ w aV tmps):be ρ' w' aV tmps:=
 ⟨hE.size,fun i c hi=>let⟨v,hv,hd⟩:=hE.jP i c hi;⟨v,hv,bV.cE g hd⟩⟩
theorem BS.su{N:Nat}{ρ:bG}{m:Mem}{w w':World}{ds:List Deferred}(h:sr ρ m w w')(hd:BS N ρ w ds):BS N ρ w' ds:=by obtain⟨Ds,h1,h2,h3⟩:=hd;exact⟨Ds,h1,h2,fun D hD=>⟨(h3 D hD).1,(h3 D hD).2.1,(h.S D (h3 D hD).2.1).trans (h3 D hD).2.2⟩⟩
variable {N:Nat} {ρ0:bG} {m0:Mem} {w0:World}
theorem Inv.su{st:St}{ρ:bG}{a:Act}{w w':World}(hI:Inv N ρ0 m0 w0 st ρ a w)(h:sr ρ st.mem w w')(hb:∀b,b<w0.heap.size->w'.heap[b]? =w.heap[b]?)(ho:w'.os=w.os)(ht:w'.tape=w.tape)(hu:w'.output=w.output):Inv N ρ0 m0 w0 st ρ a w':=
 ⟨⟨hI.ext.n,hI.ext.aP,hI.ext.S,hI.ext.S',hI.ext.a7,fun b qn hk=>(hb b qn).trans (hI.ext.frame b qn hk),aaP hI.ext.size h.size,ho.trans hI.ext.os,ht.trans hI.ext.tape,hu.trans hI.ext.output⟩,
  hI.mem.su h,hI.aV.cE h.cE,hI.defers.su h,hI.hN,hI.n0⟩
def oo(ρ:bG)(m:Mem)(b:Nat):Prop:= ¬ρ.S b/\∀k,Live ρ m k->(ρ.aP k).b≠b
theorem oo.ext{ρ ρ':bG}{m m':Mem}{w w':World}{b:Nat}(h:oo ρ m b)(x:Ext ρ m w ρ' m' w')(hb:b<w.heap.size):oo ρ' m' b:=by
 refine⟨fun hs=>?_,fun k hk e=>?_⟩
 .rcases x.S' b hs with h1|h1|⟨k,hk,e⟩
  .exact h.1 h1
  .omega
  .exact h.2 k hk e
 .rcases x.a7 k hk with h1|⟨k0,h0,e0⟩
  .omega
  .exact h.2 k0 h0 (e0.trans e)
theorem oo.Y8{n0:Nat}{ρ ρ':bG}{m m':Mem}{b:Nat}(h:oo ρ m b)(x:Oh n0 ρ m ρ' m'):oo ρ' m' b:=by
 refine⟨fun hs=>?_,fun k hk e=>?_⟩
 .rcases x.S' b hs with h1|⟨k,hk,e⟩
  .exact h.1 h1
  .exact h.2 k hk e
 .obtain⟨k0,h0,e0⟩:=x.a7 k hk;exact h.2 k0 h0 (e0.trans e)
theorem sr.put{ρ:bG}{m:Mem}{w:World}{l:Nat}(h:oo ρ m l)(o:Obj):sr ρ m w (w.putObj l o):=
 ⟨aI,fun b hb=>World.putObj_heap_other (by rintro rfl;exact h.1 hb),fun k hk=>World.putObj_heap_other (h.2 k hk)⟩
theorem Inv.put{st:St}{ρ:bG}{a:Act}{w:World}{l:Nat}(hI:Inv N ρ0 m0 w0 st ρ a w)(h:oo ρ st.mem l)(hl:w0.heap.size<=l)(o:Obj):Inv N ρ0 m0 w0 st ρ a (w.putObj l o):=
 hI.su (sr.put h o) (fun b hb=>World.putObj_heap_other om) rfl rfl rfl
theorem Inv.view{st ib:St}{ρ:bG}{a:Act}{w:World}(hI:Inv N ρ0 m0 w0 st ρ a w)(kh:ρ0.n=m0.length)(hw:View m0.length st ib):
  ∃ρ',Inv N ρ0 m0 w0 ib ρ' a w/\∀b,oo ρ st.mem b->oo ρ' ib.mem b:=by
 obtain⟨ρ',hM,hc,hd⟩:=hw.go ρ w hI.mem;refine⟨ρ',⟨⟨by rw[kh,hM.n];exact hw.hn,fun id hid=>(hc.aP id (by rw[<-kh];exact hid)).trans (hI.ext.aP id hid),fun b hb=>hc.S b (hI.ext.S b hb),fun b hb=>?_,fun k hk=>?_,hI.ext.frame,hI.ext.size,hI.ext.os,hI.ext.tape,hI.ext.output⟩,hM,?_,hI.defers.s hc.S,hI.hN,hw.hn⟩,fun b h=>h.Y8 hc⟩
 .rcases hc.S' b hb with h|⟨k,hk,rfl⟩
  .exact hI.ext.S' b h
  .exact .inr (hI.ext.a7 k hk)
 .obtain⟨k0,h0,e0⟩:=hc.a7 k hk;rw[<-e0];exact hI.ext.a7 k0 h0
 .refine⟨hI.aV.size.trans hw.len.symm,fun i c hi=>?_⟩
  obtain⟨c0,sH,H7⟩:=hd i c hi;obtain⟨v,hv,uY⟩:=hI.aV.jP i c0 sH;exact⟨v,hv,H7 v uY⟩
theorem qz:∀(m:Mem)(iN:List Nat),(nL m iN).length=m.length
 |m,[]=>rfl
 |m,id::r=>by rw[nL,qz,bg,Yy]
theorem k8:∀(m:Mem)(iN:List Nat)(i:Nat)(bk:Bk),(nL m iN)[i]? =some bk->bk= .aO\/(m[i]? =some bk/\i∉iN)
 |m,[],i,bk,h=>.inr ⟨h,aI⟩
 |m,id::r,i,bk,h=>by
  rcases k8 _ r i bk h with h|⟨h,hn⟩
  .exact .inl h
  .rw[bg]at h;by_cases hi:id=i
   .subst hi;have aE:id<m.length:=by have:=(Gf.1 h).1;simpa using this
    rw[Pr aE]at h;exact .inl (by cases h;rfl)
   .rw[Wf hi]at h;exact .inr ⟨h,by simp;exact⟨fun e=>hi e.symm,hn⟩⟩
theorem rR:∀{m:Mem}{iN:List Nat}{cs:List Value},w9 m iN cs->iN.length=cs.length/\∀(i:Nat)id v,iN[i]? =some id->cs[i]? =some v->m[id]? =some (.var [.aa (.val v)])/\cG v=true
 |m,[],[],_=>⟨rfl,aI⟩
 |m,id::r,v::vs,h=>by
  obtain⟨h1,h2⟩:=h;obtain⟨e,g⟩:=rR h2;refine⟨by simp[e],fun i iO v' hi hv=>?_⟩
  cases i with
  |zero=>simp at hi hv;subst hi hv;rw[<-aU];exact h1
  |succ i=>exact g i iO v' (by simpa using hi) (by simpa using hv)
end
end Go.AM
