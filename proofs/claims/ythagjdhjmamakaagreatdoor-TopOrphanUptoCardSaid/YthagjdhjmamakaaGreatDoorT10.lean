/- Part 10 of 41: what the law stands on. -/
import Derived.Test.YthagjdhjmamakaaGreatDoorT09
import Derived.Orders
set_option linter.unusedVariables false
set_option linter.unusedSimpArgs false
set_option linter.unnecessarySimpa false
set_option maxRecDepth 100000
set_option maxHeartbeats 64000000
namespace Go.AM
section
variable {P:Program}
def LO.iT(lo:LO)(e:List CV):Option Bool:=
 match lo.guard with
 |none=>some true
 |some (s,iT)=>match jd e s with
  | .undef=>some false
  | .rv (.one (.aa (.val (.bool t))))=>some (t==iT)
  |_=>none
theorem fJ{lo:LO}{e:List CV}{m:Mem}{K:List CV->CV->Mem->Prop}:
  mF P lo e m K↔(lo.iT e=some true/\step P lo.zD e m (K e))\/(lo.iT e=some false/\K e .undef m):=by
 unfold mF LO.iT;cases hg:lo.guard with
 |none=>simp[ew]
 |some p=>
  obtain⟨s,iT⟩:=p;simp only;generalize ef:jd e s=c;split
  .simp
  .rename_i t;have h1:∀b,t=b->a7 e s (aA b)=e:=fun b hb=>by subst hb;exact yl ef
   rw[cj];cases t
   .simp only[ew,h1 false rfl];cases iT<;>simp
   .simp only[ew,h1 true rfl];cases iT<;>simp
  .rename_i n1 n2;have:∀b,¬(match c with
     |CV.undef=>some false
     |CV.rv (RV.one (CC.aa (Dt.val (Value.bool t))))=>some (t==iT)
     |x=>none)=some b:=by
    intro b hb;split at hb
    .exact n1 rfl
    .exact n2 _ rfl
    .cases hb
   constructor
   .exact fun h=>h.elim
   .rintro(⟨h,_⟩|⟨h,_⟩)<;>exact this _ h
def wj(d:Option Nat)(v:CV)(e:List CV):List CV:=
 match d with
 |none=>e
 |some d=>e.set d v
theorem pK{d:Option Nat}{v:CV}{e:List CV}{K:List CV->Prop}:put d v e K↔K (wj d v e):=by
 rw[Jm];cases d<;>rfl
variable {N:Nat} {ρ0:bH} {m0:Mem} {w0:World}
theorem Inv.drew{st:St}{ρ:bH}{a:Act}{w:World}(h:Inv N ρ0 m0 w0 st ρ a w):Inv N ρ0 m0 w0 st ρ a {w with drawn:=w.drawn+1}:=by
 obtain⟨x,M,E,d,hN,n⟩:=h;have g:ij ρ w ρ {w with drawn:=w.drawn+1}:=⟨QN _,fun _ _=>rfl,fun _ h=>h,fun _ _=>rfl⟩
 have e:Ext ρ st.mem w ρ st.mem {w with drawn:=w.drawn+1}:=⟨QN _,fun _ _=>rfl,fun _ h=>h,fun _ h=>.inl h,fun k h=>.inr ⟨k,h,rfl⟩,fun _ _ _=>rfl,QN _,rfl,rfl,rfl⟩
 have hc:∀{mk:Prop}b cur,lq mk w b cur->lq mk {w with drawn:=w.drawn+1} b cur:=fun{mk}b cur hc=>hc.dz rfl
 refine⟨x.trans e,?_,?_,d,hN,n⟩
 .refine⟨M.n,M.S,M.a8,M.inj,fun id b hb=>?_,fun id i j esz el ho bl=>?_⟩
  .have h1:=M.bk id b hb;cases b with
   |aZ=>trivial
   |var cs=>
    obtain⟨cur,bU,h2⟩:=h1;exact⟨cur,hc _ _ bU,fun j c hj=>let⟨u,hu,hd⟩:=h2 j c hj;⟨u,hu,br.cF g aK hd⟩⟩
   |row esz elems=>
    obtain⟨h2,h3,h4,h5,h6⟩:=h1;refine⟨h2,h3,h4,h5,fun hp=>?_⟩
    obtain⟨cur,bU,h7,h8⟩:=h6 hp;exact⟨cur,hc _ _ bU,h7,fun i cs j c hi hj=>let⟨u,hu,hd⟩:=h8 i cs j c hi hj;⟨u,hu,br.cF g (by intro i3 i' j' e';cases e';rw[M.n];exact(Hy.1 hb).1) hd⟩⟩
   |mp es=>
    obtain⟨cJ,ck,h2,h3,h4⟩:=h1;exact⟨cJ,ck,h2,h3,fun i e he=>let⟨e',sh,hk,hd⟩:=h4 i e he;⟨e',sh,hk,dy.cF g hd⟩⟩
   |it cur left=>exact h1
  .obtain⟨cur,bU,h2,h3,h4⟩:=M.gp id i j esz el ho bl;exact⟨cur,hc _ _ bU,h2,h3,fun i cs j d hi hj=>let⟨u,hu,hd⟩:=h4 i cs j d hi hj;⟨u,hu,cZ.mono (S:=ρ.S) (S':=ρ.S) (w:=w) (w':={w with drawn:=w.drawn+1}) (fun _ h=>h) (fun _ _=>rfl) hd⟩⟩
 .exact⟨E.size,fun i c hi=>let⟨v,hv,hd⟩:=E.j7 i c hi;⟨v,hv,bW.cF g hd⟩⟩
theorem w8{ops:Array Oper}{k:Nat}{o:Oper}{lo:LO}{aU:List CV}{m:Mem}{ρ:bH}{a:Act}{w:World}{K:CV->Mem->Prop}{K1:Act->World->Prop}{Q:Exit->Act->World->Prop}(ho:ops[k]? =some o)(gG:tY P ops o=some lo)(hI:Inv N ρ0 m0 w0 ⟨aU,m⟩ ρ a w)(h:mF P lo aU m fun _ v m'=>K v m')(hn:∀v m' ρ' a' w',K v m'->Inv N ρ0 m0 w0 ⟨wj lo.dst v aU,m'⟩ ρ' a' w'->K1 a' w'):wpOp P ops Q k K1 a w:=by
 simp only[tY,Pq,KG]at gG;obtain⟨i,hi,g,hg,gG⟩:=gG;cases gG;unfold wpOp;rw[ho];simp only;have OA:∀b,LO.iT ⟨o.dst,i,g⟩ aU=some b->Region.wanted o (yielded ops a.tmps)=b:=by
  intro b hb;unfold LO.iT at hb;cases Jo:o.guard with
  |none=>
   rw[Jo]at hg;simp[I0]at hg;subst hg;simp at hb;subst hb;simp[Region.wanted,Jo]
  |some jb=>
   obtain⟨j,iT⟩:=jb;rw[Jo]at hg;simp only[I0,Pq,KG]at hg;obtain⟨oj,Wr,s,hs,hg⟩:=hg;cases hg;have hy:yielded ops a.tmps j=match a.tmps[s]? with|some (.bool b)=>some b|_=>none:=by simp[yielded,Wr,hs];rfl
   simp only at hb;split at hb
   .rename_i ef;have bY:=hI.aU.get s;rw[ef]at bY;have hu:a.tmps[s]? =some Go.undef\/a.tmps[s]? =none:=by
     simp only[bW,aaK]at bY;cases ht:a.tmps[s]? with
     |none=>exact .inr rfl
     |some v=>rw[ht]at bY;simp at bY;exact .inl (by rw[bY])
    cases hb;simp only[Region.wanted,Jo,hy];rcases hu with hu|hu<;>rw[hu]<;>rfl
   .rename_i t ef;have bY:=hI.aU.get s;rw[ef]at bY;have ht:a.tmps[s]? =some (.bool t):=by
     have:=(bJ bY).1;rw[aaK]at this;cases ht:a.tmps[s]? with
     |none=>rw[ht]at this;cases this
     |some v=>rw[ht]at this;simp at this;rw[this]
    simp at hb;simp[Region.wanted,Jo,hy,ht,hb]
   .cases hb
 rcases fJ.1 h with⟨hw,hs⟩|⟨hw,hs⟩
 .rw[if_pos (OA _ hw)];refine .inl (Al (K:=fun e' m'=>∃v,e'=wj o.dst v aU/\K v m') hi hI (wZ hs fun v m' hk=>pK.2 ⟨v,rfl,hk⟩) fun fc m' ρ' a' w'⟨v,he,hk⟩ol=>?_)
  subst he;exact hn v m' ρ' a' w' hk ol
 .rw[if_neg (by simp[OA _ hw])]
  obtain⟨fc,IE,ol⟩:=hI.step (d:=o.dst) (c:= .undef) (v:=Go.undef) (K:=fun e=>e=wj o.dst .undef aU) hI.mem rfl (Ext.refl _ _ _) (pK.2 rfl)
  subst IE;exact hn _ _ _ _ _ hs ol
theorem sI{lo:LO}{e e':List CV}{m:Mem}{K:CV->Mem->Prop}(hx:∀t,t∈lo.looks->jd e t=jd e' t)(h:mF P lo e m fun _ v m'=>K v m'):
  mF P lo e' m fun _ v m'=>K v m':=by
 rw[fJ]at h⊢;have hs:∀t,t∈kj lo.zD.xs->jd e t=jd e' t:=fun t ht=>hx t (by unfold LO.looks;split<;>simp[ht])
 have hw:lo.iT e=lo.iT e':=by
  unfold LO.iT;cases hg:lo.guard with
  |none=>rfl
  |some p=>simp only[hx p.1 (by unfold LO.looks;rw[hg];simp)]
 have Fp:∀(xs:List X)(x:X),x∈xs->∀n,x= .t n->n∈kj xs:=by
  intro xs
  induction xs with
  |nil=>intro x hx;cases hx
  |cons y r ih=>
   intro x hx n hn;subst hn;cases y with
   |t k=>
    simp only[kj,aad];rcases aad.1 hx with h|h
    .cases h;exact .inl rfl
    .exact .inr (ih _ h n rfl)
   |c v=>
    simp only[kj];rcases aad.1 hx with h|h
    .cases h
    .exact ih _ h n rfl
 have Oq:∀x,x∈lo.zD.xs->x.ev e=x.ev e':=fun x hx=>by
  cases x with
  |t n=>exact hs n (Fp _ _ hx n rfl)
  |c v=>rfl
 rw[<-hw];rcases h with⟨h1,h2⟩|h
 .exact .inl ⟨h1,C2 Oq h2⟩
 .exact .inr h
def QV(P:Program)(lo:LO)(e:List CV)(m:Mem)(v:CV):Prop:=mF P lo e m fun _ v' m'=>v'=v/\m'=m
theorem sJ{lo:LO}(hq:qQ lo.zD=true){e:List CV}{m:Mem}{K:List CV->CV->Mem->Prop}(h:mF P lo e m K):∃v,K e v m/\QV P lo e m v:=by
 rcases fJ.1 h with⟨h1,h2⟩|⟨h1,h2⟩
 .obtain⟨v,hv,eB⟩:=C1 hq h2;exact⟨v,hv,fJ.2 (.inl ⟨h1,eB _ ⟨rfl,rfl⟩⟩)⟩
 .exact⟨_,h2,fJ.2 (.inr ⟨h1,rfl,rfl⟩)⟩
theorem QV.pure{lo:LO}(hq:wJ lo.zD=true){e:List CV}{m:Mem}{v:CV}(h:QV P lo e m v)(m':Mem):QV P lo e m' v:=by
 rcases fJ.1 h with⟨h1,h2⟩|⟨h1,h2⟩
 .obtain⟨v',hv,eB⟩:=GX hq h2;exact fJ.2 (.inl ⟨h1,eB m' _ ⟨hv.1,rfl⟩⟩)
 .exact fJ.2 (.inr ⟨h1,h2.1,rfl⟩)
end
section
variable {P:Program}
def Edge(fY:List (List Nat))(i j:Nat):Prop:=∃l,fY[i]? =some l/\j∈l
def PV(fY:List (List Nat))(L:Nat->Prop):Prop:=∀i j,Edge fY i j->L i->L j
def PW(fY:List (List Nat))(i j:Nat):Prop:=∀L,PV fY L->(∀k,Edge fY i k->L k)->L j
theorem pL{ec:List Nat}{t:Nat}:∀{l:List Nat},Nat.testBit (x5 ec l) t=true->
  ∃j,j∈l/\(t=j\/Nat.testBit ((cR ec j).getD 0) t=true)
 | [],h=>by simp[x5]at h
 |j::r,h=>by
  simp only[x5,List.foldr_cons]at h;have h1:∀a b:Nat,Nat.testBit (Nat.lor a b) t=(Nat.testBit a t||Nat.testBit b t):=fun a b=>Nat.testBit_or a b t
  rw[h1,h1]at h;simp only[aaT]at h;rcases h with h|h|h
  .obtain⟨k,hk,hr⟩:=pL (l:=r) h;exact⟨k,by simp[hk],hr⟩
  .refine⟨j,aK,.inl ?_⟩;have:Nat.shiftLeft 1 j=2^j:=by show 1<<<j=2^j;rw[Nat.shiftLeft_eq];simp
   rw[this,Nat.testBit_two_pow]at h;simpa using(of_decide_eq_true h).symm
  .exact⟨j,aK,.inr h⟩
def Jr(fY:List (List Nat))(ec:List Nat):Prop:=∀(i j:Nat),Nat.testBit ((cR ec i).getD 0) j=true->PW fY i j
theorem Am{fY:List (List Nat)}{ec:List Nat}(h:Jr fY ec):Jr fY (Cv fY ec):=by
 intro i j hb;rw[aT,Cv,O6]at hb;cases hl:fY[i]? with
 |none=>rw[hl]at hb;simp at hb
 |some l=>
  rw[hl]at hb;simp only[XS,aaD]at hb;obtain⟨k,hk,hr⟩:=pL hb;have he:Edge fY i k:=⟨l,hl,hk⟩;rcases hr with rfl|hr
  .exact fun L _ hL=>hL _ he
  .exact fun L hd hL=>h k j hr L hd fun k' gC=>hd _ _ gC (hL _ he)
theorem sK{fY:List (List Nat)}:∀(k:Nat){ec:List Nat},Jr fY ec->Jr fY (x6 fY k ec)
 |0,_,h=>h
 |k+1,ec,h=>by
  simp only[x6];split
  .exact h
  .exact sK k (Am h)
theorem GY{n:Nat}{fY:List (List Nat)}:Jr fY (bm n fY):=sK n fun i j hb=>by simp[cR]at hb
theorem ut{fY:List (List Nat)}{n:Nat}{L:Nat->Prop}(iV:∀i,i<n->¬L i->∃j,Edge fY i j/\¬L j):
  ∀(l bf:List Nat),wK fY n bf l=true->(∀i,i∈bf->L i)->∀i,i<n->L i
 | [],bf,h,hb,i,hi=>by
  simp only[wK,aas]at h;exact hb i (by simpa using h i (by simpa using hi))
 |x::r,bf,h,hb,i,hi=>by
  simp only[wK,T6,aas]at h;refine ut iV r (x::bf) h.2 (fun k hk=>?_) i hi
  rcases aad.1 hk with e|hk
  .rw[e];by_cases h1:L x
   .exact h1
   .obtain⟨j,⟨l,hl,hj⟩,hnj⟩:=iV x (by have:=h.1.1;rwa [aaO]at this) h1
    refine absurd (hb j ?_) hnj;have:=h.1.2 j (by rw[aT,hl];exact hj)
    simpa using this
  .exact hb k hk
variable {bO:List LO} {ms:List Nat} {n:Nat} {e0:List CV} {fY:List (List Nat)}
structure kH(bO:List LO)(e0:List CV)(S:Nat->Prop)(val:Nat->CV)(e:List CV):Prop where
 len:e.length=e0.length
 on:∀t k,S k->cS bO t k=true->t<e0.length->e[t]? =some (val k)
 off:∀t,(∀k,S k->cS bO t k=false)->e[t]? =e0[t]?
theorem jJ{t k:Nat}:cS bO t k=true↔∃lo,cR bO k=some lo/\lo.dst=some t:=by
 unfold cS;cases cR bO k with
 |none=>simp
 |some lo=>
  cases hd:lo.dst with
  |none=>simp[hd]
  |some d=>simp[hd]
theorem kH.step{S:Nat->Prop}{val:Nat->CV}{e:List CV}(h:kH bO e0 S val e){i:Nat}{lo:LO}(hi:cR bO i=some lo)(hu:∀t k,S k->lo.dst=some t->cS bO t k=false){v:CV}{io:Nat->CV}(hv:io i=v)(fK:∀k,S k->io k=val k){S':Nat->Prop}(hS:∀k,S' k↔S k\/k=i):kH bO e0 S' io (wj lo.dst v e):=by
 have hw:∀t,cS bO t i=true↔lo.dst=some t:=fun t=>by rw[jJ];simp[hi]
 refine⟨?_,fun t k hk zJ aF=>?_,fun t eB=>?_⟩
 .unfold wj;split<;>simp[h.len]
 .rcases(hS k).1 hk with hk|rfl
  .have eL:lo.dst≠some t:=fun hd=>by rw[hu t k hk hd]at zJ;cases zJ
   rw[fK k hk,<-h.on t k hk zJ aF];unfold wj;cases hd:lo.dst with
   |none=>rfl
   |some d=>
    simp only;rw[XK];rintro rfl;exact eL hd
  .have hd:=(hw t).1 zJ;rw[hd,hv];simp only[wj];rw[QO (by rw[h.len];exact aF)]
 .have eL:lo.dst≠some t:=fun hd=>by have:=eB i ((hS i).2 (.inr rfl));rw[(hw t).2 hd]at this;cases this
  rw[<-h.off t fun k hk=>eB k ((hS k).2 (.inl hk))]
  unfold wj;cases hd:lo.dst with
  |none=>rfl
  |some d=>
   simp only;rw[XK];rintro rfl;exact eL hd
theorem kH.SM{S S':Nat->Prop}{val io:Nat->CV}{e:List CV}(h:kH bO e0 S val e)(fK:∀k,S k->io k=val k)(hS:∀k,S' k↔S k):kH bO e0 S' io e:=
 ⟨h.len,fun t k hk hw hl=>by rw[fK k ((hS k).1 hk)];exact h.on t k ((hS k).1 hk) hw hl,fun t eB=>h.off t fun k hk=>eB k ((hS k).2 hk)⟩
theorem kH.ext{S:Nat->Prop}{val:Nat->CV}{e e':List CV}(h:kH bO e0 S val e)(h':kH bO e0 S val e'):e=e':=by
 refine aaI fun t=>?_
 by_cases hex:∃k,S k/\cS bO t k=true
 .obtain⟨k,hk,hw⟩:=hex;rcases XN t e0.length with aF|ef
  .rw[h.on t k hk hw aF,h'.on t k hk hw aF]
  .rw[aaj (by rw[h.len];exact ef),aaj (by rw[h'.len];exact ef)]
 .have:∀k,S k->cS bO t k=false:=fun k hk=>by
   cases hw:cS bO t k with
   |false=>rfl
   |true=>exact absurd ⟨k,hk,hw⟩ hex
  rw[h.off t this,h'.off t this]
def Agree(bO:List LO)(ms:List Nat)(e0:List CV)(bf:List Nat)(val:Nat->CV)(j:Nat)(e1:List CV):Prop:=
 e1.length=e0.length/\∀t,t∈m9 bO j->t<e0.length->
  (∃k,k∈bf/\cS bO t k=true/\lY ms j k=true/\e1[t]? =some (val k))\/
  ((∀k,k∈bf->cS bO t k=true->k=j\/lY ms k j=true)/\e1[t]? =e0[t]?)
theorem Agree.Vg{bf:List Nat}{val:Nat->CV}{j:Nat}{e1 aU:List CV}{L:Nat->Prop}(h:Agree bO ms e0 bf val j e1)(hE:kH bO e0 L val aU)(zK:∀i j,lY ms i j=true->PW fY i j)(hd:PV fY L)(qX:∀i,L i->i∈bf)(hj:¬L j)(hr:∀k,Edge fY j k->L k):
  ∀t,t∈m9 bO j->jd e1 t=jd aU t:=by
 intro t ht;rw[kn,kn];rcases XN t e0.length with aF|ef
 .rcases h.2 t ht aF with⟨k,hk,hw,hm,he⟩|⟨eB,he⟩
  .rw[he,hE.on t k (zK _ _ hm L hd hr) hw aF]
  .rw[he,hE.off t fun k hk=>?_]
   cases hw:cS bO t k with
   |false=>rfl
   |true=>
    rcases eB k (qX k hk) hw with rfl|hm
    .exact absurd hk hj
    .exact absurd (zK _ _ hm L hd fun k' gC=>hd _ _ gC hk) hj
 .rw[aaj (by rw[h.1];exact ef),aaj (by rw[hE.len];exact ef)]
structure DS(P:Program)(bO:List LO)(ms:List Nat)(n:Nat)(fY:List (List Nat))(e0:List CV)(K:List CV->Mem->Prop)(L:Nat->Prop)(bf:List Nat)(c:Bool)(R:mE)(val:Nat->CV)(dF:List (Nat×LO×List CV×CV))(e aU:List CV)(m:Mem):Prop where
 go:dD bO ms n c bf R=true
 SN:t7 P bO R dF K e m
 pM:kH bO e0 (·∈bf) val e
 wm:kH bO e0 L val aU
 sub:∀i,L i->i∈bf
 down:PV fY L
 Ao:∀t j k,j∈bf->k∈bf->cS bO t j=true->cS bO t k=true->j=k
 rc:∀j,j∈bf->¬L j->∃lo e1,cR bO j=some lo/\qQ lo.zD=true/\t6 j dF=some (lo,e1,val j)/\QV P lo e1 m (val j)/\Agree bO ms e0 bf val j e1
theorem ip{bf:List Nat}{i:Nat}(h:E9 bO ms n bf i=true):i<n/\i∉bf/\
  (∀t,t∈m9 bO i->∀j,j∈bf->cS bO t j=true->lY ms i j=true)/\
  (∀t,Gw bO i=some t->∀j,j∈bf->cS bO t j=false/\(t∈m9 bO j->lY ms i j=true)):=by
 simp only[E9,T6]at h;obtain⟨⟨⟨h1,h2⟩,h4⟩,h5⟩:=h;refine⟨by rwa [aaO]at h1,by simpa using h2,?_,?_⟩
 .intro t ht j hj hw;have:=aas.1 (aas.1 h4 t ht) j hj;simpa[hw]using this
 .intro t ht j hj;rw[ht]at h5;have:=aas.1 h5 j hj;simp only[T6,aaP,aaT]at this;refine⟨this.1,fun hl=>?_⟩
  rcases this.2 with h|h
  .simp[hl]at h
  .exact h
theorem w9{bf hd:List Nat}(h:Px ms n bf hd=true){i:Nat}(hi:i<n)(hb:i∉bf):i∈hd\/∃f,f∈hd/\lY ms i f=true:=by
 have:=aas.1 h i (by simpa using hi)
 simp only[aaT,aaH]at this;rcases this with h|h|⟨f,h1,h2⟩
 .exact absurd (by simpa using h) hb
 .exact .inl (by simpa using h)
 .exact .inr ⟨f,h1,h2⟩
theorem jK:∀{R:mE}{bf:List Nat},dD bO ms n false bf R=true->(∃f,f∈R.hd)/\∀f,f∈R.hd->f<n/\f∉bf
 | .nil,bf,h=>by simp[dD]at h
 | .cons i none r,bf,h=>by simp[dD]at h
 | .cons i (some l) r,bf,h=>by
  simp only[dD,T6]at h;obtain⟨h1,h2,_⟩:=ip h.2.1;exact⟨⟨i,by simp[mE.hd]⟩,fun f hf=>by simp[mE.hd]at hf;subst hf;exact⟨h1,h2⟩⟩
 | .zS x y,bf,h=>by
  simp only[dD,T6]at h;obtain⟨⟨f,hf⟩,hx⟩:=jK h.2.1;obtain⟨_,hy⟩:=jK h.2.2;exact⟨⟨f,by simp[mE.hd,hf]⟩,fun f hf=>by simp only[mE.hd,aaF]at hf;exact hf.elim (hx f) (hy f)⟩
theorem DS.ahead{K:List CV->Mem->Prop}{L:Nat->Prop}{bf:List Nat}{c:Bool}{q:Nat}{R:mE}{val:Nat->CV}{dF:List (Nat×LO×List CV×CV)}{e aU:List CV}{m:Mem}(h:DS P bO ms n fY e0 K L bf c (.cons q none R) val dF e aU m):∃io pN e',DS P bO ms n fY e0 K L (q::bf) true R io pN e' aU m:=by
 have oo:=h.go;simp only[dD,T6]at oo;obtain⟨_,Ap,g6,g8⟩:=oo;obtain⟨g1,g2,g4,g5⟩:=ip Ap;have hc:=h.SN;simp only[wM,Fd]at hc;obtain⟨lo,gG,hc⟩:=bc.1 hc;have hq:qQ lo.zD=true:=by simpa[km,gG]using g6
 obtain⟨v,hc,hqv⟩:=sJ hq hc;have hc:=pK.1 hc;have Js:Gw bO q=lo.dst:=by simp[Gw,gG]
 let io:Nat->CV:=fun k=>if k=q then v else val k
 have fK:∀k,k∈bf->io k=val k:=fun k hk=>if_neg fun(e:k=q)=>g2 (e▸hk)
 have zJ:∀t k,k∈bf->lo.dst=some t->cS bO t k=false:=fun t k hk hd=>(g5 t (by rw[Js];exact hd) k hk).1
 have PX:∀t,cS bO t q=true->lo.dst=some t:=fun t hw=>by obtain⟨CS,h1,h2⟩:=jJ.1 hw;rw[gG]at h1;cases h1;exact h2
 refine⟨io,_,_,g8,hc,h.pM.step gG zJ (by simp[io]) fK (by simp[or_comm]),h.wm.SM (fun k hk=>fK k (h.sub k hk)) (fun _=>Iff.rfl),fun i hi=>by simp[h.sub i hi],h.down,?_,?_⟩
 .intro t j k hj hk Jt Fq;rcases aad.1 hj with e1|zH<;>rcases aad.1 hk with e2|i4
  .rw[e1,e2]
  .rw[e1]at Jt;rw[zJ t k i4 (PX t Jt)]at Fq;cases Fq
  .rw[e2]at Fq;rw[zJ t j zH (PX t Fq)]at Jt;cases Jt
  .exact h.Ao t j k zH i4 Jt Fq
 .intro j hj hL;rcases aad.1 hj with rfl|hj
  .refine⟨lo,e,gG,hq,by simp[t6,io],by simpa[io]using hqv,h.pM.len,fun t ht aF=>?_⟩
   by_cases hex:∃k,k∈bf/\cS bO t k=true
   .obtain⟨k,hk,hw⟩:=hex;exact .inl ⟨k,by simp[hk],hw,g4 t ht k hk hw,by rw[fK k hk];exact h.pM.on t k hk hw aF⟩
   .refine .inr ⟨fun k hk hw=>?_,h.pM.off t fun k hk=>?_⟩
    .rcases aad.1 hk with rfl|hk
     .exact .inl rfl
     .exact absurd ⟨k,hk,hw⟩ hex
    .cases hw:cS bO t k with
     |false=>rfl
     |true=>exact absurd ⟨k,hk,hw⟩ hex
  .obtain⟨CS,e1,h1,h2,h3,h4,h5,h6⟩:=h.rc j hj hL;have eL:q≠j:=fun e=>g2 (e▸hj)
   refine⟨CS,e1,h1,h2,?_,by rw[fK j hj];exact h4,h5,fun t ht aF=>?_⟩
   .have:Nat.beq q j=false:=by
     cases hb:Nat.beq q j with
     |false=>rfl
     |true=>exact absurd (XM hb) eL
    simp only[t6,this];rw[h3,fK j hj]
   .rcases h6 t ht aF with⟨k,hk,hw,hm,he⟩|⟨eB,he⟩
    .exact .inl ⟨k,by simp[hk],hw,hm,by rw[fK k hk];exact he⟩
    .refine .inr ⟨fun k hk hw=>?_,he⟩
     rcases aad.1 hk with e2|i4
     .rw[e2]at hw⊢;exact .inr ((g5 t (by rw[Js];exact PX t hw) j hj).2 ht)
     .exact eB k i4 hw
end
section
variable {P:Program}
variable {N:Nat} {ρ0:bH} {m0:Mem} {w0:World}
variable {bO:List LO} {ms:List Nat} {n:Nat} {e0:List CV} {fY:List (List Nat)}
theorem xb{ops:Array Oper}:∀{l:List Oper}{bO:List LO},lA P ops l=some bO->l.length=bO.length/\∀(i:Nat)o,l[i]? =some o->∃lo,cR bO i=some lo/\tY P ops o=some lo
 | [],bO,h=>by simp[lA]at h;subst h;simp
 |o::r,bO,h=>by
  obtain⟨lo,lr,rfl,h1,h2⟩:=ra h o r rfl;obtain⟨h3,h4⟩:=xb h2;refine⟨by simp[h3],fun i o' hi=>?_⟩
  cases i with
  |zero=>simp at hi;subst hi;exact⟨lo,rfl,h1⟩
  |succ i=>simpa[cR]using h4 i o' (by simpa using hi)
theorem Aq{m:Mem}{dF:List (Nat×LO×List CV×CV)}{j:Nat}:∀{l:List Nat},R6 P m dF l->j∈l->ok (t6 j dF) fun x=>mF P x.1 x.2.1 m fun _ v _=>v=x.2.2
 | [],_,h=>by cases h
 |k::r,hc,h=>by
  simp only[I2]at hc;rcases aad.1 h with e|h
  .rw[e];exact hc.1
  .exact Aq hc.2 h
theorem DS.SO{K:List CV->Mem->Prop}{L:Nat->Prop}{bf:List Nat}{c:Bool}{R:mE}{val:Nat->CV}{dF:List (Nat×LO×List CV×CV)}{e aU:List CV}{m:Mem}(h:DS P bO ms n fY e0 K L bf c R val dF e aU m){i:Nat}(hi:i∈bf)(hL:¬L i){lo:LO}(gG:cR bO i=some lo):∀t k,L k->lo.dst=some t->cS bO t k=false:=by
 intro t k hk hd;cases hw:cS bO t k with
 |false=>rfl
 |true=>
  have:=h.Ao t i k hi (h.sub k hk) (jJ.2 ⟨lo,gG,hd⟩) hw;exact absurd (this▸hk) hL
theorem DS.Fr{K:List CV->Mem->Prop}{L L':Nat->Prop}{bf:List Nat}{c:Bool}{R:mE}{val:Nat->CV}{dF:List (Nat×LO×List CV×CV)}{e aU:List CV}{m:Mem}(h:DS P bO ms n fY e0 K L bf c R val dF e aU m)(zK:∀i j,lY ms i j=true->PW fY i j){i:Nat}(hi:i∈bf)(hL:¬L i)(hr:∀k,Edge fY i k->L k)(xd:∀k,L' k↔L k\/k=i){ops:Array Oper}{o:Oper}{lo:LO}(ho:ops[i]? =some o)(gG:cR bO i=some lo)(jj:tY P ops o=some lo){ρ:bH}{a:Act}{w:World}(hI:Inv N ρ0 m0 w0 ⟨aU,m⟩ ρ a w){K1:Act->World->Prop}{Q:Exit->Act->World->Prop}(hn:∀fc ρ' a' w',Inv N ρ0 m0 w0 ⟨fc,m⟩ ρ' a' w'->DS P bO ms n fY e0 K L' bf c R val dF e fc m->K1 a' w'):wpOp P ops Q i K1 a w:=by
 obtain⟨CS,e1,h1,h2,h3,h4,h5⟩:=h.rc i hi hL;rw[gG]at h1;cases h1;have Wt:=h5.Vg h.wm zK h.down h.sub hL hr;have hv:=sI (lo:=lo) (K:=fun v' m'=>v'=val i/\m'=m) (fun t ht=>Wt t (by simpa[m9,gG]using ht)) h4
 refine w8 ho jj hI hv fun v m' ρ' a' w' hk ol=>?_
 obtain⟨rfl,rfl⟩:=hk;refine hn _ ρ' a' w' ol ⟨h.go,h.SN,h.pM,h.wm.step gG (h.SO hi hL gG) rfl (fun _ _=>rfl) xd,fun j hj=>?_,fun x y PY hx=>?_,h.Ao,fun j hj Vl=>h.rc j hj fun hl=>Vl ((xd j).2 (.inl hl))⟩
 .rcases(xd j).1 hj with hj|rfl
  .exact h.sub j hj
  .exact hi
 .rcases(xd x).1 hx with hx|rfl
  .exact(xd y).2 (.inl (h.down x y PY hx))
  .exact(xd y).2 (.inl (hr y PY))
theorem DS.PZ{K:List CV->Mem->Prop}{L L':Nat->Prop}{bf:List Nat}{c:Bool}{i:Nat}{l:List Nat}{R:mE}{val:Nat->CV}{dF:List (Nat×LO×List CV×CV)}{e aU:List CV}{m:Mem}(h:DS P bO ms n fY e0 K L bf c (.cons i (some l) R) val dF e aU m)(zK:∀i j,lY ms i j=true->PW fY i j)(hr:∀k,Edge fY i k->L k)(xd:∀k,L' k↔L k\/k=i){ops:Array Oper}{o:Oper}{lo:LO}(ho:ops[i]? =some o)(gG:cR bO i=some lo)(jj:tY P ops o=some lo){ρ:bH}{a:Act}{w:World}(hI:Inv N ρ0 m0 w0 ⟨aU,m⟩ ρ a w){K1:Act->World->Prop}{Q:Exit->Act->World->Prop}(hn:∀io pN e' fc m' ρ' a' w',Inv N ρ0 m0 w0 ⟨fc,m'⟩ ρ' a' w'->DS P bO ms n fY e0 K L' (i::bf) true R io pN e' fc m'->K1 a' w'):wpOp P ops Q i K1 a w:=by
 have oo:=h.go;simp only[dD,T6]at oo;obtain⟨_,Ap,g7,g8⟩:=oo;obtain⟨g1,g2,g4,g5⟩:=ip Ap;have hc:=h.SN;simp only[wM,Fd]at hc;obtain⟨CS,SP,hc⟩:=bc.1 hc;rw[gG]at SP;cases SP;have hiL:¬L i:=fun hl=>g2 (h.sub i hl)
 have SQ:∀k,lY ms i k=true->L k:=fun k hm=>zK i k hm L h.down hr
 have ui:mF P lo e m fun _ v m'=>R6 P m' dF l/\t7 P bO R dF K (wj lo.dst v e) m':=by
  rw[fJ]at hc⊢;rcases hc with⟨h1,h2⟩|⟨h1,h2⟩
  .exact .inl ⟨h1,wZ h2 fun v m' hk=>pK.1 hk⟩
  .exact .inr ⟨h1,pK.1 h2⟩
 have Js:Gw bO i=lo.dst:=by simp[Gw,gG]
 have Wt:∀t,t∈lo.looks->jd e t=jd aU t:=fun t ht=>by
  rw[kn,kn];rcases XN t e0.length with aF|ef
  .by_cases hex:∃k,k∈bf/\cS bO t k=true
   .obtain⟨k,hk,hw⟩:=hex;rw[h.pM.on t k hk hw aF,h.wm.on t k (SQ k (g4 t (by simpa[m9,gG]using ht) k hk hw)) hw aF]
   .have C3:∀k,k∈bf->cS bO t k=false:=fun k hk=>by
     cases hw:cS bO t k with
     |false=>rfl
     |true=>exact absurd ⟨k,hk,hw⟩ hex
    rw[h.pM.off t C3,h.wm.off t fun k hk=>C3 k (h.sub k hk)]
  .rw[aaj (by rw[h.pM.len];exact ef),aaj (by rw[h.wm.len];exact ef)]
 have hv:=sI Wt ui;have zJ:∀t k,k∈bf->lo.dst=some t->cS bO t k=false:=fun t k hk hd=>(g5 t (by rw[Js];exact hd) k hk).1
 have PX:∀t,cS bO t i=true->lo.dst=some t:=fun t hw=>by obtain⟨CS,h1,h2⟩:=jJ.1 hw;rw[gG]at h1;cases h1;exact h2
 refine w8 ho jj hI hv fun v m' ρ' a' w' hk ol=>?_
 obtain⟨Wu,hd⟩:=hk;let io:Nat->CV:=fun k=>if k=i then v else val k
 have fK:∀k,k∈bf->io k=val k:=fun k hk=>if_neg fun(e:k=i)=>g2 (e▸hk)
 refine hn io dF _ _ m' ρ' a' w' ol ⟨g8,hd,h.pM.step gG zJ (by simp[io]) fK (by simp[or_comm]),
  h.wm.step gG (fun t k hk hd=>zJ t k (h.sub k hk) hd) (by simp[io]) (fun k hk=>fK k (h.sub k hk)) xd,fun j hj=>?_,fun x y PY hx=>?_,fun t j k hj hk Jt Fq=>?_,fun j hj Vl=>?_⟩
 .rcases(xd j).1 hj with hj|rfl
  .simp[h.sub j hj]
  .simp
 .rcases(xd x).1 hx with hx|rfl
  .exact(xd y).2 (.inl (h.down x y PY hx))
  .exact(xd y).2 (.inl (hr y PY))
 .rcases aad.1 hj with e1|zH<;>rcases aad.1 hk with e2|i4
  .rw[e1,e2]
  .rw[e1]at Jt;rw[zJ t k i4 (PX t Jt)]at Fq;cases Fq
  .rw[e2]at Fq;rw[zJ t j zH (PX t Fq)]at Jt;cases Jt
  .exact h.Ao t j k zH i4 Jt Fq
 .have Y4:¬L j:=fun hl=>Vl ((xd j).2 (.inl hl))
  have hji:j≠i:=fun e=>Vl ((xd j).2 (.inr e))
  have zH:j∈bf:=by
   rcases aad.1 hj with e|h
   .exact absurd e hji
   .exact h
  obtain⟨CS,e1,h1,h2,h3,h4,h5,h6⟩:=h.rc j zH Y4;refine⟨CS,e1,h1,h2,by rw[fK j zH];exact h3,?_,h5,fun t ht aF=>?_⟩
  .rw[fK j zH];have Y5:=aas.1 g7 j zH;have P1:km bO j=true:=by simpa[km,h1]using h2
   simp only[P1,aci,abV,aaT,List.contains_iff_mem]at Y5;rcases Y5 with hm|hp|hl
   .exact absurd (SQ j hm) Y4
   .exact h4.pure (by simpa[Cw,h1]using hp) m'
   .have:=Aq Wu hl;rw[h3]at this;obtain⟨_,hx,Vm⟩:=bc.1 this;cases hx;obtain⟨v',Y6,hq⟩:=sJ h2 Vm;simp only at Y6;rw[<-Y6];exact hq
  .rcases h6 t ht aF with⟨k,hk,hw,hm,he⟩|⟨eB,he⟩
   .exact .inl ⟨k,by simp[hk],hw,hm,by rw[fK k hk];exact he⟩
   .refine .inr ⟨fun k hk hw=>?_,he⟩
    rcases aad.1 hk with e2|i4
    .rw[e2]at hw⊢;exact .inr ((g5 t (by rw[Js];exact PX t hw) j zH).2 ht)
    .exact eB k i4 hw
theorem DS.any{K:List CV->Mem->Prop}{L L':Nat->Prop}(zK:∀i j,lY ms i j=true->PW fY i j){i:Nat}(jI:i<n)(hL:¬L i)(hr:∀k,Edge fY i k->L k)(xd:∀k,L' k↔L k\/k=i){ops:Array Oper}{o:Oper}{lo:LO}(ho:ops[i]? =some o)(gG:cR bO i=some lo)(jj:tY P ops o=some lo){aU:List CV}{m:Mem}{ρ:bH}{a:Act}{w:World}(hI:Inv N ρ0 m0 w0 ⟨aU,m⟩ ρ a w){K1:Act->World->Prop}{Q:Exit->Act->World->Prop}(hn:∀bf R io pN e' fc m' ρ' a' w',Inv N ρ0 m0 w0 ⟨fc,m'⟩ ρ' a' w'->DS P bO ms n fY e0 K L' bf true R io pN e' fc m'->K1 a' w'):
  ∀(R:mE)(bf:List Nat)(c:Bool)(val:Nat->CV)(dF:List (Nat×LO×List CV×CV))(e:List CV),(c=false->i∈R.hd)->DS P bO ms n fY e0 K L bf c R val dF e aU m->wpOp P ops Q i K1 a w:=by
 intro R
 induction R with
 |nil=>
  intro bf c val dF e hc h;cases c with
  |false=>have:=hc rfl;simp[mE.hd]at this
  |true=>
   have oo:=h.go;simp only[dD,Bool.true_and,aas]at oo;have hi:i∈bf:=by simpa using oo i (by simpa using jI)
   exact h.Fr zK hi hL hr xd ho gG jj hI fun fc ρ' a' w'=>hn _ _ _ _ _ fc m ρ' a' w'
 |cons q IU R ih=>
  intro bf c val dF e hc h;cases IU with
  |none=>
   have hct:c=true:=by have oo:=h.go;simp only[dD,T6]at oo;exact oo.1
   subst hct;by_cases hi:i∈bf
   .exact h.Fr zK hi hL hr xd ho gG jj hI fun fc ρ' a' w'=>hn _ _ _ _ _ fc m ρ' a' w'
   .obtain⟨io,pN,e',h'⟩:=h.ahead;exact ih _ _ _ _ _ (fun h=>by cases h) h'
  |some l=>
   have oo:=h.go;simp only[dD,T6]at oo;obtain⟨Ju,Ap,_⟩:=oo;obtain⟨_,g2,_⟩:=ip Ap;by_cases hi:i∈bf
   .cases c with
    |false=>
     have hq:=hc rfl;simp only[mE.hd,abg]at hq;subst hq;exact absurd hi g2
    |true=>exact h.Fr zK hi hL hr xd ho gG jj hI fun fc ρ' a' w'=>hn _ _ _ _ _ fc m ρ' a' w'
   .have wn:q=i:=by
     cases c with
     |false=>
      have hq:=hc rfl;simp only[mE.hd,abg]at hq;exact hq.symm
     |true=>
      simp only[aci,abV]at Ju;rcases w9 Ju jI hi with hq|⟨f,hf,hm⟩
      .simpa using Eq.symm (by simpa using hq)
      .simp only[abg]at hf;subst hf;exact absurd (h.sub _ (zK i _ hm L h.down hr)) g2
    subst wn;exact h.PZ zK hr xd ho gG jj hI fun io pN e' fc m' ρ' a' w'=>hn _ _ _ _ _ fc m' ρ' a' w'
 |zS x y P2 Jv=>
  intro bf c val dF e hc h;have oo:=h.go;simp only[dD,T6]at oo;obtain⟨Ju,Y7,Y8⟩:=oo;obtain⟨_,hhx⟩:=jK Y7;obtain⟨_,hhy⟩:=jK Y8;have P3:=h.SN;simp only[I3]at P3;have Y9:i∈x.hd->wpOp P ops Q i K1 a w:=fun hi=>P2 bf false val dF e (fun _=>hi) ⟨Y7,P3.1,h.pM,h.wm,h.sub,h.down,h.Ao,h.rc⟩
  have Za:i∈y.hd->wpOp P ops Q i K1 a w:=fun hi=>Jv bf false val dF e (fun _=>hi) ⟨Y8,P3.2,h.pM,h.wm,h.sub,h.down,h.Ao,h.rc⟩
  cases c with
  |false=>
   have hq:=hc rfl;simp only[mE.hd,aaF]at hq;exact hq.elim Y9 Za
  |true=>
   by_cases hi:i∈bf
   .exact h.Fr zK hi hL hr xd ho gG jj hI fun fc ρ' a' w'=>hn _ _ _ _ _ fc m ρ' a' w'
   .simp only[aci,abV]at Ju;rcases w9 Ju jI hi with hq|⟨f,hf,hm⟩
    .rcases aaF.1 hq with hq|hq
     .exact Y9 hq
     .exact Za hq
    .have Zb:=h.sub _ (zK i f hm L h.down hr);rcases aaF.1 hf with hf|hf
     .exact absurd Zb (hhx f hf).2
     .exact absurd Zb (hhy f hf).2
theorem xe:∀(l:List Bool)(i:Nat),l[i]? =some false->(l.set i true).count false+1=l.count false
 | [],i,h=>by simp at h
 |b::r,0,h=>by simp at h;subst h;simp
 |b::r,i+1,h=>by
  have:=xe r i (by simpa using h)
  cases b<;>simp[List.count_cons]at this⊢<;>omega
theorem ML{md:Region.Mode}{ops:Array Oper}{Q:Exit->Act->World->Prop}{K:List CV->Mem->Prop}(hQ:∀aU m ρ a w,K aU m->Inv N ρ0 m0 w0 ⟨aU,m⟩ ρ a w->Q .normal a w)(zK:∀i j,lY ms i j=true->PW (jF md ops) i j)(Wv:∃l,wK (jF md ops) n [] l=true)(ym:∀(i:Nat)o,ops[i]? =some o->∃lo,cR bO i=some lo/\tY P ops o=some lo)(hn:n=ops.size)(j8:n=bO.length):
  ∀(fuel:Nat) (listed:Array Bool) (a:Act) (w:World) (ρ:bH) (m:Mem) (aU:List CV) (bf:List Nat) (R:mE) (val:Nat->CV)
   (dF:List (Nat×LO×List CV×CV)) (e:List CV),listed.size=n->listed.toList.count false=fuel->Inv N ρ0 m0 w0 ⟨aU,m⟩ ρ a w->
   DS P bO ms n (jF md ops) e0 K (fun i=>listed[i]? =some true) bf true R val dF e aU m->wpAny P md ops Q fuel listed a w:=by
 have Jy:∀(listed:Array Bool)i,i∈Region.ready md ops listed->listed[i]? =some false/\i<ops.size/\∀k,Edge (jF md ops) i k->listed[k]? =some true:=by
  intro listed i hi;obtain⟨h0,o,ho,eB⟩:=mem_ready.1 hi;refine⟨?_,(aac.1 ho).1,fun k hk=>?_⟩
  .rw[aaK]at h0;cases hg:listed[i]? with
   |none=>rw[hg]at h0;simp at h0
   |some b=>rw[hg]at h0;simp at h0;rw[h0]
  .obtain⟨l,hl,fy⟩:=hk;simp only[jF,O6,aa3,ho,XS,XQ]at hl;subst hl;obtain⟨ed,SR,rfl⟩:=aae.1 fy;obtain⟨Ww,Wx⟩:=acv.1 SR;have:=eB ed (by simpa using Ww) Wx
   rw[aaK]at this;cases hg:listed[ed.on]? with
   |none=>rw[hg]at this;simp at this
   |some b=>rw[hg]at this;simp at this;rw[this]
 have P4:∀(i:Nat)o ed,ops[i]? =some o->ed∈o.after->Region.binds md ed=true->Edge (jF md ops) i ed.on:=by
  intro i o ed ho SR hb;refine⟨(o.after.toList.filter (Region.binds md)).map (·.on),?_,?_⟩
  .simp[jF,O6,ho]
  .exact aae.2 ⟨ed,acv.2 ⟨by simpa using SR,hb⟩,rfl⟩
 intro fuel
 induction fuel with
 |zero=>
  intro listed a w ρ m aU bf R val dF e dj SS hI h;have eB:∀i,i<n->listed[i]? =some true:=by
   intro i hi;have aF:i<listed.size:=om;rw[aaM aF];have iV:=List.count_eq_zero.1 SS;cases hb:listed[i]with
   |true=>rfl
   |false=>exact absurd (by rw[<-hb];exact Array.getElem_mem_toList aF) iV
  constructor
  .rw[List.eq_nil_iff_forall_not_mem];intro i hi;obtain⟨h1,h2,_⟩:=Jy listed i hi;rw[eB i om]at h1;cases h1
  .have hR:R= .nil:=by
    cases R with
    |nil=>rfl
    |cons q IU R=>
     have oo:=h.go;cases IU with
     |none=>
      simp only[dD,T6]at oo;obtain⟨g1,g2,_⟩:=ip oo.2.1;exact absurd (h.sub q (eB q g1)) g2
     |some l=>
      simp only[dD,T6]at oo;obtain⟨g1,g2,_⟩:=ip oo.2.1;exact absurd (h.sub q (eB q g1)) g2
    |zS x y=>
     have oo:=h.go;simp only[dD,T6]at oo;obtain⟨⟨f,hf⟩,hx⟩:=jK oo.2.1;obtain⟨g1,g2⟩:=hx f hf;exact absurd (h.sub f (eB f g1)) g2
   subst hR;have hbf:∀i,i∈bf->i<n\/n<=i:=fun i _=>XN i n
   have hnw:∀i t,n<=i->cS bO t i=false:=by
    intro i t hi;cases hw:cS bO t i with
    |false=>rfl
    |true=>
     obtain⟨lo,gG,_⟩:=jJ.1 hw;rw[aT]at gG;have:=(Hy.1 gG).1;omega
   have he:e=aU:=by
    have e1:kH bO e0 (fun i=>i∈bf/\i<n) val e:=⟨h.pM.len,fun t k hk=>h.pM.on t k hk.1,fun t SU=>h.pM.off t fun k hk=>by
     rcases hbf k hk with aF|ef
     .exact SU k ⟨hk,aF⟩
     .exact hnw k t ef⟩
    have e2:kH bO e0 (fun i=>i∈bf/\i<n) val aU:=h.wm.SM (fun _ _=>rfl) fun k=>⟨fun hk=>eB k hk.2,fun hk=>⟨h.sub k hk,by have:=(aac.1 hk).1;omega⟩⟩
    exact e1.ext e2
   subst he;exact hQ _ _ ρ a w h.SN hI
 |succ fuel ih=>
  intro listed a w ρ m aU bf R val dF e dj SS hI h;constructor
  .intro PK;exfalso;have hex:∃i:Nat,listed[i]? =some false:=by
    have:false∈listed.toList:=by apply List.count_pos_iff.1;omega
    obtain⟨i,hi⟩:=Xz this;exact⟨i,by simpa using hi⟩
   obtain⟨i,hi⟩:=hex;obtain⟨l,hl⟩:=Wv;have jI:i<n:=by have:=(aac.1 hi).1;omega
   have:=ut (L:=fun i=>listed[i]? =some true) (fun i hi MM=>?_) l [] hl (fun _ h=>by cases h) i jI
   .rw[hi]at this;cases this
   .refine ZM fun SV=>?_
    have aF:i<ops.size:=om;have Ar:i<listed.size:=om;have hf:listed[i]? =some false:=by
     rw[aaM Ar]at MM⊢;cases nf:listed[i]with
     |true=>rw[nf]at MM;exact absurd rfl MM
     |false=>rfl
    have hm:i∈Region.ready md ops listed:=by
     rw[mem_ready];refine⟨by rw[aaK,hf];rfl,ops[i],aaM aF,fun ed SR hb=>?_⟩
     have hE:=P4 i _ ed (aaM aF) SR hb;have hL:listed[ed.on]? =some true:=ZM fun hc=>SV ⟨_,hE,hc⟩
     rw[aaK,hL];rfl
    rw[PK]at hm;cases hm
  .intro i hi;obtain⟨h1,h2,h3⟩:=Jy listed i hi;obtain⟨lo,gG,jj⟩:=ym i _ (aaM h2);have aF:i<listed.size:=om;refine DS.any (L:=fun i=>listed[i]? =some true) (L':=fun k=>(listed.setIfInBounds i true)[k]? =some true) zK om (by rw[h1];simp) h3 (fun k=>?_) (aaM h2) gG jj hI
    (fun bf R io pN e' fc m' ρ' a' w' ol h'=>ih _ a' w' ρ' m' fc bf R io pN e' (by simp[dj]) ?_ ol h') R bf true val dF e (fun h=>by cases h) h
   .by_cases hk:i=k
    .subst hk;rw[abb aF];simp
    .rw[abr hk];constructor
     .exact .inl
     .rintro(h|h)
      .exact h
      .exact absurd h.symm hk
   .have:=xe listed.toList i (by simpa using h1)
    rw[Array.toList_setIfInBounds];omega
theorem C4{md:Region.Mode}{ops:Array Oper}{Q:Exit->Act->World->Prop}{K:List CV->Mem->Prop}(hQ:∀aU m ρ a w,K aU m->Inv N ρ0 m0 w0 ⟨aU,m⟩ ρ a w->Q .normal a w){bO:List LO}(jj:lA P ops ops.toList=some bO){sched:mE}(i5:pu bO (jF md ops) sched=true){st:St}(h:t7 P bO sched [] K st.aU st.mem){ρ:bH}{a:Act}{w:World}(hI:Inv N ρ0 m0 w0 st ρ a w):wpAny P md ops Q ops.size (Array.replicate ops.size false) a w:=by
 obtain⟨hlen,ym⟩:=xb jj;simp only[pu,T6]at i5;have zK:∀i j,lY (bm bO.length (jF md ops)) i j=true->PW (jF md ops) i j:=GY;have iV:∀i:Nat,¬(Array.replicate ops.size false)[i]? =some true:=by
  intro i hi;rw[Array.getElem?_replicate]at hi;split at hi<;>simp at hi
 refine ML (n:=bO.length) (e0:=st.aU) hQ zK ⟨_,i5.1⟩ (fun i o ho=>ym i o (by simpa using ho)) (by simpa using hlen.symm) rfl ops.size _ a w ρ st.mem st.aU [] sched (fun _=>.undef) [] st.aU
  (by simpa using hlen) aK hI ?_
 exact⟨i5.2,h,⟨rfl,fun t k hk=>(aaS hk).elim,fun _ _=>rfl⟩,⟨rfl,fun t k hk=>absurd hk (iV k),fun _ _=>rfl⟩,fun i hi=>absurd hi (iV i),fun i j _ hi=>absurd hi (iV i),fun t j k hj=>(aaS hj).elim,fun j hj=>(aaS hj).elim⟩
theorem As{bO:List LO}{K:Ex->St->Prop}{s:St}:∀{l:List mE},My P bO K s l->∀x,x∈l->t7 P bO x [] (Gy K) s.aU s.mem
 | [],_,x,hx=>by cases hx
 | [y],h,x,hx=>by obtain rfl:=abg.1 hx;exact h
 |y::z::r,h,x,hx=>by
  rcases aad.1 hx with rfl|hx
  .exact h.1
  .exact As h.2 x hx
theorem yn{ops:Array Oper}{Q:Exit->Act->World->Prop}{K:Ex->St->Prop}(hQ:∀aU m ρ a w,K .normal ⟨aU,m⟩->Inv N ρ0 m0 w0 ⟨aU,m⟩ ρ a w->Q .normal a w){bO:List LO}(jj:lA P ops ops.toList=some bO){oI:List mE}(i5:tZ P bO ops=some oI){st:St}(h:My P bO K st oI){ρ:bH}{a:Act}{w:World}(hI:Inv N ρ0 m0 w0 st ρ a w)(t:Nat):wpOps P ops Q (Region.schedule (P.follows .mixedOrders) ops t) a {w with drawn:=w.drawn+1}:=by
 have eB:∀md,md∈tE P ops->∃s,s∈oI/\pu bO (jF md ops) s=true:=by
  simp only[tZ]at i5;split at i5
  .rename_i hc;cases i5;exact fun md RD=>⟨_,aK,aas.1 hc md RD⟩
  .split at i5
   .rename_i hc;cases i5;exact fun md RD=>by have:=aas.1 hc md RD;obtain⟨s,hs,OB⟩:=aaH.1 this;exact⟨s,hs,OB⟩
   .cases i5
 have ke:∀md,md∈tE P ops->wpAny P md ops Q ops.size (Array.replicate ops.size false) a {w with drawn:=w.drawn+1}:=fun md RD=>by obtain⟨s,hs,OB⟩:=eB md RD;exact C4 (K:=Gy K) hQ jj OB (As h s hs) hI.drew
 unfold Region.schedule;unfold tE at ke;split
 .rename_i hc;rw[if_pos hc]at ke;exact wpAny_sound ops.size t _ a _ (ke .any aK)
 .rename_i hc;rw[if_neg hc]at ke;split
  .exact wpAny_sound ops.size (t/2) _ a _ (ke .text aK)
  .exact wpAny_sound ops.size (t/2) _ a _ (ke .gc aK)
end
section
variable {P:Program}
def FR(r:Option Nat):Fence:={Fence.wide with round:=r}
theorem MN:FR none=Fence.wide:=rfl
theorem Fs(l:Nat):FR (some l)=Fence.wide.inRound l:=rfl
theorem MO{o:Oper}{i:I}(h:qN P o=some i):∀c,o.op≠.defer c:=by
 intro c e;unfold qN at h;have h0:tX P o=none:=by unfold tX;rw[e]
 rw[h0,e]at h;cases h
theorem uu{ops:Array Oper}:∀{l:List Oper}{bO:List LO},lA P ops l=some bO->∀o,o∈l->∀c,o.op≠.defer c
 | [],bO,h,o,ho=>by cases ho
 |o1::r,bO,h,o,ho=>by
  obtain⟨lo,lr,rfl,h1,h2⟩:=ra h o1 r rfl;cases ho with
  |head=>
   simp only[tY,Pq,KG]at h1;obtain⟨i,hi,_⟩:=h1;exact MO hi
  |tail _ ho=>exact uu h2 o ho
theorem gN{r:Option Nat}{ops:Array Oper}{Q:Exit->Act->World->Prop}(qJ:∀o,o∈ops.toList->∀c,o.op≠.defer c)(hQ:¬LetsOut Q):
  ∀(l:List Nat)(a:Act)(w:World),wpOps P ops Q l a w->wpOpsIn (FR r) 0 P ops Q l a w
 | [],a,w,h=>h
 |i::rest,a,w,h=>by
  simp only[wpOps]at h;simp only[wpOpsIn];cases ho:ops[i]? with
  |none=>rw[ho]at h;exact gN qJ hQ rest a w h
  |some o=>
   rw[ho]at h;simp only at h⊢;have mT:o∈ops.toList:=by have:=aac.1 ho;obtain⟨h1,h2⟩:=this;rw[<-h2];exact ab2.2 (Array.getElem_mem h1)
   split
   .rename_i hw;rw[if_pos hw]at h;rcases h with h|⟨_,h⟩
    .refine⟨fun _ _=>trivial,?_⟩
     have e:o.semAt (FR r).round a.eval=execOp a.eval o:=Oper.semAt_eq _ _ _ (qJ o mT);rw[e];unfold Oper.wp at h;have up:∀{ki:Result Next},o.upon P a (wpOps P ops Q rest) Q ki->o.uponIn (FR r) 0 P a (wpOpsIn (FR r) 0 P ops Q rest) Q ki:=by
      intro ki h;unfold Oper.upon at h;split at h
      .exact gN qJ hQ rest _ _ h
      .exact gN qJ hQ rest _ _ h
      .exact gN qJ hQ rest _ _ h
      .refine⟨by simp[FR,Fence.wide],?_⟩
       have h2:=(callsIn_wide (n:=0-1)).2 h;have h3:CallsIn (FR r) (0-1) P _ _ _ _:=h2;refine h3.mono fun e w' hR=>?_
       cases e with
       |returned v=>exact gN qJ hQ rest _ _ hR
       |panicked c=>exact hR
       |outgrown=>exact hR
      .refine⟨by simp[FR,Fence.wide],?_⟩
       intro c cs _;obtain⟨v,w',hR,hs⟩:=h c cs;exact⟨v,w',gN qJ hQ rest _ _ hR,(stepsIn_wide.2 hs:StepsIn (Machine.fenced P Fence.wide) P _ _)⟩
      .exact h
      .exact h.elim
     exact up h
    .exact absurd h hQ
   .rename_i hw;rw[if_neg hw]at h;exact⟨fun _ _=>trivial,gN qJ hQ rest _ _ h⟩
theorem tj{F:Fence}{n:Nat}{γ:Type}{c:Code}{Q:Exit->Act->World->Prop}{a:Act}{w:World}(I:γ->Act->World->Prop)(μ:γ->Nat)(g0:γ)(h₀:I g0 a w)(round:∀g a w,I g a w->c.wpIn F n P (Exit.then (fun a' w'=>∃g',I g' a' w'/\μ g'<μ g) Q) a w):(Code.loop c).wpIn F n P Q a w:=by
 intro b k cs Wy hb hr;have key:∀j g a w,μ g=j->I g a w->
   ∃e a' w',Q e a' w'/\ArrivesIn (Machine.fenced P F) P (lone (b.atR a (.code c:: .inLoop c::k)) cs w) b k cs e a' w':=by
  intro j
  induction j using Nat.strongRecOn with
  |_ j ih=>
   intro g a w hn hI;obtain⟨e,a₁,w₁,hq,Au⟩:=round g a w hI b (.inLoop c::k) cs Wy hb hr;cases e with
   |normal=>
    obtain⟨g₁,SX,aF⟩:=hq;obtain⟨e₂,a₂,w₂,SY,MP⟩:=ih (μ g₁) (hn▸aF) g₁ a₁ w₁ rfl SX;exact⟨e₂,a₂,w₂,SY,.of_steps (StepsIn.trans Au (.one (fenced_calm hb hr rfl) stepR_inLoop)) MP⟩
   |exit id=>exact⟨_,a₁,w₁,hq,.pass (x:= .inLoop c) rfl (fun _ _=>.inl aK) Au⟩
   |goto l=>exact⟨_,a₁,w₁,hq,.pass (x:= .inLoop c) rfl (fun _ _=>.inl aK) Au⟩
   |ret=>exact⟨_,a₁,w₁,hq,.pass (x:= .inLoop c) rfl (fun _ _=>.inl aK) Au⟩
   |panic ch=>exact⟨_,a₁,w₁,hq,.pass (x:= .inLoop c) rfl (fun _ _=>.inl aK) Au⟩
   |outgrown=>exact⟨_,a₁,w₁,hq,.pass (x:= .inLoop c) rfl (fun _ _=>.inl aK) Au⟩
 obtain⟨e,a',w',hq,Au⟩:=key _ g0 a w rfl h₀;exact⟨e,a',w',hq,.of_steps (.one (fenced_calm hb hr rfl) stepR_loop) Au⟩
structure tk(ρ:bH)(m:Mem)(w w':World):Prop where
 size:w.heap.size<=w'.heap.size
 S:∀b,ρ.S b->w'.heap[b]? =w.heap[b]?
 a8:∀k,Live ρ m k->w'.heap[(ρ.aO k).b]? =w.heap[(ρ.aO k).b]?
theorem tk.cF{ρ:bH}{m:Mem}{w w':World}(h:tk ρ m w w'):ij ρ w ρ w':=⟨QN _,fun _ _=>rfl,fun _ h=>h,h.S⟩
theorem aC.tm{ρ:bH}{m:Mem}{w w':World}(hM:aC ρ m w)(h:tk ρ m w w'):aC ρ m w':=by
 have g:=h.cF;refine⟨hM.n,fun b hb=>aaf (hM.S b hb) h.size,fun k hk=>⟨aaf (hM.a8 k hk).1 h.size,(hM.a8 k hk).2⟩,hM.inj,fun id b hb=>?_,fun id i j esz el ho bl=>?_⟩
 .have h1:=hM.bk id b hb;cases b with
  |aZ=>trivial
  |var cs=>
   obtain⟨cur,bU,h2⟩:=h1;exact⟨cur,bU.dz (h.a8 (.ap id) ⟨_,hb,aK,aK⟩),fun j c hj=>let⟨u,hu,hd⟩:=h2 j c hj;⟨u,hu,br.cF g aK hd⟩⟩
  |row esz elems=>
   obtain⟨h2,h3,h4,h5,h6⟩:=h1;refine⟨h2,h3,h4,h5,fun hp=>?_⟩
   obtain⟨cur,bU,h7,h8⟩:=h6 hp;exact⟨cur,bU.dz (h.a8 (.ap id) ⟨_,hb,aK,fun _=>hp⟩),h7,fun i cs j c hi hj=>let⟨u,hu,hd⟩:=h8 i cs j c hi hj;⟨u,hu,br.cF g (by intro i3 i' j' e';cases e';rw[hM.n];exact(Hy.1 hb).1) hd⟩⟩
  |mp es=>
   obtain⟨cJ,ck,h2,h3,h4⟩:=h1;exact⟨cJ,ck,⟨(h.a8 (.ap id) ⟨_,hb,aK,aK⟩).trans h2.1,h2.2⟩,h3,fun i e he=>let⟨e',sh,hk,hd⟩:=h4 i e he;⟨e',sh,hk,dy.cF g hd⟩⟩
  |it cur left=>
   obtain⟨mb,seen,ck,cJ,h2,h3,h4,h5,h6⟩:=h1;exact⟨mb,seen,ck,cJ,(h.a8 (.ap id) ⟨_,hb,aK,aK⟩).trans h2,h3,h4,(h.S mb h4).trans h5,h6⟩
 .obtain⟨cur,bU,h2,h3,h4⟩:=hM.gp id i j esz el ho bl;exact⟨cur,bU.dz (h.a8 (.sub id i j) ⟨⟨_,_,ho⟩,bl⟩),h2,h3,fun i cs j d hi hj=>let⟨u,hu,hd⟩:=h4 i cs j d hi hj;⟨u,hu,cZ.mono g.S g.heap hd⟩⟩
theorem be.cF{ρ ρ':bH}{w w':World}{aU:List CV}{tmps:Array Value}(g:ij ρ w ρ' w')(hE:be ρ w aU tmps):be ρ' w' aU tmps:=
 ⟨hE.size,fun i c hi=>let⟨v,hv,hd⟩:=hE.j7 i c hi;⟨v,hv,bW.cF g hd⟩⟩
theorem C0.tm{N:Nat}{ρ:bH}{m:Mem}{w w':World}{ds:List Deferred}(h:tk ρ m w w')(hd:C0 N ρ w ds):C0 N ρ w' ds:=by obtain⟨Ds,h1,h2,h3⟩:=hd;exact⟨Ds,h1,h2,fun D hD=>⟨(h3 D hD).1,(h3 D hD).2.1,(h.S D (h3 D hD).2.1).trans (h3 D hD).2.2⟩⟩
variable {N:Nat} {ρ0:bH} {m0:Mem} {w0:World}
theorem Inv.tm{st:St}{ρ:bH}{a:Act}{w w':World}(hI:Inv N ρ0 m0 w0 st ρ a w)(h:tk ρ st.mem w w')(hb:∀b,b<w0.heap.size->w'.heap[b]? =w.heap[b]?)(ho:w'.os=w.os)(ht:w'.tape=w.tape)(hu:w'.output=w.output):Inv N ρ0 m0 w0 st ρ a w':=
 ⟨⟨hI.ext.n,hI.ext.aO,hI.ext.S,hI.ext.S',hI.ext.a8,fun b qY hk=>(hb b qY).trans (hI.ext.frame b qY hk),aaC hI.ext.size h.size,ho.trans hI.ext.os,ht.trans hI.ext.tape,hu.trans hI.ext.output⟩,
  hI.mem.tm h,hI.aU.cF h.cF,hI.defers.tm h,hI.hN,hI.n0⟩
def oS(ρ:bH)(m:Mem)(b:Nat):Prop:= ¬ρ.S b/\∀k,Live ρ m k->(ρ.aO k).b≠b
theorem oS.ext{ρ ρ':bH}{m m':Mem}{w w':World}{b:Nat}(h:oS ρ m b)(x:Ext ρ m w ρ' m' w')(hb:b<w.heap.size):oS ρ' m' b:=by
 refine⟨fun hs=>?_,fun k hk e=>?_⟩
 .rcases x.S' b hs with h1|h1|⟨k,hk,e⟩
  .exact h.1 h1
  .omega
  .exact h.2 k hk e
 .rcases x.a8 k hk with h1|⟨k0,h0,e0⟩
  .omega
  .exact h.2 k0 h0 (e0.trans e)
theorem oS.chg{n0:Nat}{ρ ρ':bH}{m m':Mem}{b:Nat}(h:oS ρ m b)(x:PB n0 ρ m ρ' m'):oS ρ' m' b:=by
 refine⟨fun hs=>?_,fun k hk e=>?_⟩
 .rcases x.S' b hs with h1|⟨k,hk,e⟩
  .exact h.1 h1
  .exact h.2 k hk e
 .obtain⟨k0,h0,e0⟩:=x.a8 k hk;exact h.2 k0 h0 (e0.trans e)
theorem tk.put{ρ:bH}{m:Mem}{w:World}{l:Nat}(h:oS ρ m l)(o:Obj):tk ρ m w (w.putObj l o):=
 ⟨aK,fun b hb=>World.putObj_heap_other (by rintro rfl;exact h.1 hb),fun k hk=>World.putObj_heap_other (h.2 k hk)⟩
theorem Inv.put{st:St}{ρ:bH}{a:Act}{w:World}{l:Nat}(hI:Inv N ρ0 m0 w0 st ρ a w)(h:oS ρ st.mem l)(hl:w0.heap.size<=l)(o:Obj):Inv N ρ0 m0 w0 st ρ a (w.putObj l o):=
 hI.tm (tk.put h o) (fun b hb=>World.putObj_heap_other om) rfl rfl rfl
theorem Inv.view{st im:St}{ρ:bH}{a:Act}{w:World}(hI:Inv N ρ0 m0 w0 st ρ a w)(kG:ρ0.n=m0.length)(hw:View m0.length st im):
  ∃ρ',Inv N ρ0 m0 w0 im ρ' a w/\∀b,oS ρ st.mem b->oS ρ' im.mem b:=by
 obtain⟨ρ',hM,hc,hd⟩:=hw.go ρ w hI.mem;refine⟨ρ',⟨⟨by rw[kG,hM.n];exact hw.hn,fun id hid=>(hc.aO id (by rw[<-kG];exact hid)).trans (hI.ext.aO id hid),fun b hb=>hc.S b (hI.ext.S b hb),fun b hb=>?_,fun k hk=>?_,hI.ext.frame,hI.ext.size,hI.ext.os,hI.ext.tape,hI.ext.output⟩,hM,?_,hI.defers.s hc.S,hI.hN,hw.hn⟩,fun b h=>h.chg hc⟩
 .rcases hc.S' b hb with h|⟨k,hk,rfl⟩
  .exact hI.ext.S' b h
  .exact .inr (hI.ext.a8 k hk)
 .obtain⟨k0,h0,e0⟩:=hc.a8 k hk;rw[<-e0];exact hI.ext.a8 k0 h0
 .refine⟨hI.aU.size.trans hw.len.symm,fun i c hi=>?_⟩
  obtain⟨c0,tC,Jp⟩:=hd i c hi;obtain⟨v,hv,vW⟩:=hI.aU.j7 i c0 tC;exact⟨v,hv,Jp v vW⟩
theorem rd:∀(m:Mem)(iZ:List Nat),(ov m iZ).length=m.length
 |m,[]=>rfl
 |m,id::r=>by rw[ov,rd,bg,aab]
theorem lG:∀(m:Mem)(iZ:List Nat)(i:Nat)(bk:Bk),(ov m iZ)[i]? =some bk->bk= .aZ\/(m[i]? =some bk/\i∉iZ)
 |m,[],i,bk,h=>.inr ⟨h,aK⟩
 |m,id::r,i,bk,h=>by
  rcases lG _ r i bk h with h|⟨h,hn⟩
  .exact .inl h
  .rw[bg]at h;by_cases hi:id=i
   .subst hi;have aF:id<m.length:=by have:=(Hy.1 h).1;simpa using this
    rw[QO aF]at h;exact .inl (by cases h;rfl)
   .rw[XK hi]at h;exact .inr ⟨h,by simp;exact⟨fun e=>hi e.symm,hn⟩⟩
theorem sL:∀{m:Mem}{iZ:List Nat}{cs:List Value},x7 m iZ cs->iZ.length=cs.length/\∀(i:Nat)id v,iZ[i]? =some id->cs[i]? =some v->m[id]? =some (.var [.aa (.val v)])/\cI v=true
 |m,[],[],_=>⟨rfl,aK⟩
 |m,id::r,v::vs,h=>by
  obtain⟨h1,h2⟩:=h;obtain⟨e,g⟩:=sL h2;refine⟨by simp[e],fun i i3 v' hi hv=>?_⟩
  cases i with
  |zero=>simp at hi hv;subst hi hv;rw[<-aT];exact h1
  |succ i=>exact g i i3 v' (by simpa using hi) (by simpa using hv)
end
end Go.AM
