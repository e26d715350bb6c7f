/- Part 10 of 43: what the law stands on. -/
import Derived.Test.YtojhmadmlnfpcaaGreatDoorK09
import Derived.Orders
set_option linter.unusedVariables false
set_option linter.unusedSimpArgs false
set_option linter.unnecessarySimpa false
set_option maxRecDepth 100000
set_option maxHeartbeats 64000000
namespace Go.AM
section
variable {P:Program}
def LO.jB(lo:LO)(e:List CV):Option Bool:=
 match lo.guard with
 |none=>some true
 |some (s,jB)=>match jR e s with
  | .undef=>some false
  | .rv (.one (.aa (.val (.bool t))))=>some (t==jB)
  |_=>none
theorem gh{lo:LO}{e:List CV}{m:Mem}{K:List CV->CV->Mem->Prop}:
  nr P lo e m K↔(lo.jB e=some true/\step P lo.Bf e m (K e))\/(lo.jB e=some false/\K e .undef m):=by
 unfold nr LO.jB;cases hg:lo.guard with
 |none=>simp[eU]
 |some p=>
  obtain⟨s,jB⟩:=p;simp only;generalize ei:jR e s=c;split
  .simp
  .rename_i t;have h1:∀b,t=b->ba e s (ay b)=e:=fun b hb=>by subst hb;exact zL ei
   rw[ct];cases t
   .simp only[eU,h1 false rfl];cases jB<;>simp
   .simp only[eU,h1 true rfl];cases jB<;>simp
  .rename_i n1 n2;have:∀b,¬(match c with
     |CV.undef=>some false
     |CV.rv (RV.one (CC.aa (Dt.val (Value.bool t))))=>some (t==jB)
     |x=>none)=some b:=by
    intro b hb;split at hb
    .exact n1 rfl
    .exact n2 _ rfl
    .cases hb
   constructor
   .exact fun h=>h.elim
   .rintro(⟨h,_⟩|⟨h,_⟩)<;>exact this _ h
def xT(d:Option Nat)(v:CV)(e:List CV):List CV:=
 match d with
 |none=>e
 |some d=>e.set d v
theorem qV{d:Option Nat}{v:CV}{e:List CV}{K:List CV->Prop}:put d v e K↔K (xT d v e):=by
 rw[K4];cases d<;>rfl
variable {N:Nat} {ρ0:bL} {m0:Mem} {w0:World}
theorem Inv.drew{st:St}{ρ:bL}{a:Act}{w:World}(h:Inv N ρ0 m0 w0 st ρ a w):Inv N ρ0 m0 w0 st ρ a {w with drawn:=w.drawn+1}:=by
 obtain⟨x,M,E,d,hN,n⟩:=h;have g:iT ρ w ρ {w with drawn:=w.drawn+1}:=⟨aaj _,fun _ _=>rfl,fun _ h=>h,fun _ _=>rfl⟩
 have e:Ext ρ st.mem w ρ st.mem {w with drawn:=w.drawn+1}:=⟨aaj _,fun _ _=>rfl,fun _ h=>h,fun _ h=>.inl h,fun k h=>.inr ⟨k,h,rfl⟩,fun _ _ _=>rfl,aaj _,rfl,rfl,rfl⟩
 have hc:∀{mk:Prop}b cur,mf mk w b cur->mf mk {w with drawn:=w.drawn+1} b cur:=fun{mk}b cur hc=>hc.dK rfl
 refine⟨x.trans e,?_,?_,d,hN,n⟩
 .refine⟨M.n,M.S,M.aV,M.inj,fun id b hb=>?_,fun id i j esz el ho bp=>?_⟩
  .have h1:=M.bk id b hb;cases b with
   |bh=>trivial
   |var cs=>
    obtain⟨cur,b9,h2⟩:=h1;exact⟨cur,hc _ _ b9,fun j c hj=>let⟨u,hu,hd⟩:=h2 j c hj;⟨u,hu,bz.cM g aG hd⟩⟩
   |row esz elems=>
    obtain⟨h2,h3,h4,h5,h6⟩:=h1;refine⟨h2,h3,h4,h5,fun hp=>?_⟩
    obtain⟨cur,b9,h7,h8⟩:=h6 hp;exact⟨cur,hc _ _ b9,h7,fun i cs j c hi hj=>let⟨u,hu,hd⟩:=h8 i cs j c hi hj;⟨u,hu,bz.cM g (by intro jL i' j' e';cases e';rw[M.n];exact(aac.1 hb).1) hd⟩⟩
   |mp es=>
    obtain⟨cV,ck,h2,h3,h4⟩:=h1;exact⟨cV,ck,h2,h3,fun i e he=>let⟨e',tE,hk,hd⟩:=h4 i e he;⟨e',tE,hk,dW.cM g hd⟩⟩
   |it cur left=>exact h1
  .obtain⟨cur,b9,h2,h3,h4⟩:=M.gX id i j esz el ho bp;exact⟨cur,hc _ _ b9,h2,h3,fun i cs j d hi hj=>let⟨u,hu,hd⟩:=h4 i cs j d hi hj;⟨u,hu,dz.mono (S:=ρ.S) (S':=ρ.S) (w:=w) (w':={w with drawn:=w.drawn+1}) (fun _ h=>h) (fun _ _=>rfl) hd⟩⟩
 .exact⟨E.size,fun i c hi=>let⟨v,hv,hd⟩:=E.lg i c hi;⟨v,hv,b8.cM g hd⟩⟩
theorem yG{ops:Array Oper}{k:Nat}{o:Oper}{lo:LO}{aY:List CV}{m:Mem}{ρ:bL}{a:Act}{w:World}{K:CV->Mem->Prop}{K1:Act->World->Prop}{Q:Exit->Act->World->Prop}(ho:ops[k]? =some o)(gR:u9 P ops o=some lo)(hI:Inv N ρ0 m0 w0 ⟨aY,m⟩ ρ a w)(h:nr P lo aY m fun _ v m'=>K v m')(hn:∀v m' ρ' a' w',K v m'->Inv N ρ0 m0 w0 ⟨xT lo.dst v aY,m'⟩ ρ' a' w'->K1 a' w'):wpOp P ops Q k K1 a w:=by
 simp only[u9,aah,aae]at gR;obtain⟨i,hi,g,hg,gR⟩:=gR;cases gR;unfold wpOp;rw[ho];simp only;have Qw:∀b,LO.jB ⟨o.dst,i,g⟩ aY=some b->Region.wanted o (yielded ops a.tmps)=b:=by
  intro b hb;unfold LO.jB at hb;cases Is:o.guard with
  |none=>
   rw[Is]at hg;simp[KD]at hg;subst hg;simp at hb;subst hb;simp[Region.wanted,Is]
  |some jb=>
   obtain⟨j,jB⟩:=jb;rw[Is]at hg;simp only[KD,aah,aae]at hg;obtain⟨oj,XY,s,hs,hg⟩:=hg;cases hg;have hy:yielded ops a.tmps j=match a.tmps[s]? with|some (.bool b)=>some b|_=>none:=by simp[yielded,XY,hs];rfl
   simp only at hb;split at hb
   .rename_i ei;have cj:=hI.aY.get s;rw[ei]at cj;have hu:a.tmps[s]? =some Go.undef\/a.tmps[s]? =none:=by
     simp only[b8,abb]at cj;cases ht:a.tmps[s]? with
     |none=>exact .inr rfl
     |some v=>rw[ht]at cj;simp at cj;exact .inl (by rw[cj])
    cases hb;simp only[Region.wanted,Is,hy];rcases hu with hu|hu<;>rw[hu]<;>rfl
   .rename_i t ei;have cj:=hI.aY.get s;rw[ei]at cj;have ht:a.tmps[s]? =some (.bool t):=by
     have:=(bM cj).1;rw[abb]at this;cases ht:a.tmps[s]? with
     |none=>rw[ht]at this;cases this
     |some v=>rw[ht]at this;simp at this;rw[this]
    simp at hb;simp[Region.wanted,Is,hy,ht,hb]
   .cases hb
 rcases gh.1 h with⟨hw,hs⟩|⟨hw,hs⟩
 .rw[if_pos (Qw _ hw)];refine .inl (BS (K:=fun e' m'=>∃v,e'=xT o.dst v aY/\K v m') hi hI (yF hs fun v m' hk=>qV.2 ⟨v,rfl,hk⟩) fun fu m' ρ' a' w'⟨v,he,hk⟩oZ=>?_)
  subst he;exact hn v m' ρ' a' w' hk oZ
 .rw[if_neg (by simp[Qw _ hw])]
  obtain⟨fu,Kf,oZ⟩:=hI.step (d:=o.dst) (c:= .undef) (v:=Go.undef) (K:=fun e=>e=xT o.dst .undef aY) hI.mem rfl (Ext.refl _ _ _) (qV.2 rfl)
  subst Kf;exact hn _ _ _ _ _ hs oZ
theorem tT{lo:LO}{e e':List CV}{m:Mem}{K:CV->Mem->Prop}(hx:∀t,t∈lo.looks->jR e t=jR e' t)(h:nr P lo e m fun _ v m'=>K v m'):
  nr P lo e' m fun _ v m'=>K v m':=by
 rw[gh]at h⊢;have hs:∀t,t∈lq lo.Bf.xs->jR e t=jR e' t:=fun t ht=>hx t (by unfold LO.looks;split<;>simp[ht])
 have hw:lo.jB e=lo.jB e':=by
  unfold LO.jB;cases hg:lo.guard with
  |none=>rfl
  |some p=>simp only[hx p.1 (by unfold LO.looks;rw[hg];simp)]
 have DE:∀(xs:List X)(x:X),x∈xs->∀n,x= .t n->n∈lq xs:=by
  intro xs
  induction xs with
  |nil=>intro x hx;cases hx
  |cons y r ih=>
   intro x hx n hn;subst hn;cases y with
   |t k=>
    simp only[lq,aaJ];rcases aaJ.1 hx with h|h
    .cases h;exact .inl rfl
    .exact .inr (ih _ h n rfl)
   |c v=>
    simp only[lq];rcases aaJ.1 hx with h|h
    .cases h
    .exact ih _ h n rfl
 have Qo:∀x,x∈lo.Bf.xs->x.ev e=x.ev e':=fun x hx=>by
  cases x with
  |t n=>exact hs n (DE _ _ hx n rfl)
  |c v=>rfl
 rw[<-hw];rcases h with⟨h1,h2⟩|h
 .exact .inl ⟨h1,Et Qo h2⟩
 .exact .inr h
def QV(P:Program)(lo:LO)(e:List CV)(m:Mem)(v:CV):Prop:=nr P lo e m fun _ v' m'=>v'=v/\m'=m
theorem tU{lo:LO}(hq:rW lo.Bf=true){e:List CV}{m:Mem}{K:List CV->CV->Mem->Prop}(h:nr P lo e m K):∃v,K e v m/\QV P lo e m v:=by
 rcases gh.1 h with⟨h1,h2⟩|⟨h1,h2⟩
 .obtain⟨v,hv,fl⟩:=Es hq h2;exact⟨v,hv,gh.2 (.inl ⟨h1,fl _ ⟨rfl,rfl⟩⟩)⟩
 .exact⟨_,h2,gh.2 (.inr ⟨h1,rfl,rfl⟩)⟩
theorem QV.pure{lo:LO}(hq:yl lo.Bf=true){e:List CV}{m:Mem}{v:CV}(h:QV P lo e m v)(m':Mem):QV P lo e m' v:=by
 rcases gh.1 h with⟨h1,h2⟩|⟨h1,h2⟩
 .obtain⟨v',hv,fl⟩:=Iu hq h2;exact gh.2 (.inl ⟨h1,fl m' _ ⟨hv.1,rfl⟩⟩)
 .exact gh.2 (.inr ⟨h1,h2.1,rfl⟩)
end
section
variable {P:Program}
def Edge(gC:List (List Nat))(i j:Nat):Prop:=∃l,gC[i]? =some l/\j∈l
def RI(gC:List (List Nat))(L:Nat->Prop):Prop:=∀i j,Edge gC i j->L i->L j
def RJ(gC:List (List Nat))(i j:Nat):Prop:=∀L,RI gC L->(∀k,Edge gC i k->L k)->L j
theorem qW{dd:List Nat}{t:Nat}:∀{l:List Nat},Nat.testBit (zt dd l) t=true->
  ∃j,j∈l/\(t=j\/Nat.testBit ((df dd j).getD 0) t=true)
 | [],h=>by simp[zt]at h
 |j::r,h=>by
  simp only[zt,List.foldr_cons]at h;have h1:∀a b:Nat,Nat.testBit (Nat.lor a b) t=(Nat.testBit a t||Nat.testBit b t):=fun a b=>Nat.testBit_or a b t
  rw[h1,h1]at h;simp only[abk]at h;rcases h with h|h|h
  .obtain⟨k,hk,hr⟩:=qW (l:=r) h;exact⟨k,by simp[hk],hr⟩
  .refine⟨j,aG,.inl ?_⟩;have:Nat.shiftLeft 1 j=2^j:=by show 1<<<j=2^j;rw[Nat.shiftLeft_eq];simp
   rw[this,Nat.testBit_two_pow]at h;simpa using(of_decide_eq_true h).symm
  .exact⟨j,aG,.inr h⟩
def K7(gC:List (List Nat))(dd:List Nat):Prop:=∀(i j:Nat),Nat.testBit ((df dd i).getD 0) j=true->RJ gC i j
theorem BT{gC:List (List Nat)}{dd:List Nat}(h:K7 gC dd):K7 gC (DW gC dd):=by
 intro i j hb;rw[aX,DW,aaf]at hb;cases hl:gC[i]? with
 |none=>rw[hl]at hb;simp at hb
 |some l=>
  rw[hl]at hb;simp only[aaC,aa5]at hb;obtain⟨k,hk,hr⟩:=qW hb;have he:Edge gC i k:=⟨l,hl,hk⟩;rcases hr with rfl|hr
  .exact fun L _ hL=>hL _ he
  .exact fun L hd hL=>h k j hr L hd fun k' ij=>hd _ _ ij (hL _ he)
theorem tV{gC:List (List Nat)}:∀(k:Nat){dd:List Nat},K7 gC dd->K7 gC (zu gC k dd)
 |0,_,h=>h
 |k+1,dd,h=>by
  simp only[zu];split
  .exact h
  .exact tV k (BT h)
theorem Iv{n:Nat}{gC:List (List Nat)}:K7 gC (aN n gC):=tV n fun i j hb=>by simp[df]at hb
theorem vC{gC:List (List Nat)}{n:Nat}{L:Nat->Prop}(jC:∀i,i<n->¬L i->∃j,Edge gC i j/\¬L j):
  ∀(l bf:List Nat),ym gC n bf l=true->(∀i,i∈bf->L i)->∀i,i<n->L i
 | [],bf,h,hb,i,hi=>by
  simp only[ym,aaW]at h;exact hb i (by simpa using h i (by simpa using hi))
 |x::r,bf,h,hb,i,hi=>by
  simp only[ym,aap,aaW]at h;refine vC jC r (x::bf) h.2 (fun k hk=>?_) i hi
  rcases aaJ.1 hk with e|hk
  .rw[e];by_cases h1:L x
   .exact h1
   .obtain⟨j,⟨l,hl,hj⟩,hnj⟩:=jC x (by have:=h.1.1;rwa [abe]at this) h1
    refine absurd (hb j ?_) hnj;have:=h.1.2 j (by rw[aX,hl];exact hj)
    simpa using this
  .exact hb k hk
variable {bW:List LO} {ms:List Nat} {n:Nat} {e0:List CV} {gC:List (List Nat)}
structure lI(bW:List LO)(e0:List CV)(S:Nat->Prop)(val:Nat->CV)(e:List CV):Prop where
 len:e.length=e0.length
 on:∀t k,S k->dj bW t k=true->t<e0.length->e[t]? =some (val k)
 off:∀t,(∀k,S k->dj bW t k=false)->e[t]? =e0[t]?
theorem kK{t k:Nat}:dj bW t k=true↔∃lo,df bW k=some lo/\lo.dst=some t:=by
 unfold dj;cases df bW k with
 |none=>simp
 |some lo=>
  cases hd:lo.dst with
  |none=>simp[hd]
  |some d=>simp[hd]
theorem lI.step{S:Nat->Prop}{val:Nat->CV}{e:List CV}(h:lI bW e0 S val e){i:Nat}{lo:LO}(hi:df bW i=some lo)(hu:∀t k,S k->lo.dst=some t->dj bW t k=false){v:CV}{iZ:Nat->CV}(hv:iZ i=v)(fJ:∀k,S k->iZ k=val k){S':Nat->Prop}(hS:∀k,S' k↔S k\/k=i):lI bW e0 S' iZ (xT lo.dst v e):=by
 have hw:∀t,dj bW t i=true↔lo.dst=some t:=fun t=>by rw[kK];simp[hi]
 refine⟨?_,fun t k hk Bj aC=>?_,fun t fl=>?_⟩
 .unfold xT;split<;>simp[h.len]
 .rcases(hS k).1 hk with hk|rfl
  .have eW:lo.dst≠some t:=fun hd=>by rw[hu t k hk hd]at Bj;cases Bj
   rw[fJ k hk,<-h.on t k hk Bj aC];unfold xT;cases hd:lo.dst with
   |none=>rfl
   |some d=>
    simp only;rw[aas];rintro rfl;exact eW hd
  .have hd:=(hw t).1 Bj;rw[hd,hv];simp only[xT];rw[aal (by rw[h.len];exact aC)]
 .have eW:lo.dst≠some t:=fun hd=>by have:=fl i ((hS i).2 (.inr rfl));rw[(hw t).2 hd]at this;cases this
  rw[<-h.off t fun k hk=>fl k ((hS k).2 (.inl hk))]
  unfold xT;cases hd:lo.dst with
  |none=>rfl
  |some d=>
   simp only;rw[aas];rintro rfl;exact eW hd
theorem lI.Us{S S':Nat->Prop}{val iZ:Nat->CV}{e:List CV}(h:lI bW e0 S val e)(fJ:∀k,S k->iZ k=val k)(hS:∀k,S' k↔S k):lI bW e0 S' iZ e:=
 ⟨h.len,fun t k hk hw hl=>by rw[fJ k ((hS k).1 hk)];exact h.on t k ((hS k).1 hk) hw hl,fun t fl=>h.off t fun k hk=>fl k ((hS k).2 hk)⟩
theorem lI.ext{S:Nat->Prop}{val:Nat->CV}{e e':List CV}(h:lI bW e0 S val e)(h':lI bW e0 S val e'):e=e':=by
 refine aa7 fun t=>?_
 by_cases hex:∃k,S k/\dj bW t k=true
 .obtain⟨k,hk,hw⟩:=hex;rcases aaq t e0.length with aC|ei
  .rw[h.on t k hk hw aC,h'.on t k hk hw aC]
  .rw[aaG (by rw[h.len];exact ei),aaG (by rw[h'.len];exact ei)]
 .have:∀k,S k->dj bW t k=false:=fun k hk=>by
   cases hw:dj bW t k with
   |false=>rfl
   |true=>exact absurd ⟨k,hk,hw⟩ hex
  rw[h.off t this,h'.off t this]
def Agree(bW:List LO)(ms:List Nat)(e0:List CV)(bf:List Nat)(val:Nat->CV)(j:Nat)(e1:List CV):Prop:=
 e1.length=e0.length/\∀t,t∈nS bW j->t<e0.length->
  (∃k,k∈bf/\dj bW t k=true/\mR ms j k=true/\e1[t]? =some (val k))\/
  ((∀k,k∈bf->dj bW t k=true->k=j\/mR ms k j=true)/\e1[t]? =e0[t]?)
theorem Agree.WJ{bf:List Nat}{val:Nat->CV}{j:Nat}{e1 aY:List CV}{L:Nat->Prop}(h:Agree bW ms e0 bf val j e1)(hE:lI bW e0 L val aY)(Bl:∀i j,mR ms i j=true->RJ gC i j)(hd:RI gC L)(sa:∀i,L i->i∈bf)(hj:¬L j)(hr:∀k,Edge gC j k->L k):
  ∀t,t∈nS bW j->jR e1 t=jR aY t:=by
 intro t ht;rw[lw,lw];rcases aaq t e0.length with aC|ei
 .rcases h.2 t ht aC with⟨k,hk,hw,hm,he⟩|⟨fl,he⟩
  .rw[he,hE.on t k (Bl _ _ hm L hd hr) hw aC]
  .rw[he,hE.off t fun k hk=>?_]
   cases hw:dj bW t k with
   |false=>rfl
   |true=>
    rcases fl k (sa k hk) hw with rfl|hm
    .exact absurd hk hj
    .exact absurd (Bl _ _ hm L hd fun k' ij=>hd _ _ ij hk) hj
 .rw[aaG (by rw[h.1];exact ei),aaG (by rw[hE.len];exact ei)]
structure DS(P:Program)(bW:List LO)(ms:List Nat)(n:Nat)(gC:List (List Nat))(e0:List CV)(K:List CV->Mem->Prop)(L:Nat->Prop)(bf:List Nat)(c:Bool)(R:nq)(val:Nat->CV)(d9:List (Nat×LO×List CV×CV))(e aY:List CV)(m:Mem):Prop where
 go:dY bW ms n c bf R=true
 Ut:uj P bW R d9 K e m
 qX:lI bW e0 (·∈bf) val e
 xU:lI bW e0 L val aY
 sub:∀i,L i->i∈bf
 down:RI gC L
 zM:∀t j k,j∈bf->k∈bf->dj bW t j=true->dj bW t k=true->j=k
 sn:∀j,j∈bf->¬L j->∃lo e1,df bW j=some lo/\rW lo.Bf=true/\vd j d9=some (lo,e1,val j)/\QV P lo e1 m (val j)/\Agree bW ms e0 bf val j e1
theorem i3{bf:List Nat}{i:Nat}(h:GG bW ms n bf i=true):i<n/\i∉bf/\
  (∀t,t∈nS bW i->∀j,j∈bf->dj bW t j=true->mR ms i j=true)/\
  (∀t,H0 bW i=some t->∀j,j∈bf->dj bW t j=false/\(t∈nS bW j->mR ms i j=true)):=by
 simp only[GG,aap]at h;obtain⟨⟨⟨h1,h2⟩,h4⟩,h5⟩:=h;refine⟨by rwa [abe]at h1,by simpa using h2,?_,?_⟩
 .intro t ht j hj hw;have:=aaW.1 (aaW.1 h4 t ht) j hj;simpa[hw]using this
 .intro t ht j hj;rw[ht]at h5;have:=aaW.1 h5 j hj;simp only[aap,abg,abk]at this;refine⟨this.1,fun hl=>?_⟩
  rcases this.2 with h|h
  .simp[hl]at h
  .exact h
theorem yH{bf hd:List Nat}(h:Rn ms n bf hd=true){i:Nat}(hi:i<n)(hb:i∉bf):i∈hd\/∃f,f∈hd/\mR ms i f=true:=by
 have:=aaW.1 h i (by simpa using hi)
 simp only[abk,aaM]at this;rcases this with h|h|⟨f,h1,h2⟩
 .exact absurd (by simpa using h) hb
 .exact .inl (by simpa using h)
 .exact .inr ⟨f,h1,h2⟩
theorem kL:∀{R:nq}{bf:List Nat},dY bW ms n false bf R=true->(∃f,f∈R.hd)/\∀f,f∈R.hd->f<n/\f∉bf
 | .nil,bf,h=>by simp[dY]at h
 | .cons i none r,bf,h=>by simp[dY]at h
 | .cons i (some l) r,bf,h=>by
  simp only[dY,aap]at h;obtain⟨h1,h2,_⟩:=i3 h.2.1;exact⟨⟨i,by simp[nq.hd]⟩,fun f hf=>by simp[nq.hd]at hf;subst hf;exact⟨h1,h2⟩⟩
 | .xK x y,bf,h=>by
  simp only[dY,aap]at h;obtain⟨⟨f,hf⟩,hx⟩:=kL h.2.1;obtain⟨_,hy⟩:=kL h.2.2;exact⟨⟨f,by simp[nq.hd,hf]⟩,fun f hf=>by simp only[nq.hd,abf]at hf;exact hf.elim (hx f) (hy f)⟩
theorem DS.ahead{K:List CV->Mem->Prop}{L:Nat->Prop}{bf:List Nat}{c:Bool}{q:Nat}{R:nq}{val:Nat->CV}{d9:List (Nat×LO×List CV×CV)}{e aY:List CV}{m:Mem}(h:DS P bW ms n gC e0 K L bf c (.cons q none R) val d9 e aY m):∃iZ qY e',DS P bW ms n gC e0 K L (q::bf) true R iZ qY e' aY m:=by
 have o0:=h.go;simp only[dY,aap]at o0;obtain⟨_,BU,g6,g8⟩:=o0;obtain⟨g1,g2,g4,g5⟩:=i3 BU;have hc:=h.Ut;simp only[yo,GK]at hc;obtain⟨lo,gR,hc⟩:=be.1 hc;have hq:rW lo.Bf=true:=by simpa[lu,gR]using g6
 obtain⟨v,hc,hqv⟩:=tU hq hc;have hc:=qV.1 hc;have K8:H0 bW q=lo.dst:=by simp[H0,gR]
 let iZ:Nat->CV:=fun k=>if k=q then v else val k
 have fJ:∀k,k∈bf->iZ k=val k:=fun k hk=>if_neg fun(e:k=q)=>g2 (e▸hk)
 have Bj:∀t k,k∈bf->lo.dst=some t->dj bW t k=false:=fun t k hk hd=>(g5 t (by rw[K8];exact hd) k hk).1
 have RK:∀t,dj bW t q=true->lo.dst=some t:=fun t hw=>by obtain⟨Eh,h1,h2⟩:=kK.1 hw;rw[gR]at h1;cases h1;exact h2
 refine⟨iZ,_,_,g8,hc,h.qX.step gR Bj (by simp[iZ]) fJ (by simp[or_comm]),h.xU.Us (fun k hk=>fJ k (h.sub k hk)) (fun _=>Iff.rfl),fun i hi=>by simp[h.sub i hi],h.down,?_,?_⟩
 .intro t j k hj hk K9 BV;rcases aaJ.1 hj with e1|Bh<;>rcases aaJ.1 hk with e2|jM
  .rw[e1,e2]
  .rw[e1]at K9;rw[Bj t k jM (RK t K9)]at BV;cases BV
  .rw[e2]at BV;rw[Bj t j Bh (RK t BV)]at K9;cases K9
  .exact h.zM t j k Bh jM K9 BV
 .intro j hj hL;rcases aaJ.1 hj with rfl|hj
  .refine⟨lo,e,gR,hq,by simp[vd,iZ],by simpa[iZ]using hqv,h.qX.len,fun t ht aC=>?_⟩
   by_cases hex:∃k,k∈bf/\dj bW t k=true
   .obtain⟨k,hk,hw⟩:=hex;exact .inl ⟨k,by simp[hk],hw,g4 t ht k hk hw,by rw[fJ k hk];exact h.qX.on t k hk hw aC⟩
   .refine .inr ⟨fun k hk hw=>?_,h.qX.off t fun k hk=>?_⟩
    .rcases aaJ.1 hk with rfl|hk
     .exact .inl rfl
     .exact absurd ⟨k,hk,hw⟩ hex
    .cases hw:dj bW t k with
     |false=>rfl
     |true=>exact absurd ⟨k,hk,hw⟩ hex
  .obtain⟨Eh,e1,h1,h2,h3,h4,h5,h6⟩:=h.sn j hj hL;have eW:q≠j:=fun e=>g2 (e▸hj)
   refine⟨Eh,e1,h1,h2,?_,by rw[fJ j hj];exact h4,h5,fun t ht aC=>?_⟩
   .have:Nat.beq q j=false:=by
     cases hb:Nat.beq q j with
     |false=>rfl
     |true=>exact absurd (aav hb) eW
    simp only[vd,this];rw[h3,fJ j hj]
   .rcases h6 t ht aC with⟨k,hk,hw,hm,he⟩|⟨fl,he⟩
    .exact .inl ⟨k,by simp[hk],hw,hm,by rw[fJ k hk];exact he⟩
    .refine .inr ⟨fun k hk hw=>?_,he⟩
     rcases aaJ.1 hk with e2|jM
     .rw[e2]at hw⊢;exact .inr ((g5 t (by rw[K8];exact RK t hw) j hj).2 ht)
     .exact fl k jM hw
end
section
variable {P:Program}
variable {N:Nat} {ρ0:bL} {m0:Mem} {w0:World}
variable {bW:List LO} {ms:List Nat} {n:Nat} {e0:List CV} {gC:List (List Nat)}
theorem yI{ops:Array Oper}:∀{l:List Oper}{bW:List LO},ml P ops l=some bW->l.length=bW.length/\∀(i:Nat)o,l[i]? =some o->∃lo,df bW i=some lo/\u9 P ops o=some lo
 | [],bW,h=>by simp[ml]at h;subst h;simp
 |o::r,bW,h=>by
  obtain⟨lo,lr,rfl,h1,h2⟩:=si h o r rfl;obtain⟨h3,h4⟩:=yI h2;refine⟨by simp[h3],fun i o' hi=>?_⟩
  cases i with
  |zero=>simp at hi;subst hi;exact⟨lo,rfl,h1⟩
  |succ i=>simpa[df]using h4 i o' (by simpa using hi)
theorem BW{m:Mem}{d9:List (Nat×LO×List CV×CV)}{j:Nat}:∀{l:List Nat},TO P m d9 l->j∈l->ok (vd j d9) fun x=>nr P x.1 x.2.1 m fun _ v _=>v=x.2.2
 | [],_,h=>by cases h
 |k::r,hc,h=>by
  simp only[KF]at hc;rcases aaJ.1 h with e|h
  .rw[e];exact hc.1
  .exact BW hc.2 h
theorem DS.Uu{K:List CV->Mem->Prop}{L:Nat->Prop}{bf:List Nat}{c:Bool}{R:nq}{val:Nat->CV}{d9:List (Nat×LO×List CV×CV)}{e aY:List CV}{m:Mem}(h:DS P bW ms n gC e0 K L bf c R val d9 e aY m){i:Nat}(hi:i∈bf)(hL:¬L i){lo:LO}(gR:df bW i=some lo):∀t k,L k->lo.dst=some t->dj bW t k=false:=by
 intro t k hk hd;cases hw:dj bW t k with
 |false=>rfl
 |true=>
  have:=h.zM t i k hi (h.sub k hk) (kK.2 ⟨lo,gR,hd⟩) hw;exact absurd (this▸hk) hL
theorem DS.GW{K:List CV->Mem->Prop}{L L':Nat->Prop}{bf:List Nat}{c:Bool}{R:nq}{val:Nat->CV}{d9:List (Nat×LO×List CV×CV)}{e aY:List CV}{m:Mem}(h:DS P bW ms n gC e0 K L bf c R val d9 e aY m)(Bl:∀i j,mR ms i j=true->RJ gC i j){i:Nat}(hi:i∈bf)(hL:¬L i)(hr:∀k,Edge gC i k->L k)(yJ:∀k,L' k↔L k\/k=i){ops:Array Oper}{o:Oper}{lo:LO}(ho:ops[i]? =some o)(gR:df bW i=some lo)(jV:u9 P ops o=some lo){ρ:bL}{a:Act}{w:World}(hI:Inv N ρ0 m0 w0 ⟨aY,m⟩ ρ a w){K1:Act->World->Prop}{Q:Exit->Act->World->Prop}(hn:∀fu ρ' a' w',Inv N ρ0 m0 w0 ⟨fu,m⟩ ρ' a' w'->DS P bW ms n gC e0 K L' bf c R val d9 e fu m->K1 a' w'):wpOp P ops Q i K1 a w:=by
 obtain⟨Eh,e1,h1,h2,h3,h4,h5⟩:=h.sn i hi hL;rw[gR]at h1;cases h1;have X0:=h5.WJ h.xU Bl h.down h.sub hL hr;have hv:=tT (lo:=lo) (K:=fun v' m'=>v'=val i/\m'=m) (fun t ht=>X0 t (by simpa[nS,gR]using ht)) h4
 refine yG ho jV hI hv fun v m' ρ' a' w' hk oZ=>?_
 obtain⟨rfl,rfl⟩:=hk;refine hn _ ρ' a' w' oZ ⟨h.go,h.Ut,h.qX,h.xU.step gR (h.Uu hi hL gR) rfl (fun _ _=>rfl) yJ,fun j hj=>?_,fun x y La hx=>?_,h.zM,fun j hj WO=>h.sn j hj fun hl=>WO ((yJ j).2 (.inl hl))⟩
 .rcases(yJ j).1 hj with hj|rfl
  .exact h.sub j hj
  .exact hi
 .rcases(yJ x).1 hx with hx|rfl
  .exact(yJ y).2 (.inl (h.down x y La hx))
  .exact(yJ y).2 (.inl (hr y La))
theorem DS.RL{K:List CV->Mem->Prop}{L L':Nat->Prop}{bf:List Nat}{c:Bool}{i:Nat}{l:List Nat}{R:nq}{val:Nat->CV}{d9:List (Nat×LO×List CV×CV)}{e aY:List CV}{m:Mem}(h:DS P bW ms n gC e0 K L bf c (.cons i (some l) R) val d9 e aY m)(Bl:∀i j,mR ms i j=true->RJ gC i j)(hr:∀k,Edge gC i k->L k)(yJ:∀k,L' k↔L k\/k=i){ops:Array Oper}{o:Oper}{lo:LO}(ho:ops[i]? =some o)(gR:df bW i=some lo)(jV:u9 P ops o=some lo){ρ:bL}{a:Act}{w:World}(hI:Inv N ρ0 m0 w0 ⟨aY,m⟩ ρ a w){K1:Act->World->Prop}{Q:Exit->Act->World->Prop}(hn:∀iZ qY e' fu m' ρ' a' w',Inv N ρ0 m0 w0 ⟨fu,m'⟩ ρ' a' w'->DS P bW ms n gC e0 K L' (i::bf) true R iZ qY e' fu m'->K1 a' w'):wpOp P ops Q i K1 a w:=by
 have o0:=h.go;simp only[dY,aap]at o0;obtain⟨_,BU,g7,g8⟩:=o0;obtain⟨g1,g2,g4,g5⟩:=i3 BU;have hc:=h.Ut;simp only[yo,GK]at hc;obtain⟨Eh,Uv,hc⟩:=be.1 hc;rw[gR]at Uv;cases Uv;have hiL:¬L i:=fun hl=>g2 (h.sub i hl)
 have Uw:∀k,mR ms i k=true->L k:=fun k hm=>Bl i k hm L h.down hr
 have vp:nr P lo e m fun _ v m'=>TO P m' d9 l/\uj P bW R d9 K (xT lo.dst v e) m':=by
  rw[gh]at hc⊢;rcases hc with⟨h1,h2⟩|⟨h1,h2⟩
  .exact .inl ⟨h1,yF h2 fun v m' hk=>qV.1 hk⟩
  .exact .inr ⟨h1,qV.1 h2⟩
 have K8:H0 bW i=lo.dst:=by simp[H0,gR]
 have X0:∀t,t∈lo.looks->jR e t=jR aY t:=fun t ht=>by
  rw[lw,lw];rcases aaq t e0.length with aC|ei
  .by_cases hex:∃k,k∈bf/\dj bW t k=true
   .obtain⟨k,hk,hw⟩:=hex;rw[h.qX.on t k hk hw aC,h.xU.on t k (Uw k (g4 t (by simpa[nS,gR]using ht) k hk hw)) hw aC]
   .have Eu:∀k,k∈bf->dj bW t k=false:=fun k hk=>by
     cases hw:dj bW t k with
     |false=>rfl
     |true=>exact absurd ⟨k,hk,hw⟩ hex
    rw[h.qX.off t Eu,h.xU.off t fun k hk=>Eu k (h.sub k hk)]
  .rw[aaG (by rw[h.qX.len];exact ei),aaG (by rw[h.xU.len];exact ei)]
 have hv:=tT X0 vp;have Bj:∀t k,k∈bf->lo.dst=some t->dj bW t k=false:=fun t k hk hd=>(g5 t (by rw[K8];exact hd) k hk).1
 have RK:∀t,dj bW t i=true->lo.dst=some t:=fun t hw=>by obtain⟨Eh,h1,h2⟩:=kK.1 hw;rw[gR]at h1;cases h1;exact h2
 refine yG ho jV hI hv fun v m' ρ' a' w' hk oZ=>?_
 obtain⟨X1,hd⟩:=hk;let iZ:Nat->CV:=fun k=>if k=i then v else val k
 have fJ:∀k,k∈bf->iZ k=val k:=fun k hk=>if_neg fun(e:k=i)=>g2 (e▸hk)
 refine hn iZ d9 _ _ m' ρ' a' w' oZ ⟨g8,hd,h.qX.step gR Bj (by simp[iZ]) fJ (by simp[or_comm]),
  h.xU.step gR (fun t k hk hd=>Bj t k (h.sub k hk) hd) (by simp[iZ]) (fun k hk=>fJ k (h.sub k hk)) yJ,fun j hj=>?_,fun x y La hx=>?_,fun t j k hj hk K9 BV=>?_,fun j hj WO=>?_⟩
 .rcases(yJ j).1 hj with hj|rfl
  .simp[h.sub j hj]
  .simp
 .rcases(yJ x).1 hx with hx|rfl
  .exact(yJ y).2 (.inl (h.down x y La hx))
  .exact(yJ y).2 (.inl (hr y La))
 .rcases aaJ.1 hj with e1|Bh<;>rcases aaJ.1 hk with e2|jM
  .rw[e1,e2]
  .rw[e1]at K9;rw[Bj t k jM (RK t K9)]at BV;cases BV
  .rw[e2]at BV;rw[Bj t j Bh (RK t BV)]at K9;cases K9
  .exact h.zM t j k Bh jM K9 BV
 .have hjL:¬L j:=fun hl=>WO ((yJ j).2 (.inl hl))
  have hji:j≠i:=fun e=>WO ((yJ j).2 (.inr e))
  have Bh:j∈bf:=by
   rcases aaJ.1 hj with e|h
   .exact absurd e hji
   .exact h
  obtain⟨Eh,e1,h1,h2,h3,h4,h5,h6⟩:=h.sn j Bh hjL;refine⟨Eh,e1,h1,h2,by rw[fJ j Bh];exact h3,?_,h5,fun t ht aC=>?_⟩
  .rw[fJ j Bh];have g7j:=aaW.1 g7 j Bh;have RM:lu bW j=true:=by simpa[lu,h1]using h2
   simp only[RM,acF,abL,abk,List.contains_iff_mem]at g7j;rcases g7j with hm|hp|hl
   .exact absurd (Uw j hm) hjL
   .exact h4.pure (by simpa[DX,h1]using hp) m'
   .have:=BW X1 hl;rw[h3]at this;obtain⟨_,hx,WQ⟩:=be.1 this;cases hx;obtain⟨v',hv',hq⟩:=tU h2 WQ;simp only at hv';rw[<-hv'];exact hq
  .rcases h6 t ht aC with⟨k,hk,hw,hm,he⟩|⟨fl,he⟩
   .exact .inl ⟨k,by simp[hk],hw,hm,by rw[fJ k hk];exact he⟩
   .refine .inr ⟨fun k hk hw=>?_,he⟩
    rcases aaJ.1 hk with e2|jM
    .rw[e2]at hw⊢;exact .inr ((g5 t (by rw[K8];exact RK t hw) j Bh).2 ht)
    .exact fl k jM hw
theorem DS.any{K:List CV->Mem->Prop}{L L':Nat->Prop}(Bl:∀i j,mR ms i j=true->RJ gC i j){i:Nat}(iV:i<n)(hL:¬L i)(hr:∀k,Edge gC i k->L k)(yJ:∀k,L' k↔L k\/k=i){ops:Array Oper}{o:Oper}{lo:LO}(ho:ops[i]? =some o)(gR:df bW i=some lo)(jV:u9 P ops o=some lo){aY:List CV}{m:Mem}{ρ:bL}{a:Act}{w:World}(hI:Inv N ρ0 m0 w0 ⟨aY,m⟩ ρ a w){K1:Act->World->Prop}{Q:Exit->Act->World->Prop}(hn:∀bf R iZ qY e' fu m' ρ' a' w',Inv N ρ0 m0 w0 ⟨fu,m'⟩ ρ' a' w'->DS P bW ms n gC e0 K L' bf true R iZ qY e' fu m'->K1 a' w'):
  ∀(R:nq)(bf:List Nat)(c:Bool)(val:Nat->CV)(d9:List (Nat×LO×List CV×CV))(e:List CV),(c=false->i∈R.hd)->DS P bW ms n gC e0 K L bf c R val d9 e aY m->wpOp P ops Q i K1 a w:=by
 intro R
 induction R with
 |nil=>
  intro bf c val d9 e hc h;cases c with
  |false=>have:=hc rfl;simp[nq.hd]at this
  |true=>
   have o0:=h.go;simp only[dY,ack,aaW]at o0;have hi:i∈bf:=by simpa using o0 i (by simpa using iV)
   exact h.GW Bl hi hL hr yJ ho gR jV hI fun fu ρ' a' w'=>hn _ _ _ _ _ fu m ρ' a' w'
 |cons q Kx R ih=>
  intro bf c val d9 e hc h;cases Kx with
  |none=>
   have hct:c=true:=by have o0:=h.go;simp only[dY,aap]at o0;exact o0.1
   subst hct;by_cases hi:i∈bf
   .exact h.GW Bl hi hL hr yJ ho gR jV hI fun fu ρ' a' w'=>hn _ _ _ _ _ fu m ρ' a' w'
   .obtain⟨iZ,qY,e',h'⟩:=h.ahead;exact ih _ _ _ _ _ (fun h=>by cases h) h'
  |some l=>
   have o0:=h.go;simp only[dY,aap]at o0;obtain⟨Lb,BU,_⟩:=o0;obtain⟨_,g2,_⟩:=i3 BU;by_cases hi:i∈bf
   .cases c with
    |false=>
     have hq:=hc rfl;simp only[nq.hd,abF]at hq;subst hq;exact absurd hi g2
    |true=>exact h.GW Bl hi hL hr yJ ho gR jV hI fun fu ρ' a' w'=>hn _ _ _ _ _ fu m ρ' a' w'
   .have xV:q=i:=by
     cases c with
     |false=>
      have hq:=hc rfl;simp only[nq.hd,abF]at hq;exact hq.symm
     |true=>
      simp only[acF,abL]at Lb;rcases yH Lb iV hi with hq|⟨f,hf,hm⟩
      .simpa using Eq.symm (by simpa using hq)
      .simp only[abF]at hf;subst hf;exact absurd (h.sub _ (Bl i _ hm L h.down hr)) g2
    subst xV;exact h.RL Bl hr yJ ho gR jV hI fun iZ qY e' fu m' ρ' a' w'=>hn _ _ _ _ _ fu m' ρ' a' w'
 |xK x y RN Lc=>
  intro bf c val d9 e hc h;have o0:=h.go;simp only[dY,aap]at o0;obtain⟨Lb,hgx,hgy⟩:=o0;obtain⟨_,hhx⟩:=kL hgx;obtain⟨_,hhy⟩:=kL hgy;have RQ:=h.Ut;simp only[KG]at RQ;have goX:i∈x.hd->wpOp P ops Q i K1 a w:=fun hi=>RN bf false val d9 e (fun _=>hi) ⟨hgx,RQ.1,h.qX,h.xU,h.sub,h.down,h.zM,h.sn⟩
  have goY:i∈y.hd->wpOp P ops Q i K1 a w:=fun hi=>Lc bf false val d9 e (fun _=>hi) ⟨hgy,RQ.2,h.qX,h.xU,h.sub,h.down,h.zM,h.sn⟩
  cases c with
  |false=>
   have hq:=hc rfl;simp only[nq.hd,abf]at hq;exact hq.elim goX goY
  |true=>
   by_cases hi:i∈bf
   .exact h.GW Bl hi hL hr yJ ho gR jV hI fun fu ρ' a' w'=>hn _ _ _ _ _ fu m ρ' a' w'
   .simp only[acF,abL]at Lb;rcases yH Lb iV hi with hq|⟨f,hf,hm⟩
    .rcases abf.1 hq with hq|hq
     .exact goX hq
     .exact goY hq
    .have hfL:=h.sub _ (Bl i f hm L h.down hr);rcases abf.1 hf with hf|hf
     .exact absurd hfL (hhx f hf).2
     .exact absurd hfL (hhy f hf).2
theorem yK:∀(l:List Bool)(i:Nat),l[i]? =some false->(l.set i true).count false+1=l.count false
 | [],i,h=>by simp at h
 |b::r,0,h=>by simp at h;subst h;simp
 |b::r,i+1,h=>by
  have:=yK r i (by simpa using h)
  cases b<;>simp[List.count_cons]at this⊢<;>omega
theorem OF{md:Region.Mode}{ops:Array Oper}{Q:Exit->Act->World->Prop}{K:List CV->Mem->Prop}(hQ:∀aY m ρ a w,K aY m->Inv N ρ0 m0 w0 ⟨aY,m⟩ ρ a w->Q .normal a w)(Bl:∀i j,mR ms i j=true->RJ (kH md ops) i j)(X2:∃l,ym (kH md ops) n [] l=true)(zN:∀(i:Nat)o,ops[i]? =some o->∃lo,df bW i=some lo/\u9 P ops o=some lo)(hn:n=ops.size)(kM:n=bW.length):
  ∀(fuel:Nat) (listed:Array Bool) (a:Act) (w:World) (ρ:bL) (m:Mem) (aY:List CV) (bf:List Nat) (R:nq) (val:Nat->CV)
   (d9:List (Nat×LO×List CV×CV)) (e:List CV),listed.size=n->listed.toList.count false=fuel->Inv N ρ0 m0 w0 ⟨aY,m⟩ ρ a w->
   DS P bW ms n (kH md ops) e0 K (fun i=>listed[i]? =some true) bf true R val d9 e aY m->wpAny P md ops Q fuel listed a w:=by
 have Ld:∀(listed:Array Bool)i,i∈Region.ready md ops listed->listed[i]? =some false/\i<ops.size/\∀k,Edge (kH md ops) i k->listed[k]? =some true:=by
  intro listed i hi;obtain⟨h0,o,ho,fl⟩:=mem_ready.1 hi;refine⟨?_,(aaF.1 ho).1,fun k hk=>?_⟩
  .rw[abb]at h0;cases hg:listed[i]? with
   |none=>rw[hg]at h0;simp at h0
   |some b=>rw[hg]at h0;simp at h0;rw[h0]
  .obtain⟨l,hl,fP⟩:=hk;simp only[kH,aaf,abx,ho,aaC,aaA]at hl;subst hl;obtain⟨ed,Ux,rfl⟩:=aay.1 fP;obtain⟨X3,X4⟩:=acU.1 Ux;have:=fl ed (by simpa using X3) X4
   rw[abb]at this;cases hg:listed[ed.on]? with
   |none=>rw[hg]at this;simp at this
   |some b=>rw[hg]at this;simp at this;rw[this]
 have RR:∀(i:Nat)o ed,ops[i]? =some o->ed∈o.after->Region.binds md ed=true->Edge (kH md ops) i ed.on:=by
  intro i o ed ho Ux hb;refine⟨(o.after.toList.filter (Region.binds md)).map (·.on),?_,?_⟩
  .simp[kH,aaf,ho]
  .exact aay.2 ⟨ed,acU.2 ⟨by simpa using Ux,hb⟩,rfl⟩
 intro fuel
 induction fuel with
 |zero=>
  intro listed a w ρ m aY bf R val d9 e dI Uy hI h;have fl:∀i,i<n->listed[i]? =some true:=by
   intro i hi;have aC:i<listed.size:=om;rw[abc aC];have jC:=List.count_eq_zero.1 Uy;cases hb:listed[i]with
   |true=>rfl
   |false=>exact absurd (by rw[<-hb];exact Array.getElem_mem_toList aC) jC
  constructor
  .rw[List.eq_nil_iff_forall_not_mem];intro i hi;obtain⟨h1,h2,_⟩:=Ld listed i hi;rw[fl i om]at h1;cases h1
  .have hR:R= .nil:=by
    cases R with
    |nil=>rfl
    |cons q Kx R=>
     have o0:=h.go;cases Kx with
     |none=>
      simp only[dY,aap]at o0;obtain⟨g1,g2,_⟩:=i3 o0.2.1;exact absurd (h.sub q (fl q g1)) g2
     |some l=>
      simp only[dY,aap]at o0;obtain⟨g1,g2,_⟩:=i3 o0.2.1;exact absurd (h.sub q (fl q g1)) g2
    |xK x y=>
     have o0:=h.go;simp only[dY,aap]at o0;obtain⟨⟨f,hf⟩,hx⟩:=kL o0.2.1;obtain⟨g1,g2⟩:=hx f hf;exact absurd (h.sub f (fl f g1)) g2
   subst hR;have hbf:∀i,i∈bf->i<n\/n<=i:=fun i _=>aaq i n
   have hnw:∀i t,n<=i->dj bW t i=false:=by
    intro i t hi;cases hw:dj bW t i with
    |false=>rfl
    |true=>
     obtain⟨lo,gR,_⟩:=kK.1 hw;rw[aX]at gR;have:=(aac.1 gR).1;omega
   have he:e=aY:=by
    have e1:lI bW e0 (fun i=>i∈bf/\i<n) val e:=⟨h.qX.len,fun t k hk=>h.qX.on t k hk.1,fun t Uz=>h.qX.off t fun k hk=>by
     rcases hbf k hk with aC|ei
     .exact Uz k ⟨hk,aC⟩
     .exact hnw k t ei⟩
    have e2:lI bW e0 (fun i=>i∈bf/\i<n) val aY:=h.xU.Us (fun _ _=>rfl) fun k=>⟨fun hk=>fl k hk.2,fun hk=>⟨h.sub k hk,by have:=(aaF.1 hk).1;omega⟩⟩
    exact e1.ext e2
   subst he;exact hQ _ _ ρ a w h.Ut hI
 |succ fuel ih=>
  intro listed a w ρ m aY bf R val d9 e dI Uy hI h;constructor
  .intro RA;exfalso;have hex:∃i:Nat,listed[i]? =some false:=by
    have:false∈listed.toList:=by apply List.count_pos_iff.1;omega
    obtain⟨i,hi⟩:=aam this;exact⟨i,by simpa using hi⟩
   obtain⟨i,hi⟩:=hex;obtain⟨l,hl⟩:=X2;have iV:i<n:=by have:=(aaF.1 hi).1;omega
   have:=vC (L:=fun i=>listed[i]? =some true) (fun i hi OG=>?_) l [] hl (fun _ h=>by cases h) i iV
   .rw[hi]at this;cases this
   .refine aaB fun UA=>?_
    have aC:i<ops.size:=om;have BX:i<listed.size:=om;have hf:listed[i]? =some false:=by
     rw[abc BX]at OG⊢;cases jD:listed[i]with
     |true=>rw[jD]at OG;exact absurd rfl OG
     |false=>rfl
    have hm:i∈Region.ready md ops listed:=by
     rw[mem_ready];refine⟨by rw[abb,hf];rfl,ops[i],abc aC,fun ed Ux hb=>?_⟩
     have hE:=RR i _ ed (abc aC) Ux hb;have hL:listed[ed.on]? =some true:=aaB fun hc=>UA ⟨_,hE,hc⟩
     rw[abb,hL];rfl
    rw[RA]at hm;cases hm
  .intro i hi;obtain⟨h1,h2,h3⟩:=Ld listed i hi;obtain⟨lo,gR,jV⟩:=zN i _ (abc h2);have aC:i<listed.size:=om;refine DS.any (L:=fun i=>listed[i]? =some true) (L':=fun k=>(listed.setIfInBounds i true)[k]? =some true) Bl om (by rw[h1];simp) h3 (fun k=>?_) (abc h2) gR jV hI
    (fun bf R iZ qY e' fu m' ρ' a' w' oZ h'=>ih _ a' w' ρ' m' fu bf R iZ qY e' (by simp[dI]) ?_ oZ h') R bf true val d9 e (fun h=>by cases h) h
   .by_cases hk:i=k
    .subst hk;rw[abz aC];simp
    .rw[abQ hk];constructor
     .exact .inl
     .rintro(h|h)
      .exact h
      .exact absurd h.symm hk
   .have:=yK listed.toList i (by simpa using h1)
    rw[Array.toList_setIfInBounds];omega
theorem Ev{md:Region.Mode}{ops:Array Oper}{Q:Exit->Act->World->Prop}{K:List CV->Mem->Prop}(hQ:∀aY m ρ a w,K aY m->Inv N ρ0 m0 w0 ⟨aY,m⟩ ρ a w->Q .normal a w){bW:List LO}(jV:ml P ops ops.toList=some bW){sched:nq}(jz:qE bW (kH md ops) sched=true){st:St}(h:uj P bW sched [] K st.aY st.mem){ρ:bL}{a:Act}{w:World}(hI:Inv N ρ0 m0 w0 st ρ a w):wpAny P md ops Q ops.size (Array.replicate ops.size false) a w:=by
 obtain⟨hlen,zN⟩:=yI jV;simp only[qE,aap]at jz;have Bl:∀i j,mR (aN bW.length (kH md ops)) i j=true->RJ (kH md ops) i j:=Iv;have jC:∀i:Nat,¬(Array.replicate ops.size false)[i]? =some true:=by
  intro i hi;rw[Array.getElem?_replicate]at hi;split at hi<;>simp at hi
 refine OF (n:=bW.length) (e0:=st.aY) hQ Bl ⟨_,jz.1⟩ (fun i o ho=>zN i o (by simpa using ho)) (by simpa using hlen.symm) rfl ops.size _ a w ρ st.mem st.aY [] sched (fun _=>.undef) [] st.aY
  (by simpa using hlen) aG hI ?_
 exact⟨jz.2,h,⟨rfl,fun t k hk=>(abB hk).elim,fun _ _=>rfl⟩,⟨rfl,fun t k hk=>absurd hk (jC k),fun _ _=>rfl⟩,fun i hi=>absurd hi (jC i),fun i j _ hi=>absurd hi (jC i),fun t j k hj=>(abB hj).elim,fun j hj=>(abB hj).elim⟩
theorem BY{bW:List LO}{K:Ex->St->Prop}{s:St}:∀{l:List nq},Ot P bW K s l->∀x,x∈l->uj P bW x [] (H3 K) s.aY s.mem
 | [],_,x,hx=>by cases hx
 | [y],h,x,hx=>by obtain rfl:=abF.1 hx;exact h
 |y::z::r,h,x,hx=>by
  rcases aaJ.1 hx with rfl|hx
  .exact h.1
  .exact BY h.2 x hx
theorem zO{ops:Array Oper}{Q:Exit->Act->World->Prop}{K:Ex->St->Prop}(hQ:∀aY m ρ a w,K .normal ⟨aY,m⟩->Inv N ρ0 m0 w0 ⟨aY,m⟩ ρ a w->Q .normal a w){bW:List LO}(jV:ml P ops ops.toList=some bW){pB:List nq}(jz:va P bW ops=some pB){st:St}(h:Ot P bW K st pB){ρ:bL}{a:Act}{w:World}(hI:Inv N ρ0 m0 w0 st ρ a w)(t:Nat):wpOps P ops Q (Region.schedule (P.follows .mixedOrders) ops t) a {w with drawn:=w.drawn+1}:=by
 have fl:∀md,md∈uO P ops->∃s,s∈pB/\qE bW (kH md ops) s=true:=by
  simp only[va]at jz;split at jz
  .rename_i hc;cases jz;exact fun md Tj=>⟨_,aG,aaW.1 hc md Tj⟩
  .split at jz
   .rename_i hc;cases jz;exact fun md Tj=>by have:=aaW.1 hc md Tj;obtain⟨s,hs,Qx⟩:=aaM.1 this;exact⟨s,hs,Qx⟩
   .cases jz
 have lm:∀md,md∈uO P ops->wpAny P md ops Q ops.size (Array.replicate ops.size false) a {w with drawn:=w.drawn+1}:=fun md Tj=>by obtain⟨s,hs,Qx⟩:=fl md Tj;exact Ev (K:=H3 K) hQ jV Qx (BY h s hs) hI.drew
 unfold Region.schedule;unfold uO at lm;split
 .rename_i hc;rw[if_pos hc]at lm;exact wpAny_sound ops.size t _ a _ (lm .any aG)
 .rename_i hc;rw[if_neg hc]at lm;split
  .exact wpAny_sound ops.size (t/2) _ a _ (lm .text aG)
  .exact wpAny_sound ops.size (t/2) _ a _ (lm .gc aG)
end
section
variable {P:Program}
def FR(r:Option Nat):Fence:={Fence.wide with round:=r}
theorem OH:FR none=Fence.wide:=rfl
theorem GX(l:Nat):FR (some l)=Fence.wide.inRound l:=rfl
theorem OI{o:Oper}{i:I}(h:rV P o=some i):∀c,o.op≠.defer c:=by
 intro c e;unfold rV at h;have h0:u7 P o=none:=by unfold u7;rw[e]
 rw[h0,e]at h;cases h
theorem vD{ops:Array Oper}:∀{l:List Oper}{bW:List LO},ml P ops l=some bW->∀o,o∈l->∀c,o.op≠.defer c
 | [],bW,h,o,ho=>by cases ho
 |o1::r,bW,h,o,ho=>by
  obtain⟨lo,lr,rfl,h1,h2⟩:=si h o1 r rfl;cases ho with
  |head=>
   simp only[u9,aah,aae]at h1;obtain⟨i,hi,_⟩:=h1;exact OI hi
  |tail _ ho=>exact vD h2 o ho
theorem iw{r:Option Nat}{ops:Array Oper}{Q:Exit->Act->World->Prop}(nY:∀o,o∈ops.toList->∀c,o.op≠.defer c)(hQ:¬LetsOut Q):
  ∀(l:List Nat)(a:Act)(w:World),wpOps P ops Q l a w->wpOpsIn (FR r) 0 P ops Q l a w
 | [],a,w,h=>h
 |i::rest,a,w,h=>by
  simp only[wpOps]at h;simp only[wpOpsIn];cases ho:ops[i]? with
  |none=>rw[ho]at h;exact iw nY hQ rest a w h
  |some o=>
   rw[ho]at h;simp only at h⊢;have kN:o∈ops.toList:=by have:=aaF.1 ho;obtain⟨h1,h2⟩:=this;rw[<-h2];exact acp.2 (Array.getElem_mem h1)
   split
   .rename_i hw;rw[if_pos hw]at h;rcases h with h|⟨_,h⟩
    .refine⟨fun _ _=>trivial,?_⟩
     have e:o.semAt (FR r).round a.eval=execOp a.eval o:=Oper.semAt_eq _ _ _ (nY o kN);rw[e];unfold Oper.wp at h;have up:∀{lj:Result Next},o.upon P a (wpOps P ops Q rest) Q lj->o.uponIn (FR r) 0 P a (wpOpsIn (FR r) 0 P ops Q rest) Q lj:=by
      intro lj h;unfold Oper.upon at h;split at h
      .exact iw nY hQ rest _ _ h
      .exact iw nY hQ rest _ _ h
      .exact iw nY hQ rest _ _ h
      .refine⟨by simp[FR,Fence.wide],?_⟩
       have h2:=(callsIn_wide (n:=0-1)).2 h;have h3:CallsIn (FR r) (0-1) P _ _ _ _:=h2;refine h3.mono fun e w' hR=>?_
       cases e with
       |returned v=>exact iw nY hQ rest _ _ hR
       |panicked c=>exact hR
       |outgrown=>exact hR
      .refine⟨by simp[FR,Fence.wide],?_⟩
       intro c cs _;obtain⟨v,w',hR,hs⟩:=h c cs;exact⟨v,w',iw nY hQ rest _ _ hR,(stepsIn_wide.2 hs:StepsIn (Machine.fenced P Fence.wide) P _ _)⟩
      .exact h
      .exact h.elim
     exact up h
    .exact absurd h hQ
   .rename_i hw;rw[if_neg hw]at h;exact⟨fun _ _=>trivial,iw nY hQ rest _ _ h⟩
theorem um{F:Fence}{n:Nat}{γ:Type}{c:Code}{Q:Exit->Act->World->Prop}{a:Act}{w:World}(I:γ->Act->World->Prop)(μ:γ->Nat)(g0:γ)(h₀:I g0 a w)(round:∀g a w,I g a w->c.wpIn F n P (Exit.then (fun a' w'=>∃g',I g' a' w'/\μ g'<μ g) Q) a w):(Code.loop c).wpIn F n P Q a w:=by
 intro b k cs X5 hb hr;have key:∀j g a w,μ g=j->I g a w->
   ∃e a' w',Q e a' w'/\ArrivesIn (Machine.fenced P F) P (lone (b.atR a (.code c:: .inLoop c::k)) cs w) b k cs e a' w':=by
  intro j
  induction j using Nat.strongRecOn with
  |_ j ih=>
   intro g a w hn hI;obtain⟨e,a₁,w₁,hq,BZ⟩:=round g a w hI b (.inLoop c::k) cs X5 hb hr;cases e with
   |normal=>
    obtain⟨g₁,UB,aC⟩:=hq;obtain⟨e₂,a₂,w₂,UC,OJ⟩:=ih (μ g₁) (hn▸aC) g₁ a₁ w₁ rfl UB;exact⟨e₂,a₂,w₂,UC,.of_steps (StepsIn.trans BZ (.one (fenced_calm hb hr rfl) stepR_inLoop)) OJ⟩
   |exit id=>exact⟨_,a₁,w₁,hq,.pass (x:= .inLoop c) rfl (fun _ _=>.inl aG) BZ⟩
   |goto l=>exact⟨_,a₁,w₁,hq,.pass (x:= .inLoop c) rfl (fun _ _=>.inl aG) BZ⟩
   |ret=>exact⟨_,a₁,w₁,hq,.pass (x:= .inLoop c) rfl (fun _ _=>.inl aG) BZ⟩
   |panic ch=>exact⟨_,a₁,w₁,hq,.pass (x:= .inLoop c) rfl (fun _ _=>.inl aG) BZ⟩
   |outgrown=>exact⟨_,a₁,w₁,hq,.pass (x:= .inLoop c) rfl (fun _ _=>.inl aG) BZ⟩
 obtain⟨e,a',w',hq,BZ⟩:=key _ g0 a w rfl h₀;exact⟨e,a',w',hq,.of_steps (.one (fenced_calm hb hr rfl) stepR_loop) BZ⟩
structure uo(ρ:bL)(m:Mem)(w w':World):Prop where
 size:w.heap.size<=w'.heap.size
 S:∀b,ρ.S b->w'.heap[b]? =w.heap[b]?
 aV:∀k,Live ρ m k->w'.heap[(ρ.aR k).b]? =w.heap[(ρ.aR k).b]?
theorem uo.cM{ρ:bL}{m:Mem}{w w':World}(h:uo ρ m w w'):iT ρ w ρ w':=⟨aaj _,fun _ _=>rfl,fun _ h=>h,h.S⟩
theorem aH.uq{ρ:bL}{m:Mem}{w w':World}(hM:aH ρ m w)(h:uo ρ m w w'):aH ρ m w':=by
 have g:=h.cM;refine⟨hM.n,fun b hb=>aaH (hM.S b hb) h.size,fun k hk=>⟨aaH (hM.aV k hk).1 h.size,(hM.aV k hk).2⟩,hM.inj,fun id b hb=>?_,fun id i j esz el ho bp=>?_⟩
 .have h1:=hM.bk id b hb;cases b with
  |bh=>trivial
  |var cs=>
   obtain⟨cur,b9,h2⟩:=h1;exact⟨cur,b9.dK (h.aV (.au id) ⟨_,hb,aG,aG⟩),fun j c hj=>let⟨u,hu,hd⟩:=h2 j c hj;⟨u,hu,bz.cM g aG hd⟩⟩
  |row esz elems=>
   obtain⟨h2,h3,h4,h5,h6⟩:=h1;refine⟨h2,h3,h4,h5,fun hp=>?_⟩
   obtain⟨cur,b9,h7,h8⟩:=h6 hp;exact⟨cur,b9.dK (h.aV (.au id) ⟨_,hb,aG,fun _=>hp⟩),h7,fun i cs j c hi hj=>let⟨u,hu,hd⟩:=h8 i cs j c hi hj;⟨u,hu,bz.cM g (by intro jL i' j' e';cases e';rw[hM.n];exact(aac.1 hb).1) hd⟩⟩
  |mp es=>
   obtain⟨cV,ck,h2,h3,h4⟩:=h1;exact⟨cV,ck,⟨(h.aV (.au id) ⟨_,hb,aG,aG⟩).trans h2.1,h2.2⟩,h3,fun i e he=>let⟨e',tE,hk,hd⟩:=h4 i e he;⟨e',tE,hk,dW.cM g hd⟩⟩
  |it cur left=>
   obtain⟨mb,seen,ck,cV,h2,h3,h4,h5,h6⟩:=h1;exact⟨mb,seen,ck,cV,(h.aV (.au id) ⟨_,hb,aG,aG⟩).trans h2,h3,h4,(h.S mb h4).trans h5,h6⟩
 .obtain⟨cur,b9,h2,h3,h4⟩:=hM.gX id i j esz el ho bp;exact⟨cur,b9.dK (h.aV (.sub id i j) ⟨⟨_,_,ho⟩,bp⟩),h2,h3,fun i cs j d hi hj=>let⟨u,hu,hd⟩:=h4 i cs j d hi hj;⟨u,hu,dz.mono g.S g.heap hd⟩⟩
theorem bj.cM{ρ ρ':bL}{w w':World}{aY:List CV}{tmps:Array Value}(g:iT ρ w ρ' w')(hE:bj ρ w aY tmps):bj ρ' w' aY tmps:=
 ⟨hE.size,fun i c hi=>let⟨v,hv,hd⟩:=hE.lg i c hi;⟨v,hv,b8.cM g hd⟩⟩
theorem Er.uq{N:Nat}{ρ:bL}{m:Mem}{w w':World}{ds:List Deferred}(h:uo ρ m w w')(hd:Er N ρ w ds):Er N ρ w' ds:=by obtain⟨Ds,h1,h2,h3⟩:=hd;exact⟨Ds,h1,h2,fun D hD=>⟨(h3 D hD).1,(h3 D hD).2.1,(h.S D (h3 D hD).2.1).trans (h3 D hD).2.2⟩⟩
variable {N:Nat} {ρ0:bL} {m0:Mem} {w0:World}
theorem Inv.uq{st:St}{ρ:bL}{a:Act}{w w':World}(hI:Inv N ρ0 m0 w0 st ρ a w)(h:uo ρ st.mem w w')(hb:∀b,b<w0.heap.size->w'.heap[b]? =w.heap[b]?)(ho:w'.os=w.os)(ht:w'.tape=w.tape)(hu:w'.output=w.output):Inv N ρ0 m0 w0 st ρ a w':=
 ⟨⟨hI.ext.n,hI.ext.aR,hI.ext.S,hI.ext.S',hI.ext.aV,fun b sb hk=>(hb b sb).trans (hI.ext.frame b sb hk),aa0 hI.ext.size h.size,ho.trans hI.ext.os,ht.trans hI.ext.tape,hu.trans hI.ext.output⟩,
  hI.mem.uq h,hI.aY.cM h.cM,hI.defers.uq h,hI.hN,hI.n0⟩
def pO(ρ:bL)(m:Mem)(b:Nat):Prop:= ¬ρ.S b/\∀k,Live ρ m k->(ρ.aR k).b≠b
theorem pO.ext{ρ ρ':bL}{m m':Mem}{w w':World}{b:Nat}(h:pO ρ m b)(x:Ext ρ m w ρ' m' w')(hb:b<w.heap.size):pO ρ' m' b:=by
 refine⟨fun hs=>?_,fun k hk e=>?_⟩
 .rcases x.S' b hs with h1|h1|⟨k,hk,e⟩
  .exact h.1 h1
  .omega
  .exact h.2 k hk e
 .rcases x.aV k hk with h1|⟨k0,h0,e0⟩
  .omega
  .exact h.2 k0 h0 (e0.trans e)
theorem pO.chg{n0:Nat}{ρ ρ':bL}{m m':Mem}{b:Nat}(h:pO ρ m b)(x:Rr n0 ρ m ρ' m'):pO ρ' m' b:=by
 refine⟨fun hs=>?_,fun k hk e=>?_⟩
 .rcases x.S' b hs with h1|⟨k,hk,e⟩
  .exact h.1 h1
  .exact h.2 k hk e
 .obtain⟨k0,h0,e0⟩:=x.aV k hk;exact h.2 k0 h0 (e0.trans e)
theorem uo.put{ρ:bL}{m:Mem}{w:World}{l:Nat}(h:pO ρ m l)(o:Obj):uo ρ m w (w.putObj l o):=
 ⟨aG,fun b hb=>World.putObj_heap_other (by rintro rfl;exact h.1 hb),fun k hk=>World.putObj_heap_other (h.2 k hk)⟩
theorem Inv.put{st:St}{ρ:bL}{a:Act}{w:World}{l:Nat}(hI:Inv N ρ0 m0 w0 st ρ a w)(h:pO ρ st.mem l)(hl:w0.heap.size<=l)(o:Obj):Inv N ρ0 m0 w0 st ρ a (w.putObj l o):=
 hI.uq (uo.put h o) (fun b hb=>World.putObj_heap_other om) rfl rfl rfl
theorem Inv.view{st iY:St}{ρ:bL}{a:Act}{w:World}(hI:Inv N ρ0 m0 w0 st ρ a w)(lH:ρ0.n=m0.length)(hw:View m0.length st iY):
  ∃ρ',Inv N ρ0 m0 w0 iY ρ' a w/\∀b,pO ρ st.mem b->pO ρ' iY.mem b:=by
 obtain⟨ρ',hM,hc,hd⟩:=hw.go ρ w hI.mem;refine⟨ρ',⟨⟨by rw[lH,hM.n];exact hw.hn,fun id hid=>(hc.aR id (by rw[<-lH];exact hid)).trans (hI.ext.aR id hid),fun b hb=>hc.S b (hI.ext.S b hb),fun b hb=>?_,fun k hk=>?_,hI.ext.frame,hI.ext.size,hI.ext.os,hI.ext.tape,hI.ext.output⟩,hM,?_,hI.defers.s hc.S,hI.hN,hw.hn⟩,fun b h=>h.chg hc⟩
 .rcases hc.S' b hb with h|⟨k,hk,rfl⟩
  .exact hI.ext.S' b h
  .exact .inr (hI.ext.aV k hk)
 .obtain⟨k0,h0,e0⟩:=hc.aV k hk;rw[<-e0];exact hI.ext.aV k0 h0
 .refine⟨hI.aY.size.trans hw.len.symm,fun i c hi=>?_⟩
  obtain⟨c0,uN,It⟩:=hd i c hi;obtain⟨v,hv,uP⟩:=hI.aY.lg i c0 uN;exact⟨v,hv,It v uP⟩
theorem so:∀(m:Mem)(jK:List Nat),(o8 m jK).length=m.length
 |m,[]=>rfl
 |m,id::r=>by rw[o8,so,bn,aaE]
theorem mw:∀(m:Mem)(jK:List Nat)(i:Nat)(bk:Bk),(o8 m jK)[i]? =some bk->bk= .bh\/(m[i]? =some bk/\i∉jK)
 |m,[],i,bk,h=>.inr ⟨h,aG⟩
 |m,id::r,i,bk,h=>by
  rcases mw _ r i bk h with h|⟨h,hn⟩
  .exact .inl h
  .rw[bn]at h;by_cases hi:id=i
   .subst hi;have aC:id<m.length:=by have:=(aac.1 h).1;simpa using this
    rw[aal aC]at h;exact .inl (by cases h;rfl)
   .rw[aas hi]at h;exact .inr ⟨h,by simp;exact⟨fun e=>hi e.symm,hn⟩⟩
theorem tW:∀{m:Mem}{jK:List Nat}{cs:List Value},zw m jK cs->jK.length=cs.length/\∀(i:Nat)id v,jK[i]? =some id->cs[i]? =some v->m[id]? =some (.var [.aa (.val v)])/\cT v=true
 |m,[],[],_=>⟨rfl,aG⟩
 |m,id::r,v::vs,h=>by
  obtain⟨h1,h2⟩:=h;obtain⟨e,g⟩:=tW h2;refine⟨by simp[e],fun i jL v' hi hv=>?_⟩
  cases i with
  |zero=>simp at hi hv;subst hi hv;rw[<-aX];exact h1
  |succ i=>exact g i jL v' (by simpa using hi) (by simpa using hv)
end
end Go.AM
