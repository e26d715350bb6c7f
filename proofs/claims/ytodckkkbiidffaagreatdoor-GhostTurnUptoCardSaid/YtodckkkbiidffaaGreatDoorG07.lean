/- Part 7 of 16. -/
import Derived.Test.YtodckkkbiidffaaGreatDoorG06
import Derived.Orders
set_option linter.unusedVariables false
set_option linter.unusedSimpArgs false
set_option maxRecDepth 100000
set_option maxHeartbeats 0
namespace Go.AM
section
variable {P:Program}
def LO.jP(lo:LO)(e:List CV):Option Bool:=
 match lo.guard with
 |none=>some true
 |some (s,jP)=>match kh e s with
  | .undef=>some false
  | .rv (.one (.aa (.val (.bool t))))=>some (t==jP)
  |_=>none
theorem gy{lo:LO}{e:List CV}{m:Mem}{K:List CV->CV->Mem->Prop}:
  nF P lo e m K↔(lo.jP e=some true/\step P lo.BB e m (K e))\/(lo.jP e=some false/\K e .undef m):=by
 unfold nF LO.jP;cases hg:lo.guard with
 |none=>simp[eY]
 |some p=>
  obtain⟨s,jP⟩:=p;simp only;generalize d7:kh e s=c;split
  .simp
  .rename_i t;have h1:∀b,t=b->aW e s (aE b)=e:=λb hb=>by subst hb;exact Ag d7
   rw[cn];cases t
   .simp only[eY,h1 false rfl];cases jP<;>simp
   .simp only[eY,h1 true rfl];cases jP<;>simp
  .rename_i n1 n2;have:∀b,¬(match c with
     |CV.undef=>some false
     |CV.rv (RV.one (CC.aa (Dt.val (Value.bool t))))=>some (t==jP)
     |x=>none)=some b:=by
    intro b hb;split at hb
    .exact n1 rfl
    .exact n2 _ rfl
    .cases hb
   constructor
   .exact λh=>h.elim
   .rintro(⟨h,_⟩|⟨h,_⟩)<;>exact this _ h
def yb(d:Option Nat)(v:CV)(e:List CV):List CV:=
 match d with
 |none=>e
 |some d=>e.set d v
theorem rq{d:Option Nat}{v:CV}{e:List CV}{K:List CV->Prop}:put d v e K↔K (yb d v e):=by
 rw[Lh];cases d<;>rfl
variable {N:Nat} {ρ0:bF} {m0:Mem} {w0:World}
theorem Inv.drew{st:St}{U:bF}{a:Act}{w:World}(h:Inv N ρ0 m0 w0 st U a w):Inv N ρ0 m0 w0 st U a {w with drawn:=w.drawn+1}:=by
 obtain⟨x,M,E,d,hN,n⟩:=h;have g:iz U w U {w with drawn:=w.drawn+1}:=⟨Ts _,λ_ _=>rfl,λ_ h=>h,λ_ _=>rfl⟩
 have e:Ext U st.mem w U st.mem {w with drawn:=w.drawn+1}:=⟨Ts _,λ_ _=>rfl,λ_ h=>h,λ_ h=>.inl h,λk h=>.inr ⟨k,h,rfl⟩,λ_ _ _=>rfl,Ts _,rfl,rfl,rfl⟩
 have hc:∀{mk:Prop}b cur,l6 mk w b cur->l6 mk {w with drawn:=w.drawn+1} b cur:=λ{mk}b cur hc=>hc.dv rfl
 refine⟨x.trans e,?_,?_,d,hN,n⟩
 .refine⟨M.n,M.S,M.aQ,M.inj,λid b hb=>?_,λid i j esz el ho bc=>?_⟩
  .have h1:=M.bk id b hb;cases b with
   |aS=>trivial
   |var cs=>
    obtain⟨cur,bT,h2⟩:=h1;exact⟨cur,hc _ _ bT,λj c hj=>let⟨u,hu,hd⟩:=h2 j c hj;⟨u,hu,bh.cm g aC hd⟩⟩
   |row esz elems=>
    obtain⟨h2,h3,h4,h5,h6⟩:=h1;refine⟨h2,h3,h4,h5,λhp=>?_⟩
    obtain⟨cur,bT,h7,h8⟩:=h6 hp;exact⟨cur,hc _ _ bT,h7,λi cs j c hi hj=>let⟨u,hu,hd⟩:=h8 i cs j c hi hj;⟨u,hu,bh.cm g (by intro jX i' j' e';cases e';rw[M.n];exact(I4.1 hb).1) hd⟩⟩
   |mp es=>
    obtain⟨bx,ck,h2,h3,h4⟩:=h1;exact⟨bx,ck,h2,h3,λi e he=>let⟨e',mr,hk,hd⟩:=h4 i e he;⟨e',mr,hk,dq.cm g hd⟩⟩
   |it cur left=>exact h1
   |mo esz es so=>exact cI.cm (bk:= .mo esz es so) g (by rw[M.n];exact(I4.1 hb).1) (λ_ _=>rfl) h1
   |iw mid gU seen=>exact h1
  .obtain⟨cur,bT,h2,h3,h4⟩:=M.dV id i j esz el ho bc;exact⟨cur,hc _ _ bT,h2,h3,λi cs j d hi hj=>let⟨u,hu,hd⟩:=h4 i cs j d hi hj;⟨u,hu,c7.mono (S:=U.S) (S':=U.S) (w:=w) (w':={w with drawn:=w.drawn+1}) (λ_ h=>h) (λ_ _=>rfl) hd⟩⟩
 .exact⟨E.size,λi c hi=>let⟨v,hv,hd⟩:=E.jR i c hi;⟨v,hv,bZ.cm g hd⟩⟩
theorem yO{ops:Array Oper}{k:Nat}{o:Oper}{lo:LO}{aX:List CV}{m:Mem}{U:bF}{a:Act}{w:World}{K:CV->Mem->Prop}{K1:Act->World->Prop}{Q:Exit->Act->World->Prop}(ho:ops[k]? =some o)(gY:vC P ops o=some lo)(hI:Inv N ρ0 m0 w0 ⟨aX,m⟩ U a w)(h:nF P lo aX m λ_ v m'=>K v m')(hn:∀v m' U' a' w',K v m'->Inv N ρ0 m0 w0 ⟨yb lo.dst v aX,m'⟩ U' a' w'->K1 a' w'):wpOp P ops Q k K1 a w:=by
 simp only[vC,RX,N0]at gY;obtain⟨i,hi,g,hg,gY⟩:=gY;cases gY;unfold wpOp;rw[ho];simp only;have Q3:∀b,LO.jP ⟨o.dst,i,g⟩ aX=some b->Region.wanted o (yielded ops a.tmps)=b:=by
  intro b hb;unfold LO.jP at hb;cases Ll:o.guard with
  |none=>
   rw[Ll]at hg;simp[KH]at hg;subst hg;simp at hb;subst hb;simp[Region.wanted,Ll]
  |some jb=>
   obtain⟨j,jP⟩:=jb;rw[Ll]at hg;simp only[KH,RX,N0]at hg;obtain⟨oj,Y1,s,hs,hg⟩:=hg;cases hg;have hy:yielded ops a.tmps j=match a.tmps[s]? with|some (.bool b)=>some b|_=>none:=by simp[yielded,Y1,hs];rfl
   simp only at hb;split at hb
   .rename_i d7;have cq:=hI.aX.get s;rw[d7]at cq;have hu:a.tmps[s]? =some Go.undef\/a.tmps[s]? =none:=by
     simp only[bZ,abG]at cq;cases ht:a.tmps[s]? with
     |none=>exact .inr rfl
     |some v=>rw[ht]at cq;simp at cq;exact .inl (by rw[cq])
    cases hb;simp only[Region.wanted,Ll,hy];rcases hu with hu|hu<;>rw[hu]<;>rfl
   .rename_i t d7;have cq:=hI.aX.get s;rw[d7]at cq;have ht:a.tmps[s]? =some (.bool t):=by
     have:=(bJ cq).1;rw[abG]at this;cases ht:a.tmps[s]? with
     |none=>rw[ht]at this;cases this
     |some v=>rw[ht]at this;simp at this;rw[this]
    simp at hb;simp[Region.wanted,Ll,hy,ht,hb]
   .cases hb
 rcases gy.1 h with⟨hw,hs⟩|⟨hw,hs⟩
 .rw[if_pos (Q3 _ hw)];refine .inl (Cc (K:=λe' m'=>∃v,e'=yb o.dst v aX/\K v m') hi hI (yN hs λv m' hk=>rq.2 ⟨v,rfl,hk⟩) λfw m' U' a' w'⟨v,he,hk⟩px=>?_)
  subst he;exact hn v m' U' a' w' hk px
 .rw[if_neg (by simp[Q3 _ hw])]
  obtain⟨fw,Kg,px⟩:=hI.step (d:=o.dst) (c:= .undef) (v:=Go.undef) (K:=λe=>e=yb o.dst .undef aX) hI.mem rfl (Ext.refl _ _ _) (rq.2 rfl)
  subst Kg;exact hn _ _ _ _ _ hs px
theorem uv{lo:LO}{e e':List CV}{m:Mem}{K:CV->Mem->Prop}(hx:∀t,t∈lo.looks->kh e t=kh e' t)(h:nF P lo e m λ_ v m'=>K v m'):
  nF P lo e' m λ_ v m'=>K v m':=by
 rw[gy]at h|-;have hs:∀t,t∈lL lo.BB.xs->kh e t=kh e' t:=λt ht=>hx t (by unfold LO.looks;split<;>simp[ht])
 have hw:lo.jP e=lo.jP e':=by
  unfold LO.jP;cases hg:lo.guard with
  |none=>rfl
  |some p=>simp only[hx p.1 (by unfold LO.looks;rw[hg];simp)]
 have yK:∀(xs:List X)(x:X),x∈xs->∀n,x= .t n->n∈lL xs:=by
  intro xs
  induction xs with
  |nil=>intro x hx;cases hx
  |cons y r ih=>
   intro x hx n hn;subst hn;cases y with
   |t k=>
    simp only[lL,aa1];rcases aa1.1 hx with h|h
    .cases h;exact .inl rfl
    .exact .inr (ih _ h n rfl)
   |c v=>
    simp only[lL];rcases aa1.1 hx with h|h
    .cases h
    .exact ih _ h n rfl
 have QT:∀x,x∈lo.BB.xs->x.ev e=x.ev e':=λx hx=>by
  cases x with
  |t n=>exact hs n (yK _ _ hx n rfl)
  |c v=>rfl
 rw[<-hw];rcases h with⟨h1,h2⟩|h
 .exact .inl ⟨h1,EA QT h2⟩
 .exact .inr h
def QV(P:Program)(lo:LO)(e:List CV)(m:Mem)(v:CV):Prop:=nF P lo e m λ_ v' m'=>v'=v/\m'=m
theorem uw{lo:LO}(hq:sP lo.BB=true){e:List CV}{m:Mem}{K:List CV->CV->Mem->Prop}(h:nF P lo e m K):∃v,K e v m/\QV P lo e m v:=by
 rcases gy.1 h with⟨h1,h2⟩|⟨h1,h2⟩
 .obtain⟨v,hv,fI⟩:=Ez hq h2;exact⟨v,hv,gy.2 (.inl ⟨h1,fI _ ⟨rfl,rfl⟩⟩)⟩
 .exact⟨_,h2,gy.2 (.inr ⟨h1,rfl,rfl⟩)⟩
theorem QV.pure{lo:LO}(hq:yu lo.BB=true){e:List CV}{m:Mem}{v:CV}(h:QV P lo e m v)(m':Mem):QV P lo e m' v:=by
 rcases gy.1 h with⟨h1,h2⟩|⟨h1,h2⟩
 .obtain⟨v',hv,fI⟩:=Ip hq h2;exact gy.2 (.inl ⟨h1,fI m' _ ⟨hv.1,rfl⟩⟩)
 .exact gy.2 (.inr ⟨h1,h2.1,rfl⟩)
end
section
variable {P:Program}
def Edge(gP:List (List Nat))(i j:Nat):Prop:=∃l,gP[i]? =some l/\j∈l
def Sy(gP:List (List Nat))(L:Nat->Prop):Prop:=∀i j,Edge gP i j->L i->L j
def Sz(gP:List (List Nat))(i j:Nat):Prop:=∀L,Sy gP L->(∀k,Edge gP i k->L k)->L j
theorem ru{cZ:List Nat}{t:Nat}:∀{l:List Nat},Nat.testBit (zR cZ l) t=true->
  ∃j,j∈l/\(t=j\/Nat.testBit ((cD cZ j).getD 0) t=true)
 | [],h=>by simp[zR]at h
 |j::r,h=>by
  simp only[zR,List.foldr_cons]at h;have h1:∀a b:Nat,Nat.testBit (Nat.lor a b) t=(Nat.testBit a t||Nat.testBit b t):=λa b=>Nat.testBit_or a b t
  rw[h1,h1]at h;simp only[abU]at h;rcases h with h|h|h
  .obtain⟨k,hk,hr⟩:=ru (l:=r) h;exact⟨k,by simp[hk],hr⟩
  .refine⟨j,aC,.inl ?_⟩;have:Nat.shiftLeft 1 j=2^j:=by show 1<<<j=2^j;rw[Nat.shiftLeft_eq];simp
   rw[this,Nat.testBit_two_pow]at h;simpa using(of_decide_eq_true h).symm
  .exact⟨j,aC,.inr h⟩
def Lo(gP:List (List Nat))(cZ:List Nat):Prop:=∀(i j:Nat),Nat.testBit ((cD cZ i).getD 0) j=true->Sz gP i j
theorem Cd{gP:List (List Nat)}{cZ:List Nat}(h:Lo gP cZ):Lo gP (D6 gP cZ):=by
 intro i j hb;rw[aT,D6,RA]at hb;cases hl:gP[i]? with
 |none=>rw[hl]at hb;simp at hb
 |some l=>
  rw[hl]at hb;simp only[aaz,abC]at hb;obtain⟨k,hk,hr⟩:=ru hb;have he:Edge gP i k:=⟨l,hl,hk⟩;rcases hr with rfl|hr
  .exact λL _ hL=>hL _ he
  .exact λL hd hL=>h k j hr L hd λk' fU=>hd _ _ fU (hL _ he)
theorem uy{gP:List (List Nat)}:∀(k:Nat){cZ:List Nat},Lo gP cZ->Lo gP (zS gP k cZ)
 |0,_,h=>h
 |k+1,cZ,h=>by
  simp only[zS];split
  .exact h
  .exact uy k (Cd h)
theorem Iq{n:Nat}{gP:List (List Nat)}:Lo gP (bj n gP):=uy n λi j hb=>by simp[cD]at hb
theorem vZ{gP:List (List Nat)}{n:Nat}{L:Nat->Prop}(jS:∀i,i<n->¬L i->∃j,Edge gP i j/\¬L j):
  ∀(l bf:List Nat),yv gP n bf l=true->(∀i,i∈bf->L i)->∀i,i<n->L i
 | [],bf,h,hb,i,hi=>by
  simp only[yv,aby]at h;exact hb i (by simpa using h i (by simpa using hi))
 |x::r,bf,h,hb,i,hi=>by
  simp only[yv,aab,aby]at h;refine vZ jS r (x::bf) h.2 (λk hk=>?_) i hi
  rcases aa1.1 hk with e|hk
  .rw[e];by_cases h1:L x
   .exact h1
   .obtain⟨j,⟨l,hl,hj⟩,hnj⟩:=jS x (by have:=h.1.1;rwa [abL]at this) h1
    refine absurd (hb j ?_) hnj;have:=h.1.2 j (by rw[aT,hl];exact hj)
    simpa using this
  .exact hb k hk
variable {bS:List LO} {ms:List Nat} {n:Nat} {e0:List CV} {gP:List (List Nat)}
structure lS(bS:List LO)(e0:List CV)(S:Nat->Prop)(val:Nat->CV)(e:List CV):Prop where
 len:e.length=e0.length
 on:∀t k,S k->c9 bS t k=true->t<e0.length->e[t]? =some (val k)
 off:∀t,(∀k,S k->c9 bS t k=false)->e[t]? =e0[t]?
theorem kS{t k:Nat}:c9 bS t k=true↔∃lo,cD bS k=some lo/\lo.dst=some t:=by
 unfold c9;cases cD bS k with
 |none=>simp
 |some lo=>
  cases hd:lo.dst with
  |none=>simp[hd]
  |some d=>simp[hd]
theorem lS.step{S:Nat->Prop}{val:Nat->CV}{e:List CV}(h:lS bS e0 S val e){i:Nat}{lo:LO}(hi:cD bS i=some lo)(hu:∀t k,S k->lo.dst=some t->c9 bS t k=false){v:CV}{ji:Nat->CV}(hv:ji i=v)(jF:∀k,S k->ji k=val k){S':Nat->Prop}(hS:∀k,S' k↔S k\/k=i):lS bS e0 S' ji (yb lo.dst v e):=by
 have hw:∀t,c9 bS t i=true↔lo.dst=some t:=λt=>by rw[kS];simp[hi]
 refine⟨?_,λt k hk BF aD=>?_,λt fI=>?_⟩
 .unfold yb;split<;>simp[h.len]
 .rcases(hS k).1 hk with hk|rfl
  .have dt:lo.dst≠some t:=λhd=>by rw[hu t k hk hd]at BF;cases BF
   rw[jF k hk,<-h.on t k hk BF aD];unfold yb;cases hd:lo.dst with
   |none=>rfl
   |some d=>
    simp only;rw[WE];rintro rfl;exact dt hd
  .have hd:=(hw t).1 BF;rw[hd,hv];simp only[yb];rw[Tr (by rw[h.len];exact aD)]
 .have dt:lo.dst≠some t:=λhd=>by have:=fI i ((hS i).2 (.inr rfl));rw[(hw t).2 hd]at this;cases this
  rw[<-h.off t λk hk=>fI k ((hS k).2 (.inl hk))]
  unfold yb;cases hd:lo.dst with
  |none=>rfl
  |some d=>
   simp only;rw[WE];rintro rfl;exact dt hd
theorem lS.Vv{S S':Nat->Prop}{val ji:Nat->CV}{e:List CV}(h:lS bS e0 S val e)(jF:∀k,S k->ji k=val k)(hS:∀k,S' k↔S k):lS bS e0 S' ji e:=
 ⟨h.len,λt k hk hw hl=>by rw[jF k ((hS k).1 hk)];exact h.on t k ((hS k).1 hk) hw hl,λt fI=>h.off t λk hk=>fI k ((hS k).2 hk)⟩
theorem lS.ext{S:Nat->Prop}{val:Nat->CV}{e e':List CV}(h:lS bS e0 S val e)(h':lS bS e0 S val e'):e=e':=by
 refine abF λt=>?_
 by_cases hex:∃k,S k/\c9 bS t k=true
 .obtain⟨k,hk,hw⟩:=hex;rcases aad t e0.length with aD|d7
  .rw[h.on t k hk hw aD,h'.on t k hk hw aD]
  .rw[aaZ (by rw[h.len];exact d7),aaZ (by rw[h'.len];exact d7)]
 .have:∀k,S k->c9 bS t k=false:=λk hk=>by
   cases hw:c9 bS t k with
   |false=>rfl
   |true=>exact absurd ⟨k,hk,hw⟩ hex
  rw[h.off t this,h'.off t this]
def Agree(bS:List LO)(ms:List Nat)(e0:List CV)(bf:List Nat)(val:Nat->CV)(j:Nat)(e1:List CV):Prop:=
 e1.length=e0.length/\∀t,t∈n9 bS j->t<e0.length->
  (∃k,k∈bf/\c9 bS t k=true/\nf ms j k=true/\e1[t]? =some (val k))\/
  ((∀k,k∈bf->c9 bS t k=true->k=j\/nf ms k j=true)/\e1[t]? =e0[t]?)
theorem Agree.XK{bf:List Nat}{val:Nat->CV}{j:Nat}{e1 aX:List CV}{L:Nat->Prop}(h:Agree bS ms e0 bf val j e1)(hE:lS bS e0 L val aX)(BG:∀i j,nf ms i j=true->Sz gP i j)(hd:Sy gP L)(iq:∀i,L i->i∈bf)(hj:¬L j)(hr:∀k,Edge gP j k->L k):
  ∀t,t∈n9 bS j->kh e1 t=kh aX t:=by
 intro t ht;rw[lN,lN];rcases aad t e0.length with aD|d7
 .rcases h.2 t ht aD with⟨k,hk,hw,hm,he⟩|⟨fI,he⟩
  .rw[he,hE.on t k (BG _ _ hm L hd hr) hw aD]
  .rw[he,hE.off t λk hk=>?_]
   cases hw:c9 bS t k with
   |false=>rfl
   |true=>
    rcases fI k (iq k hk) hw with rfl|hm
    .exact absurd hk hj
    .exact absurd (BG _ _ hm L hd λk' fU=>hd _ _ fU hk) hj
 .rw[aaZ (by rw[h.1];exact d7),aaZ (by rw[hE.len];exact d7)]
structure DS(P:Program)(bS:List LO)(ms:List Nat)(n:Nat)(gP:List (List Nat))(e0:List CV)(K:List CV->Mem->Prop)(L:Nat->Prop)(bf:List Nat)(c:Bool)(R:nD)(val:Nat->CV)(dX:List (Nat×LO×List CV×CV))(e aX:List CV)(m:Mem):Prop where
 go:dS bS ms n c bf R=true
 Vw:uL P bS R dX K e m
 rx:lS bS e0 (·∈bf) val e
 yc:lS bS e0 L val aX
 sub:∀i,L i->i∈bf
 down:Sy gP L
 Ah:∀t j k,j∈bf->k∈bf->c9 bS t j=true->c9 bS t k=true->j=k
 ta:∀j,j∈bf->¬L j->∃lo e1,cD bS j=some lo/\sP lo.BB=true/\vE j dX=some (lo,e1,val j)/\QV P lo e1 m (val j)/\Agree bS ms e0 bf val j e1
theorem jj{bf:List Nat}{i:Nat}(h:Gv bS ms n bf i=true):i<n/\i∉bf/\
  (∀t,t∈n9 bS i->∀j,j∈bf->c9 bS t j=true->nf ms i j=true)/\
  (∀t,HW bS i=some t->∀j,j∈bf->c9 bS t j=false/\(t∈n9 bS j->nf ms i j=true)):=by
 simp only[Gv,aab]at h;obtain⟨⟨⟨h1,h2⟩,h4⟩,h5⟩:=h;refine⟨by rwa [abL]at h1,by simpa using h2,?_,?_⟩
 .intro t ht j hj hw;have:=aby.1 (aby.1 h4 t ht) j hj;simpa[hw]using this
 .intro t ht j hj;rw[ht]at h5;have:=aby.1 h5 j hj;simp only[aab,abP,abU]at this;refine⟨this.1,λhl=>?_⟩
  rcases this.2 with h|h
  .simp[hl]at h
  .exact h
theorem yP{bf hd:List Nat}(h:R2 ms n bf hd=true){i:Nat}(hi:i<n)(hb:i∉bf):i∈hd\/∃f,f∈hd/\nf ms i f=true:=by
 have:=aby.1 h i (by simpa using hi)
 simp only[abU,abm]at this;rcases this with h|h|⟨f,h1,h2⟩
 .exact absurd (by simpa using h) hb
 .exact .inl (by simpa using h)
 .exact .inr ⟨f,h1,h2⟩
theorem kT:∀{R:nD}{bf:List Nat},dS bS ms n false bf R=true->(∃f,f∈R.hd)/\∀f,f∈R.hd->f<n/\f∉bf
 | .nil,bf,h=>by simp[dS]at h
 | .cons i none r,bf,h=>by simp[dS]at h
 | .cons i (some l) r,bf,h=>by
  simp only[dS,aab]at h;obtain⟨h1,h2,_⟩:=jj h.2.1;exact⟨⟨i,by simp[nD.hd]⟩,λf hf=>by simp[nD.hd]at hf;subst hf;exact⟨h1,h2⟩⟩
 | .vn x y,bf,h=>by
  simp only[dS,aab]at h;obtain⟨⟨f,hf⟩,hx⟩:=kT h.2.1;obtain⟨_,hy⟩:=kT h.2.2;exact⟨⟨f,by simp[nD.hd,hf]⟩,λf hf=>by simp only[nD.hd,abD]at hf;exact hf.elim (hx f) (hy f)⟩
theorem DS.ahead{K:List CV->Mem->Prop}{L:Nat->Prop}{bf:List Nat}{c:Bool}{q:Nat}{R:nD}{val:Nat->CV}{dX:List (Nat×LO×List CV×CV)}{e aX:List CV}{m:Mem}(h:DS P bS ms n gP e0 K L bf c (.cons q none R) val dX e aX m):∃ji ry e',DS P bS ms n gP e0 K L (q::bf) true R ji ry e' aX m:=by
 have py:=h.go;simp only[dS,aab]at py;obtain⟨_,Ce,g6,g8⟩:=py;obtain⟨g1,g2,g4,g5⟩:=jj Ce;have hc:=h.Vw;simp only[yx,Gz]at hc;obtain⟨lo,gY,hc⟩:=aZ.1 hc;have hq:sP lo.BB=true:=by simpa[lM,gY]using g6
 obtain⟨v,hc,hqv⟩:=uw hq hc;have hc:=rq.1 hc;have Lp:HW bS q=lo.dst:=by simp[HW,gY]
 let ji:Nat->CV:=λk=>if k=q then v else val k
 have jF:∀k,k∈bf->ji k=val k:=λk hk=>if_neg λ(e:k=q)=>g2 (e▸hk)
 have BF:∀t k,k∈bf->lo.dst=some t->c9 bS t k=false:=λt k hk hd=>(g5 t (by rw[Lp];exact hd) k hk).1
 have SA:∀t,c9 bS t q=true->lo.dst=some t:=λt hw=>by obtain⟨Eo,h1,h2⟩:=kS.1 hw;rw[gY]at h1;cases h1;exact h2
 refine⟨ji,_,_,g8,hc,h.rx.step gY BF (by simp[ji]) jF (by simp[or_comm]),h.yc.Vv (λk hk=>jF k (h.sub k hk)) (λ_=>Iff.rfl),λi hi=>by simp[h.sub i hi],h.down,?_,?_⟩
 .intro t j k hj hk Lq GP;rcases aa1.1 hj with e1|ya<;>rcases aa1.1 hk with e2|jZ
  .rw[e1,e2]
  .rw[e1]at Lq;rw[BF t k jZ (SA t Lq)]at GP;cases GP
  .rw[e2]at GP;rw[BF t j ya (SA t GP)]at Lq;cases Lq
  .exact h.Ah t j k ya jZ Lq GP
 .intro j hj hL;rcases aa1.1 hj with rfl|hj
  .refine⟨lo,e,gY,hq,by simp[vE,ji],by simpa[ji]using hqv,h.rx.len,λt ht aD=>?_⟩
   by_cases hex:∃k,k∈bf/\c9 bS t k=true
   .obtain⟨k,hk,hw⟩:=hex;exact .inl ⟨k,by simp[hk],hw,g4 t ht k hk hw,by rw[jF k hk];exact h.rx.on t k hk hw aD⟩
   .refine .inr ⟨λk hk hw=>?_,h.rx.off t λk hk=>?_⟩
    .rcases aa1.1 hk with rfl|hk
     .exact .inl rfl
     .exact absurd ⟨k,hk,hw⟩ hex
    .cases hw:c9 bS t k with
     |false=>rfl
     |true=>exact absurd ⟨k,hk,hw⟩ hex
  .obtain⟨Eo,e1,h1,h2,h3,h4,h5,h6⟩:=h.ta j hj hL;have dt:q≠j:=λe=>g2 (e▸hj)
   refine⟨Eo,e1,h1,h2,?_,by rw[jF j hj];exact h4,h5,λt ht aD=>?_⟩
   .have:Nat.beq q j=false:=by
     cases hb:Nat.beq q j with
     |false=>rfl
     |true=>exact absurd (aai hb) dt
    simp only[vE,this];rw[h3,jF j hj]
   .rcases h6 t ht aD with⟨k,hk,hw,hm,he⟩|⟨fI,he⟩
    .exact .inl ⟨k,by simp[hk],hw,hm,by rw[jF k hk];exact he⟩
    .refine .inr ⟨λk hk hw=>?_,he⟩
     rcases aa1.1 hk with e2|jZ
     .rw[e2]at hw|-;exact .inr ((g5 t (by rw[Lp];exact SA t hw) j hj).2 ht)
     .exact fI k jZ hw
end
section
variable {P:Program}
variable {N:Nat} {ρ0:bF} {m0:Mem} {w0:World}
variable {bS:List LO} {ms:List Nat} {n:Nat} {e0:List CV} {gP:List (List Nat)}
theorem yQ{ops:Array Oper}:∀{l:List Oper}{bS:List LO},mA P ops l=some bS->l.length=bS.length/\∀(i:Nat)o,l[i]? =some o->∃lo,cD bS i=some lo/\vC P ops o=some lo
 | [],bS,h=>by simp[mA]at h;subst h;simp
 |o::r,bS,h=>by
  obtain⟨lo,lr,rfl,h1,h2⟩:=s8 h o r rfl;obtain⟨h3,h4⟩:=yQ h2;refine⟨by simp[h3],λi o' hi=>?_⟩
  cases i with
  |zero=>simp at hi;subst hi;exact⟨lo,rfl,h1⟩
  |succ i=>simpa[cD]using h4 i o' (by simpa using hi)
theorem Cf{m:Mem}{dX:List (Nat×LO×List CV×CV)}{j:Nat}:∀{l:List Nat},US P m dX l->j∈l->ok (vE j dX) λx=>nF P x.1 x.2.1 m λ_ v _=>v=x.2.2
 | [],_,h=>by cases h
 |k::r,hc,h=>by
  simp only[KK]at hc;rcases aa1.1 h with e|h
  .rw[e];exact hc.1
  .exact Cf hc.2 h
theorem DS.Vx{K:List CV->Mem->Prop}{L:Nat->Prop}{bf:List Nat}{c:Bool}{R:nD}{val:Nat->CV}{dX:List (Nat×LO×List CV×CV)}{e aX:List CV}{m:Mem}(h:DS P bS ms n gP e0 K L bf c R val dX e aX m){i:Nat}(hi:i∈bf)(hL:¬L i){lo:LO}(gY:cD bS i=some lo):∀t k,L k->lo.dst=some t->c9 bS t k=false:=by
 intro t k hk hd;cases hw:c9 bS t k with
 |false=>rfl
 |true=>
  have:=h.Ah t i k hi (h.sub k hk) (kS.2 ⟨lo,gY,hd⟩) hw;exact absurd (this▸hk) hL
theorem DS.GQ{K:List CV->Mem->Prop}{L L':Nat->Prop}{bf:List Nat}{c:Bool}{R:nD}{val:Nat->CV}{dX:List (Nat×LO×List CV×CV)}{e aX:List CV}{m:Mem}(h:DS P bS ms n gP e0 K L bf c R val dX e aX m)(BG:∀i j,nf ms i j=true->Sz gP i j){i:Nat}(hi:i∈bf)(hL:¬L i)(hr:∀k,Edge gP i k->L k)(yR:∀k,L' k↔L k\/k=i){ops:Array Oper}{o:Oper}{lo:LO}(ho:ops[i]? =some o)(gY:cD bS i=some lo)(jE:vC P ops o=some lo){U:bF}{a:Act}{w:World}(hI:Inv N ρ0 m0 w0 ⟨aX,m⟩ U a w){K1:Act->World->Prop}{Q:Exit->Act->World->Prop}(hn:∀fw U' a' w',Inv N ρ0 m0 w0 ⟨fw,m⟩ U' a' w'->DS P bS ms n gP e0 K L' bf c R val dX e fw m->K1 a' w'):wpOp P ops Q i K1 a w:=by
 obtain⟨Eo,e1,h1,h2,h3,h4,h5⟩:=h.ta i hi hL;rw[gY]at h1;cases h1;have Y3:=h5.XK h.yc BG h.down h.sub hL hr;have hv:=uv (lo:=lo) (K:=λv' m'=>v'=val i/\m'=m) (λt ht=>Y3 t (by simpa[n9,gY]using ht)) h4
 refine yO ho jE hI hv λv m' U' a' w' hk px=>?_
 obtain⟨rfl,rfl⟩:=hk;refine hn _ U' a' w' px ⟨h.go,h.Vw,h.rx,h.yc.step gY (h.Vx hi hL gY) rfl (λ_ _=>rfl) yR,λj hj=>?_,λx y Ir hx=>?_,h.Ah,λj hj XO=>h.ta j hj λhl=>XO ((yR j).2 (.inl hl))⟩
 .rcases(yR j).1 hj with hj|rfl
  .exact h.sub j hj
  .exact hi
 .rcases(yR x).1 hx with hx|rfl
  .exact(yR y).2 (.inl (h.down x y Ir hx))
  .exact(yR y).2 (.inl (hr y Ir))
theorem DS.SB{K:List CV->Mem->Prop}{L L':Nat->Prop}{bf:List Nat}{c:Bool}{i:Nat}{l:List Nat}{R:nD}{val:Nat->CV}{dX:List (Nat×LO×List CV×CV)}{e aX:List CV}{m:Mem}(h:DS P bS ms n gP e0 K L bf c (.cons i (some l) R) val dX e aX m)(BG:∀i j,nf ms i j=true->Sz gP i j)(hr:∀k,Edge gP i k->L k)(yR:∀k,L' k↔L k\/k=i){ops:Array Oper}{o:Oper}{lo:LO}(ho:ops[i]? =some o)(gY:cD bS i=some lo)(jE:vC P ops o=some lo){U:bF}{a:Act}{w:World}(hI:Inv N ρ0 m0 w0 ⟨aX,m⟩ U a w){K1:Act->World->Prop}{Q:Exit->Act->World->Prop}(hn:∀ji ry e' fw m' U' a' w',Inv N ρ0 m0 w0 ⟨fw,m'⟩ U' a' w'->DS P bS ms n gP e0 K L' (i::bf) true R ji ry e' fw m'->K1 a' w'):wpOp P ops Q i K1 a w:=by
 have py:=h.go;simp only[dS,aab]at py;obtain⟨_,Ce,g7,g8⟩:=py;obtain⟨g1,g2,g4,g5⟩:=jj Ce;have hc:=h.Vw;simp only[yx,Gz]at hc;obtain⟨Eo,Vy,hc⟩:=aZ.1 hc;rw[gY]at Vy;cases Vy;have hiL:¬L i:=λhl=>g2 (h.sub i hl)
 have Vz:∀k,nf ms i k=true->L k:=λk hm=>BG i k hm L h.down hr
 have vQ:nF P lo e m λ_ v m'=>US P m' dX l/\uL P bS R dX K (yb lo.dst v e) m':=by
  rw[gy]at hc|-;rcases hc with⟨h1,h2⟩|⟨h1,h2⟩
  .exact .inl ⟨h1,yN h2 λv m' hk=>rq.1 hk⟩
  .exact .inr ⟨h1,rq.1 h2⟩
 have Lp:HW bS i=lo.dst:=by simp[HW,gY]
 have Y3:∀t,t∈lo.looks->kh e t=kh aX t:=λt ht=>by
  rw[lN,lN];rcases aad t e0.length with aD|d7
  .by_cases hex:∃k,k∈bf/\c9 bS t k=true
   .obtain⟨k,hk,hw⟩:=hex;rw[h.rx.on t k hk hw aD,h.yc.on t k (Vz k (g4 t (by simpa[n9,gY]using ht) k hk hw)) hw aD]
   .have EB:∀k,k∈bf->c9 bS t k=false:=λk hk=>by
     cases hw:c9 bS t k with
     |false=>rfl
     |true=>exact absurd ⟨k,hk,hw⟩ hex
    rw[h.rx.off t EB,h.yc.off t λk hk=>EB k (h.sub k hk)]
  .rw[aaZ (by rw[h.rx.len];exact d7),aaZ (by rw[h.yc.len];exact d7)]
 have hv:=uv Y3 vQ;have BF:∀t k,k∈bf->lo.dst=some t->c9 bS t k=false:=λt k hk hd=>(g5 t (by rw[Lp];exact hd) k hk).1
 have SA:∀t,c9 bS t i=true->lo.dst=some t:=λt hw=>by obtain⟨Eo,h1,h2⟩:=kS.1 hw;rw[gY]at h1;cases h1;exact h2
 refine yO ho jE hI hv λv m' U' a' w' hk px=>?_
 obtain⟨Y4,hd⟩:=hk;let ji:Nat->CV:=λk=>if k=i then v else val k
 have jF:∀k,k∈bf->ji k=val k:=λk hk=>if_neg λ(e:k=i)=>g2 (e▸hk)
 refine hn ji dX _ _ m' U' a' w' px ⟨g8,hd,h.rx.step gY BF (by simp[ji]) jF (by simp[or_comm]),
  h.yc.step gY (λt k hk hd=>BF t k (h.sub k hk) hd) (by simp[ji]) (λk hk=>jF k (h.sub k hk)) yR,λj hj=>?_,λx y Ir hx=>?_,λt j k hj hk Lq GP=>?_,λj hj XO=>?_⟩
 .rcases(yR j).1 hj with hj|rfl
  .simp[h.sub j hj]
  .simp
 .rcases(yR x).1 hx with hx|rfl
  .exact(yR y).2 (.inl (h.down x y Ir hx))
  .exact(yR y).2 (.inl (hr y Ir))
 .rcases aa1.1 hj with e1|ya<;>rcases aa1.1 hk with e2|jZ
  .rw[e1,e2]
  .rw[e1]at Lq;rw[BF t k jZ (SA t Lq)]at GP;cases GP
  .rw[e2]at GP;rw[BF t j ya (SA t GP)]at Lq;cases Lq
  .exact h.Ah t j k ya jZ Lq GP
 .have hjL:¬L j:=λhl=>XO ((yR j).2 (.inl hl))
  have hji:j≠i:=λe=>XO ((yR j).2 (.inr e))
  have ya:j∈bf:=by
   rcases aa1.1 hj with e|h
   .exact absurd e hji
   .exact h
  obtain⟨Eo,e1,h1,h2,h3,h4,h5,h6⟩:=h.ta j ya hjL;refine⟨Eo,e1,h1,h2,by rw[jF j ya];exact h3,?_,h5,λt ht aD=>?_⟩
  .rw[jF j ya];have g7j:=aby.1 g7 j ya;have SC:lM bS j=true:=by simpa[lM,h1]using h2
   simp only[SC,ac6,ach,abU,List.contains_iff_mem]at g7j;rcases g7j with hm|hp|hl
   .exact absurd (Vz j hm) hjL
   .exact h4.pure (by simpa[D7,h1]using hp) m'
   .have:=Cf Y4 hl;rw[h3]at this;obtain⟨_,hx,Uj⟩:=aZ.1 this;cases hx;obtain⟨v',hv',hq⟩:=uw h2 Uj;simp only at hv';rw[<-hv'];exact hq
  .rcases h6 t ht aD with⟨k,hk,hw,hm,he⟩|⟨fI,he⟩
   .exact .inl ⟨k,by simp[hk],hw,hm,by rw[jF k hk];exact he⟩
   .refine .inr ⟨λk hk hw=>?_,he⟩
    rcases aa1.1 hk with e2|jZ
    .rw[e2]at hw|-;exact .inr ((g5 t (by rw[Lp];exact SA t hw) j ya).2 ht)
    .exact fI k jZ hw
theorem DS.any{K:List CV->Mem->Prop}{L L':Nat->Prop}(BG:∀i j,nf ms i j=true->Sz gP i j){i:Nat}(iS:i<n)(hL:¬L i)(hr:∀k,Edge gP i k->L k)(yR:∀k,L' k↔L k\/k=i){ops:Array Oper}{o:Oper}{lo:LO}(ho:ops[i]? =some o)(gY:cD bS i=some lo)(jE:vC P ops o=some lo){aX:List CV}{m:Mem}{U:bF}{a:Act}{w:World}(hI:Inv N ρ0 m0 w0 ⟨aX,m⟩ U a w){K1:Act->World->Prop}{Q:Exit->Act->World->Prop}(hn:∀bf R ji ry e' fw m' U' a' w',Inv N ρ0 m0 w0 ⟨fw,m'⟩ U' a' w'->DS P bS ms n gP e0 K L' bf true R ji ry e' fw m'->K1 a' w'):
  ∀(R:nD)(bf:List Nat)(c:Bool)(val:Nat->CV)(dX:List (Nat×LO×List CV×CV))(e:List CV),(c=false->i∈R.hd)->DS P bS ms n gP e0 K L bf c R val dX e aX m->wpOp P ops Q i K1 a w:=by
 intro R
 induction R with
 |nil=>
  intro bf c val dX e hc h;cases c with
  |false=>have:=hc rfl;simp[nD.hd]at this
  |true=>
   have py:=h.go;simp only[dS,ac7,aby]at py;have hi:i∈bf:=by simpa using py i (by simpa using iS)
   exact h.GQ BG hi hL hr yR ho gY jE hI λfw U' a' w'=>hn _ _ _ _ _ fw m U' a' w'
 |cons q KB R ih=>
  intro bf c val dX e hc h;cases KB with
  |none=>
   have hct:c=true:=by have py:=h.go;simp only[dS,aab]at py;exact py.1
   subst hct;by_cases hi:i∈bf
   .exact h.GQ BG hi hL hr yR ho gY jE hI λfw U' a' w'=>hn _ _ _ _ _ fw m U' a' w'
   .obtain⟨ji,ry,e',h'⟩:=h.ahead;exact ih _ _ _ _ _ (λh=>by cases h) h'
  |some l=>
   have py:=h.go;simp only[dS,aab]at py;obtain⟨Lr,Ce,_⟩:=py;obtain⟨_,g2,_⟩:=jj Ce;by_cases hi:i∈bf
   .cases c with
    |false=>
     have hq:=hc rfl;simp only[nD.hd,ab7]at hq;subst hq;exact absurd hi g2
    |true=>exact h.GQ BG hi hL hr yR ho gY jE hI λfw U' a' w'=>hn _ _ _ _ _ fw m U' a' w'
   .have yd:q=i:=by
     cases c with
     |false=>
      have hq:=hc rfl;simp only[nD.hd,ab7]at hq;exact hq.symm
     |true=>
      simp only[ac6,ach]at Lr;rcases yP Lr iS hi with hq|⟨f,hf,hm⟩
      .simpa using Eq.symm (by simpa using hq)
      .simp only[ab7]at hf;subst hf;exact absurd (h.sub _ (BG i _ hm L h.down hr)) g2
    subst yd;exact h.SB BG hr yR ho gY jE hI λji ry e' fw m' U' a' w'=>hn _ _ _ _ _ fw m' U' a' w'
 |vn x y SD Ls=>
  intro bf c val dX e hc h;have py:=h.go;simp only[dS,aab]at py;obtain⟨Lr,hgx,hgy⟩:=py;obtain⟨_,hhx⟩:=kT hgx;obtain⟨_,hhy⟩:=kT hgy;have SE:=h.Vw;simp only[KL]at SE;have goX:i∈x.hd->wpOp P ops Q i K1 a w:=λhi=>SD bf false val dX e (λ_=>hi) ⟨hgx,SE.1,h.rx,h.yc,h.sub,h.down,h.Ah,h.ta⟩
  have goY:i∈y.hd->wpOp P ops Q i K1 a w:=λhi=>Ls bf false val dX e (λ_=>hi) ⟨hgy,SE.2,h.rx,h.yc,h.sub,h.down,h.Ah,h.ta⟩
  cases c with
  |false=>
   have hq:=hc rfl;simp only[nD.hd,abD]at hq;exact hq.elim goX goY
  |true=>
   by_cases hi:i∈bf
   .exact h.GQ BG hi hL hr yR ho gY jE hI λfw U' a' w'=>hn _ _ _ _ _ fw m U' a' w'
   .simp only[ac6,ach]at Lr;rcases yP Lr iS hi with hq|⟨f,hf,hm⟩
    .rcases abD.1 hq with hq|hq
     .exact goX hq
     .exact goY hq
    .have hfL:=h.sub _ (BG i f hm L h.down hr);rcases abD.1 hf with hf|hf
     .exact absurd hfL (hhx f hf).2
     .exact absurd hfL (hhy f hf).2
theorem yS:∀(l:List Bool)(i:Nat),l[i]? =some false->(l.set i true).count false+1=l.count false
 | [],i,h=>by simp at h
 |b::r,0,h=>by simp at h;subst h;simp
 |b::r,i+1,h=>by
  have:=yS r i (by simpa using h)
  cases b<;>simp[List.count_cons]at this|-<;>omega
theorem O7{md:Region.Mode}{ops:Array Oper}{Q:Exit->Act->World->Prop}{K:List CV->Mem->Prop}(hQ:∀aX m U a w,K aX m->Inv N ρ0 m0 w0 ⟨aX,m⟩ U a w->Q .normal a w)(BG:∀i j,nf ms i j=true->Sz (kP md ops) i j)(Y5:∃l,yv (kP md ops) n [] l=true)(Ai:∀(i:Nat)o,ops[i]? =some o->∃lo,cD bS i=some lo/\vC P ops o=some lo)(hn:n=ops.size)(jT:n=bS.length):
  ∀(fuel:Nat) (listed:Array Bool) (a:Act) (w:World) (U:bF) (m:Mem) (aX:List CV) (bf:List Nat) (R:nD) (val:Nat->CV)
   (dX:List (Nat×LO×List CV×CV)) (e:List CV),listed.size=n->listed.toList.count false=fuel->Inv N ρ0 m0 w0 ⟨aX,m⟩ U a w->
   DS P bS ms n (kP md ops) e0 K (λi=>listed[i]? =some true) bf true R val dX e aX m->wpAny P md ops Q fuel listed a w:=by
 have Lt:∀(listed:Array Bool)i,i∈Region.ready md ops listed->listed[i]? =some false/\i<ops.size/\∀k,Edge (kP md ops) i k->listed[k]? =some true:=by
  intro listed i hi;obtain⟨h0,o,ho,fI⟩:=mem_ready.1 hi;refine⟨?_,(aap.1 ho).1,λk hk=>?_⟩
  .rw[abG]at h0;cases hg:listed[i]? with
   |none=>rw[hg]at h0;simp at h0
   |some b=>rw[hg]at h0;simp at h0;rw[h0]
  .obtain⟨l,hl,f8⟩:=hk;simp only[kP,RA,abB,ho,aaz,aam]at hl;subst hl;obtain⟨ed,VA,rfl⟩:=aak.1 f8;obtain⟨Y6,Y7⟩:=ab6.1 VA;have:=fI ed (by simpa using Y6) Y7
   rw[abG]at this;cases hg:listed[ed.on]? with
   |none=>rw[hg]at this;simp at this
   |some b=>rw[hg]at this;simp at this;rw[this]
 have SF:∀(i:Nat)o ed,ops[i]? =some o->ed∈o.after->Region.binds md ed=true->Edge (kP md ops) i ed.on:=by
  intro i o ed ho VA hb;refine⟨(o.after.toList.filter (Region.binds md)).map (·.on),?_,?_⟩
  .simp[kP,RA,ho]
  .exact aak.2 ⟨ed,ab6.2 ⟨by simpa using VA,hb⟩,rfl⟩
 intro fuel
 induction fuel with
 |zero=>
  intro listed a w U m aX bf R val dX e dn VB hI h;have fI:∀i,i<n->listed[i]? =some true:=by
   intro i hi;have aD:i<listed.size:=om;rw[abK aD];have jS:=List.count_eq_zero.1 VB;cases hb:listed[i]with
   |true=>rfl
   |false=>exact absurd (by rw[<-hb];exact Array.getElem_mem_toList aD) jS
  constructor
  .rw[List.eq_nil_iff_forall_not_mem];intro i hi;obtain⟨h1,h2,_⟩:=Lt listed i hi;rw[fI i om]at h1;cases h1
  .have hR:R= .nil:=by
    cases R with
    |nil=>rfl
    |cons q KB R=>
     have py:=h.go;cases KB with
     |none=>
      simp only[dS,aab]at py;obtain⟨g1,g2,_⟩:=jj py.2.1;exact absurd (h.sub q (fI q g1)) g2
     |some l=>
      simp only[dS,aab]at py;obtain⟨g1,g2,_⟩:=jj py.2.1;exact absurd (h.sub q (fI q g1)) g2
    |vn x y=>
     have py:=h.go;simp only[dS,aab]at py;obtain⟨⟨f,hf⟩,hx⟩:=kT py.2.1;obtain⟨g1,g2⟩:=hx f hf;exact absurd (h.sub f (fI f g1)) g2
   subst hR;have hbf:∀i,i∈bf->i<n\/n<=i:=λi _=>aad i n
   have hnw:∀i t,n<=i->c9 bS t i=false:=by
    intro i t hi;cases hw:c9 bS t i with
    |false=>rfl
    |true=>
     obtain⟨lo,gY,_⟩:=kS.1 hw;rw[aT]at gY;have:=(I4.1 gY).1;omega
   have he:e=aX:=by
    have e1:lS bS e0 (λi=>i∈bf/\i<n) val e:=⟨h.rx.len,λt k hk=>h.rx.on t k hk.1,λt VC=>h.rx.off t λk hk=>by
     rcases hbf k hk with aD|d7
     .exact VC k ⟨hk,aD⟩
     .exact hnw k t d7⟩
    have e2:lS bS e0 (λi=>i∈bf/\i<n) val aX:=h.yc.Vv (λ_ _=>rfl) λk=>⟨λhk=>fI k hk.2,λhk=>⟨h.sub k hk,by have:=(aap.1 hk).1;omega⟩⟩
    exact e1.ext e2
   subst he;exact hQ _ _ U a w h.Vw hI
 |succ fuel ih=>
  intro listed a w U m aX bf R val dX e dn VB hI h;constructor
  .intro Sf;exfalso;have hex:∃i:Nat,listed[i]? =some false:=by
    have:false∈listed.toList:=by apply List.count_pos_iff.1;omega
    obtain⟨i,hi⟩:=Xt this;exact⟨i,by simpa using hi⟩
   obtain⟨i,hi⟩:=hex;obtain⟨l,hl⟩:=Y5;have iS:i<n:=by have:=(aap.1 hi).1;omega
   have:=vZ (L:=λi=>listed[i]? =some true) (λi hi O8=>?_) l [] hl (λ_ h=>by cases h) i iS
   .rw[hi]at this;cases this
   .refine Z5 λVD=>?_
    have aD:i<ops.size:=om;have Cg:i<listed.size:=om;have hf:listed[i]? =some false:=by
     rw[abK Cg]at O8|-;cases fx:listed[i]with
     |true=>rw[fx]at O8;exact absurd rfl O8
     |false=>rfl
    have hm:i∈Region.ready md ops listed:=by
     rw[mem_ready];refine⟨by rw[abG,hf];rfl,ops[i],abK aD,λed VA hb=>?_⟩
     have hE:=SF i _ ed (abK aD) VA hb;have hL:listed[ed.on]? =some true:=Z5 λhc=>VD ⟨_,hE,hc⟩
     rw[abG,hL];rfl
    rw[Sf]at hm;cases hm
  .intro i hi;obtain⟨h1,h2,h3⟩:=Lt listed i hi;obtain⟨lo,gY,jE⟩:=Ai i _ (abK h2);have aD:i<listed.size:=om;refine DS.any (L:=λi=>listed[i]? =some true) (L':=λk=>(listed.setIfInBounds i true)[k]? =some true) BG om (by rw[h1];simp) h3 (λk=>?_) (abK h2) gY jE hI
    (λbf R ji ry e' fw m' U' a' w' px h'=>ih _ a' w' U' m' fw bf R ji ry e' (by simp[dn]) ?_ px h') R bf true val dX e (λh=>by cases h) h
   .by_cases hk:i=k
    .subst hk;rw[abY aD];simp
    .rw[ab8 hk];constructor
     .exact .inl
     .rintro(h|h)
      .exact h
      .exact absurd h.symm hk
   .have:=yS listed.toList i (by simpa using h1)
    rw[Array.toList_setIfInBounds];omega
theorem EC{md:Region.Mode}{ops:Array Oper}{Q:Exit->Act->World->Prop}{K:List CV->Mem->Prop}(hQ:∀aX m U a w,K aX m->Inv N ρ0 m0 w0 ⟨aX,m⟩ U a w->Q .normal a w){bS:List LO}(jE:mA P ops ops.toList=some bS){sched:nD}(gO:qX bS (kP md ops) sched=true){st:St}(h:uL P bS sched [] K st.aX st.mem){U:bF}{a:Act}{w:World}(hI:Inv N ρ0 m0 w0 st U a w):wpAny P md ops Q ops.size (Array.replicate ops.size false) a w:=by
 obtain⟨hlen,Ai⟩:=yQ jE;simp only[qX,aab]at gO;have BG:∀i j,nf (bj bS.length (kP md ops)) i j=true->Sz (kP md ops) i j:=Iq;have jS:∀i:Nat,¬(Array.replicate ops.size false)[i]? =some true:=by
  intro i hi;rw[Array.getElem?_replicate]at hi;split at hi<;>simp at hi
 refine O7 (n:=bS.length) (e0:=st.aX) hQ BG ⟨_,gO.1⟩ (λi o ho=>Ai i o (by simpa using ho)) (by simpa using hlen.symm) rfl ops.size _ a w U st.mem st.aX [] sched (λ_=>.undef) [] st.aX
  (by simpa using hlen) aC hI ?_
 exact⟨gO.2,h,⟨rfl,λt k hk=>(acn hk).elim,λ_ _=>rfl⟩,⟨rfl,λt k hk=>absurd hk (jS k),λ_ _=>rfl⟩,λi hi=>absurd hi (jS i),λi j _ hi=>absurd hi (jS i),λt j k hj=>(acn hj).elim,λj hj=>(acn hj).elim⟩
theorem Ch{bS:List LO}{K:Ex->St->Prop}{s:St}:∀{l:List nD},OO P bS K s l->∀x,x∈l->uL P bS x [] (HY K) s.aX s.mem
 | [],_,x,hx=>by cases hx
 | [y],h,x,hx=>by obtain rfl:=ab7.1 hx;exact h
 |y::z::r,h,x,hx=>by
  rcases aa1.1 hx with rfl|hx
  .exact h.1
  .exact Ch h.2 x hx
theorem Aj{ops:Array Oper}{Q:Exit->Act->World->Prop}{K:Ex->St->Prop}(hQ:∀aX m U a w,K .normal ⟨aX,m⟩->Inv N ρ0 m0 w0 ⟨aX,m⟩ U a w->Q .normal a w){bS:List LO}(jE:mA P ops ops.toList=some bS){pY:List nD}(gO:vD P bS ops=some pY){st:St}(h:OO P bS K st pY){U:bF}{a:Act}{w:World}(hI:Inv N ρ0 m0 w0 st U a w)(t:Nat):wpOps P ops Q (Region.schedule (P.follows .mixedOrders) ops t) a {w with drawn:=w.drawn+1}:=by
 have fI:∀md,md∈u9 P ops->∃s,s∈pY/\qX bS (kP md ops) s=true:=by
  simp only[vD]at gO;split at gO
  .rename_i hc;cases gO;exact λmd Un=>⟨_,aC,aby.1 hc md Un⟩
  .split at gO
   .rename_i hc;cases gO;exact λmd Un=>by have:=aby.1 hc md Un;obtain⟨s,hs,DT⟩:=abm.1 this;exact⟨s,hs,DT⟩
   .cases gO
 have lE:∀md,md∈u9 P ops->wpAny P md ops Q ops.size (Array.replicate ops.size false) a {w with drawn:=w.drawn+1}:=λmd Un=>by obtain⟨s,hs,DT⟩:=fI md Un;exact EC (K:=HY K) hQ jE DT (Ch h s hs) hI.drew
 unfold Region.schedule;unfold u9 at lE;split
 .rename_i hc;rw[if_pos hc]at lE;exact wpAny_sound ops.size t _ a _ (lE .any aC)
 .rename_i hc;rw[if_neg hc]at lE;split
  .exact wpAny_sound ops.size (t/2) _ a _ (lE .text aC)
  .exact wpAny_sound ops.size (t/2) _ a _ (lE .gc aC)
end
section
variable {P:Program}
def FR(r:Option Nat):Fence:={Fence.wide with round:=r}
theorem O9:FR none=Fence.wide:=rfl
theorem GR(l:Nat):FR (some l)=Fence.wide.inRound l:=rfl
theorem Pa{o:Oper}{i:I}(h:sO P o=some i):∀c,o.op≠.defer c:=by
 intro c e;unfold sO at h;have h0:vB P o=none:=by unfold vB;rw[e]
 rw[h0,e]at h;cases h
theorem wa{ops:Array Oper}:∀{l:List Oper}{bS:List LO},mA P ops l=some bS->∀o,o∈l->∀c,o.op≠.defer c
 | [],bS,h,o,ho=>by cases ho
 |o1::r,bS,h,o,ho=>by
  obtain⟨lo,lr,rfl,h1,h2⟩:=s8 h o1 r rfl;cases ho with
  |head=>
   simp only[vC,RX,N0]at h1;obtain⟨i,hi,_⟩:=h1;exact Pa hi
  |tail _ ho=>exact wa h2 o ho
theorem iE{r:Option Nat}{ops:Array Oper}{Q:Exit->Act->World->Prop}(lB:∀o,o∈ops.toList->∀c,o.op≠.defer c)(hQ:¬LetsOut Q):
  ∀(l:List Nat)(a:Act)(w:World),wpOps P ops Q l a w->wpOpsIn (FR r) 0 P ops Q l a w
 | [],a,w,h=>h
 |i::rest,a,w,h=>by
  simp only[wpOps]at h;simp only[wpOpsIn];cases ho:ops[i]? with
  |none=>rw[ho]at h;exact iE lB hQ rest a w h
  |some o=>
   rw[ho]at h;simp only at h|-;have iD:o∈ops.toList:=by have:=aap.1 ho;obtain⟨h1,h2⟩:=this;rw[<-h2];exact acW.2 (Array.getElem_mem h1)
   split
   .rename_i hw;rw[if_pos hw]at h;rcases h with h|⟨_,h⟩
    .refine⟨λ_ _=>trivial,?_⟩
     have e:o.semAt (FR r).round a.eval=execOp a.eval o:=Oper.semAt_eq _ _ _ (lB o iD);rw[e];unfold Oper.wp at h;have up:∀{lK:Result Next},o.upon P a (wpOps P ops Q rest) Q lK->o.uponIn (FR r) 0 P a (wpOpsIn (FR r) 0 P ops Q rest) Q lK:=by
      intro lK h;unfold Oper.upon at h;split at h
      .exact iE lB hQ rest _ _ h
      .exact iE lB hQ rest _ _ h
      .exact iE lB hQ rest _ _ h
      .refine⟨by simp[FR,Fence.wide],?_⟩
       have h2:=(callsIn_wide (n:=0-1)).2 h;have h3:CallsIn (FR r) (0-1) P _ _ _ _:=h2;refine h3.mono λe w' hR=>?_
       cases e with
       |returned v=>exact iE lB hQ rest _ _ hR
       |panicked c=>exact hR
       |outgrown=>exact hR
      .refine⟨by simp[FR,Fence.wide],?_⟩
       intro c cs _;obtain⟨v,w',hR,hs⟩:=h c cs;exact⟨v,w',iE lB hQ rest _ _ hR,(stepsIn_wide.2 hs:StepsIn (Machine.fenced P Fence.wide) P _ _)⟩
      .exact h
      .exact h.elim
     exact up h
    .exact absurd h hQ
   .rename_i hw;rw[if_neg hw]at h;exact⟨λ_ _=>trivial,iE lB hQ rest _ _ h⟩
theorem uS{F:Fence}{n:Nat}{γ:Type}{c:Code}{Q:Exit->Act->World->Prop}{a:Act}{w:World}(I:γ->Act->World->Prop)(μ:γ->Nat)(g0:γ)(h₀:I g0 a w)(round:∀g a w,I g a w->c.wpIn F n P (Exit.then (λa' w'=>∃g',I g' a' w'/\μ g'<μ g) Q) a w):(Code.loop c).wpIn F n P Q a w:=by
 intro b k cs Y8 hb hr;have key:∀j g a w,μ g=j->I g a w->
   ∃e a' w',Q e a' w'/\ArrivesIn (Machine.fenced P F) P (lone (b.atR a (.code c:: .inLoop c::k)) cs w) b k cs e a' w':=by
  intro j
  induction j using Nat.strongRecOn with
  |_ j ih=>
   intro g a w hn hI;obtain⟨e,a₁,w₁,hq,Ci⟩:=round g a w hI b (.inLoop c::k) cs Y8 hb hr;cases e with
   |normal=>
    obtain⟨g₁,VE,aD⟩:=hq;obtain⟨e₂,a₂,w₂,VF,Pb⟩:=ih (μ g₁) (hn▸aD) g₁ a₁ w₁ rfl VE;exact⟨e₂,a₂,w₂,VF,.of_steps (StepsIn.trans Ci (.one (fenced_calm hb hr rfl) stepR_inLoop)) Pb⟩
   |exit id=>exact⟨_,a₁,w₁,hq,.pass (x:= .inLoop c) rfl (λ_ _=>.inl aC) Ci⟩
   |goto l=>exact⟨_,a₁,w₁,hq,.pass (x:= .inLoop c) rfl (λ_ _=>.inl aC) Ci⟩
   |ret=>exact⟨_,a₁,w₁,hq,.pass (x:= .inLoop c) rfl (λ_ _=>.inl aC) Ci⟩
   |panic ch=>exact⟨_,a₁,w₁,hq,.pass (x:= .inLoop c) rfl (λ_ _=>.inl aC) Ci⟩
   |outgrown=>exact⟨_,a₁,w₁,hq,.pass (x:= .inLoop c) rfl (λ_ _=>.inl aC) Ci⟩
 obtain⟨e,a',w',hq,Ci⟩:=key _ g0 a w rfl h₀;exact⟨e,a',w',hq,.of_steps (.one (fenced_calm hb hr rfl) stepR_loop) Ci⟩
structure uT(U:bF)(m:Mem)(w w':World):Prop where
 size:w.heap.size<=w'.heap.size
 S:∀b,U.S b->w'.heap[b]? =w.heap[b]?
 aQ:∀k,Live U m k->w'.heap[(U.aH k).b]? =w.heap[(U.aH k).b]?
theorem uT.cm{U:bF}{m:Mem}{w w':World}(h:uT U m w w'):iz U w U w':=⟨Ts _,λ_ _=>rfl,λ_ h=>h,h.S⟩
theorem au.uU{U:bF}{m:Mem}{w w':World}(hM:au U m w)(h:uT U m w w'):au U m w':=by
 have g:=h.cm;refine⟨hM.n,λb hb=>aa0 (hM.S b hb) h.size,λk hk=>⟨aa0 (hM.aQ k hk).1 h.size,(hM.aQ k hk).2⟩,hM.inj,λid b hb=>?_,λid i j esz el ho bc=>?_⟩
 .have h1:=hM.bk id b hb;cases b with
  |aS=>trivial
  |var cs=>
   obtain⟨cur,bT,h2⟩:=h1;exact⟨cur,bT.dv (h.aQ (.al id) ⟨_,hb,aC,aC⟩),λj c hj=>let⟨u,hu,hd⟩:=h2 j c hj;⟨u,hu,bh.cm g aC hd⟩⟩
  |row esz elems=>
   obtain⟨h2,h3,h4,h5,h6⟩:=h1;refine⟨h2,h3,h4,h5,λhp=>?_⟩
   obtain⟨cur,bT,h7,h8⟩:=h6 hp;exact⟨cur,bT.dv (h.aQ (.al id) ⟨_,hb,aC,λ_=>hp⟩),h7,λi cs j c hi hj=>let⟨u,hu,hd⟩:=h8 i cs j c hi hj;⟨u,hu,bh.cm g (by intro jX i' j' e';cases e';rw[hM.n];exact(I4.1 hb).1) hd⟩⟩
  |mp es=>
   obtain⟨bx,ck,h2,h3,h4⟩:=h1;exact⟨bx,ck,⟨(h.aQ (.al id) ⟨_,hb,aC,aC⟩).trans h2.1,h2.2⟩,h3,λi e he=>let⟨e',mr,hk,hd⟩:=h4 i e he;⟨e',mr,hk,dq.cm g hd⟩⟩
  |it cur left=>
   obtain⟨mb,seen,ck,bx,h2,h3,h4,h5,h6⟩:=h1;exact⟨mb,seen,ck,bx,(h.aQ (.al id) ⟨_,hb,aC,aC⟩).trans h2,h3,h4,(h.S mb h4).trans h5,h6⟩
  |mo esz es so=>exact cI.cm (bk:= .mo esz es so) g (by rw[hM.n];exact(I4.1 hb).1) (λ_ _=>h.aQ (.al id) ⟨_,hb,aC,aC⟩) h1
  |iw mid gU seen=>exact cI.cm (bk:= .iw mid gU seen) g (by rw[hM.n];exact(I4.1 hb).1) (λ_ _=>h.aQ (.al id) ⟨_,hb,aC,aC⟩) h1
 .obtain⟨cur,bT,h2,h3,h4⟩:=hM.dV id i j esz el ho bc;exact⟨cur,bT.dv (h.aQ (.sub id i j) ⟨⟨_,_,ho⟩,bc⟩),h2,h3,λi cs j d hi hj=>let⟨u,hu,hd⟩:=h4 i cs j d hi hj;⟨u,hu,c7.mono g.S g.heap hd⟩⟩
theorem bi.cm{U U':bF}{w w':World}{aX:List CV}{tmps:Array Value}(g:iz U w U' w')(hE:bi U w aX tmps):bi U' w' aX tmps:=
 ⟨hE.size,λi c hi=>let⟨v,hv,hd⟩:=hE.jR i c hi;⟨v,hv,bZ.cm g hd⟩⟩
theorem Ey.uU{N:Nat}{U:bF}{m:Mem}{w w':World}{ds:List Deferred}(h:uT U m w w')(hd:Ey N U w ds):Ey N U w' ds:=by obtain⟨Ds,h1,h2,h3⟩:=hd;exact⟨Ds,h1,h2,λD hD=>⟨(h3 D hD).1,(h3 D hD).2.1,(h.S D (h3 D hD).2.1).trans (h3 D hD).2.2⟩⟩
variable {N:Nat} {ρ0:bF} {m0:Mem} {w0:World}
theorem Inv.uU{st:St}{U:bF}{a:Act}{w w':World}(hI:Inv N ρ0 m0 w0 st U a w)(h:uT U st.mem w w')(hb:∀b,b<w0.heap.size->w'.heap[b]? =w.heap[b]?)(ho:w'.os=w.os)(ht:w'.tape=w.tape)(hu:w'.output=w.output):Inv N ρ0 m0 w0 st U a w':=
 ⟨⟨hI.ext.n,hI.ext.aH,hI.ext.S,hI.ext.S',hI.ext.aQ,λb sX hk=>(hb b sX).trans (hI.ext.frame b sX hk),abH hI.ext.size h.size,ho.trans hI.ext.os,ht.trans hI.ext.tape,hu.trans hI.ext.output⟩,
  hI.mem.uU h,hI.aX.cm h.cm,hI.defers.uU h,hI.hN,hI.n0⟩
def qj(U:bF)(m:Mem)(b:Nat):Prop:= ¬U.S b/\∀k,Live U m k->(U.aH k).b≠b
theorem qj.ext{U U':bF}{m m':Mem}{w w':World}{b:Nat}(h:qj U m b)(x:Ext U m w U' m' w')(hb:b<w.heap.size):qj U' m' b:=by
 refine⟨λhs=>?_,λk hk e=>?_⟩
 .rcases x.S' b hs with h1|h1|⟨k,hk,e⟩
  .exact h.1 h1
  .omega
  .exact h.2 k hk e
 .rcases x.aQ k hk with h1|⟨k0,h0,e0⟩
  .omega
  .exact h.2 k0 h0 (e0.trans e)
theorem qj.chg{n0:Nat}{U U':bF}{m m':Mem}{b:Nat}(h:qj U m b)(x:R7 n0 U m U' m'):qj U' m' b:=by
 refine⟨λhs=>?_,λk hk e=>?_⟩
 .rcases x.S' b hs with h1|⟨k,hk,e⟩
  .exact h.1 h1
  .exact h.2 k hk e
 .obtain⟨k0,h0,e0⟩:=x.aQ k hk;exact h.2 k0 h0 (e0.trans e)
theorem uT.put{U:bF}{m:Mem}{w:World}{l:Nat}(h:qj U m l)(o:Obj):uT U m w (w.putObj l o):=
 ⟨aC,λb hb=>World.putObj_heap_other (by rintro rfl;exact h.1 hb),λk hk=>World.putObj_heap_other (h.2 k hk)⟩
theorem Inv.put{st:St}{U:bF}{a:Act}{w:World}{l:Nat}(hI:Inv N ρ0 m0 w0 st U a w)(h:qj U st.mem l)(hl:w0.heap.size<=l)(o:Obj):Inv N ρ0 m0 w0 st U a (w.putObj l o):=
 hI.uU (uT.put h o) (λb hb=>World.putObj_heap_other om) rfl rfl rfl
theorem Inv.view{st jh:St}{U:bF}{a:Act}{w:World}(hI:Inv N ρ0 m0 w0 st U a w)(lR:ρ0.n=m0.length)(hw:View m0.length st jh):
  ∃U',Inv N ρ0 m0 w0 jh U' a w/\∀b,qj U st.mem b->qj U' jh.mem b:=by
 obtain⟨U',hM,hc,hd⟩:=hw.go U w hI.mem;refine⟨U',⟨⟨by rw[lR,hM.n];exact hw.hn,λid hid=>(hc.aH id (by rw[<-lR];exact hid)).trans (hI.ext.aH id hid),λb hb=>hc.S b (hI.ext.S b hb),λb hb=>?_,λk hk=>?_,hI.ext.frame,hI.ext.size,hI.ext.os,hI.ext.tape,hI.ext.output⟩,hM,?_,hI.defers.s hc.S,hI.hN,hw.hn⟩,λb h=>h.chg hc⟩
 .rcases hc.S' b hb with h|⟨k,hk,rfl⟩
  .exact hI.ext.S' b h
  .exact .inr (hI.ext.aQ k hk)
 .obtain⟨k0,h0,e0⟩:=hc.aQ k hk;rw[<-e0];exact hI.ext.aQ k0 h0
 .refine⟨hI.aX.size.trans hw.len.symm,λi c hi=>?_⟩
  obtain⟨c0,u7,Lm⟩:=hd i c hi;obtain⟨v,hv,pI⟩:=hI.aX.jR i c0 u7;exact⟨v,hv,Lm v pI⟩
theorem tc:∀(m:Mem)(jW:List Nat),(pF m jW).length=m.length
 |m,[]=>rfl
 |m,id::r=>by rw[pF,tc,a8,aaY]
theorem mH:∀(m:Mem)(jW:List Nat)(i:Nat)(bk:Bk),(pF m jW)[i]? =some bk->bk= .aS\/(m[i]? =some bk/\i∉jW)
 |m,[],i,bk,h=>.inr ⟨h,aC⟩
 |m,id::r,i,bk,h=>by
  rcases mH _ r i bk h with h|⟨h,hn⟩
  .exact .inl h
  .rw[a8]at h;by_cases hi:id=i
   .subst hi;have aD:id<m.length:=by have:=(I4.1 h).1;simpa using this
    rw[Tr aD]at h;exact .inl (by cases h;rfl)
   .rw[WE hi]at h;exact .inr ⟨h,by simp;exact⟨λe=>hi e.symm,hn⟩⟩
theorem uz:∀{m:Mem}{jW:List Nat}{cs:List Value},zT m jW cs->jW.length=cs.length/\∀(i:Nat)id v,jW[i]? =some id->cs[i]? =some v->m[id]? =some (.var [.aa (.val v)])/\cE v=true
 |m,[],[],_=>⟨rfl,aC⟩
 |m,id::r,v::vs,h=>by
  obtain⟨h1,h2⟩:=h;obtain⟨e,g⟩:=uz h2;refine⟨by simp[e],λi jX v' hi hv=>?_⟩
  cases i with
  |zero=>simp at hi hv;subst hi hv;rw[<-aT];exact h1
  |succ i=>exact g i jX v' (by simpa using hi) (by simpa using hv)
end
section
variable {P:Program} {N:Nat} {ρ0:bF} {m0:Mem} {w0:World}
structure Uo(U:bF)(m:Mem)(w w':World):Prop where
 size:w.heap.size<=w'.heap.size
 S:∀b off,U.S b->w'.cell? ⟨b,off,none⟩=w.cell? ⟨b,off,none⟩
 aQ:∀k,Live U m k->w'.heap[(U.aH k).b]? =w.heap[(U.aH k).b]?
 maps:∀b es ck,U.S b->w.heap[b]? =some (.map es ck)->w'.heap[b]? =some (.map es ck)
theorem c7.Ak{S:Nat->Prop}{w w':World}(hw:∀b off,S b->w'.cell? ⟨b,off,none⟩=w.cell? ⟨b,off,none⟩){d:Dt}{v:Value}(h:c7 S w d v):c7 S w' d v:=by
 induction h with
 |val v h=>exact .val v h
 |no a=>exact .no a
 |nil esz a cap hc=>exact .nil esz a cap hc
 |sl esz elems b off cap u hb hl bc dn hc hd ih=>
  exact .sl esz elems b off cap u hb hl bc dn (λi cs j d hi hj=>(hw b _ hb).trans (hc i cs j d hi hj)) ih
theorem bh.Ak{U:bF}{m:Mem}{w w':World}(x:Uo U m w w'){pos:Option (Nat×Nat×Nat)}{c:CC}{v:Value}(h:bh U w pos c v):bh U w' pos c v:=by
 cases c<;>simp only[bh]at h|-
 case aa=>exact h.Ak x.S
 case qS cs=>
  obtain⟨b,off,hv,hb,hc⟩:=h;exact⟨b,off,hv,hb,λj d hj=>let⟨u,hu,hd⟩:=hc j d hj;⟨u,(x.S b _ hb).trans hu,hd.Ak x.S⟩⟩
 all_goals exact h
theorem dq.Ak{U:bF}{m:Mem}{w w':World}(x:Uo U m w w'){r:RV}{v:Value}(h:dq U w r v):dq U w' r v:=by
 cases r with
 |one c=>exact bh.Ak x h
 |agg cs=>
  obtain⟨vs,hv,hl,hc⟩:=h;exact⟨vs,hv,hl,λi c hi=>let⟨u,hu,hd⟩:=hc i c hi;⟨u,hu,hd.Ak x⟩⟩
theorem bZ.Ak{U:bF}{m:Mem}{w w':World}(x:Uo U m w w'){r:CV}{v:Value}(h:bZ U w r v):bZ U w' r v:=by
 cases r with
 |ap=>trivial
 |undef=>exact h
 |rv r=>exact dq.Ak x h
 |bz rs=>
  obtain⟨vs,hv,hl,hc⟩:=h;exact⟨vs,hv,hl,λi c hi=>let⟨u,hu,hd⟩:=hc i c hi;⟨u,hu,hd.Ak x⟩⟩
theorem au.Ak{U:bF}{m:Mem}{w w':World}(hM:au U m w)(h:Uo U m w w'):au U m w':=by
 refine⟨hM.n,λb hb=>aa0 (hM.S b hb) h.size,λk hk=>⟨aa0 (hM.aQ k hk).1 h.size,(hM.aQ k hk).2⟩,hM.inj,λid b hb=>?_,λid i j esz el ho bc=>?_⟩
 .have h1:=hM.bk id b hb;cases b with
  |aS=>trivial
  |var cs=>
   obtain⟨cur,bT,h2⟩:=h1;exact⟨cur,bT.dv (h.aQ (.al id) ⟨_,hb,aC,aC⟩),λj c hj=>let⟨u,hu,hd⟩:=h2 j c hj;⟨u,hu,hd.Ak h⟩⟩
  |row esz elems=>
   obtain⟨h2,h3,h4,h5,h6⟩:=h1;refine⟨h2,h3,h4,h5,λhp=>?_⟩
   obtain⟨cur,bT,h7,h8⟩:=h6 hp;exact⟨cur,bT.dv (h.aQ (.al id) ⟨_,hb,aC,λ_=>hp⟩),h7,λi cs j c hi hj=>let⟨u,hu,hd⟩:=h8 i cs j c hi hj;⟨u,hu,hd.Ak h⟩⟩
  |mp es=>
   obtain⟨bx,ck,h2,h3,h4⟩:=h1;exact⟨bx,ck,⟨(h.aQ (.al id) ⟨_,hb,aC,aC⟩).trans h2.1,h2.2⟩,h3,λi e he=>let⟨e',mr,hk,hd⟩:=h4 i e he;⟨e',mr,hk,hd.Ak h⟩⟩
  |it cur left=>
   obtain⟨mb,seen,ck,bx,h2,h3,h4,h5,h6⟩:=h1;exact⟨mb,seen,ck,bx,(h.aQ (.al id) ⟨_,hb,aC,aC⟩).trans h2,h3,h4,h.maps mb bx ck h4 h5,h6⟩
  |mo esz es so=>
   obtain⟨bx,ck,h2,⟨h3,h4⟩,h5⟩:=h1;exact⟨bx,ck,⟨(h.aQ (.al id) ⟨_,hb,aC,aC⟩).trans h2.1,h2.2⟩,⟨h3,λi e he=>let⟨e',mr,hk,hp,hd⟩:=h4 i e he;⟨e',mr,hk,hp,hd.Ak h⟩⟩,h5⟩
  |iw mid gU seen=>
   obtain⟨h2,h3,s,h4,h5⟩:=h1;exact⟨h2,h3,s,(h.aQ (.al id) ⟨_,hb,aC,aC⟩).trans h4,h5⟩
 .obtain⟨cur,bT,h2,h3,h4⟩:=hM.dV id i j esz el ho bc;exact⟨cur,bT.dv (h.aQ (.sub id i j) ⟨⟨_,_,ho⟩,bc⟩),h2,h3,λi cs j d hi hj=>let⟨u,hu,hd⟩:=h4 i cs j d hi hj;⟨u,hu,hd.Ak h.S⟩⟩
theorem bi.Ak{U:bF}{m:Mem}{w w':World}(x:Uo U m w w'){aX:List CV}{tmps:Array Value}(hE:bi U w aX tmps):bi U w' aX tmps:=
 ⟨hE.size,λi c hi=>let⟨v,hv,hd⟩:=hE.jR i c hi;⟨v,hv,hd.Ak x⟩⟩
theorem rz{fn:Func}{tmps:Array Value}{R:Ending->World->Prop}{U:bF}{m:Mem}{aX:List CV}(hN:N=w0.heap.size):∀(Ds:List Nat)(w:World),Ds.Nodup->
  (∀D,D∈Ds->N<=D/\U.S D/\w.heap[D]? =some (.deferred (some [])))->au U m w->bi U w aX tmps->Ext ρ0 m0 w0 U m w->
  (∀w',au U m w'->bi U w' aX tmps->Ext ρ0 m0 w0 U m w'->∃v,(results fn tmps).run P w'= .ok v w'/\R (.returned v) w')->
  LeavesInM Fence.wide 0 P fn tmps R (Ds.map λD=>{target:= .collected D,args:= #[]}) .returning w
 | [],w,_,_,hM,hE,hx,h=>by obtain⟨v,h1,h2⟩:=h w hM hE hx;exact⟨v,h1,h2⟩
 |D::Ds,w,hn,hD,hM,hE,hx,h=>by
  obtain⟨p8,Pc⟩:=abJ.1 hn;obtain⟨d1,d2,d3⟩:=hD D aC;have aD:=(aap.1 d3).1;have hc:Uo U m w (w.putObj D (.deferred none)):=by
   refine⟨aC,λb off hS=>?_,λk hk=>World.putObj_heap_other λe=>(hM.aQ k hk).2 (e▸d2),λb es ck hS VG=>by
    have hb:b≠D:=λe=>by subst e;rw[d3]at VG;cases VG
    rw[World.putObj_heap_other hb];exact VG⟩
   by_cases hb:b=D
   .subst hb;simp only[World.cell?,d3,World.putObj_heap_same aD]
   .simp only[World.cell?,World.putObj_heap_other hb]
  refine⟨aC,.inl ⟨D,_,rfl,run_takeDeferred d3,?_⟩⟩;refine rz hN Ds _ Pc (λD' U5=>?_) (hM.Ak hc) (hE.Ak hc) ?_ h
  .obtain⟨e1,e2,e3⟩:=hD D' (by simp[U5])
   exact⟨e1,e2,(World.putObj_heap_other (by rintro rfl;exact p8 U5)).trans e3⟩
  .exact⟨hx.n,hx.aH,hx.S,hx.S',hx.aQ,λb hb hk=>(World.putObj_heap_other om).trans (hx.frame b hb hk),by simpa using hx.size,hx.os,hx.tape,hx.output⟩
end
section
variable {P:Program} {N:Nat} {ρ0:bF} {m0:Mem} {w0:World}
theorem GS{K:Ex->St->Prop}:¬LetsOut (Ae N ρ0 m0 w0 K):=by rintro⟨a,w,ex,st,U,he,_⟩;simp[Cb]at he
theorem GU:∀lc:LC,lc.er.qU=lc.qU:=by
 intro lc
 induction lc<;>simp_all[LC.er,LC.qU]
theorem Cj{l:Nat}{n0:Nat}{st:St}{U:bF}{act:Act}{W:World}{fn:FuncId}{rec0:Loop}{p:Nat}{la lb:LC}{ca cb:Code}{y:ByteArray}{K:Ex->St->Prop}(R3:∀(ρ0:bF)(m0:Mem)(w0:World)(K:Ex->St->Prop)(st:St)(U:bF)(a:Act)(w:World),ρ0.n=m0.length->aw P m0.length la K st->Inv 0 ρ0 m0 w0 st U a w->ca.wpIn (FR (some l)) 0 P (Ae 0 ρ0 m0 w0 K) a w)(R5:∀(ρ0:bF)(m0:Mem)(w0:World)(K:Ex->St->Prop)(st:St)(U:bF)(a:Act)(w:World),ρ0.n=m0.length->aw P m0.length lb K st->Inv 0 ρ0 m0 w0 st U a w->cb.wpIn (FR (some l)) 0 P (Ae 0 ρ0 m0 w0 K) a w)(hr:rec0.state= .ready/\rec0.pending=none/\rec0.fn=fn/\rec0.tmps=act.tmps/\rec0.params= #[p]/\rec0.assign=ca/\rec0.body=cb)(hI:Inv N ρ0 m0 w0 st U act W)(hl:W.heap[l]? =some (.loop rec0))(EB:qj U st.mem l)(XP:w0.heap.size<=l)(h:nc st.mem λn1=>aw P n1 la (λex s2=>match ex with
    | .normal=>nc s2.mem λn2=>aw P n2 lb K s2
    |_=>False) ⟨aW st.aX p (eL y),st.mem⟩):
  QP P l #[.string y] W λe W'=>∃ex jh U' jump,K ex jh/\Inv N ρ0 m0 w0 ⟨st.aX,jh.mem⟩ U' act W'/\e= .returned (.bool jump.isNone)/\
   W'.heap[l]? =some (.loop {rec0 with state:=if jump.isNone then .ready else .done,pending:=jump})/\
   ((jump=none/\ex= .normal)\/(jump=some .ret/\ex= .ret)\/∃id,jump=some (.exit id)/\ex= .exit id)/\
   (∀b,b<W.heap.size->b≠l->qj U st.mem b->qj U' jh.mem b/\W'.heap[b]? =W.heap[b]?)/\qj U' jh.mem l/\W.heap.size<=W'.heap.size:=by
 obtain⟨r1,r2,r3,r4,r5,r6,r7⟩:=hr;have hy:=run_yield (P:=P) (args:= #[.string y]) hl (by rw[r5];rfl)
 rw[r3,r4,r5,r6,r7]at hy;refine⟨_,_,_,_,hy,?_⟩;have aD:l<W.heap.size:=(aap.1 hl).1;simp only[gx]at h;have hRo:RoundIn Fence.wide 0 P l fn (act.tmps.setIfInBounds p (.string y)) ca cb W λe W'=>∃ex jh U' jump,K ex jh/\Inv N ρ0 m0 w0 ⟨st.aX,jh.mem⟩ U' act W'/\e= .returned (.bool jump.isNone)/\
   W'.heap[l]? =some (.loop {rec0 with state:=if jump.isNone then .ready else .done,pending:=jump})/\
   ((jump=none/\ex= .normal)\/(jump=some .ret/\ex= .ret)\/∃id,jump=some (.exit id)/\ex= .exit id)/\
   (∀b,b<W.heap.size->b≠l->qj U st.mem b->qj U' jh.mem b/\W'.heap[b]? =W.heap[b]?)/\qj U' jh.mem l/\W.heap.size<=W'.heap.size:=by
  refine roundIn_of_wpIn trivial ?_;have z8:bi U W (aW st.aX p (eL y)) (act.tmps.setIfInBounds p (.string y)):=by rw[a8];exact hI.aX.set (c7.val _ rfl:bZ U W (eL y) (.string y))
  have Y9:Inv 0 U st.mem W ⟨aW st.aX p (eL y),st.mem⟩ U {tmps:=act.tmps.setIfInBounds p (.string y),defers:=[]} W:=
   ⟨Ext.refl _ _ _,hI.mem,z8,Ey.nil,aaj _,Ts _⟩
  have hwa:=R3 U st.mem W _ _ U _ W hI.mem.n h Y9;rw[GR]at hwa;refine wpIn_mono hwa λe a1 W1 hp=>?_
  obtain⟨ex,s2,ρ2,he,hK,Is⟩:=hp;cases e<;>simp[Cb]at he<;>subst he<;>simp only at hK
  simp only[Exit.then];have yB:W1.heap[l]? =some (.loop rec0):=(Is.ext.frame l aD EB.2).trans hl;have Lu:qj ρ2 s2.mem l:=EB.ext Is.ext aD;have VH:l<W1.heap.size:=(aap.1 yB).1;refine⟨_,run_beginRound yB r1,?_⟩;obtain⟨W2,Q4⟩:∃W2,W1.putObj l (.loop {rec0 with state:= .busy})=W2:=⟨_,rfl⟩
  rw[Q4];have wb:uT ρ2 s2.mem W1 W2:=by rw[<-Q4];exact uT.put Lu _
  have ED:=Is.mem.uU wb;have Za:Inv 0 ρ2 s2.mem W2 s2 ρ2 a1 W2:=⟨Ext.refl _ _ _,ED,Is.aX.cm wb.cm,Is.defers.uU wb,aaj _,Ts _⟩;have hwb:=R5 ρ2 s2.mem W2 _ _ ρ2 _ W2 ED.n hK Za;rw[GR]at hwb;refine wpIn_mono hwb λe a3 W3 hp=>?_
  obtain⟨ex,s3,ρ3,he,hK3,Ou⟩:=hp;have Cg:l<W2.heap.size:=by rw[<-Q4];simpa using VH
  have XQ:W3.heap[l]? =some (.loop {rec0 with state:= .busy}):=by rw[Ou.ext.frame l Cg Lu.2,<-Q4];exact World.putObj_heap_same VH
  have Zb:l<W3.heap.size:=(aap.1 XQ).1;have Q5:qj ρ3 s3.mem l:=Lu.ext Ou.ext Cg;have iy:∀(jump:Option Code),((jump=none/\ex= .normal)\/(jump=some .ret/\ex= .ret)\/∃id,jump=some (.exit id)/\ex= .exit id)->
    ∃v w',(Instr.endRound l jump).run P W3= .ok v w'/\∃ex jh U' jump,K ex jh/\Inv N ρ0 m0 w0 ⟨st.aX,jh.mem⟩ U' act w'/\Ending.returned v= .returned (.bool jump.isNone)/\
     w'.heap[l]? =some (.loop {rec0 with state:=if jump.isNone then .ready else .done,pending:=jump})/\
     ((jump=none/\ex= .normal)\/(jump=some .ret/\ex= .ret)\/∃id,jump=some (.exit id)/\ex= .exit id)/\
     (∀b,b<W.heap.size->b≠l->qj U st.mem b->qj U' jh.mem b/\w'.heap[b]? =W.heap[b]?)/\qj U' jh.mem l/\W.heap.size<=w'.heap.size:=by
   intro jump hj;have Pd:=run_endRound (P:=P) jump XQ;refine⟨_,_,Pd,ex,s3,ρ3,jump,hK3,?_,rfl,World.putObj_heap_same Zb,hj,λb hb SG ho=>?_,Q5,?_⟩
   .have x1:Ext ρ0 m0 w0 ρ2 s2.mem W1:=hI.ext.trans Is.ext;have x2:Ext ρ0 m0 w0 ρ2 s2.mem W2:=by rw[<-Q4];exact⟨x1.n,x1.aH,x1.S,x1.S',x1.aQ,λb hb hk=>(World.putObj_heap_other om).trans (x1.frame b hb hk),by simpa using x1.size,x1.os,x1.tape,x1.output⟩
    have x3:Ext ρ0 m0 w0 ρ3 s3.mem W3:=x2.trans Ou.ext;have e1:bi ρ2 W1 st.aX act.tmps:=hI.aX.ext hI.mem Is.ext;have e3:bi ρ3 W3 st.aX act.tmps:=(e1.cm wb.cm).ext ED Ou.ext;have d3:Ey N ρ3 W3 act.defers:=((hI.defers.ext hI.mem Is.ext).uU wb).ext ED Ou.ext;have hI5:Inv N ρ0 m0 w0 ⟨st.aX,s3.mem⟩ ρ3 act W3:=⟨x3,Ou.mem,e3,d3,hI.hN,abH hI.n0 (abH Is.n0 Ou.n0)⟩;exact hI5.put Q5 XP _
   .have gV:qj ρ2 s2.mem b:=ho.ext Is.ext hb;have Vf:b<W1.heap.size:=aa0 hb Is.ext.size;have fx:b<W2.heap.size:=by rw[<-Q4];simpa using Vf
    refine⟨gV.ext Ou.ext fx,?_⟩;rw[World.putObj_heap_other SG,Ou.ext.frame b fx gV.2,<-Q4,World.putObj_heap_other SG,Is.ext.frame b hb ho.2]
   .have h1:=Is.ext.size;have h2:W1.heap.size=W2.heap.size:=by rw[<-Q4];simp
    have h3:=Ou.ext.size;simp only[World.putObj_size];omega
  cases e<;>simp[Cb]at he<;>subst he
  .exact iy none (.inl ⟨rfl,rfl⟩)
  .rename_i id;exact iy (some (.exit id)) (.inr (.inr ⟨id,rfl,rfl⟩))
  .exact iy (some .ret) (.inr (.inl ⟨rfl,rfl⟩))
 have hz:(#[p].zip #[Value.string y]).foldl (λtmps x=>tmps.setIfInBounds x.1 x.2) act.tmps=act.tmps.setIfInBounds p (.string y):=aC
 exact hz▸hRo
theorem Inv.VI{st:St}{U:bF}{a:Act}{w w':World}(hI:Inv N ρ0 m0 w0 st U a w)(h:uT U st.mem w w')(hb:∀b,b<w0.heap.size->(∀k,Live ρ0 m0 k->(ρ0.aH k).b≠b)->w'.heap[b]? =w.heap[b]?)(ho:w'.os=w.os)(ht:w'.tape=w.tape)(hu:w'.output=w.output):Inv N ρ0 m0 w0 st U a w':=
 ⟨⟨hI.ext.n,hI.ext.aH,hI.ext.S,hI.ext.S',hI.ext.aQ,λb sX hk=>(hb b sX hk).trans (hI.ext.frame b sX hk),abH hI.ext.size h.size,ho.trans hI.ext.os,ht.trans hI.ext.tape,hu.trans hI.ext.output⟩,
  hI.mem.uU h,hI.aX.cm h.cm,hI.defers.uU h,hI.hN,hI.n0⟩
theorem au.Zc{U:bF}{m:Mem}{w:World}{D:Nat}(hM:au U m w)(hD:D<w.heap.size)(hl:∀k,Live U m k->(U.aH k).b≠D):au {U with S:=λb=>U.S b\/b=D} m w:=by
 have g:iz U w {U with S:=λb=>U.S b\/b=D} w:=⟨Ts _,λ_ _=>rfl,λ_ h=>.inl h,λ_ _=>rfl⟩
 have b7:∀k,Live {U with S:=λb=>U.S b\/b=D} m k↔Live U m k:=λk=>by cases k<;>rfl
 refine⟨hM.n,λb hb=>?_,λk hk=>⟨(hM.aQ k ((b7 k).1 hk)).1,?_⟩,λk k' hk fU e=>hM.inj k k' ((b7 k).1 hk) ((b7 k').1 fU) e,λid b hb=>?_,λid i j esz el ho bc=>?_⟩
 .rcases hb with hb|rfl
  .exact hM.S b hb
  .exact hD
 .rintro(hs|hs)
  .exact(hM.aQ k ((b7 k).1 hk)).2 hs
  .exact hl k ((b7 k).1 hk) hs
 .have h1:=hM.bk id b hb;cases b with
  |aS=>trivial
  |var cs=>
   obtain⟨cur,bT,h2⟩:=h1;exact⟨cur,bT,λj c hj=>let⟨u,hu,hd⟩:=h2 j c hj;⟨u,hu,bh.cm g aC hd⟩⟩
  |row esz elems=>
   obtain⟨h2,h3,h4,h5,h6⟩:=h1;refine⟨h2,h3,h4,h5,λhp=>?_⟩
   obtain⟨cur,bT,h7,h8⟩:=h6 hp;exact⟨cur,bT,h7,λi cs j c hi hj=>let⟨u,hu,hd⟩:=h8 i cs j c hi hj;⟨u,hu,bh.cm g (by intro jX i' j' e';cases e';rw[hM.n];exact(I4.1 hb).1) hd⟩⟩
  |mp es=>
   obtain⟨bx,ck,h2,h3,h4⟩:=h1;exact⟨bx,ck,h2,h3,λi e he=>let⟨e',mr,hk,hd⟩:=h4 i e he;⟨e',mr,hk,dq.cm g hd⟩⟩
  |it cur left=>
   obtain⟨mb,seen,ck,bx,h2,h3,h4,h5,h6⟩:=h1;exact⟨mb,seen,ck,bx,h2,h3,g.S _ h4,(g.heap mb h4).trans h5,h6⟩
  |mo esz es so=>exact cI.cm (bk:= .mo esz es so) g (by rw[hM.n];exact(I4.1 hb).1) (λ_ _=>rfl) h1
  |iw mid gU seen=>exact cI.cm (bk:= .iw mid gU seen) g (by rw[hM.n];exact(I4.1 hb).1) (λ_ _=>rfl) h1
 .obtain⟨cur,bT,h2,h3,h4⟩:=hM.dV id i j esz el ho bc;exact⟨cur,bT,h2,h3,λi cs j d hi hj=>let⟨u,hu,hd⟩:=h4 i cs j d hi hj;⟨u,hu,c7.mono g.S g.heap hd⟩⟩
theorem Live.iT{U:bF}{m:Mem}{jW:List Nat}{k:fY}(h:Live U (pF m jW) k):Live U m k/\k.id∉jW:=by
 cases k with
 |al id=>
  obtain⟨bk,h1,h2,h3⟩:=h;rcases mH m jW id bk h1 with rfl|⟨h4,h5⟩
  .exact absurd rfl h2
  .exact⟨⟨bk,h4,h2,h3⟩,h5⟩
 |sub id i j=>
  obtain⟨⟨esz,elems,b2,h1,h2⟩,h4⟩:=h;rcases mH m jW id _ h1 with rfl|⟨h5,h6⟩
  .cases h2
  .exact⟨⟨⟨esz,elems,b2,h5,h2⟩,h4⟩,h6⟩
theorem au.iT{U:bF}{m:Mem}{w:World}(hM:au U m w)(jW:List Nat):au U (pF m jW) w:=by
 refine⟨by rw[tc];exact hM.n,hM.S,λk hk=>hM.aQ k hk.iT.1,λk k' hk fU=>hM.inj k k' hk.iT.1 fU.iT.1,λid b hb=>?_,λid i j esz el ho bc=>?_⟩
 .rcases mH m jW id b hb with rfl|⟨h,_⟩
  .trivial
  .exact hM.bk id b h
 .obtain⟨b2,h1,h2⟩:=ho;rcases mH m jW id _ h1 with rfl|⟨h5,_⟩
  .cases h2
  .exact hM.dV id i j esz el ⟨b2,h5,h2⟩ bc
theorem Inv.iT{st:St}{U:bF}{a:Act}{w:World}(hI:Inv N ρ0 m0 w0 st U a w)(jW:List Nat):Inv N ρ0 m0 w0 ⟨st.aX,pF st.mem jW⟩ U a w:=
 ⟨⟨hI.ext.n,hI.ext.aH,hI.ext.S,hI.ext.S',λk hk=>hI.ext.aQ k hk.iT.1,hI.ext.frame,hI.ext.size,hI.ext.os,hI.ext.tape,hI.ext.output⟩,
  hI.mem.iT jW,hI.aX,hI.defers,hI.hN,by rw[tc];exact hI.n0⟩
theorem EE{x:X}{f:Operand}{p:Nat}{ps:Array Tmp}{la lb:LC}{ca cb:Code}{K:Ex->St->Prop}{st:St}{U:bF}{a:Act}{w:World}(lR:ρ0.n=m0.length)(pz:ps= #[p])(hx:bm f=some x)(R3:∀(l:Nat)(ρ0:bF)(m0:Mem)(w0:World)(K:Ex->St->Prop)(st:St)(U:bF)(a:Act)(w:World),ρ0.n=m0.length->aw P m0.length la K st->Inv 0 ρ0 m0 w0 st U a w->ca.wpIn (FR (some l)) 0 P (Ae 0 ρ0 m0 w0 K) a w)(R5:∀(l:Nat)(ρ0:bF)(m0:Mem)(w0:World)(K:Ex->St->Prop)(st:St)(U:bF)(a:Act)(w:World),ρ0.n=m0.length->aw P m0.length lb K st->Inv 0 ρ0 m0 w0 st U a w->cb.wpIn (FR (some l)) 0 P (Ae 0 ρ0 m0 w0 K) a w)(h:aw P m0.length (.xX x p la lb) K st)(hI:Inv N ρ0 m0 w0 st U a w):(Code.rangeFunc f ps ca cb).wpIn (FR none) 0 P (Ae N ρ0 m0 w0 K) a w:=by
 obtain⟨gf,jW,cs,xs,α,J,S,Zd,Li,⟨lB,dt⟩,Ze,⟨x0,hJ0,Up⟩,EF,VJ⟩:=h;have hd:=aR hI.aX hx;rw[Zd]at hd;obtain⟨ib,hv⟩:=hd;rw[O9];refine wpIn_rangeFunc λfn _=>?_
 obtain⟨rec0,Al⟩:∃rec0:Loop,rec0={state:= .ready,pending:=none,fn,tmps:=a.tmps,params:=ps,assign:=ca,body:=cb,defers:=w.heap.size}:=⟨_,rfl⟩;obtain⟨W1,BH⟩:∃W1,(w.alloc (.deferred (some []))).alloc (.loop rec0)=W1:=⟨_,rfl⟩;have VK:W1.heap.size=w.heap.size+2:=by rw[<-BH];simp
 have hold:∀b,b<w.heap.size->W1.heap[b]? =w.heap[b]? :=λb hb=>by
  rw[<-BH];exact(Go.RowKit.Below.heap_alloc _ _ _ (by simp;omega)).trans (Go.RowKit.Below.heap_alloc _ _ _ hb)
 have hL1:W1.heap[w.heap.size+1]? =some (.loop rec0):=by rw[<-BH];have:=World.alloc_heap_new (w.alloc (.deferred (some []))) (.loop rec0);rwa [World.size_alloc]at this
 have SH:W1.heap[w.heap.size]? =some (.deferred (some [])):=by rw[<-BH];exact(Go.RowKit.Below.heap_alloc _ _ _ aC).trans (World.alloc_heap_new w _)
 have U2:W1.os=w.os/\W1.tape=w.tape/\W1.output=w.output:=by rw[<-BH];exact⟨rfl,rfl,rfl⟩
 obtain⟨⟨gfn,hgf,hgb,Ov⟩,hT⟩:=Ze;have Zf:gfn.body≠none:=by intro e;rw[e]at hgb;cases hgb
 have Zg:gfn.name≠ "runtime.NumGoroutine" :=by intro e;rw[e]at Ov;simp at Ov
 obtain⟨as,has⟩:∃as:List (Nat×Nat),as=jW.map λid=>((U.aH (.al id)).b,(U.aH (.al id)).ar):=⟨_,rfl⟩
 have Zh:(jW.map λid=>Value.pointer (some ⟨(U.aH (.al id)).b,(U.aH (.al id)).ar,none⟩))=qY as:=by rw[has,qY,abM];rfl
 rw[Zh]at hv;have VL:uT U st.mem w W1:=⟨om,λb hb=>hold b (hI.mem.S b hb),λk hk=>hold _ (hI.mem.aQ k hk).1⟩
 have GV:Inv N ρ0 m0 w0 st U a W1:=hI.uU VL (λb hb=>hold b (aa0 hb hI.ext.size)) U2.1 U2.2.1 U2.2.2
 let ρ1:bF:={U with S:=λb=>U.S b\/b=w.heap.size}
 let act:Act:={a with defers:=[{target:= .collected w.heap.size,args:= #[]}]++a.defers}
 have aD:∀k,Live U st.mem k->(U.aH k).b<w.heap.size:=λk hk=>(hI.mem.aQ k hk).1
 have b7:∀(m:Mem)k,Live ρ1 m k↔Live U m k:=λm k=>by cases k<;>rfl
 have g1:iz U W1 ρ1 W1:=⟨Ts _,λ_ _=>rfl,λ_ h=>.inl h,λ_ _=>rfl⟩
 have hIb:Inv N ρ0 m0 w0 st ρ1 act W1:=by
  refine⟨⟨GV.ext.n,GV.ext.aH,λb hb=>.inl (GV.ext.S b hb),λb hb=>?_,λk hk=>GV.ext.aQ k ((b7 _ k).1 hk),GV.ext.frame,GV.ext.size,GV.ext.os,GV.ext.tape,GV.ext.output⟩,
   GV.mem.Zc om (λk hk e=>by have:=aD k hk;omega),GV.aX.cm g1,?_,hI.hN,hI.n0⟩
  .rcases hb with hb|rfl
   .exact GV.ext.S' b hb
   .exact .inr (.inl hI.ext.size)
  .obtain⟨Ds,h1,h2,h3⟩:=GV.defers;refine⟨w.heap.size::Ds,by simp[act,h1],abJ.2 ⟨λhm=>?_,h2⟩,λD hD=>?_⟩
   .have:=hI.mem.S _ (h3 _ hm).2.1;omega
   .rcases aa1.1 hD with rfl|hD
    .exact⟨abH hI.hN hI.ext.size,.inr rfl,SH⟩
    .exact⟨(h3 D hD).1,.inl (h3 D hD).2.1,(h3 D hD).2.2⟩
 have hIc:=hIb.iT jW;have VM:qj ρ1 (pF st.mem jW) (w.heap.size+1):=by
  refine⟨?_,λk hk e=>?_⟩
  .rintro(hs|hs)
   .have:=hI.mem.S _ hs;omega
   .omega
  .have:=aD k ((b7 _ k).1 hk).iT.1;have h2:(ρ1.aH k).b=(U.aH k).b:=rfl;omega
 obtain⟨VN,Uq⟩:=uz Li;have bY:∀id,id∈jW->Live U st.mem (.al id):=λid hid=>by
  obtain⟨i,hi⟩:=Xt hid;have aD:i<cs.length:=by rw[<-VN];exact(I4.1 hi).1
  obtain⟨h1,_⟩:=Uq i id _ hi (uX aD);exact⟨_,h1,aC,aC⟩
 have VO:∀b,b∈as.map (·.1)->qj ρ1 (pF st.mem jW) b:=by
  intro b hb;rw[has,abM]at hb;obtain⟨id,hid,rfl⟩:=aak.1 hb;have hL:=bY id hid;refine⟨?_,λk hk e=>?_⟩
  .rintro(hs|hs)
   .exact(hI.mem.aQ _ hL).2 hs
   .have:=aD _ hL;simp only[Function.comp]at hs;omega
  .have jZ:=(b7 _ k).1 hk;have:=hI.mem.inj k _ jZ.iT.1 hL e;subst this;exact jZ.iT.2 hid
 obtain⟨ρ2,hId,Q6⟩:=hIc.view lR Up;have Zi:as.length=cs.length:=by rw[has,ML,VN]
 have Zj:(as.map (·.1)).Nodup:=by
  rw[has,abM];have key:∀l:List Nat,(∀id,id∈l->id∈jW)->l.Nodup->(l.map λid=>(U.aH (.al id)).b).Nodup:=by
   intro l
   induction l with
   |nil=>intro _ _;exact List.nodup_nil
   |cons id r ih=>
    intro hm hn;obtain⟨p8,Pc⟩:=abJ.1 hn;refine abJ.2 ⟨λhb=>?_,ih (λid h=>hm id (by simp[h])) Pc⟩
    obtain⟨jX,Lv,e⟩:=aak.1 hb;have:=hI.mem.inj _ _ (bY jX (hm jX (by simp[Lv]))) (bY id (hm id aC)) e
    cases this;exact p8 Lv
  exact key jW (λ_ h=>h) lB
 have Q7:∀b,b∈as.map (·.1)->b<w.heap.size:=by intro b hb;rw[has,abM]at hb;obtain⟨id,hid,rfl⟩:=aak.1 hb;exact aD _ (bY id hid)
 have Zk:∀b,b∈as.map (·.1)->w0.heap.size<=b\/∃k0,Live ρ0 m0 k0/\(ρ0.aH k0).b=b:=by intro b hb;rw[has,abM]at hb;obtain⟨id,hid,rfl⟩:=aak.1 hb;exact hI.ext.aQ _ (bY id hid)
 have Pe:∀a0,a0∈as->a0.1∈as.map (·.1):=λa0 h0=>aak.2 ⟨a0,h0,rfl⟩
 let Jw:Nat->World->Prop:=λk W=>∃y U',J k y/\Inv N ρ0 m0 w0 (S y) U' act W/\qj U' (S y).mem (w.heap.size+1)/\(∀b,b∈as.map (·.1)->qj U' (S y).mem b)/\
  W.heap[w.heap.size+1]? =some (.loop rec0)
 let Jx:World->Prop:=λW=>∃c ex jh U',K ex jh/\Inv N ρ0 m0 w0 jh U' act W/\qj U' jh.mem (w.heap.size+1)/\(∀b,b∈as.map (·.1)->qj U' jh.mem b)/\
  ((c= .ret/\ex= .ret)\/∃id,c= .exit id/\ex= .exit id)/\W.heap[w.heap.size+1]? =some (.loop {rec0 with state:= .done,pending:=some c})
 have Q8:∀(jh:St)(U':bF)(o:Obj)(W W':World),Inv N ρ0 m0 w0 jh U' act W->(∀b,b∈as.map (·.1)->qj U' jh.mem b)->W.heap[w.heap.size+1]? =some o->
   W.heap.size<=W'.heap.size->(∀b,b<W.heap.size->(∀a,a∈as->b≠a.1)->W'.heap[b]? =W.heap[b]?)->W'.os=W.os->W'.tape=W.tape->W'.output=W.output->
   Inv N ρ0 m0 w0 jh U' act W'/\W'.heap[w.heap.size+1]? =some o:=by
  intro jh U' o W W' hI ho hl hs hb h1 h2 h3;refine⟨hI.VI ⟨hs,λb hS=>hb b (hI.mem.S b hS) λa ha e=>(ho _ (Pe a ha)).1 (e▸hS),λk hk=>hb _ (hI.mem.aQ k hk).1 λa ha e=>(ho _ (Pe a ha)).2 k hk e⟩
   (λb sX hk=>hb b (aa0 sX hI.ext.size) λa ha e=>?_) h1 h2 h3,?_⟩
  .rcases Zk _ (Pe a ha)with h|⟨k0,h0,e0⟩
   .omega
   .exact hk k0 h0 (e0.trans e.symm)
  .rw[hb _ (aap.1 hl).1 λa ha e=>?_]
   .exact hl
   .have:=Q7 _ (Pe a ha);omega
 have main:=hT (w.heap.size+1) as W1 Jw Jx Zi Zj
  (λi a0 v hi hv=>by
   rw[has,RA]at hi;cases hid:jW[i]? with
   |none=>rw[hid]at hi;cases hi
   |some id=>
    rw[hid]at hi;simp only[aaz,aam]at hi;subst hi;obtain⟨hm,jD⟩:=Uq i id v hid hv;obtain⟨cur,bT,iZ⟩:=GV.mem.bk id _ hm;obtain⟨u,hu,ct⟩:=iZ 0 _ rfl;have uQ:u=v:=by
     cases ct with
     |val _ _=>rfl
     |no _=>simp[cE]at jD
    subst uQ;exact⟨by rw[bT.cell];simpa using hu,bT.pW (by have:=(aap.1 hu).1;simpa using this)⟩)
  (λk W W'⟨y,U',h1,h2,h3,h4,h5⟩hs hb e1 e2 e3=>by obtain⟨q1,q2⟩:=Q8 _ _ _ W W' h2 h4 h5 hs hb e1 e2 e3;exact⟨y,U',h1,q1,h3,h4,q2⟩)
  (λW W'⟨c,ex,jh,U',h0,h2,h3,h4,h6,h5⟩hs hb e1 e2 e3=>by obtain⟨q1,q2⟩:=Q8 _ _ _ W W' h2 h4 h5 hs hb e1 e2 e3;exact⟨c,ex,jh,U',h0,q1,h3,h4,h6,q2⟩)
  (λk y W hk⟨z,U',h1,h2,h3,h4,h5⟩=>by
   have hr:=EF k y z hk h1;have SI:=Cj (R3 _) (R5 _) (l:=w.heap.size+1) (n0:=0) (rec0:=rec0) (act:=act) (fn:=fn) (p:=p) (by rw[Al];exact⟨rfl,rfl,rfl,rfl,pz,rfl,rfl⟩) h2 h5 h3
    (by have:=hI.ext.size;omega) hr
   obtain⟨f1,t1,a1,b1,hy,hR⟩:=SI;refine⟨f1,t1,a1,b1,hy,hR.mono λe W' hp=>?_⟩
   obtain⟨ex,jh,ρ3,jump,hK,hIn,he,hl,hj,Zl,Am,dn⟩:=hp;have XR:∀b,b∈as.map (·.1)->qj ρ3 jh.mem b/\W'.heap[b]? =W.heap[b]? :=λb hb=>by have aD:=Q7 b hb;have Cg:w.heap.size+1<W.heap.size:=(aap.1 h5).1;exact Zl b om om (h4 b hb)
   rcases hj with⟨rfl,rfl⟩|⟨rfl,rfl⟩|⟨id,rfl,rfl⟩
   .left;obtain⟨z',Oj,QX⟩:=hK;obtain⟨ρ4,hIv,XS⟩:=hIn.view lR QX;refine⟨he,⟨z',ρ4,Oj,hIv,XS _ Am,λb hb=>XS b (XR b hb).1,?_⟩,dn,λa ha=>(XR a.1 (aak.2 ⟨a,ha,rfl⟩)).2⟩
    rw[hl,Al];rfl
   .right;exact⟨he,.ret,.ret,_,ρ3,hK,hIn,Am,λb hb=>(XR b hb).1,.inl ⟨rfl,rfl⟩,hl⟩
   .right;exact⟨he,.exit id,.exit id,_,ρ3,hK,hIn,Am,λb hb=>(XR b hb).1,.inr ⟨id,rfl,rfl⟩,hl⟩)
  ⟨x0,ρ2,hJ0,hId,Q6 _ VM,λb hb=>Q6 b (VO b hb),hL1⟩
 refine⟨w.heap.size+1,[{target:= .collected w.heap.size,args:= #[]}],W1,{target:= .fn (.func gf) (qY as).toArray,args:= #[.func (.yield (w.heap.size+1)) #[] #[]]},W1,gf,
  #[.func (.yield (w.heap.size+1)) #[] #[]]++(qY as).toArray,W1,?_,?_,λ_ _=>trivial,?_,by simp[Fence.wide],?_⟩
 .rw[<-BH,Al];exact run_enterLoop_outer _ _ _ _ _
 .simp only[resolve,hv];simp[go_sem]
 .simp[invoke,callFunc,hgf,Zg,Zf]
 .refine main.mono λe W' hp=>?_
  obtain⟨⟨v,rfl⟩,hp⟩:=hp;rcases hp with⟨y,U',h1,h2,h3,h4,h5⟩|⟨c,ex,jh,U',h0,h2,h3,h4,h6,h5⟩
  .refine⟨none,_,by have:=run_endLoop (P:=P) h5 (by rw[Al];simp);rw[Al]at this;exact this,?_⟩
   exact⟨.normal,S y,U',rfl,VJ y h1,h2.put h3 (by have:=hI.ext.size;omega) _⟩
  .refine⟨some c,_,by have:=run_endLoop (P:=P) h5 (by simp);exact this,?_⟩
   have VP:=h2.put h3 (by have:=hI.ext.size;omega) (.loop {rec0 with state:= .exhausted,pending:=some c})
   rcases h6 with⟨rfl,rfl⟩|⟨id,rfl,rfl⟩
   .exact wpIn_ret ⟨.ret,jh,U',rfl,h0,VP⟩
   .exact wpIn_exit ⟨.exit id,jh,U',rfl,h0,VP⟩
end
section
variable {P:Program} {N:Nat} {ρ0:bF} {m0:Mem} {w0:World}
theorem kp{f:Operand}{ps:Array Tmp}{x y:Code}{lc:LC}(h:dR P (.rangeFunc f ps x y)=some lc):∃x' p la lb,lc= .xX x' p la lb:=by
 simp only[dR,RX]at h;split at h
 case h_2=>cases h
 simp only[N0]at h;obtain⟨lx,hx,ly,hy,h⟩:=h;split at h
 case isFalse=>cases h
 simp only[N0]at h;obtain⟨x',_,h⟩:=h;cases h;exact⟨_,_,_,_,rfl⟩
theorem Lw:∀(lc:LC)(r:Option Nat)(Ao:r=none\/lc.qU=true)(N:Nat)(ρ0:bF)(m0:Mem)(w0:World)(lR:ρ0.n=m0.length)(c:Code)(K:Ex->St->Prop)(st:St)(U:bF)(a:Act)(w:World),
  dR P c=some lc.er->aw P m0.length lc K st->Inv N ρ0 m0 w0 st U a w->c.wpIn (FR r) 0 P (Ae N ρ0 m0 w0 K) a w:=by
 intro lc
 induction lc with
 |cS b ih=>
  intro r Ao N ρ0 m0 w0 lR c K st U a w hl h hI;obtain⟨s',hv,h⟩:=h;obtain⟨U',px⟩:=hI.KO lR hv;exact ih r Ao N ρ0 m0 w0 lR c K s' U' a w hl h px
 |skip=>
  intro r Ao N ρ0 m0 w0 lR c K st U a w hl h hI;cases c with
  |skip=>exact wpIn_skip ⟨_,st,U,rfl,h,hI⟩
  |region id ops bR=>cases bR<;>simp[dR,LC.er,N0]at hl
  |rangeFunc f ps ca cb=>obtain⟨_,_,_,_,e⟩:=kp hl;simp[LC.er]at e
  |_=>simp[dR,LC.er,N0]at hl
 |ai Zm=>
  intro r Ao N ρ0 m0 w0 lR c K st U a w hl h hI;cases c with
  |region id ops bR=>
   cases bR with
   |true=>simp[dR,LC.er,N0]at hl
   |false=>
    simp only[dR,LC.er,RX,N0]at hl;obtain⟨bS,Ai,hl⟩:=hl;cases hl;refine wpIn_region (iE (wa Ai) GS _ _ _ ?_);have:=vY (Q:=Ae N ρ0 m0 w0 K) (K:=HY K) (λaX m U a w hK hI=>⟨_,_,U,rfl,hK,hI⟩) ops.toList 0 _ st.aX st.mem U a w rfl Ai h hI
    simpa[List.range_eq_range']using this
  |rangeFunc f ps ca cb=>obtain⟨_,_,_,_,e⟩:=kp hl;simp[LC.er]at e
  |_=>simp[dR,LC.er,N0]at hl
 |bR Zm Ys=>
  intro r Ao N ρ0 m0 w0 lR c K st U a w hl h hI;cases c with
  |region id ops bR=>
   cases bR with
   |true=>
    simp only[dR,LC.er,RX,N0]at hl;obtain⟨bS,Ai,hl⟩:=hl;obtain⟨pY,hs,hl⟩:=hl;cases hl;refine wpIn_region_draw λt=>iE (wa Ai) GS _ _ _ ?_
    exact Aj (Q:=Ae N ρ0 m0 w0 K) (K:=K) (λaX m U a w hK hI=>⟨_,_,U,rfl,hK,hI⟩) Ai hs h hI t
   |false=>simp[dR,LC.er,N0]at hl
  |rangeFunc f ps ca cb=>obtain⟨_,_,_,_,e⟩:=kp hl;simp[LC.er]at e
  |_=>simp[dR,LC.er,N0]at hl
 |seq lx ly SD Ls=>
  intro r Ao N ρ0 m0 w0 lR c K st U a w hl h hI;cases c with
  |seq x y=>
   simp only[dR,LC.er,RX,N0,aam,LC.seq.injEq]at hl;obtain⟨lx',hx,ly',hy,rfl,rfl⟩:=hl;refine wpIn_seq (wpIn_mono (SD r (Ao.imp id λh=>(acx.1 h).1) N ρ0 m0 w0 lR x _ st U a w hx h hI) λe a' w' hp=>?_)
   obtain⟨ex,jh,U',he,hK,px⟩:=hp;cases e<;>simp[Cb]at he<;>subst he
   .exact Ls r (Ao.imp id λh=>(acx.1 h).2) N ρ0 m0 w0 lR y K jh U' a' w' hy hK px
   .exact⟨_,jh,U',rfl,hK,px⟩
   .exact⟨_,jh,U',rfl,hK,px⟩
  |region id ops bR=>cases bR<;>simp[dR,LC.er,N0]at hl
  |rangeFunc f ps ca cb=>obtain⟨_,_,_,_,e⟩:=kp hl;simp[LC.er]at e
  |_=>simp[dR,LC.er,N0]at hl
 |cond x0 ly0 lz0 Ls Zn=>
  intro r Ao N ρ0 m0 w0 lR c K st U a w hl h hI;cases c with
  |cond x y z=>
   simp only[dR,LC.er,RX,N0,aam,LC.cond.injEq]at hl;obtain⟨x',hx,ly,hy,lz,hz,rfl,rfl,rfl⟩:=hl;have hd:=aR hI.aX hx;simp only[aw]at h;split at h
   .rename_i t sW;rw[sW]at hd;have ht:=(bJ hd).1;have rn:∀b,t=b->R6 x' (aE b) st.aX=st.aX:=λb hb=>by
     subst hb;cases x' with
     |t n=>exact Ag sW
     |c v=>rfl
    refine wpIn_cond ht ?_;rcases cn.1 h with⟨rfl,h⟩|⟨rfl,h⟩
    .simp only[eY,rn true rfl]at h;exact Ls r (Ao.imp id λh=>(acx.1 h).1) N ρ0 m0 w0 lR y K st U a w hy h hI
    .simp only[eY,rn false rfl]at h;exact Zn r (Ao.imp id λh=>(acx.1 h).2) N ρ0 m0 w0 lR z K st U a w hz h hI
   .exact h.elim
  |region id ops bR=>cases bR<;>simp[dR,LC.er,N0]at hl
  |rangeFunc f ps ca cb=>obtain⟨_,_,_,_,e⟩:=kp hl;simp[LC.er]at e
  |_=>simp[dR,LC.er,N0]at hl
 |block id0 lb0 ih=>
  intro r Ao N ρ0 m0 w0 lR c K st U a w hl h hI;cases c with
  |block id b=>
   simp only[dR,LC.er,RX,N0,aam,LC.block.injEq]at hl;obtain⟨lb,hb,rfl,rfl⟩:=hl;refine wpIn_block (wpIn_mono (ih r Ao N ρ0 m0 w0 lR b _ st U a w hb h hI) λe a' w' hp=>?_)
   obtain⟨ex,jh,U',he,hK,px⟩:=hp;cases e<;>simp[Cb]at he<;>subst he
   .exact⟨_,jh,U',rfl,hK,px⟩
   .rename_i jX;simp only[D8]at hK;simp only[Exit.inBlock];rcases cn.1 hK with⟨hid,hK⟩|⟨hid,hK⟩
    .rw[if_pos (aai hid)];exact⟨_,jh,U',rfl,hK,px⟩
    .rw[if_neg (acs hid)];exact⟨_,jh,U',rfl,hK,px⟩
   .exact⟨_,jh,U',rfl,hK,px⟩
  |region id ops bR=>cases bR<;>simp[dR,LC.er,N0]at hl
  |rangeFunc f ps ca cb=>obtain⟨_,_,_,_,e⟩:=kp hl;simp[LC.er]at e
  |_=>simp[dR,LC.er,N0]at hl
 |loop lb0 ih=>
  intro r Ao N ρ0 m0 w0 lR c K st U a w hl h hI;cases c with
  |loop b=>
   simp only[dR,LC.er,RX,N0,aam,LC.loop.injEq]at hl;obtain⟨lb,hb,rfl⟩:=hl;obtain⟨α,J,S,μ,⟨a1,hJ1,XT⟩,EF⟩:=h;obtain⟨ρ1,Y9⟩:=hI.KO lR XT;refine uS (γ:=α) (I:=λx a w=>J x/\∃U,Inv N ρ0 m0 w0 (S x) U a w) (μ:=μ) a1 ⟨hJ1,ρ1,Y9⟩ λx a w⟨hJ,U,hI⟩=>?_
   refine wpIn_mono (ih r Ao N ρ0 m0 w0 lR b _ (S x) U a w hb (EF x hJ) hI) λe a' w' hp=>?_
   obtain⟨ex,jh,U',he,hK,px⟩:=hp;cases e<;>simp[Cb]at he<;>subst he
   .obtain⟨x3,hJ3,aD,hw3⟩:=hK;obtain⟨ρ3,Za⟩:=px.KO lR hw3;exact⟨x3,⟨hJ3,ρ3,Za⟩,aD⟩
   .exact⟨_,jh,U',rfl,hK,px⟩
   .exact⟨_,jh,U',rfl,hK,px⟩
  |region id ops bR=>cases bR<;>simp[dR,LC.er,N0]at hl
  |rangeFunc f ps ca cb=>obtain⟨_,_,_,_,e⟩:=kp hl;simp[LC.er]at e
  |_=>simp[dR,LC.er,N0]at hl
 |exit id0=>
  intro r Ao N ρ0 m0 w0 lR c K st U a w hl h hI;cases c with
  |exit id=>
   simp[dR,LC.er]at hl;subst hl;exact wpIn_exit ⟨_,st,U,rfl,h,hI⟩
  |region id ops bR=>cases bR<;>simp[dR,LC.er,N0]at hl
  |rangeFunc f ps ca cb=>obtain⟨_,_,_,_,e⟩:=kp hl;simp[LC.er]at e
  |_=>simp[dR,LC.er,N0]at hl
 |ret=>
  intro r Ao N ρ0 m0 w0 lR c K st U a w hl h hI;cases c with
  |ret=>exact wpIn_ret ⟨_,st,U,rfl,h,hI⟩
  |region id ops bR=>cases bR<;>simp[dR,LC.er,N0]at hl
  |rangeFunc f ps ca cb=>obtain⟨_,_,_,_,e⟩:=kp hl;simp[LC.er]at e
  |_=>simp[dR,LC.er,N0]at hl
 |xX x0 p la0 lb0 R3 R5=>
  intro r Ao N ρ0 m0 w0 lR c K st U a w hl h hI;have hr0:r=none:=Ao.resolve_right (by simp[LC.qU])
  subst hr0;cases c with
  |rangeFunc f ps ca cb=>
   simp only[dR,LC.er,RX]at hl;split at hl
   case h_2=>cases hl
   rename_i p' pz;simp only[N0]at hl;obtain⟨la,hla,lb,Zh,hl⟩:=hl;split at hl
   case isFalse=>cases hl
   rename_i jS;simp only[N0,aam,LC.xX.injEq]at hl;obtain⟨x',hx,rfl,rfl,rfl,rfl⟩:=hl;rw[aab,GU,GU]at jS;exact EE lR (by apply abV;simpa using pz) hx (λl ρ0 m0 w0 K st U a w hM h hI=>R3 (some l) (.inr jS.1) 0 ρ0 m0 w0 hM ca K st U a w hla h hI)
    (λl ρ0 m0 w0 K st U a w hM h hI=>R5 (some l) (.inr jS.2) 0 ρ0 m0 w0 hM cb K st U a w Zh h hI) h hI
  |region id ops bR=>cases bR<;>simp[dR,LC.er,N0]at hl
  |_=>simp[dR,LC.er,N0]at hl
def td(tmps:Array Value):ResultVar->Sem Value
 | .tmp t=>pure (tmps.getD t Go.undef)
 | .cell ad t=>do loadVar t (<-asAddr (tmps.getD ad Go.undef))
theorem EG(fn:Func)(tmps:Array Value):results fn tmps=(do let vs<-fn.results.mapM (td tmps);pure (if h:vs.size=1 then vs[0]else .tuple vs)):=by
 unfold results;have e:(λ(r:ResultVar)=>match r with
  | .tmp t=>(pure (tmps.getD t Go.undef):Sem Value)
  | .cell ad t=>do loadVar t (<-asAddr (tmps.getD ad Go.undef)))=td tmps:=by
  funext r;cases r<;>rfl
 rw[<-e];rfl
theorem qk:∀{rs:List ResultVar}{It:List Rv},oa P rs=some It->∀{st:St}{U:bF}{a:Act}{w:World}{K:List RV->Prop},
  au U st.mem w->bi U w st.aX a.tmps->BT P st It K->
  ∃(vs:List RV)(us:List Value),K vs/\(rs.mapM (td a.tmps)).run P w= .ok us w/\
   us.length=vs.length/\∀(i:Nat)r,vs[i]? =some r->∃u,us[i]? =some u/\dq U w r u
 | [],It,h,st,U,a,w,K,hM,hE,hr=>by simp[oa]at h;subst h;exact⟨[],[],hr,rfl,rfl,aC⟩
 | .tmp t::r,It,h,st,U,a,w,K,hM,hE,hr=>by
  simp only[oa,RX,N0]at h;obtain⟨r',Zo,h⟩:=h;cases h;simp only[BT]at hr;obtain⟨v,hv,hr⟩:=aZ.1 hr;obtain⟨vs,us,hK,cU,hlen,cq⟩:=qk Zo hM hE hr;have hd:=hE.get t;have Uk:kh st.aX t= .rv v:=by
   cases hg:kh st.aX t<;>rw[hg]at hv<;>simp[D2]at hv
   rw[hv]
  rw[Uk]at hd;refine⟨v::vs,a.tmps.getD t Go.undef::us,hK,?_,by simp[hlen],λi r hi=>?_⟩
  .rw[List.mapM_cons,Sem.run_bind];simp only[td,Sem.run_pure,Result.andThen_ok];rw[Sem.run_bind,cU];rfl
  .cases i with
   |zero=>simp at hi;subst hi;exact⟨_,aC,hd⟩
   |succ i=>simpa using cq i r (by simpa using hi)
 | .cell ad t::r,It,h,st,U,a,w,K,hM,hE,hr=>by
  simp only[oa,RX,N0]at h;obtain⟨agg,ha,n,hn,r',Zo,h⟩:=h;cases h;simp only[BT]at hr;obtain⟨addr,u,cv,hv,VQ,SH,ct⟩:=ud hM ha hn hr (hE.get ad);obtain⟨v,uR,hr⟩:=aZ.1 SH;obtain⟨vs,us,hK,cU,hlen,cq⟩:=qk Zo hM hE hr;have Uk:cv= .rv v:=by
   cases cv<;>simp[D2]at uR
   rw[uR]
  subst Uk;refine⟨v::vs,u::us,hK,?_,by simp[hlen],λi r hi=>?_⟩
  .rw[List.mapM_cons,Sem.run_bind];simp only[td,hv,asAddr,Sem.run_bind,Sem.run_pure,Result.andThen_ok,VQ];rw[cU];rfl
  .cases i with
   |zero=>simp at hi;subst hi;exact⟨_,aC,ct⟩
   |succ i=>simpa using cq i r (by simpa using hi)
theorem ye{fn:Func}{rs:List Rv}(h:oa P fn.results.toList=some rs){st:St}{U:bF}{a:Act}{w:World}{K:CV->Prop}(hM:au U st.mem w)(hE:bi U w st.aX a.tmps)(hr:BT P st rs λvs=>K (Sa vs)):∃v r,(results fn a.tmps).run P w= .ok v w/\K r/\bZ U w r v:=by
 obtain⟨vs,us,hK,cU,hlen,cq⟩:=qk h hM hE hr;have yD:(fn.results.mapM (td a.tmps)).run P w= .ok us.toArray w:=by rw[Array.mapM_eq_mapM_toList,Sem.run_map,cU];rfl
 rw[EG,Sem.run_bind,yD];refine⟨_,_,rfl,hK,?_⟩
 match vs,us,hlen,cq with
 | [r],[u],_,cq=>
  obtain⟨u',hu,hd⟩:=cq 0 r aC;simp at hu;subst hu;exact hd
 | [],[],_,cq=>exact⟨[],rfl,rfl,aC⟩
 |r1::r2::rs,u1::u2::us,hlen,cq=>
  refine⟨u1::u2::us,?_,hlen,cq⟩;simp
theorem nk{f:Nat}{fn:Func}{lf:LF}{args:List CV}{m:Mem}{K:CV->Mem->Prop}(hf:P.funcs[f]? =some fn)(hl:bu P fn=some lf.er)(hn:(fn.name== "runtime.NumGoroutine")=false)(hle:args.length<=lf.n)(h:body P lf args m K):aq P f args m K:=by
 simp only[bu,LF.er,RX,N0,aam,LF.mk.injEq]at hl;obtain⟨rs,SI,c,hc,lc0,oh,p8,Zp,VR⟩:=hl;subst VR Zp;obtain⟨lfn,lfr,lc⟩:=lf;simp only at p8 SI oh;subst p8;refine⟨⟨fn,hf,by simp[hc],hn⟩,λU w vs hM hlen cq=>?_⟩
 simp only[body,eY,gx,bX,fH]at h;simp only at hle;have hI:Inv w.heap.size U m w ⟨args++List.replicate (fn.ntmps-args.length) .undef,m⟩ U {tmps:=vs.toArray++Array.replicate (fn.ntmps-vs.toArray.size) Go.undef,defers:=[]} w:=by
  refine⟨Ext.refl _ _ _,hM,⟨by simp[hlen],λi c hi=>?_⟩,Ey.nil,Ts _,Ts _⟩
  rcases aad i args.length with aD|d7
  .rw[Yf aD]at hi;obtain⟨v,hv,hd⟩:=cq i c hi;refine⟨v,?_,hd⟩;rw[acg (by simp[hlen];exact aD)]
   simpa using hv
  .rw[WH d7,acJ]at hi;split at hi
   .rename_i aD;cases hi;refine⟨Go.undef,?_,rfl⟩;rw[Array.getElem?_append_right (by simp[hlen];exact d7),Array.getElem?_replicate,if_pos (by simp[hlen];exact aD)]
   .cases hi
 refine(callsIn_wide (n:=0)).1 (callsIn_of_wp_marks (F:=Fence.wide) hf hc trivial (wpIn_mono (Lw lc none (.inl rfl) _ U m w hM.n c _ _ U _ w oh h hI) λe a' w' hp=>?_))
 obtain⟨ex,jh,U',he,hK,px⟩:=hp;have iy:BT P jh lfr (λvs=>K (Sa vs) jh.mem)->LeavesInM Fence.wide 0 P fn a'.tmps (λe w'=>∃VS r m' U',e=Ending.returned VS/\K r m'/\au U' m' w'/\bZ U' w' r VS/\Ext U m w U' m' w') a'.defers .returning w':=λhr=>by
  obtain⟨Ds,h1,h2,h3⟩:=px.defers;rw[h1];refine rz rfl Ds w' h2 h3 px.mem px.aX px.ext λw2 ED DQ Uj=>?_
  obtain⟨v,r,cU,hKr,hd⟩:=ye (K:=λr=>K r jh.mem) SI ED DQ hr
  exact⟨v,cU,v,r,jh.mem,U',rfl,hKr,ED,hd,Uj⟩
 cases e<;>simp[Cb]at he<;>subst he
 .exact iy hK
 .exact hK.elim
 .exact iy hK
theorem Pf:∀(c:Code)(lc:LC),dR P c=some lc->lc.er=lc:=by
 intro c
 induction c with
 |skip=>intro lc h;simp[dR]at h;subst h;rfl
 |region id ops bR=>
  intro lc h;cases bR with
  |true=>
   simp only[dR,RX,N0]at h;obtain⟨bS,_,Ys,_,h⟩:=h;cases h;rfl
  |false=>
   simp only[dR,RX,N0]at h;obtain⟨bS,_,h⟩:=h;cases h;rfl
 |seq x y SD Ls=>
  intro lc h;simp only[dR,RX,N0]at h;obtain⟨lx,hx,ly,hy,h⟩:=h;cases h;simp only[LC.er,SD lx hx,Ls ly hy]
 |cond x y z Ls Zn=>
  intro lc h;simp only[dR,RX,N0]at h;obtain⟨x',_,ly,hy,lz,hz,h⟩:=h;cases h;simp only[LC.er,Ls ly hy,Zn lz hz]
 |block id b ih=>
  intro lc h;simp only[dR,RX,N0]at h;obtain⟨lb,hb,h⟩:=h;cases h;simp only[LC.er,ih lb hb]
 |loop b ih=>
  intro lc h;simp only[dR,RX,N0]at h;obtain⟨lb,hb,h⟩:=h;cases h;simp only[LC.er,ih lb hb]
 |exit id=>intro lc h;simp[dR]at h;subst h;rfl
 |ret=>intro lc h;simp[dR]at h;subst h;rfl
 |rangeFunc f ps x y SD Ls=>
  intro lc h;simp only[dR,RX]at h;split at h
  case h_2=>cases h
  simp only[N0]at h;obtain⟨lx,hx,ly,hy,h⟩:=h;split at h
  case isFalse=>cases h
  simp only[N0]at h;obtain⟨x',_,h⟩:=h;cases h;simp only[LC.er,SD lx hx,Ls ly hy]
 |_=>intro lc h;simp[dR]at h
theorem wd{f:Nat}{fn:Func}{lf:LF}{args:List CV}{m:Mem}{K:CV->Mem->Prop}(hf:P.funcs[f]? =some fn)(hl:bu P fn=some lf)(hn:(fn.name== "runtime.NumGoroutine")=false)(hle:args.length<=lf.n)(h:body P lf args m K):aq P f args m K:=by
 refine nk hf ?_ hn hle h;have XP:=hl;simp only[bu,RX,N0]at hl;obtain⟨rs,SI,c,hc,lc,oh,hl⟩:=hl;cases hl;rw[XP];simp only[LF.er,Pf c lc oh]
end
end Go.AM
