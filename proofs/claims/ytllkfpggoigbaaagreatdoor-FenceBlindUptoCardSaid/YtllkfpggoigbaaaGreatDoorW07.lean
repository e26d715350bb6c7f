/- Part 7 of 23. -/
import Derived.Test.YtllkfpggoigbaaaGreatDoorW06
import Derived.Orders
set_option linter.unusedVariables false
set_option linter.unusedSimpArgs false
set_option linter.unnecessarySimpa false
set_option maxRecDepth 100000
set_option maxHeartbeats 0
namespace Go.AM
section
variable {P:Program}
def LO.lC(lo:LO)(e:List CV):Option Bool:=
 match lo.guard with
 |none=>some true
 |some (s,lC)=>match lV e s with
  | .undef=>some false
  | .rv (.one (.ai (.val (.bool t))))=>some (t==lC)
  |_=>none
theorem iG{lo:LO}{e:List CV}{m:Mem}{K:List CV->CV->Mem->Prop}:
  pE P lo e m K↔(lo.lC e=some true/\step P lo.AQ e m (K e))\/(lo.lC e=some false/\K e .undef m):=by
 unfold pE LO.lC;cases hg:lo.guard with
 |none=>simp[fO]
 |some p=>
  obtain⟨s,lC⟩:=p;simp only;generalize eO:lV e s=c;split
  .simp
  .rename_i t;have h1:∀b,t=b->aZ e s (ar b)=e:=λb hb=>by subst hb;exact Cr eO
   rw[cU];cases t
   .simp only[fO,h1 false rfl];cases lC<;>simp
   .simp only[fO,h1 true rfl];cases lC<;>simp
  .rename_i n1 n2;have:∀b,¬(match c with
     |CV.undef=>some false
     |CV.rv (RV.one (CC.ai (Dt.val (Value.bool t))))=>some (t==lC)
     |x=>none)=some b:=by
    intro b hb;split at hb
    .exact n1 rfl
    .exact n2 _ rfl
    .cases hb
   constructor
   .exact λh=>h.elim
   .rintro(⟨h,_⟩|⟨h,_⟩)<;>exact this _ h
def Ao(d:Option Nat)(v:CV)(e:List CV):List CV:=
 match d with
 |none=>e
 |some d=>e.set d v
theorem tC{d:Option Nat}{v:CV}{e:List CV}{K:List CV->Prop}:put d v e K↔K (Ao d v e):=by
 rw[OI];cases d<;>rfl
variable {N:Nat} {ρ0:b9} {m0:Mem} {w0:World}
theorem Inv.drew{st:St}{ρ:b9}{a:Act}{w:World}(h:Inv N ρ0 m0 w0 st ρ a w):Inv N ρ0 m0 w0 st ρ a {w with drawn:=w.drawn+1}:=by
 obtain⟨x,M,E,d,hN,n⟩:=h;have g:j7 ρ w ρ {w with drawn:=w.drawn+1}:=⟨aah _,λ_ _=>rfl,λ_ h=>h,λ_ _=>rfl⟩
 have e:Ext ρ st.mem w ρ st.mem {w with drawn:=w.drawn+1}:=⟨aah _,λ_ _=>rfl,λ_ h=>h,λ_ h=>.inl h,λk h=>.inr ⟨k,h,rfl⟩,λ_ _ _=>rfl,aah _,rfl,rfl,rfl⟩
 have hc:∀{mk:Prop}b cur,nN mk w b cur->nN mk {w with drawn:=w.drawn+1} b cur:=λ{mk}b cur hc=>hc.cT rfl
 refine⟨x.trans e,?_,?_,d,hN,n⟩
 .refine⟨M.n,M.S,M.aF,M.inj,λid b hb=>?_,λid i j esz el ho bF=>?_⟩
  .have h1:=M.bk id b hb;cases b with
   |aE=>trivial
   |var cs=>
    obtain⟨cur,cC,h2⟩:=h1;exact⟨cur,hc _ _ cC,λj c hj=>let⟨u,hu,hd⟩:=h2 j c hj;⟨u,hu,bJ.dg g aG hd⟩⟩
   |row esz elems=>
    obtain⟨h2,h3,h4,h5,h6⟩:=h1;refine⟨h2,h3,h4,h5,λhp=>?_⟩
    obtain⟨cur,cC,h7,h8⟩:=h6 hp;exact⟨cur,hc _ _ cC,h7,λi cs j c hi hj=>let⟨u,hu,hd⟩:=h8 i cs j c hi hj;⟨u,hu,bJ.dg g (by intro lO i' j' e';cases e';rw[M.n];exact(Mp.1 hb).1) hd⟩⟩
   |mp es=>
    obtain⟨fH,ck,h2,h3,h4⟩:=h1;exact⟨fH,ck,h2,h3,λi e he=>let⟨e',wa,hk,hd⟩:=h4 i e he;⟨e',wa,hk,eU.dg g hd⟩⟩
  .obtain⟨cur,cC,h2,h3,h4⟩:=M.jj id i j esz el ho bF;exact⟨cur,hc _ _ cC,h2,h3,λi cs j d hi hj=>let⟨u,hu,hd⟩:=h4 i cs j d hi hj;⟨u,hu,dG.mono (S:=ρ.S) (S':=ρ.S) (w:=w) (w':={w with drawn:=w.drawn+1}) (λ_ h=>h) (λ_ _=>rfl) hd⟩⟩
 .exact⟨E.size,λi c hi=>let⟨v,hv,hd⟩:=E.mB i c hi;⟨v,hv,cG.dg g hd⟩⟩
theorem A9{ops:Array Oper}{k:Nat}{o:Oper}{lo:LO}{ba:List CV}{m:Mem}{ρ:b9}{a:Act}{w:World}{K:CV->Mem->Prop}{K1:Act->World->Prop}{Q:Exit->Act->World->Prop}(ho:ops[k]? =some o)(iY:x4 P ops o=some lo)(hI:Inv N ρ0 m0 w0 ⟨ba,m⟩ ρ a w)(h:pE P lo ba m λ_ v m'=>K v m')(hn:∀v m' U' a' w',K v m'->Inv N ρ0 m0 w0 ⟨Ao lo.dst v ba,m'⟩ U' a' w'->K1 a' w'):wpOp P ops Q k K1 a w:=by
 simp only[x4,XX,V3]at iY;obtain⟨i,hi,g,hg,iY⟩:=iY;cases iY;unfold wpOp;rw[ho];simp only;have Vz:∀b,LO.lC ⟨o.dst,i,g⟩ ba=some b->Region.wanted o (yielded ops a.tmps)=b:=by
  intro b hb;unfold LO.lC at hb;cases Jv:o.guard with
  |none=>
   rw[Jv]at hg;simp[Oe]at hg;subst hg;simp at hb;subst hb;simp[Region.wanted,Jv]
  |some jb=>
   obtain⟨j,lC⟩:=jb;rw[Jv]at hg;simp only[Oe,XX,V3]at hg;obtain⟨oj,WW,s,hs,hg⟩:=hg;cases hg;have hy:yielded ops a.tmps j=match a.tmps[s]? with|some (.bool b)=>some b|_=>none:=by simp[yielded,WW,hs];rfl
   simp only at hb;split at hb
   .rename_i eO;have cL:=hI.ba.get s;rw[eO]at cL;have hu:a.tmps[s]? =some Go.undef\/a.tmps[s]? =none:=by
     simp only[cG,adp]at cL;cases ht:a.tmps[s]? with
     |none=>exact .inr rfl
     |some v=>rw[ht]at cL;simp at cL;exact .inl (by rw[cL])
    cases hb;simp only[Region.wanted,Jv,hy];rcases hu with hu|hu<;>rw[hu]<;>rfl
   .rename_i t eO;have cL:=hI.ba.get s;rw[eO]at cL;have ht:a.tmps[s]? =some (.bool t):=by
     have:=(cf cL).1;rw[adp]at this;cases ht:a.tmps[s]? with
     |none=>rw[ht]at this;cases this
     |some v=>rw[ht]at this;simp at this;rw[this]
    simp at hb;simp[Region.wanted,Jv,hy,ht,hb]
   .cases hb
 rcases iG.1 h with⟨hw,hs⟩|⟨hw,hs⟩
 .rw[if_pos (Vz _ hw)];refine .inl (Ed (K:=λe' m'=>∃v,e'=Ao o.dst v ba/\K v m') hi hI (A8 hs λv m' hk=>tC.2 ⟨v,rfl,hk⟩) λgD m' U' a' w'⟨v,he,hk⟩rI=>?_)
  subst he;exact hn v m' U' a' w' hk rI
 .rw[if_neg (by simp[Vz _ hw])]
  obtain⟨gD,Ju,rI⟩:=hI.step (d:=o.dst) (c:= .undef) (v:=Go.undef) (K:=λe=>e=Ao o.dst .undef ba) hI.mem rfl (Ext.refl _ _ _) (tC.2 rfl)
  subst Ju;exact hn _ _ _ _ _ hs rI
theorem wB{lo:LO}{e e':List CV}{m:Mem}{K:CV->Mem->Prop}(hx:∀t,t∈lo.looks->lV e t=lV e' t)(h:pE P lo e m λ_ v m'=>K v m'):
  pE P lo e' m λ_ v m'=>K v m':=by
 rw[iG]at h|-;have hs:∀t,t∈nh lo.AQ.xs->lV e t=lV e' t:=λt ht=>hx t (by unfold LO.looks;split<;>simp[ht])
 have hw:lo.lC e=lo.lC e':=by
  unfold LO.lC;cases hg:lo.guard with
  |none=>rfl
  |some p=>simp only[hx p.1 (by unfold LO.looks;rw[hg];simp)]
 have nT:∀(xs:List X)(x:X),x∈xs->∀n,x= .t n->n∈nh xs:=by
  intro xs
  induction xs with
  |nil=>intro x hx;cases hx
  |cons y r ih=>
   intro x hx n hn;subst hn;cases y with
   |t k=>
    simp only[nh,abH];rcases abH.1 hx with h|h
    .cases h;exact .inl rfl
    .exact .inr (ih _ h n rfl)
   |c v=>
    simp only[nh];rcases abH.1 hx with h|h
    .cases h
    .exact ih _ h n rfl
 have Vt:∀x,x∈lo.AQ.xs->x.ev e=x.ev e':=λx hx=>by
  cases x with
  |t n=>exact hs n (nT _ _ hx n rfl)
  |c v=>rfl
 rw[<-hw];rcases h with⟨h1,h2⟩|h
 .exact .inl ⟨h1,G1 Vt h2⟩
 .exact .inr h
def QV(P:Program)(lo:LO)(e:List CV)(m:Mem)(v:CV):Prop:=pE P lo e m λ_ v' m'=>v'=v/\m'=m
theorem wC{lo:LO}(hq:uR lo.AQ=true){e:List CV}{m:Mem}{K:List CV->CV->Mem->Prop}(h:pE P lo e m K):∃v,K e v m/\QV P lo e m v:=by
 rcases iG.1 h with⟨h1,h2⟩|⟨h1,h2⟩
 .obtain⟨v,hv,gM⟩:=G0 hq h2;exact⟨v,hv,iG.2 (.inl ⟨h1,gM _ ⟨rfl,rfl⟩⟩)⟩
 .exact⟨_,h2,iG.2 (.inr ⟨h1,rfl,rfl⟩)⟩
theorem QV.pure{lo:LO}(hq:AR lo.AQ=true){e:List CV}{m:Mem}{v:CV}(h:QV P lo e m v)(m':Mem):QV P lo e m' v:=by
 rcases iG.1 h with⟨h1,h2⟩|⟨h1,h2⟩
 .obtain⟨v',hv,gM⟩:=LD hq h2;exact iG.2 (.inl ⟨h1,gM m' _ ⟨hv.1,rfl⟩⟩)
 .exact iG.2 (.inr ⟨h1,h2.1,rfl⟩)
end
section
variable {P:Program}
def Edge(iZ:List (List Nat))(i j:Nat):Prop:=∃l,iZ[i]? =some l/\j∈l
def WX(iZ:List (List Nat))(L:Nat->Prop):Prop:=∀i j,Edge iZ i j->L i->L j
def WY(iZ:List (List Nat))(i j:Nat):Prop:=∀L,WX iZ L->(∀k,Edge iZ i k->L k)->L j
theorem tE{dI:List Nat}{t:Nat}:∀{l:List Nat},Nat.testBit (B9 dI l) t=true->
  ∃j,j∈l/\(t=j\/Nat.testBit ((dp dI j).getD 0) t=true)
 | [],h=>by simp[B9]at h
 |j::r,h=>by
  simp only[B9,List.foldr_cons]at h;have h1:∀a b:Nat,Nat.testBit (Nat.lor a b) t=(Nat.testBit a t||Nat.testBit b t):=λa b=>Nat.testBit_or a b t
  rw[h1,h1]at h;simp only[adB]at h;rcases h with h|h|h
  .obtain⟨k,hk,hr⟩:=tE (l:=r) h;exact⟨k,by simp[hk],hr⟩
  .refine⟨j,aG,.inl ?_⟩;have:Nat.shiftLeft 1 j=2^j:=by show 1<<<j=2^j;rw[Nat.shiftLeft_eq];simp
   rw[this,Nat.testBit_two_pow]at h;simpa using(of_decide_eq_true h).symm
  .exact⟨j,aG,.inr h⟩
def OL(iZ:List (List Nat))(dI:List Nat):Prop:=∀(i j:Nat),Nat.testBit ((dp dI i).getD 0) j=true->WY iZ i j
theorem Ee{iZ:List (List Nat)}{dI:List Nat}(h:OL iZ dI):OL iZ (Gv iZ dI):=by
 intro i j hb;rw[aX,Gv,Rn]at hb;cases hl:iZ[i]? with
 |none=>rw[hl]at hb;simp at hb
 |some l=>
  rw[hl]at hb;simp only[aaS,adl]at hb;obtain⟨k,hk,hr⟩:=tE hb;have he:Edge iZ i k:=⟨l,hl,hk⟩;rcases hr with rfl|hr
  .exact λL _ hL=>hL _ he
  .exact λL hd hL=>h k j hr L hd λk' jd=>hd _ _ jd (hL _ he)
theorem wD{iZ:List (List Nat)}:∀(k:Nat){dI:List Nat},OL iZ dI->OL iZ (Ca iZ k dI)
 |0,_,h=>h
 |k+1,dI,h=>by
  simp only[Ca];split
  .exact h
  .exact wD k (Ee h)
theorem LG{n:Nat}{iZ:List (List Nat)}:OL iZ (bK n iZ):=wD n λi j hb=>by simp[dp]at hb
theorem yr{iZ:List (List Nat)}{n:Nat}{L:Nat->Prop}(k6:∀i,i<n->¬L i->∃j,Edge iZ i j/\¬L j):
  ∀(l bf:List Nat),AS iZ n bf l=true->(∀i,i∈bf->L i)->∀i,i<n->L i
 | [],bf,h,hb,i,hi=>by
  simp only[AS,adk]at h;exact hb i (by simpa using h i (by simpa using hi))
 |x::r,bf,h,hb,i,hi=>by
  simp only[AS,aaJ,adk]at h;refine yr k6 r (x::bf) h.2 (λk hk=>?_) i hi
  rcases abH.1 hk with e|hk
  .rw[e];by_cases h1:L x
   .exact h1
   .obtain⟨j,⟨l,hl,hj⟩,hnj⟩:=k6 x (by have:=h.1.1;rwa [adw]at this) h1
    refine absurd (hb j ?_) hnj;have:=h.1.2 j (by rw[aX,hl];exact hj)
    simpa using this
  .exact hb k hk
variable {cy:List LO} {ms:List Nat} {n:Nat} {e0:List CV} {iZ:List (List Nat)}
structure nr(cy:List LO)(e0:List CV)(S:Nat->Prop)(val:Nat->CV)(e:List CV):Prop where
 len:e.length=e0.length
 on:∀t k,S k->dB cy t k=true->t<e0.length->e[t]? =some (val k)
 off:∀t,(∀k,S k->dB cy t k=false)->e[t]? =e0[t]?
theorem mD{t k:Nat}:dB cy t k=true↔∃lo,dp cy k=some lo/\lo.dst=some t:=by
 unfold dB;cases dp cy k with
 |none=>simp
 |some lo=>
  cases hd:lo.dst with
  |none=>simp[hd]
  |some d=>simp[hd]
theorem nr.step{S:Nat->Prop}{val:Nat->CV}{e:List CV}(h:nr cy e0 S val e){i:Nat}{lo:LO}(hi:dp cy i=some lo)(hu:∀t k,S k->lo.dst=some t->dB cy t k=false){v:CV}{kI:Nat->CV}(hv:kI i=v)(lj:∀k,S k->kI k=val k){S':Nat->Prop}(hS:∀k,S' k↔S k\/k=i):nr cy e0 S' kI (Ao lo.dst v e):=by
 have hw:∀t,dB cy t i=true↔lo.dst=some t:=λt=>by rw[mD];simp[hi]
 refine⟨?_,λt k hk DH ay=>?_,λt gM=>?_⟩
 .unfold Ao;split<;>simp[h.len]
 .rcases(hS k).1 hk with hk|rfl
  .have gj:lo.dst≠some t:=λhd=>by rw[hu t k hk hd]at DH;cases DH
   rw[lj k hk,<-h.on t k hk DH ay];unfold Ao;cases hd:lo.dst with
   |none=>rfl
   |some d=>
    simp only;rw[aap];rintro rfl;exact gj hd
  .have hd:=(hw t).1 DH;rw[hd,hv];simp only[Ao];rw[aal (by rw[h.len];exact ay)]
 .have gj:lo.dst≠some t:=λhd=>by have:=gM i ((hS i).2 (.inr rfl));rw[(hw t).2 hd]at this;cases this
  rw[<-h.off t λk hk=>gM k ((hS k).2 (.inl hk))]
  unfold Ao;cases hd:lo.dst with
  |none=>rfl
  |some d=>
   simp only;rw[aap];rintro rfl;exact gj hd
theorem nr.aao{S S':Nat->Prop}{val kI:Nat->CV}{e:List CV}(h:nr cy e0 S val e)(lj:∀k,S k->kI k=val k)(hS:∀k,S' k↔S k):nr cy e0 S' kI e:=
 ⟨h.len,λt k hk hw hl=>by rw[lj k ((hS k).1 hk)];exact h.on t k ((hS k).1 hk) hw hl,λt gM=>h.off t λk hk=>gM k ((hS k).2 hk)⟩
theorem nr.ext{S:Nat->Prop}{val:Nat->CV}{e e':List CV}(h:nr cy e0 S val e)(h':nr cy e0 S val e'):e=e':=by
 refine acq λt=>?_
 by_cases hex:∃k,S k/\dB cy t k=true
 .obtain⟨k,hk,hw⟩:=hex;rcases aaD t e0.length with ay|eO
  .rw[h.on t k hk hw ay,h'.on t k hk hw ay]
  .rw[abk (by rw[h.len];exact eO),abk (by rw[h'.len];exact eO)]
 .have:∀k,S k->dB cy t k=false:=λk hk=>by
   cases hw:dB cy t k with
   |false=>rfl
   |true=>exact absurd ⟨k,hk,hw⟩ hex
  rw[h.off t this,h'.off t this]
def Agree(cy:List LO)(ms:List Nat)(e0:List CV)(bf:List Nat)(val:Nat->CV)(j:Nat)(e1:List CV):Prop:=
 e1.length=e0.length/\∀t,t∈qv cy j->t<e0.length->
  (∃k,k∈bf/\dB cy t k=true/\oV ms j k=true/\e1[t]? =some (val k))\/
  ((∀k,k∈bf->dB cy t k=true->k=j\/oV ms k j=true)/\e1[t]? =e0[t]?)
theorem Agree.now{bf:List Nat}{val:Nat->CV}{j:Nat}{e1 ba:List CV}{L:Nat->Prop}(h:Agree cy ms e0 bf val j e1)(hE:nr cy e0 L val ba)(DI:∀i j,oV ms i j=true->WY iZ i j)(hd:WX iZ L)(sy:∀i,L i->i∈bf)(hj:¬L j)(hr:∀k,Edge iZ j k->L k):
  ∀t,t∈qv cy j->lV e1 t=lV ba t:=by
 intro t ht;rw[nj,nj];rcases aaD t e0.length with ay|eO
 .rcases h.2 t ht ay with⟨k,hk,hw,hm,he⟩|⟨gM,he⟩
  .rw[he,hE.on t k (DI _ _ hm L hd hr) hw ay]
  .rw[he,hE.off t λk hk=>?_]
   cases hw:dB cy t k with
   |false=>rfl
   |true=>
    rcases gM k (sy k hk) hw with rfl|hm
    .exact absurd hk hj
    .exact absurd (DI _ _ hm L hd λk' jd=>hd _ _ jd hk) hj
 .rw[abk (by rw[h.1];exact eO),abk (by rw[hE.len];exact eO)]
structure DS(P:Program)(cy:List LO)(ms:List Nat)(n:Nat)(iZ:List (List Nat))(e0:List CV)(K:List CV->Mem->Prop)(L:Nat->Prop)(bf:List Nat)(c:Bool)(R:ng)(val:Nat->CV)(eW:List (Nat×LO×List CV×CV))(e ba:List CV)(m:Mem):Prop where
 go:eK cy ms n c bf R=true
 cps:wY P cy R eW K e m
 tF:nr cy e0 (·∈bf) val e
 Ap:nr cy e0 L val ba
 sub:∀i,L i->i∈bf
 down:WX iZ L
 Aq:∀t j k,j∈bf->k∈bf->dB cy t j=true->dB cy t k=true->j=k
 u6:∀j,j∈bf->¬L j->∃lo e1,dp cy j=some lo/\uR lo.AQ=true/\x6 j eW=some (lo,e1,val j)/\QV P lo e1 m (val j)/\Agree cy ms e0 bf val j e1
theorem kJ{bf:List Nat}{i:Nat}(h:Jg cy ms n bf i=true):i<n/\i∉bf/\
  (∀t,t∈qv cy i->∀j,j∈bf->dB cy t j=true->oV ms i j=true)/\
  (∀t,Lc cy i=some t->∀j,j∈bf->dB cy t j=false/\(t∈qv cy j->oV ms i j=true)):=by
 simp only[Jg,aaJ]at h;obtain⟨⟨⟨h1,h2⟩,h4⟩,h5⟩:=h;refine⟨by rwa [adw]at h1,by simpa using h2,?_,?_⟩
 .intro t ht j hj hw;have:=adk.1 (adk.1 h4 t ht) j hj;simpa[hw]using this
 .intro t ht j hj;rw[ht]at h5;have:=adk.1 h5 j hj;simp only[aaJ,adx,adB]at this;refine⟨this.1,λhl=>?_⟩
  rcases this.2 with h|h
  .simp[hl]at h
  .exact h
theorem Ba{bf hd:List Nat}(h:WE ms n bf hd=true){i:Nat}(hi:i<n)(hb:i∉bf):i∈hd\/∃f,f∈hd/\oV ms i f=true:=by
 have:=adk.1 h i (by simpa using hi)
 simp only[adB,acf]at this;rcases this with h|h|⟨f,h1,h2⟩
 .exact absurd (by simpa using h) hb
 .exact .inl (by simpa using h)
 .exact .inr ⟨f,h1,h2⟩
theorem mE:∀{R:ng}{bf:List Nat},eK cy ms n false bf R=true->(∃f,f∈R.hd)/\∀f,f∈R.hd->f<n/\f∉bf
 | .nil,bf,h=>by simp[eK]at h
 | .cons i none r,bf,h=>by simp[eK]at h
 | .cons i (some l) r,bf,h=>by
  simp only[eK,aaJ]at h;obtain⟨h1,h2,_⟩:=kJ h.2.1;exact⟨⟨i,by simp[ng.hd]⟩,λf hf=>by simp[ng.hd]at hf;subst hf;exact⟨h1,h2⟩⟩
 | .z7 x y,bf,h=>by
  simp only[eK,aaJ]at h;obtain⟨⟨f,hf⟩,hx⟩:=mE h.2.1;obtain⟨_,hy⟩:=mE h.2.2;exact⟨⟨f,by simp[ng.hd,hf]⟩,λf hf=>by simp only[ng.hd,abJ]at hf;exact hf.elim (hx f) (hy f)⟩
theorem DS.ahead{K:List CV->Mem->Prop}{L:Nat->Prop}{bf:List Nat}{c:Bool}{q:Nat}{R:ng}{val:Nat->CV}{eW:List (Nat×LO×List CV×CV)}{e ba:List CV}{m:Mem}(h:DS P cy ms n iZ e0 K L bf c (.cons q none R) val eW e ba m):∃kI tG e',DS P cy ms n iZ e0 K L (q::bf) true R kI tG e' ba m:=by
 have rJ:=h.go;simp only[eK,aaJ]at rJ;obtain⟨_,Ef,g6,g8⟩:=rJ;obtain⟨g1,g2,g4,g5⟩:=kJ Ef;have hc:=h.cps;simp only[AU,Jk]at hc;obtain⟨lo,iY,hc⟩:=be.1 hc;have hq:uR lo.AQ=true:=by simpa[ni,iY]using g6
 obtain⟨v,hc,hqv⟩:=wC hq hc;have hc:=tC.1 hc;have OM:Lc cy q=lo.dst:=by simp[Lc,iY]
 let kI:Nat->CV:=λk=>if k=q then v else val k
 have lj:∀k,k∈bf->kI k=val k:=λk hk=>if_neg λ(e:k=q)=>g2 (e▸hk)
 have DH:∀t k,k∈bf->lo.dst=some t->dB cy t k=false:=λt k hk hd=>(g5 t (by rw[OM];exact hd) k hk).1
 have WZ:∀t,dB cy t q=true->lo.dst=some t:=λt hw=>by obtain⟨GR,h1,h2⟩:=mD.1 hw;rw[iY]at h1;cases h1;exact h2
 refine⟨kI,_,_,g8,hc,h.tF.step iY DH (by simp[kI]) lj (by simp[or_comm]),h.Ap.aao (λk hk=>lj k (h.sub k hk)) (λ_=>Iff.rfl),λi hi=>by simp[h.sub i hi],h.down,?_,?_⟩
 .intro t j k hj hk ON Jy;rcases abH.1 hj with e1|DG<;>rcases abH.1 hk with e2|lP
  .rw[e1,e2]
  .rw[e1]at ON;rw[DH t k lP (WZ t ON)]at Jy;cases Jy
  .rw[e2]at Jy;rw[DH t j DG (WZ t Jy)]at ON;cases ON
  .exact h.Aq t j k DG lP ON Jy
 .intro j hj hL;rcases abH.1 hj with rfl|hj
  .refine⟨lo,e,iY,hq,by simp[x6,kI],by simpa[kI]using hqv,h.tF.len,λt ht ay=>?_⟩
   by_cases hex:∃k,k∈bf/\dB cy t k=true
   .obtain⟨k,hk,hw⟩:=hex;exact .inl ⟨k,by simp[hk],hw,g4 t ht k hk hw,by rw[lj k hk];exact h.tF.on t k hk hw ay⟩
   .refine .inr ⟨λk hk hw=>?_,h.tF.off t λk hk=>?_⟩
    .rcases abH.1 hk with rfl|hk
     .exact .inl rfl
     .exact absurd ⟨k,hk,hw⟩ hex
    .cases hw:dB cy t k with
     |false=>rfl
     |true=>exact absurd ⟨k,hk,hw⟩ hex
  .obtain⟨GR,e1,h1,h2,h3,h4,h5,h6⟩:=h.u6 j hj hL;have gj:q≠j:=λe=>g2 (e▸hj)
   refine⟨GR,e1,h1,h2,?_,by rw[lj j hj];exact h4,h5,λt ht ay=>?_⟩
   .have:Nat.beq q j=false:=by
     cases hb:Nat.beq q j with
     |false=>rfl
     |true=>exact absurd (aaX hb) gj
    simp only[x6,this];rw[h3,lj j hj]
   .rcases h6 t ht ay with⟨k,hk,hw,hm,he⟩|⟨gM,he⟩
    .exact .inl ⟨k,by simp[hk],hw,hm,by rw[lj k hk];exact he⟩
    .refine .inr ⟨λk hk hw=>?_,he⟩
     rcases abH.1 hk with e2|lP
     .rw[e2]at hw|-;exact .inr ((g5 t (by rw[OM];exact WZ t hw) j hj).2 ht)
     .exact gM k lP hw
end
section
variable {P:Program}
variable {N:Nat} {ρ0:b9} {m0:Mem} {w0:World}
variable {cy:List LO} {ms:List Nat} {n:Nat} {e0:List CV} {iZ:List (List Nat)}
theorem Bb{ops:Array Oper}:∀{l:List Oper}{cy:List LO},og P ops l=some cy->l.length=cy.length/\∀(i:Nat)o,l[i]? =some o->∃lo,dp cy i=some lo/\x4 P ops o=some lo
 | [],cy,h=>by simp[og]at h;subst h;simp
 |o::r,cy,h=>by
  obtain⟨lo,lr,rfl,h1,h2⟩:=u4 h o r rfl;obtain⟨h3,h4⟩:=Bb h2;refine⟨by simp[h3],λi o' hi=>?_⟩
  cases i with
  |zero=>simp at hi;subst hi;exact⟨lo,rfl,h1⟩
  |succ i=>simpa[dp]using h4 i o' (by simpa using hi)
theorem Eg{m:Mem}{eW:List (Nat×LO×List CV×CV)}{j:Nat}:∀{l:List Nat},ZV P m eW l->j∈l->ok (x6 j eW) λx=>pE P x.1 x.2.1 m λ_ v _=>v=x.2.2
 | [],_,h=>by cases h
 |k::r,hc,h=>by
  simp only[Og]at hc;rcases abH.1 h with e|h
  .rw[e];exact hc.1
  .exact Eg hc.2 h
theorem DS.aaq{K:List CV->Mem->Prop}{L:Nat->Prop}{bf:List Nat}{c:Bool}{R:ng}{val:Nat->CV}{eW:List (Nat×LO×List CV×CV)}{e ba:List CV}{m:Mem}(h:DS P cy ms n iZ e0 K L bf c R val eW e ba m){i:Nat}(hi:i∈bf)(hL:¬L i){lo:LO}(iY:dp cy i=some lo):∀t k,L k->lo.dst=some t->dB cy t k=false:=by
 intro t k hk hd;cases hw:dB cy t k with
 |false=>rfl
 |true=>
  have:=h.Aq t i k hi (h.sub k hk) (mD.2 ⟨lo,iY,hd⟩) hw;exact absurd (this▸hk) hL
theorem DS.Jz{K:List CV->Mem->Prop}{L L':Nat->Prop}{bf:List Nat}{c:Bool}{R:ng}{val:Nat->CV}{eW:List (Nat×LO×List CV×CV)}{e ba:List CV}{m:Mem}(h:DS P cy ms n iZ e0 K L bf c R val eW e ba m)(DI:∀i j,oV ms i j=true->WY iZ i j){i:Nat}(hi:i∈bf)(hL:¬L i)(hr:∀k,Edge iZ i k->L k)(xd:∀k,L' k↔L k\/k=i){ops:Array Oper}{o:Oper}{lo:LO}(ho:ops[i]? =some o)(iY:dp cy i=some lo)(l5:x4 P ops o=some lo){ρ:b9}{a:Act}{w:World}(hI:Inv N ρ0 m0 w0 ⟨ba,m⟩ ρ a w){K1:Act->World->Prop}{Q:Exit->Act->World->Prop}(hn:∀gD U' a' w',Inv N ρ0 m0 w0 ⟨gD,m⟩ U' a' w'->DS P cy ms n iZ e0 K L' bf c R val eW e gD m->K1 a' w'):wpOp P ops Q i K1 a w:=by
 obtain⟨GR,e1,h1,h2,h3,h4,h5⟩:=h.u6 i hi hL;rw[iY]at h1;cases h1;have W0:=h5.now h.Ap DI h.down h.sub hL hr;have hv:=wB (lo:=lo) (K:=λv' m'=>v'=val i/\m'=m) (λt ht=>W0 t (by simpa[qv,iY]using ht)) h4
 refine A9 ho l5 hI hv λv m' U' a' w' hk rI=>?_
 obtain⟨rfl,rfl⟩:=hk;refine hn _ U' a' w' rI ⟨h.go,h.cps,h.tF,h.Ap.step iY (h.aaq hi hL iY) rfl (λ_ _=>rfl) xd,λj hj=>?_,λx y OO hx=>?_,h.Aq,λj hj hLj=>h.u6 j hj λhl=>hLj ((xd j).2 (.inl hl))⟩
 .rcases(xd j).1 hj with hj|rfl
  .exact h.sub j hj
  .exact hi
 .rcases(xd x).1 hx with hx|rfl
  .exact(xd y).2 (.inl (h.down x y OO hx))
  .exact(xd y).2 (.inl (hr y OO))
theorem DS.W6{K:List CV->Mem->Prop}{L L':Nat->Prop}{bf:List Nat}{c:Bool}{i:Nat}{l:List Nat}{R:ng}{val:Nat->CV}{eW:List (Nat×LO×List CV×CV)}{e ba:List CV}{m:Mem}(h:DS P cy ms n iZ e0 K L bf c (.cons i (some l) R) val eW e ba m)(DI:∀i j,oV ms i j=true->WY iZ i j)(hr:∀k,Edge iZ i k->L k)(xd:∀k,L' k↔L k\/k=i){ops:Array Oper}{o:Oper}{lo:LO}(ho:ops[i]? =some o)(iY:dp cy i=some lo)(l5:x4 P ops o=some lo){ρ:b9}{a:Act}{w:World}(hI:Inv N ρ0 m0 w0 ⟨ba,m⟩ ρ a w){K1:Act->World->Prop}{Q:Exit->Act->World->Prop}(hn:∀kI tG e' gD m' U' a' w',Inv N ρ0 m0 w0 ⟨gD,m'⟩ U' a' w'->DS P cy ms n iZ e0 K L' (i::bf) true R kI tG e' gD m'->K1 a' w'):wpOp P ops Q i K1 a w:=by
 have rJ:=h.go;simp only[eK,aaJ]at rJ;obtain⟨_,Ef,g7,g8⟩:=rJ;obtain⟨g1,g2,g4,g5⟩:=kJ Ef;have hc:=h.cps;simp only[AU,Jk]at hc;obtain⟨GR,aar,hc⟩:=be.1 hc;rw[iY]at aar;cases aar;have Cs:¬L i:=λhl=>g2 (h.sub i hl)
 have aas:∀k,oV ms i k=true->L k:=λk hm=>DI i k hm L h.down hr
 have yf:pE P lo e m λ_ v m'=>ZV P m' eW l/\wY P cy R eW K (Ao lo.dst v e) m':=by
  rw[iG]at hc|-;rcases hc with⟨h1,h2⟩|⟨h1,h2⟩
  .exact .inl ⟨h1,A8 h2 λv m' hk=>tC.1 hk⟩
  .exact .inr ⟨h1,tC.1 h2⟩
 have OM:Lc cy i=lo.dst:=by simp[Lc,iY]
 have W0:∀t,t∈lo.looks->lV e t=lV ba t:=λt ht=>by
  rw[nj,nj];rcases aaD t e0.length with ay|eO
  .by_cases hex:∃k,k∈bf/\dB cy t k=true
   .obtain⟨k,hk,hw⟩:=hex;rw[h.tF.on t k hk hw ay,h.Ap.on t k (aas k (g4 t (by simpa[qv,iY]using ht) k hk hw)) hw ay]
   .have G2:∀k,k∈bf->dB cy t k=false:=λk hk=>by
     cases hw:dB cy t k with
     |false=>rfl
     |true=>exact absurd ⟨k,hk,hw⟩ hex
    rw[h.tF.off t G2,h.Ap.off t λk hk=>G2 k (h.sub k hk)]
  .rw[abk (by rw[h.tF.len];exact eO),abk (by rw[h.Ap.len];exact eO)]
 have hv:=wB W0 yf;have DH:∀t k,k∈bf->lo.dst=some t->dB cy t k=false:=λt k hk hd=>(g5 t (by rw[OM];exact hd) k hk).1
 have WZ:∀t,dB cy t i=true->lo.dst=some t:=λt hw=>by obtain⟨GR,h1,h2⟩:=mD.1 hw;rw[iY]at h1;cases h1;exact h2
 refine A9 ho l5 hI hv λv m' U' a' w' hk rI=>?_
 obtain⟨aeS,hd⟩:=hk;let kI:Nat->CV:=λk=>if k=i then v else val k
 have lj:∀k,k∈bf->kI k=val k:=λk hk=>if_neg λ(e:k=i)=>g2 (e▸hk)
 refine hn kI eW _ _ m' U' a' w' rI ⟨g8,hd,h.tF.step iY DH (by simp[kI]) lj (by simp[or_comm]),
  h.Ap.step iY (λt k hk hd=>DH t k (h.sub k hk) hd) (by simp[kI]) (λk hk=>lj k (h.sub k hk)) xd,λj hj=>?_,λx y OO hx=>?_,λt j k hj hk ON Jy=>?_,λj hj hLj=>?_⟩
 .rcases(xd j).1 hj with hj|rfl
  .simp[h.sub j hj]
  .simp
 .rcases(xd x).1 hx with hx|rfl
  .exact(xd y).2 (.inl (h.down x y OO hx))
  .exact(xd y).2 (.inl (hr y OO))
 .rcases abH.1 hj with e1|DG<;>rcases abH.1 hk with e2|lP
  .rw[e1,e2]
  .rw[e1]at ON;rw[DH t k lP (WZ t ON)]at Jy;cases Jy
  .rw[e2]at Jy;rw[DH t j DG (WZ t Jy)]at ON;cases ON
  .exact h.Aq t j k DG lP ON Jy
 .have Zu:¬L j:=λhl=>hLj ((xd j).2 (.inl hl))
  have W7:j≠i:=λe=>hLj ((xd j).2 (.inr e))
  have DG:j∈bf:=by
   rcases abH.1 hj with e|h
   .exact absurd e W7
   .exact h
  obtain⟨GR,e1,h1,h2,h3,h4,h5,h6⟩:=h.u6 j DG Zu;refine⟨GR,e1,h1,h2,by rw[lj j DG];exact h3,?_,h5,λt ht ay=>?_⟩
  .rw[lj j DG];have g7j:=adk.1 g7 j DG;have W8:ni cy j=true:=by simpa[ni,h1]using h2
   simp only[W8,afn,adK,adB,List.contains_iff_mem]at g7j;rcases g7j with hm|hp|hl
   .exact absurd (aas j hm) Zu
   .exact h4.pure (by simpa[Gw,h1]using hp) m'
   .have:=Eg aeS hl;rw[h3]at this;obtain⟨_,hx,W9⟩:=be.1 this;cases hx;obtain⟨v',Ar,hq⟩:=wC h2 W9;simp only at Ar;rw[<-Ar];exact hq
  .rcases h6 t ht ay with⟨k,hk,hw,hm,he⟩|⟨gM,he⟩
   .exact .inl ⟨k,by simp[hk],hw,hm,by rw[lj k hk];exact he⟩
   .refine .inr ⟨λk hk hw=>?_,he⟩
    rcases abH.1 hk with e2|lP
    .rw[e2]at hw|-;exact .inr ((g5 t (by rw[OM];exact WZ t hw) j DG).2 ht)
    .exact gM k lP hw
theorem DS.any{K:List CV->Mem->Prop}{L L':Nat->Prop}(DI:∀i j,oV ms i j=true->WY iZ i j){i:Nat}(iF:i<n)(hL:¬L i)(hr:∀k,Edge iZ i k->L k)(xd:∀k,L' k↔L k\/k=i){ops:Array Oper}{o:Oper}{lo:LO}(ho:ops[i]? =some o)(iY:dp cy i=some lo)(l5:x4 P ops o=some lo){ba:List CV}{m:Mem}{ρ:b9}{a:Act}{w:World}(hI:Inv N ρ0 m0 w0 ⟨ba,m⟩ ρ a w){K1:Act->World->Prop}{Q:Exit->Act->World->Prop}(hn:∀bf R kI tG e' gD m' U' a' w',Inv N ρ0 m0 w0 ⟨gD,m'⟩ U' a' w'->DS P cy ms n iZ e0 K L' bf true R kI tG e' gD m'->K1 a' w'):
  ∀(R:ng)(bf:List Nat)(c:Bool)(val:Nat->CV)(eW:List (Nat×LO×List CV×CV))(e:List CV),(c=false->i∈R.hd)->DS P cy ms n iZ e0 K L bf c R val eW e ba m->wpOp P ops Q i K1 a w:=by
 intro R
 induction R with
 |nil=>
  intro bf c val eW e hc h;cases c with
  |false=>have:=hc rfl;simp[ng.hd]at this
  |true=>
   have rJ:=h.go;simp only[eK,adJ,adk]at rJ;have hi:i∈bf:=by simpa using rJ i (by simpa using iF)
   exact h.Jz DI hi hL hr xd ho iY l5 hI λgD U' a' w'=>hn _ _ _ _ _ gD m U' a' w'
 |cons q N8 R ih=>
  intro bf c val eW e hc h;cases N8 with
  |none=>
   have hct:c=true:=by have rJ:=h.go;simp only[eK,aaJ]at rJ;exact rJ.1
   subst hct;by_cases hi:i∈bf
   .exact h.Jz DI hi hL hr xd ho iY l5 hI λgD U' a' w'=>hn _ _ _ _ _ gD m U' a' w'
   .obtain⟨kI,tG,e',h'⟩:=h.ahead;exact ih _ _ _ _ _ (λh=>by cases h) h'
  |some l=>
   have rJ:=h.go;simp only[eK,aaJ]at rJ;obtain⟨OP,Ef,_⟩:=rJ;obtain⟨_,g2,_⟩:=kJ Ef;by_cases hi:i∈bf
   .cases c with
    |false=>
     have hq:=hc rfl;simp only[ng.hd,acn]at hq;subst hq;exact absurd hi g2
    |true=>exact h.Jz DI hi hL hr xd ho iY l5 hI λgD U' a' w'=>hn _ _ _ _ _ gD m U' a' w'
   .have As:q=i:=by
     cases c with
     |false=>
      have hq:=hc rfl;simp only[ng.hd,acn]at hq;exact hq.symm
     |true=>
      simp only[afn,adK]at OP;rcases Ba OP iF hi with hq|⟨f,hf,hm⟩
      .simpa using Eq.symm (by simpa using hq)
      .simp only[acn]at hf;subst hf;exact absurd (h.sub _ (DI i _ hm L h.down hr)) g2
    subst As;exact h.W6 DI hr xd ho iY l5 hI λkI tG e' gD m' U' a' w'=>hn _ _ _ _ _ gD m' U' a' w'
 |z7 x y Xa OQ=>
  intro bf c val eW e hc h;have rJ:=h.go;simp only[eK,aaJ]at rJ;obtain⟨OP,hgx,hgy⟩:=rJ;obtain⟨_,hhx⟩:=mE hgx;obtain⟨_,hhy⟩:=mE hgy;have Xb:=h.cps;simp only[Oh]at Xb;have goX:i∈x.hd->wpOp P ops Q i K1 a w:=λhi=>Xa bf false val eW e (λ_=>hi) ⟨hgx,Xb.1,h.tF,h.Ap,h.sub,h.down,h.Aq,h.u6⟩
  have goY:i∈y.hd->wpOp P ops Q i K1 a w:=λhi=>OQ bf false val eW e (λ_=>hi) ⟨hgy,Xb.2,h.tF,h.Ap,h.sub,h.down,h.Aq,h.u6⟩
  cases c with
  |false=>
   have hq:=hc rfl;simp only[ng.hd,abJ]at hq;exact hq.elim goX goY
  |true=>
   by_cases hi:i∈bf
   .exact h.Jz DI hi hL hr xd ho iY l5 hI λgD U' a' w'=>hn _ _ _ _ _ gD m U' a' w'
   .simp only[afn,adK]at OP;rcases Ba OP iF hi with hq|⟨f,hf,hm⟩
    .rcases abJ.1 hq with hq|hq
     .exact goX hq
     .exact goY hq
    .have hfL:=h.sub _ (DI i f hm L h.down hr);rcases abJ.1 hf with hf|hf
     .exact absurd hfL (hhx f hf).2
     .exact absurd hfL (hhy f hf).2
theorem Bc:∀(l:List Bool)(i:Nat),l[i]? =some false->(l.set i true).count false+1=l.count false
 | [],i,h=>by simp at h
 |b::r,0,h=>by simp at h;subst h;simp
 |b::r,i+1,h=>by
  have:=Bc r i (by simpa using h)
  cases b<;>simp[List.count_cons]at this|-<;>omega
theorem SP{md:Region.Mode}{ops:Array Oper}{Q:Exit->Act->World->Prop}{K:List CV->Mem->Prop}(hQ:∀ba m ρ a w,K ba m->Inv N ρ0 m0 w0 ⟨ba,m⟩ ρ a w->Q .normal a w)(DI:∀i j,oV ms i j=true->WY (my md ops) i j)(aeT:∃l,AS (my md ops) n [] l=true)(Ct:∀(i:Nat)o,ops[i]? =some o->∃lo,dp cy i=some lo/\x4 P ops o=some lo)(hn:n=ops.size)(lQ:n=cy.length):
  ∀(fuel:Nat) (listed:Array Bool) (a:Act) (w:World) (ρ:b9) (m:Mem) (ba:List CV) (bf:List Nat) (R:ng) (val:Nat->CV)
   (eW:List (Nat×LO×List CV×CV)) (e:List CV),listed.size=n->listed.toList.count false=fuel->Inv N ρ0 m0 w0 ⟨ba,m⟩ ρ a w->
   DS P cy ms n (my md ops) e0 K (λi=>listed[i]? =some true) bf true R val eW e ba m->wpAny P md ops Q fuel listed a w:=by
 have OR:∀(listed:Array Bool)i,i∈Region.ready md ops listed->listed[i]? =some false/\i<ops.size/\∀k,Edge (my md ops) i k->listed[k]? =some true:=by
  intro listed i hi;obtain⟨h0,o,ho,gM⟩:=mem_ready.1 hi;refine⟨?_,(abG.1 ho).1,λk hk=>?_⟩
  .rw[adp]at h0;cases hg:listed[i]? with
   |none=>rw[hg]at h0;simp at h0
   |some b=>rw[hg]at h0;simp at h0;rw[h0]
  .obtain⟨l,hl,ef⟩:=hk;simp only[my,Rn,aeb,ho,aaS,abi]at hl;subst hl;obtain⟨ed,hed,rfl⟩:=abm.1 ef;obtain⟨aeU,aeV⟩:=adD.1 hed;have:=gM ed (by simpa using aeU) aeV
   rw[adp]at this;cases hg:listed[ed.on]? with
   |none=>rw[hg]at this;simp at this
   |some b=>rw[hg]at this;simp at this;rw[this]
 have Xc:∀(i:Nat)o ed,ops[i]? =some o->ed∈o.after->Region.binds md ed=true->Edge (my md ops) i ed.on:=by
  intro i o ed ho hed hb;refine⟨(o.after.toList.filter (Region.binds md)).map (·.on),?_,?_⟩
  .simp[my,Rn,ho]
  .exact abm.2 ⟨ed,adD.2 ⟨by simpa using hed,hb⟩,rfl⟩
 intro fuel
 induction fuel with
 |zero=>
  intro listed a w ρ m ba bf R val eW e eu aau hI h;have gM:∀i,i<n->listed[i]? =some true:=by
   intro i hi;have ay:i<listed.size:=om;rw[adv ay];have k6:=List.count_eq_zero.1 aau;cases hb:listed[i]with
   |true=>rfl
   |false=>exact absurd (by rw[<-hb];exact Array.getElem_mem_toList ay) k6
  constructor
  .rw[List.eq_nil_iff_forall_not_mem];intro i hi;obtain⟨h1,h2,_⟩:=OR listed i hi;rw[gM i om]at h1;cases h1
  .have hR:R= .nil:=by
    cases R with
    |nil=>rfl
    |cons q N8 R=>
     have rJ:=h.go;cases N8 with
     |none=>
      simp only[eK,aaJ]at rJ;obtain⟨g1,g2,_⟩:=kJ rJ.2.1;exact absurd (h.sub q (gM q g1)) g2
     |some l=>
      simp only[eK,aaJ]at rJ;obtain⟨g1,g2,_⟩:=kJ rJ.2.1;exact absurd (h.sub q (gM q g1)) g2
    |z7 x y=>
     have rJ:=h.go;simp only[eK,aaJ]at rJ;obtain⟨⟨f,hf⟩,hx⟩:=mE rJ.2.1;obtain⟨g1,g2⟩:=hx f hf;exact absurd (h.sub f (gM f g1)) g2
   subst hR;have hbf:∀i,i∈bf->i<n\/n<=i:=λi _=>aaD i n
   have hnw:∀i t,n<=i->dB cy t i=false:=by
    intro i t hi;cases hw:dB cy t i with
    |false=>rfl
    |true=>
     obtain⟨lo,iY,_⟩:=mD.1 hw;rw[aX]at iY;have:=(Mp.1 iY).1;omega
   have he:e=ba:=by
    have e1:nr cy e0 (λi=>i∈bf/\i<n) val e:=⟨h.tF.len,λt k hk=>h.tF.on t k hk.1,λt aav=>h.tF.off t λk hk=>by
     rcases hbf k hk with ay|eO
     .exact aav k ⟨hk,ay⟩
     .exact hnw k t eO⟩
    have e2:nr cy e0 (λi=>i∈bf/\i<n) val ba:=h.Ap.aao (λ_ _=>rfl) λk=>⟨λhk=>gM k hk.2,λhk=>⟨h.sub k hk,by have:=(abG.1 hk).1;omega⟩⟩
    exact e1.ext e2
   subst he;exact hQ _ _ ρ a w h.cps hI
 |succ fuel ih=>
  intro listed a w ρ m ba bf R val eW e eu aau hI h;constructor
  .intro WO;exfalso;have hex:∃i:Nat,listed[i]? =some false:=by
    have:false∈listed.toList:=by apply List.count_pos_iff.1;omega
    obtain⟨i,hi⟩:=aag this;exact⟨i,by simpa using hi⟩
   obtain⟨i,hi⟩:=hex;obtain⟨l,hl⟩:=aeT;have iF:i<n:=by have:=(abG.1 hi).1;omega
   have:=yr (L:=λi=>listed[i]? =some true) (λi hi Bd=>?_) l [] hl (λ_ h=>by cases h) i iF
   .rw[hi]at this;cases this
   .refine XW λaaw=>?_
    have ay:i<ops.size:=om;have Eh:i<listed.size:=om;have hf:listed[i]? =some false:=by
     rw[adv Eh]at Bd|-;cases lY:listed[i]with
     |true=>rw[lY]at Bd;exact absurd rfl Bd
     |false=>rfl
    have hm:i∈Region.ready md ops listed:=by
     rw[mem_ready];refine⟨by rw[adp,hf];rfl,ops[i],adv ay,λed hed hb=>?_⟩
     have hE:=Xc i _ ed (adv ay) hed hb;have hL:listed[ed.on]? =some true:=XW λhc=>aaw ⟨_,hE,hc⟩
     rw[adp,hL];rfl
    rw[WO]at hm;cases hm
  .intro i hi;obtain⟨h1,h2,h3⟩:=OR listed i hi;obtain⟨lo,iY,l5⟩:=Ct i _ (adv h2);have ay:i<listed.size:=om;refine DS.any (L:=λi=>listed[i]? =some true) (L':=λk=>(listed.setIfInBounds i true)[k]? =some true) DI om (by rw[h1];simp) h3 (λk=>?_) (adv h2) iY l5 hI
    (λbf R kI tG e' gD m' U' a' w' rI h'=>ih _ a' w' U' m' gD bf R kI tG e' (by simp[eu]) ?_ rI h') R bf true val eW e (λh=>by cases h) h
   .by_cases hk:i=k
    .subst hk;rw[aeg ay];simp
    .rw[aeO hk];constructor
     .exact .inl
     .rintro(h|h)
      .exact h
      .exact absurd h.symm hk
   .have:=Bc listed.toList i (by simpa using h1)
    rw[Array.toList_setIfInBounds];omega
theorem G3{md:Region.Mode}{ops:Array Oper}{Q:Exit->Act->World->Prop}{K:List CV->Mem->Prop}(hQ:∀ba m ρ a w,K ba m->Inv N ρ0 m0 w0 ⟨ba,m⟩ ρ a w->Q .normal a w){cy:List LO}(l5:og P ops ops.toList=some cy){sched:ng}(k7:tk cy (my md ops) sched=true){st:St}(h:wY P cy sched [] K st.ba st.mem){ρ:b9}{a:Act}{w:World}(hI:Inv N ρ0 m0 w0 st ρ a w):wpAny P md ops Q ops.size (Array.replicate ops.size false) a w:=by
 obtain⟨hlen,Ct⟩:=Bb l5;simp only[tk,aaJ]at k7;have DI:∀i j,oV (bK cy.length (my md ops)) i j=true->WY (my md ops) i j:=LG;have k6:∀i:Nat,¬(Array.replicate ops.size false)[i]? =some true:=by
  intro i hi;rw[Array.getElem?_replicate]at hi;split at hi<;>simp at hi
 refine SP (n:=cy.length) (e0:=st.ba) hQ DI ⟨_,k7.1⟩ (λi o ho=>Ct i o (by simpa using ho)) (by simpa using hlen.symm) rfl ops.size _ a w ρ st.mem st.ba [] sched (λ_=>.undef) [] st.ba
  (by simpa using hlen) aG hI ?_
 exact⟨k7.2,h,⟨rfl,λt k hk=>(adA hk).elim,λ_ _=>rfl⟩,⟨rfl,λt k hk=>absurd hk (k6 k),λ_ _=>rfl⟩,λi hi=>absurd hi (k6 i),λi j _ hi=>absurd hi (k6 i),λt j k hj=>(adA hj).elim,λj hj=>(adA hj).elim⟩
theorem Ei{cy:List LO}{K:Ex->St->Prop}{s:St}:∀{l:List ng},SE P cy K s l->∀x,x∈l->wY P cy x [] (Le K) s.ba s.mem
 | [],_,x,hx=>by cases hx
 | [y],h,x,hx=>by obtain rfl:=acn.1 hx;exact h
 |y::z::r,h,x,hx=>by
  rcases abH.1 hx with rfl|hx
  .exact h.1
  .exact Ei h.2 x hx
theorem Cu{ops:Array Oper}{Q:Exit->Act->World->Prop}{K:Ex->St->Prop}(hQ:∀ba m ρ a w,K .normal ⟨ba,m⟩->Inv N ρ0 m0 w0 ⟨ba,m⟩ ρ a w->Q .normal a w){cy:List LO}(l5:og P ops ops.toList=some cy){sh:List ng}(k7:x5 P cy ops=some sh){st:St}(h:SE P cy K st sh){ρ:b9}{a:Act}{w:World}(hI:Inv N ρ0 m0 w0 st ρ a w)(t:Nat):wpOps P ops Q (Region.schedule (P.follows .mixedOrders) ops t) a {w with drawn:=w.drawn+1}:=by
 have gM:∀md,md∈xz P ops->∃s,s∈sh/\tk cy (my md ops) s=true:=by
  simp only[x5]at k7;split at k7
  .rename_i hc;cases k7;exact λmd Zv=>⟨_,aG,adk.1 hc md Zv⟩
  .split at k7
   .rename_i hc;cases k7;exact λmd Zv=>by have:=adk.1 hc md Zv;obtain⟨s,hs,VA⟩:=acf.1 this;exact⟨s,hs,VA⟩
   .cases k7
 have m6:∀md,md∈xz P ops->wpAny P md ops Q ops.size (Array.replicate ops.size false) a {w with drawn:=w.drawn+1}:=λmd Zv=>by obtain⟨s,hs,VA⟩:=gM md Zv;exact G3 (K:=Le K) hQ l5 VA (Ei h s hs) hI.drew
 unfold Region.schedule;unfold xz at m6;split
 .rename_i hc;rw[if_pos hc]at m6;exact wpAny_sound ops.size t _ a _ (m6 .any aG)
 .rename_i hc;rw[if_neg hc]at m6;split
  .exact wpAny_sound ops.size (t/2) _ a _ (m6 .text aG)
  .exact wpAny_sound ops.size (t/2) _ a _ (m6 .gc aG)
end
section
variable {P:Program}
def FR(r:Option Nat):Fence:={Fence.wide with round:=r}
theorem SQ:FR none=Fence.wide:=rfl
theorem JA(l:Nat):FR (some l)=Fence.wide.inRound l:=rfl
theorem SR{o:Oper}{i:I}(h:tj P o=some i):∀c,o.op≠.defer c:=by
 intro c e;unfold tj at h;have h0:xZ P o=none:=by unfold xZ;rw[e]
 rw[h0,e]at h;cases h
theorem yu{ops:Array Oper}:∀{l:List Oper}{cy:List LO},og P ops l=some cy->∀o,o∈l->∀c,o.op≠.defer c
 | [],cy,h,o,ho=>by cases ho
 |o1::r,cy,h,o,ho=>by
  obtain⟨lo,lr,rfl,h1,h2⟩:=u4 h o1 r rfl;cases ho with
  |head=>
   simp only[x4,XX,V3]at h1;obtain⟨i,hi,_⟩:=h1;exact SR hi
  |tail _ ho=>exact yu h2 o ho
theorem jI{r:Option Nat}{ops:Array Oper}{Q:Exit->Act->World->Prop}(s9:∀o,o∈ops.toList->∀c,o.op≠.defer c)(hQ:¬LetsOut Q):
  ∀(l:List Nat)(a:Act)(w:World),wpOps P ops Q l a w->wpOpsIn (FR r) 0 P ops Q l a w
 | [],a,w,h=>h
 |i::rest,a,w,h=>by
  simp only[wpOps]at h;simp only[wpOpsIn];cases ho:ops[i]? with
  |none=>rw[ho]at h;exact jI s9 hQ rest a w h
  |some o=>
   rw[ho]at h;simp only at h|-;have lE:o∈ops.toList:=by have:=abG.1 ho;obtain⟨h1,h2⟩:=this;rw[<-h2];exact aeQ.2 (Array.getElem_mem h1)
   split
   .rename_i hw;rw[if_pos hw]at h;rcases h with h|⟨_,h⟩
    .refine⟨λ_ _=>trivial,?_⟩
     have e:o.semAt (FR r).round a.eval=execOp a.eval o:=Oper.semAt_eq _ _ _ (s9 o lE);rw[e];unfold Oper.wp at h;have up:∀{mr:Result Next},o.upon P a (wpOps P ops Q rest) Q mr->o.uponIn (FR r) 0 P a (wpOpsIn (FR r) 0 P ops Q rest) Q mr:=by
      intro mr h;unfold Oper.upon at h;split at h
      .exact jI s9 hQ rest _ _ h
      .exact jI s9 hQ rest _ _ h
      .exact jI s9 hQ rest _ _ h
      .refine⟨by simp[FR,Fence.wide],?_⟩
       have h2:=(callsIn_wide (n:=0-1)).2 h;have h3:CallsIn (FR r) (0-1) P _ _ _ _:=h2;refine h3.mono λe w' hR=>?_
       cases e with
       |returned v=>exact jI s9 hQ rest _ _ hR
       |panicked c=>exact hR
       |outgrown=>exact hR
      .refine⟨by simp[FR,Fence.wide],?_⟩
       intro c cs _;obtain⟨v,w',hR,hs⟩:=h c cs;exact⟨v,w',jI s9 hQ rest _ _ hR,(stepsIn_wide.2 hs:StepsIn (Machine.fenced P Fence.wide) P _ _)⟩
      .exact h
      .exact h.elim
     exact up h
    .exact absurd h hQ
   .rename_i hw;rw[if_neg hw]at h;exact⟨λ_ _=>trivial,jI s9 hQ rest _ _ h⟩
theorem xe{F:Fence}{n:Nat}{γ:Type}{c:Code}{Q:Exit->Act->World->Prop}{a:Act}{w:World}(I:γ->Act->World->Prop)(μ:γ->Nat)(g0:γ)(h₀:I g0 a w)(round:∀g a w,I g a w->c.wpIn F n P (Exit.then (λa' w'=>∃g',I g' a' w'/\μ g'<μ g) Q) a w):(Code.loop c).wpIn F n P Q a w:=by
 intro b k cs hro hb hr;have key:∀j g a w,μ g=j->I g a w->
   ∃e a' w',Q e a' w'/\ArrivesIn (Machine.fenced P F) P (lone (b.atR a (.code c:: .inLoop c::k)) cs w) b k cs e a' w':=by
  intro j
  induction j using Nat.strongRecOn with
  |_ j ih=>
   intro g a w hn hI;obtain⟨e,a₁,w₁,hq,Ej⟩:=round g a w hI b (.inLoop c::k) cs hro hb hr;cases e with
   |normal=>
    obtain⟨g₁,aax,ay⟩:=hq;obtain⟨e₂,a₂,w₂,aay,SS⟩:=ih (μ g₁) (hn▸ay) g₁ a₁ w₁ rfl aax;exact⟨e₂,a₂,w₂,aay,.of_steps (StepsIn.trans Ej (.one (fenced_calm hb hr rfl) stepR_inLoop)) SS⟩
   |exit id=>exact⟨_,a₁,w₁,hq,.pass (x:= .inLoop c) rfl (λ_ _=>.inl aG) Ej⟩
   |goto l=>exact⟨_,a₁,w₁,hq,.pass (x:= .inLoop c) rfl (λ_ _=>.inl aG) Ej⟩
   |ret=>exact⟨_,a₁,w₁,hq,.pass (x:= .inLoop c) rfl (λ_ _=>.inl aG) Ej⟩
   |panic ch=>exact⟨_,a₁,w₁,hq,.pass (x:= .inLoop c) rfl (λ_ _=>.inl aG) Ej⟩
   |outgrown=>exact⟨_,a₁,w₁,hq,.pass (x:= .inLoop c) rfl (λ_ _=>.inl aG) Ej⟩
 obtain⟨e,a',w',hq,Ej⟩:=key _ g0 a w rfl h₀;exact⟨e,a',w',hq,.of_steps (.one (fenced_calm hb hr rfl) stepR_loop) Ej⟩
structure xf(ρ:b9)(m:Mem)(w w':World):Prop where
 size:w.heap.size<=w'.heap.size
 S:∀b,ρ.S b->w'.heap[b]? =w.heap[b]?
 aF:∀k,Live ρ m k->w'.heap[(ρ.aW k).b]? =w.heap[(ρ.aW k).b]?
theorem xf.dg{ρ:b9}{m:Mem}{w w':World}(h:xf ρ m w w'):j7 ρ w ρ w':=⟨aah _,λ_ _=>rfl,λ_ h=>h,h.S⟩
theorem aN.xg{ρ:b9}{m:Mem}{w w':World}(hM:aN ρ m w)(h:xf ρ m w w'):aN ρ m w':=by
 have g:=h.dg;refine⟨hM.n,λb hb=>abV (hM.S b hb) h.size,λk hk=>⟨abV (hM.aF k hk).1 h.size,(hM.aF k hk).2⟩,hM.inj,λid b hb=>?_,λid i j esz el ho bF=>?_⟩
 .have h1:=hM.bk id b hb;cases b with
  |aE=>trivial
  |var cs=>
   obtain⟨cur,cC,h2⟩:=h1;exact⟨cur,cC.cT (h.aF (.aA id) ⟨_,hb,aG,aG⟩),λj c hj=>let⟨u,hu,hd⟩:=h2 j c hj;⟨u,hu,bJ.dg g aG hd⟩⟩
  |row esz elems=>
   obtain⟨h2,h3,h4,h5,h6⟩:=h1;refine⟨h2,h3,h4,h5,λhp=>?_⟩
   obtain⟨cur,cC,h7,h8⟩:=h6 hp;exact⟨cur,cC.cT (h.aF (.aA id) ⟨_,hb,aG,λ_=>hp⟩),h7,λi cs j c hi hj=>let⟨u,hu,hd⟩:=h8 i cs j c hi hj;⟨u,hu,bJ.dg g (by intro lO i' j' e';cases e';rw[hM.n];exact(Mp.1 hb).1) hd⟩⟩
  |mp es=>
   obtain⟨fH,ck,h2,h3,h4⟩:=h1;exact⟨fH,ck,(h.aF (.aA id) ⟨_,hb,aG,aG⟩).trans h2,h3,λi e he=>let⟨e',wa,hk,hd⟩:=h4 i e he;⟨e',wa,hk,eU.dg g hd⟩⟩
 .obtain⟨cur,cC,h2,h3,h4⟩:=hM.jj id i j esz el ho bF;exact⟨cur,cC.cT (h.aF (.sub id i j) ⟨⟨_,_,ho⟩,bF⟩),h2,h3,λi cs j d hi hj=>let⟨u,hu,hd⟩:=h4 i cs j d hi hj;⟨u,hu,dG.mono g.S g.heap hd⟩⟩
theorem bu.dg{ρ U':b9}{w w':World}{ba:List CV}{tmps:Array Value}(g:j7 ρ w U' w')(hE:bu ρ w ba tmps):bu U' w' ba tmps:=
 ⟨hE.size,λi c hi=>let⟨v,hv,hd⟩:=hE.mB i c hi;⟨v,hv,cG.dg g hd⟩⟩
theorem GZ.xg{N:Nat}{ρ:b9}{m:Mem}{w w':World}{ds:List Deferred}(h:xf ρ m w w')(hd:GZ N ρ w ds):GZ N ρ w' ds:=by obtain⟨Ds,h1,h2,h3⟩:=hd;exact⟨Ds,h1,h2,λD hD=>⟨(h3 D hD).1,(h3 D hD).2.1,(h.S D (h3 D hD).2.1).trans (h3 D hD).2.2⟩⟩
variable {N:Nat} {ρ0:b9} {m0:Mem} {w0:World}
theorem Inv.xg{st:St}{ρ:b9}{a:Act}{w w':World}(hI:Inv N ρ0 m0 w0 st ρ a w)(h:xf ρ st.mem w w')(hb:∀b,b<w0.heap.size->w'.heap[b]? =w.heap[b]?)(ho:w'.os=w.os)(ht:w'.tape=w.tape)(hu:w'.output=w.output):Inv N ρ0 m0 w0 st ρ a w':=
 ⟨⟨hI.ext.n,hI.ext.aW,hI.ext.S,hI.ext.S',hI.ext.aF,λb uY hk=>(hb b uY).trans (hI.ext.frame b uY hk),abK hI.ext.size h.size,ho.trans hI.ext.os,ht.trans hI.ext.tape,hu.trans hI.ext.output⟩,
  hI.mem.xg h,hI.ba.dg h.dg,hI.defers.xg h,hI.hN,hI.n0⟩
def sD(ρ:b9)(m:Mem)(b:Nat):Prop:= ¬ρ.S b/\∀k,Live ρ m k->(ρ.aW k).b≠b
theorem sD.ext{ρ U':b9}{m m':Mem}{w w':World}{b:Nat}(h:sD ρ m b)(x:Ext ρ m w U' m' w')(hb:b<w.heap.size):sD U' m' b:=by
 refine⟨λhs=>?_,λk hk e=>?_⟩
 .rcases x.S' b hs with h1|h1|⟨k,hk,e⟩
  .exact h.1 h1
  .omega
  .exact h.2 k hk e
 .rcases x.aF k hk with h1|⟨k0,h0,e0⟩
  .omega
  .exact h.2 k0 h0 (e0.trans e)
theorem sD.chg{n0:Nat}{ρ U':b9}{m m':Mem}{b:Nat}(h:sD ρ m b)(x:WL n0 ρ m U' m'):sD U' m' b:=by
 refine⟨λhs=>?_,λk hk e=>?_⟩
 .rcases x.S' b hs with h1|⟨k,hk,e⟩
  .exact h.1 h1
  .exact h.2 k hk e
 .obtain⟨k0,h0,e0⟩:=x.aF k hk;exact h.2 k0 h0 (e0.trans e)
theorem xf.put{ρ:b9}{m:Mem}{w:World}{l:Nat}(h:sD ρ m l)(o:Obj):xf ρ m w (w.putObj l o):=
 ⟨aG,λb hb=>World.putObj_heap_other (by rintro rfl;exact h.1 hb),λk hk=>World.putObj_heap_other (h.2 k hk)⟩
theorem Inv.put{st:St}{ρ:b9}{a:Act}{w:World}{l:Nat}(hI:Inv N ρ0 m0 w0 st ρ a w)(h:sD ρ st.mem l)(hl:w0.heap.size<=l)(o:Obj):Inv N ρ0 m0 w0 st ρ a (w.putObj l o):=
 hI.xg (xf.put h o) (λb hb=>World.putObj_heap_other om) rfl rfl rfl
theorem Inv.view{st kH:St}{ρ:b9}{a:Act}{w:World}(hI:Inv N ρ0 m0 w0 st ρ a w)(m5:ρ0.n=m0.length)(hw:View m0.length st kH):
  ∃U',Inv N ρ0 m0 w0 kH U' a w/\∀b,sD ρ st.mem b->sD U' kH.mem b:=by
 obtain⟨U',hM,hc,hd⟩:=hw.go ρ w hI.mem;refine⟨U',⟨⟨by rw[m5,hM.n];exact hw.hn,λid hid=>(hc.aW id (by rw[<-m5];exact hid)).trans (hI.ext.aW id hid),λb hb=>hc.S b (hI.ext.S b hb),λb hb=>?_,λk hk=>?_,hI.ext.frame,hI.ext.size,hI.ext.os,hI.ext.tape,hI.ext.output⟩,hM,?_,hI.defers.s hc.S,hI.hN,hw.hn⟩,λb h=>h.chg hc⟩
 .rcases hc.S' b hb with h|⟨k,hk,rfl⟩
  .exact hI.ext.S' b h
  .exact .inr (hI.ext.aF k hk)
 .obtain⟨k0,h0,e0⟩:=hc.aF k hk;rw[<-e0];exact hI.ext.aF k0 h0
 .refine⟨hI.ba.size.trans hw.len.symm,λi c hi=>?_⟩
  obtain⟨c0,s7,Gf⟩:=hd i c hi;obtain⟨v,hv,z8⟩:=hI.ba.mB i c0 s7;exact⟨v,hv,Gf v z8⟩
theorem u7:∀(m:Mem)(lN:List Nat),(rQ m lN).length=m.length
 |m,[]=>rfl
 |m,id::r=>by rw[rQ,u7,br,abn]
theorem ov:∀(m:Mem)(lN:List Nat)(i:Nat)(bk:Bk),(rQ m lN)[i]? =some bk->bk= .aE\/(m[i]? =some bk/\i∉lN)
 |m,[],i,bk,h=>.inr ⟨h,aG⟩
 |m,id::r,i,bk,h=>by
  rcases ov _ r i bk h with h|⟨h,hn⟩
  .exact .inl h
  .rw[br]at h;by_cases hi:id=i
   .subst hi;have ay:id<m.length:=by have:=(Mp.1 h).1;simpa using this
    rw[aal ay]at h;exact .inl (by cases h;rfl)
   .rw[aap hi]at h;exact .inr ⟨h,by simp;exact⟨λe=>hi e.symm,hn⟩⟩
theorem wE:∀{m:Mem}{lN:List Nat}{cs:List Value},Cb m lN cs->lN.length=cs.length/\∀(i:Nat)id v,lN[i]? =some id->cs[i]? =some v->m[id]? =some (.var [.ai (.val v)])/\eE v=true
 |m,[],[],_=>⟨rfl,aG⟩
 |m,id::r,v::vs,h=>by
  obtain⟨h1,h2⟩:=h;obtain⟨e,g⟩:=wE h2;refine⟨by simp[e],λi lO v' hi hv=>?_⟩
  cases i with
  |zero=>simp at hi hv;subst hi hv;rw[<-aX];exact h1
  |succ i=>exact g i lO v' (by simpa using hi) (by simpa using hv)
end
section
variable {P:Program} {N:Nat} {ρ0:b9} {m0:Mem} {w0:World}
structure Zw(ρ:b9)(m:Mem)(w w':World):Prop where
 size:w.heap.size<=w'.heap.size
 S:∀b off,ρ.S b->w'.cell? ⟨b,off,none⟩=w.cell? ⟨b,off,none⟩
 aF:∀k,Live ρ m k->w'.heap[(ρ.aW k).b]? =w.heap[(ρ.aW k).b]?
theorem dG.DJ{S:Nat->Prop}{w w':World}(hw:∀b off,S b->w'.cell? ⟨b,off,none⟩=w.cell? ⟨b,off,none⟩){d:Dt}{v:Value}(h:dG S w d v):dG S w' d v:=by
 induction h with
 |val v h=>exact .val v h
 |no a=>exact .no a
 |nil esz a cap hc=>exact .nil esz a cap hc
 |sl esz elems b off cap u hb hl bF eu hc hd ih=>
  exact .sl esz elems b off cap u hb hl bF eu (λi cs j d hi hj=>(hw b _ hb).trans (hc i cs j d hi hj)) ih
theorem bJ.DJ{ρ:b9}{m:Mem}{w w':World}(x:Zw ρ m w w'){pos:Option (Nat×Nat×Nat)}{c:CC}{v:Value}(h:bJ ρ w pos c v):bJ ρ w' pos c v:=by
 cases c<;>simp only[bJ]at h|-
 case ai=>exact h.DJ x.S
 case tc cs=>
  obtain⟨b,off,hv,hb,hc⟩:=h;exact⟨b,off,hv,hb,λj d hj=>let⟨u,hu,hd⟩:=hc j d hj;⟨u,(x.S b _ hb).trans hu,hd.DJ x.S⟩⟩
 all_goals exact h
theorem eU.DJ{ρ:b9}{m:Mem}{w w':World}(x:Zw ρ m w w'){r:RV}{v:Value}(h:eU ρ w r v):eU ρ w' r v:=by
 cases r with
 |one c=>exact bJ.DJ x h
 |agg cs=>
  obtain⟨vs,hv,hl,hc⟩:=h;exact⟨vs,hv,hl,λi c hi=>let⟨u,hu,hd⟩:=hc i c hi;⟨u,hu,hd.DJ x⟩⟩
theorem cG.DJ{ρ:b9}{m:Mem}{w w':World}(x:Zw ρ m w w'){r:CV}{v:Value}(h:cG ρ w r v):cG ρ w' r v:=by
 cases r with
 |aL=>trivial
 |undef=>exact h
 |rv r=>exact eU.DJ x h
 |bI rs=>
  obtain⟨vs,hv,hl,hc⟩:=h;exact⟨vs,hv,hl,λi c hi=>let⟨u,hu,hd⟩:=hc i c hi;⟨u,hu,hd.DJ x⟩⟩
theorem aN.DJ{ρ:b9}{m:Mem}{w w':World}(hM:aN ρ m w)(h:Zw ρ m w w'):aN ρ m w':=by
 refine⟨hM.n,λb hb=>abV (hM.S b hb) h.size,λk hk=>⟨abV (hM.aF k hk).1 h.size,(hM.aF k hk).2⟩,hM.inj,λid b hb=>?_,λid i j esz el ho bF=>?_⟩
 .have h1:=hM.bk id b hb;cases b with
  |aE=>trivial
  |var cs=>
   obtain⟨cur,cC,h2⟩:=h1;exact⟨cur,cC.cT (h.aF (.aA id) ⟨_,hb,aG,aG⟩),λj c hj=>let⟨u,hu,hd⟩:=h2 j c hj;⟨u,hu,hd.DJ h⟩⟩
  |row esz elems=>
   obtain⟨h2,h3,h4,h5,h6⟩:=h1;refine⟨h2,h3,h4,h5,λhp=>?_⟩
   obtain⟨cur,cC,h7,h8⟩:=h6 hp;exact⟨cur,cC.cT (h.aF (.aA id) ⟨_,hb,aG,λ_=>hp⟩),h7,λi cs j c hi hj=>let⟨u,hu,hd⟩:=h8 i cs j c hi hj;⟨u,hu,hd.DJ h⟩⟩
  |mp es=>
   obtain⟨fH,ck,h2,h3,h4⟩:=h1;exact⟨fH,ck,(h.aF (.aA id) ⟨_,hb,aG,aG⟩).trans h2,h3,λi e he=>let⟨e',wa,hk,hd⟩:=h4 i e he;⟨e',wa,hk,hd.DJ h⟩⟩
 .obtain⟨cur,cC,h2,h3,h4⟩:=hM.jj id i j esz el ho bF;exact⟨cur,cC.cT (h.aF (.sub id i j) ⟨⟨_,_,ho⟩,bF⟩),h2,h3,λi cs j d hi hj=>let⟨u,hu,hd⟩:=h4 i cs j d hi hj;⟨u,hu,hd.DJ h.S⟩⟩
theorem bu.DJ{ρ:b9}{m:Mem}{w w':World}(x:Zw ρ m w w'){ba:List CV}{tmps:Array Value}(hE:bu ρ w ba tmps):bu ρ w' ba tmps:=
 ⟨hE.size,λi c hi=>let⟨v,hv,hd⟩:=hE.mB i c hi;⟨v,hv,hd.DJ x⟩⟩
theorem tH{fn:Func}{tmps:Array Value}{R:Ending->World->Prop}{ρ:b9}{m:Mem}{ba:List CV}(hN:N=w0.heap.size):∀(Ds:List Nat)(w:World),Ds.Nodup->
  (∀D,D∈Ds->N<=D/\ρ.S D/\w.heap[D]? =some (.deferred (some [])))->aN ρ m w->bu ρ w ba tmps->Ext ρ0 m0 w0 ρ m w->
  (∀w',aN ρ m w'->bu ρ w' ba tmps->Ext ρ0 m0 w0 ρ m w'->∃v,(results fn tmps).run P w'= .ok v w'/\R (.returned v) w')->
  LeavesInM Fence.wide 0 P fn tmps R (Ds.map λD=>{target:= .collected D,args:= #[]}) .returning w
 | [],w,_,_,hM,hE,hx,h=>by obtain⟨v,h1,h2⟩:=h w hM hE hx;exact⟨v,h1,h2⟩
 |D::Ds,w,hn,hD,hM,hE,hx,h=>by
  obtain⟨qj,Xd⟩:=aem.1 hn;obtain⟨d1,d2,d3⟩:=hD D aG;have ay:=(abG.1 d3).1;have hc:Zw ρ m w (w.putObj D (.deferred none)):=by
   refine⟨aG,λb off hS=>?_,λk hk=>World.putObj_heap_other λe=>(hM.aF k hk).2 (e▸d2)⟩
   by_cases hb:b=D
   .subst hb;simp only[World.cell?,d3,World.putObj_heap_same ay]
   .simp only[World.cell?,World.putObj_heap_other hb]
  refine⟨aG,.inl ⟨D,_,rfl,run_takeDeferred d3,?_⟩⟩;refine tH hN Ds _ Xd (λD' Z5=>?_) (hM.DJ hc) (hE.DJ hc) ?_ h
  .obtain⟨e1,e2,e3⟩:=hD D' (by simp[Z5])
   exact⟨e1,e2,(World.putObj_heap_other (by rintro rfl;exact qj Z5)).trans e3⟩
  .exact⟨hx.n,hx.aW,hx.S,hx.S',hx.aF,λb hb hk=>(World.putObj_heap_other om).trans (hx.frame b hb hk),by simpa using hx.size,hx.os,hx.tape,hx.output⟩
end
section
variable {P:Program} {N:Nat} {ρ0:b9} {m0:Mem} {w0:World}
theorem JB{K:Ex->St->Prop}:¬LetsOut (Cn N ρ0 m0 w0 K):=by rintro⟨a,w,ex,st,ρ,he,_⟩;simp[Ec]at he
theorem JC:∀lc:LC,lc.er.te=lc.te:=by
 intro lc
 induction lc<;>simp_all[LC.er,LC.te]
theorem Ek{l:Nat}{n0:Nat}{st:St}{ρ:b9}{act:Act}{W:World}{fn:FuncId}{rec0:Loop}{p:Nat}{la lb:LC}{ca cb:Code}{y:ByteArray}{K:Ex->St->Prop}(WG:∀(ρ0:b9)(m0:Mem)(w0:World)(K:Ex->St->Prop)(st:St)(ρ:b9)(a:Act)(w:World),ρ0.n=m0.length->aw P m0.length la K st->Inv 0 ρ0 m0 w0 st ρ a w->ca.wpIn (FR (some l)) 0 P (Cn 0 ρ0 m0 w0 K) a w)(WH:∀(ρ0:b9)(m0:Mem)(w0:World)(K:Ex->St->Prop)(st:St)(ρ:b9)(a:Act)(w:World),ρ0.n=m0.length->aw P m0.length lb K st->Inv 0 ρ0 m0 w0 st ρ a w->cb.wpIn (FR (some l)) 0 P (Cn 0 ρ0 m0 w0 K) a w)(hr:rec0.state= .ready/\rec0.pending=none/\rec0.fn=fn/\rec0.tmps=act.tmps/\rec0.params= #[p]/\rec0.assign=ca/\rec0.body=cb)(hI:Inv N ρ0 m0 w0 st ρ act W)(hl:W.heap[l]? =some (.loop rec0))(G2:sD ρ st.mem l)(NM:w0.heap.size<=l)(h:tf st.mem λn1=>aw P n1 la (λex s2=>match ex with
    | .normal=>tf s2.mem λn2=>aw P n2 lb K s2
    |_=>False) ⟨aZ st.ba p (ei y),st.mem⟩):
  Vo P l #[.string y] W λe W'=>∃ex kH U' jump,K ex kH/\Inv N ρ0 m0 w0 ⟨st.ba,kH.mem⟩ U' act W'/\e= .returned (.bool jump.isNone)/\
   W'.heap[l]? =some (.loop {rec0 with state:=if jump.isNone then .ready else .done,pending:=jump})/\
   ((jump=none/\ex= .normal)\/(jump=some .ret/\ex= .ret)\/∃id,jump=some (.exit id)/\ex= .exit id)/\
   (∀b,b<W.heap.size->b≠l->sD ρ st.mem b->sD U' kH.mem b/\W'.heap[b]? =W.heap[b]?)/\sD U' kH.mem l/\W.heap.size<=W'.heap.size:=by
 obtain⟨r1,r2,r3,r4,r5,r6,r7⟩:=hr;have hy:=run_yield (P:=P) (args:= #[.string y]) hl (by rw[r5];rfl)
 rw[r3,r4,r5,r6,r7]at hy;refine⟨_,_,_,_,hy,?_⟩;have ay:l<W.heap.size:=(abG.1 hl).1;simp only[kZ]at h;have hRo:RoundIn Fence.wide 0 P l fn (act.tmps.setIfInBounds p (.string y)) ca cb W λe W'=>∃ex kH U' jump,K ex kH/\Inv N ρ0 m0 w0 ⟨st.ba,kH.mem⟩ U' act W'/\e= .returned (.bool jump.isNone)/\
   W'.heap[l]? =some (.loop {rec0 with state:=if jump.isNone then .ready else .done,pending:=jump})/\
   ((jump=none/\ex= .normal)\/(jump=some .ret/\ex= .ret)\/∃id,jump=some (.exit id)/\ex= .exit id)/\
   (∀b,b<W.heap.size->b≠l->sD ρ st.mem b->sD U' kH.mem b/\W'.heap[b]? =W.heap[b]?)/\sD U' kH.mem l/\W.heap.size<=W'.heap.size:=by
  refine roundIn_of_wpIn trivial ?_;have Cj:bu ρ W (aZ st.ba p (ei y)) (act.tmps.setIfInBounds p (.string y)):=by rw[br];exact hI.ba.set (dG.val _ rfl:cG ρ W (ei y) (.string y))
  have SU:Inv 0 ρ st.mem W ⟨aZ st.ba p (ei y),st.mem⟩ ρ {tmps:=act.tmps.setIfInBounds p (.string y),defers:=[]} W:=
   ⟨Ext.refl _ _ _,hI.mem,Cj,GZ.nil,aad _,aah _⟩
  have hwa:=WG ρ st.mem W _ _ ρ _ W hI.mem.n h SU;rw[JA]at hwa;refine wpIn_mono hwa λe a1 W1 hp=>?_
  obtain⟨ex,s2,ρ2,he,hK,Ab⟩:=hp;cases e<;>simp[Ec]at he<;>subst he<;>simp only at hK
  simp only[Exit.then];have sx:W1.heap[l]? =some (.loop rec0):=(Ab.ext.frame l ay G2.2).trans hl;have OS:sD ρ2 s2.mem l:=G2.ext Ab.ext ay;have aaz:l<W1.heap.size:=(abG.1 sx).1;refine⟨_,run_beginRound sx r1,?_⟩;obtain⟨W2,VB⟩:∃W2,W1.putObj l (.loop {rec0 with state:= .busy})=W2:=⟨_,rfl⟩
  rw[VB];have yv:xf ρ2 s2.mem W1 W2:=by rw[<-VB];exact xf.put OS _
  have El:=Ab.mem.xg yv;have hI3:Inv 0 ρ2 s2.mem W2 s2 ρ2 a1 W2:=⟨Ext.refl _ _ _,El,Ab.ba.dg yv.dg,Ab.defers.xg yv,aad _,aah _⟩;have hwb:=WH ρ2 s2.mem W2 _ _ ρ2 _ W2 El.n hK hI3;rw[JA]at hwb;refine wpIn_mono hwb λe a3 W3 hp=>?_
  obtain⟨ex,s3,ρ3,he,hK3,Sb⟩:=hp;have Eh:l<W2.heap.size:=by rw[<-VB];simpa using aaz
  have hl3:W3.heap[l]? =some (.loop {rec0 with state:= .busy}):=by rw[Sb.ext.frame l Eh OS.2,<-VB];exact World.putObj_heap_same aaz
  have aeZ:l<W3.heap.size:=(abG.1 hl3).1;have VC:sD ρ3 s3.mem l:=OS.ext Sb.ext Eh;have gU:∀(jump:Option Code),((jump=none/\ex= .normal)\/(jump=some .ret/\ex= .ret)\/∃id,jump=some (.exit id)/\ex= .exit id)->
    ∃v w',(Instr.endRound l jump).run P W3= .ok v w'/\∃ex kH U' jump,K ex kH/\Inv N ρ0 m0 w0 ⟨st.ba,kH.mem⟩ U' act w'/\Ending.returned v= .returned (.bool jump.isNone)/\
     w'.heap[l]? =some (.loop {rec0 with state:=if jump.isNone then .ready else .done,pending:=jump})/\
     ((jump=none/\ex= .normal)\/(jump=some .ret/\ex= .ret)\/∃id,jump=some (.exit id)/\ex= .exit id)/\
     (∀b,b<W.heap.size->b≠l->sD ρ st.mem b->sD U' kH.mem b/\w'.heap[b]? =W.heap[b]?)/\sD U' kH.mem l/\W.heap.size<=w'.heap.size:=by
   intro jump hj;have SV:=run_endRound (P:=P) jump hl3;refine⟨_,_,SV,ex,s3,ρ3,jump,hK3,?_,rfl,World.putObj_heap_same aeZ,hj,λb hb OT ho=>?_,VC,?_⟩
   .have x1:Ext ρ0 m0 w0 ρ2 s2.mem W1:=hI.ext.trans Ab.ext;have x2:Ext ρ0 m0 w0 ρ2 s2.mem W2:=by rw[<-VB];exact⟨x1.n,x1.aW,x1.S,x1.S',x1.aF,λb hb hk=>(World.putObj_heap_other om).trans (x1.frame b hb hk),by simpa using x1.size,x1.os,x1.tape,x1.output⟩
    have x3:Ext ρ0 m0 w0 ρ3 s3.mem W3:=x2.trans Sb.ext;have e1:bu ρ2 W1 st.ba act.tmps:=hI.ba.ext hI.mem Ab.ext;have e3:bu ρ3 W3 st.ba act.tmps:=(e1.dg yv.dg).ext El Sb.ext;have d3:GZ N ρ3 W3 act.defers:=((hI.defers.ext hI.mem Ab.ext).xg yv).ext El Sb.ext;have hI5:Inv N ρ0 m0 w0 ⟨st.ba,s3.mem⟩ ρ3 act W3:=⟨x3,Sb.mem,e3,d3,hI.hN,abK hI.n0 (abK Ab.n0 Sb.n0)⟩;exact hI5.put VC NM _
   .have pH:sD ρ2 s2.mem b:=ho.ext Ab.ext hb;have wt:b<W1.heap.size:=abV hb Ab.ext.size;have lY:b<W2.heap.size:=by rw[<-VB];simpa using wt
    refine⟨pH.ext Sb.ext lY,?_⟩;rw[World.putObj_heap_other OT,Sb.ext.frame b lY pH.2,<-VB,World.putObj_heap_other OT,Ab.ext.frame b hb ho.2]
   .have h1:=Ab.ext.size;have h2:W1.heap.size=W2.heap.size:=by rw[<-VB];simp
    have h3:=Sb.ext.size;simp only[World.putObj_size];omega
  cases e<;>simp[Ec]at he<;>subst he
  .exact gU none (.inl ⟨rfl,rfl⟩)
  .rename_i id;exact gU (some (.exit id)) (.inr (.inr ⟨id,rfl,rfl⟩))
  .exact gU (some .ret) (.inr (.inl ⟨rfl,rfl⟩))
 have hz:(#[p].zip #[Value.string y]).foldl (λtmps x=>tmps.setIfInBounds x.1 x.2) act.tmps=act.tmps.setIfInBounds p (.string y):=aG
 exact hz▸hRo
theorem Inv.aaA{st:St}{ρ:b9}{a:Act}{w w':World}(hI:Inv N ρ0 m0 w0 st ρ a w)(h:xf ρ st.mem w w')(hb:∀b,b<w0.heap.size->(∀k,Live ρ0 m0 k->(ρ0.aW k).b≠b)->w'.heap[b]? =w.heap[b]?)(ho:w'.os=w.os)(ht:w'.tape=w.tape)(hu:w'.output=w.output):Inv N ρ0 m0 w0 st ρ a w':=
 ⟨⟨hI.ext.n,hI.ext.aW,hI.ext.S,hI.ext.S',hI.ext.aF,λb uY hk=>(hb b uY hk).trans (hI.ext.frame b uY hk),abK hI.ext.size h.size,ho.trans hI.ext.os,ht.trans hI.ext.tape,hu.trans hI.ext.output⟩,
  hI.mem.xg h,hI.ba.dg h.dg,hI.defers.xg h,hI.hN,hI.n0⟩
theorem aN.ae0{ρ:b9}{m:Mem}{w:World}{D:Nat}(hM:aN ρ m w)(hD:D<w.heap.size)(hl:∀k,Live ρ m k->(ρ.aW k).b≠D):aN {ρ with S:=λb=>ρ.S b\/b=D} m w:=by
 have g:j7 ρ w {ρ with S:=λb=>ρ.S b\/b=D} w:=⟨aah _,λ_ _=>rfl,λ_ h=>.inl h,λ_ _=>rfl⟩
 have bR:∀k,Live {ρ with S:=λb=>ρ.S b\/b=D} m k↔Live ρ m k:=λk=>by cases k<;>rfl
 refine⟨hM.n,λb hb=>?_,λk hk=>⟨(hM.aF k ((bR k).1 hk)).1,?_⟩,λk k' hk jd e=>hM.inj k k' ((bR k).1 hk) ((bR k').1 jd) e,λid b hb=>?_,λid i j esz el ho bF=>?_⟩
 .rcases hb with hb|rfl
  .exact hM.S b hb
  .exact hD
 .rintro(hs|hs)
  .exact(hM.aF k ((bR k).1 hk)).2 hs
  .exact hl k ((bR k).1 hk) hs
 .have h1:=hM.bk id b hb;cases b with
  |aE=>trivial
  |var cs=>
   obtain⟨cur,cC,h2⟩:=h1;exact⟨cur,cC,λj c hj=>let⟨u,hu,hd⟩:=h2 j c hj;⟨u,hu,bJ.dg g aG hd⟩⟩
  |row esz elems=>
   obtain⟨h2,h3,h4,h5,h6⟩:=h1;refine⟨h2,h3,h4,h5,λhp=>?_⟩
   obtain⟨cur,cC,h7,h8⟩:=h6 hp;exact⟨cur,cC,h7,λi cs j c hi hj=>let⟨u,hu,hd⟩:=h8 i cs j c hi hj;⟨u,hu,bJ.dg g (by intro lO i' j' e';cases e';rw[hM.n];exact(Mp.1 hb).1) hd⟩⟩
  |mp es=>
   obtain⟨fH,ck,h2,h3,h4⟩:=h1;exact⟨fH,ck,h2,h3,λi e he=>let⟨e',wa,hk,hd⟩:=h4 i e he;⟨e',wa,hk,eU.dg g hd⟩⟩
 .obtain⟨cur,cC,h2,h3,h4⟩:=hM.jj id i j esz el ho bF;exact⟨cur,cC,h2,h3,λi cs j d hi hj=>let⟨u,hu,hd⟩:=h4 i cs j d hi hj;⟨u,hu,dG.mono g.S g.heap hd⟩⟩
theorem Live.j8{ρ:b9}{m:Mem}{lN:List Nat}{k:lA}(h:Live ρ (rQ m lN) k):Live ρ m k/\k.id∉lN:=by
 cases k with
 |aA id=>
  obtain⟨bk,h1,h2,h3⟩:=h;rcases ov m lN id bk h1 with rfl|⟨h4,h5⟩
  .exact absurd rfl h2
  .exact⟨⟨bk,h4,h2,h3⟩,h5⟩
 |sub id i j=>
  obtain⟨⟨esz,elems,es,rows,cs,h1,h2,h3⟩,h4⟩:=h;rcases ov m lN id _ h1 with h5|⟨h5,h6⟩
  .cases h5
  .exact⟨⟨⟨esz,elems,es,rows,cs,h5,h2,h3⟩,h4⟩,h6⟩
theorem aN.j8{ρ:b9}{m:Mem}{w:World}(hM:aN ρ m w)(lN:List Nat):aN ρ (rQ m lN) w:=by
 refine⟨by rw[u7];exact hM.n,hM.S,λk hk=>hM.aF k hk.j8.1,λk k' hk jd=>hM.inj k k' hk.j8.1 jd.j8.1,λid b hb=>?_,λid i j esz el ho bF=>?_⟩
 .rcases ov m lN id b hb with rfl|⟨h,_⟩
  .trivial
  .exact hM.bk id b h
 .obtain⟨es,rows,cs,h1,h2,h3⟩:=ho;rcases ov m lN id _ h1 with h5|⟨h5,_⟩
  .cases h5
  .exact hM.jj id i j esz el ⟨es,rows,cs,h5,h2,h3⟩ bF
theorem Inv.j8{st:St}{ρ:b9}{a:Act}{w:World}(hI:Inv N ρ0 m0 w0 st ρ a w)(lN:List Nat):Inv N ρ0 m0 w0 ⟨st.ba,rQ st.mem lN⟩ ρ a w:=
 ⟨⟨hI.ext.n,hI.ext.aW,hI.ext.S,hI.ext.S',λk hk=>hI.ext.aF k hk.j8.1,hI.ext.frame,hI.ext.size,hI.ext.os,hI.ext.tape,hI.ext.output⟩,
  hI.mem.j8 lN,hI.ba,hI.defers,hI.hN,by rw[u7];exact hI.n0⟩
theorem G4{x:X}{f:Operand}{p:Nat}{ps:Array Tmp}{la lb:LC}{ca cb:Code}{K:Ex->St->Prop}{st:St}{ρ:b9}{a:Act}{w:World}(m5:ρ0.n=m0.length)(jB:ps= #[p])(hx:bG f=some x)(WG:∀(l:Nat)(ρ0:b9)(m0:Mem)(w0:World)(K:Ex->St->Prop)(st:St)(ρ:b9)(a:Act)(w:World),ρ0.n=m0.length->aw P m0.length la K st->Inv 0 ρ0 m0 w0 st ρ a w->ca.wpIn (FR (some l)) 0 P (Cn 0 ρ0 m0 w0 K) a w)(WH:∀(l:Nat)(ρ0:b9)(m0:Mem)(w0:World)(K:Ex->St->Prop)(st:St)(ρ:b9)(a:Act)(w:World),ρ0.n=m0.length->aw P m0.length lb K st->Inv 0 ρ0 m0 w0 st ρ a w->cb.wpIn (FR (some l)) 0 P (Cn 0 ρ0 m0 w0 K) a w)(h:aw P m0.length (.Ah x p la lb) K st)(hI:Inv N ρ0 m0 w0 st ρ a w):(Code.rangeFunc f ps ca cb).wpIn (FR none) 0 P (Cn N ρ0 m0 w0 K) a w:=by
 obtain⟨gf,lN,cs,xs,α,J,S,hxe,OJ,⟨s9,gj⟩,ae2,⟨x0,hJ0,DK⟩,G5,aaB⟩:=h;have hd:=aU hI.ba hx;rw[hxe]at hd;obtain⟨ia,hv⟩:=hd;rw[SQ];refine wpIn_rangeFunc λfn _=>?_
 obtain⟨rec0,Cv⟩:∃rec0:Loop,rec0={state:= .ready,pending:=none,fn,tmps:=a.tmps,params:=ps,assign:=ca,body:=cb,defers:=w.heap.size}:=⟨_,rfl⟩;obtain⟨W1,DL⟩:∃W1,(w.alloc (.deferred (some []))).alloc (.loop rec0)=W1:=⟨_,rfl⟩;have aaC:W1.heap.size=w.heap.size+2:=by rw[<-DL];simp
 have hold:∀b,b<w.heap.size->W1.heap[b]? =w.heap[b]? :=λb hb=>by
  rw[<-DL];exact(Go.RowKit.Below.heap_alloc _ _ _ (by simp;omega)).trans (Go.RowKit.Below.heap_alloc _ _ _ hb)
 have hL1:W1.heap[w.heap.size+1]? =some (.loop rec0):=by rw[<-DL];have:=World.alloc_heap_new (w.alloc (.deferred (some []))) (.loop rec0);rwa [World.size_alloc]at this
 have hK1:W1.heap[w.heap.size]? =some (.deferred (some [])):=by rw[<-DL];exact(Go.RowKit.Below.heap_alloc _ _ _ aG).trans (World.alloc_heap_new w _)
 have R6:W1.os=w.os/\W1.tape=w.tape/\W1.output=w.output:=by rw[<-DL];exact⟨rfl,rfl,rfl⟩
 obtain⟨⟨gfn,hgf,hgb,Sc⟩,hT⟩:=ae2;have ae3:gfn.body≠none:=by intro e;rw[e]at hgb;cases hgb
 have ae4:gfn.name≠ "runtime.NumGoroutine" :=by intro e;rw[e]at Sc;simp at Sc
 obtain⟨as,has⟩:∃as:List (Nat×Nat),as=lN.map λid=>((ρ.aW (.aA id)).b,(ρ.aW (.aA id)).aB):=⟨_,rfl⟩
 have hlb:(lN.map λid=>Value.pointer (some ⟨(ρ.aW (.aA id)).b,(ρ.aW (.aA id)).aB,none⟩))=tl as:=by rw[has,tl,adu];rfl
 rw[hlb]at hv;have aaE:xf ρ st.mem w W1:=⟨om,λb hb=>hold b (hI.mem.S b hb),λk hk=>hold _ (hI.mem.aF k hk).1⟩
 have JD:Inv N ρ0 m0 w0 st ρ a W1:=hI.xg aaE (λb hb=>hold b (abV hb hI.ext.size)) R6.1 R6.2.1 R6.2.2
 let ρ1:b9:={ρ with S:=λb=>ρ.S b\/b=w.heap.size}
 let act:Act:={a with defers:=[{target:= .collected w.heap.size,args:= #[]}]++a.defers}
 have ay:∀k,Live ρ st.mem k->(ρ.aW k).b<w.heap.size:=λk hk=>(hI.mem.aF k hk).1
 have bR:∀(m:Mem)k,Live ρ1 m k↔Live ρ m k:=λm k=>by cases k<;>rfl
 have g1:j7 ρ W1 ρ1 W1:=⟨aah _,λ_ _=>rfl,λ_ h=>.inl h,λ_ _=>rfl⟩
 have hIb:Inv N ρ0 m0 w0 st ρ1 act W1:=by
  refine⟨⟨JD.ext.n,JD.ext.aW,λb hb=>.inl (JD.ext.S b hb),λb hb=>?_,λk hk=>JD.ext.aF k ((bR _ k).1 hk),JD.ext.frame,JD.ext.size,JD.ext.os,JD.ext.tape,JD.ext.output⟩,
   JD.mem.ae0 om (λk hk e=>by have:=ay k hk;omega),JD.ba.dg g1,?_,hI.hN,hI.n0⟩
  .rcases hb with hb|rfl
   .exact JD.ext.S' b hb
   .exact .inr (.inl hI.ext.size)
  .obtain⟨Ds,h1,h2,h3⟩:=JD.defers;refine⟨w.heap.size::Ds,by simp[act,h1],aem.2 ⟨λhm=>?_,h2⟩,λD hD=>?_⟩
   .have:=hI.mem.S _ (h3 _ hm).2.1;omega
   .rcases abH.1 hD with rfl|hD
    .exact⟨abK hI.hN hI.ext.size,.inr rfl,hK1⟩
    .exact⟨(h3 D hD).1,.inl (h3 D hD).2.1,(h3 D hD).2.2⟩
 have hIc:=hIb.j8 lN;have aaF:sD ρ1 (rQ st.mem lN) (w.heap.size+1):=by
  refine⟨?_,λk hk e=>?_⟩
  .rintro(hs|hs)
   .have:=hI.mem.S _ hs;omega
   .omega
  .have:=ay k ((bR _ k).1 hk).j8.1;have h2:(ρ1.aW k).b=(ρ.aW k).b:=rfl;omega
 obtain⟨aaG,SX⟩:=wE OJ;have dj:∀id,id∈lN->Live ρ st.mem (.aA id):=λid hid=>by
  obtain⟨i,hi⟩:=aag hid;have ay:i<cs.length:=by rw[<-aaG];exact(Mp.1 hi).1
  obtain⟨h1,_⟩:=SX i id _ hi (xm ay);exact⟨_,h1,aG,aG⟩
 have aaH:∀b,b∈as.map (·.1)->sD ρ1 (rQ st.mem lN) b:=by
  intro b hb;rw[has,adu]at hb;obtain⟨id,hid,rfl⟩:=abm.1 hb;have hL:=dj id hid;refine⟨?_,λk hk e=>?_⟩
  .rintro(hs|hs)
   .exact(hI.mem.aF _ hL).2 hs
   .have:=ay _ hL;simp only[Function.comp]at hs;omega
  .have lP:=(bR _ k).1 hk;have:=hI.mem.inj k _ lP.j8.1 hL e;subst this;exact lP.j8.2 hid
 obtain⟨ρ2,hId,VD⟩:=hIc.view m5 DK;have ae6:as.length=cs.length:=by rw[has,P2,aaG]
 have ae7:(as.map (·.1)).Nodup:=by
  rw[has,adu];have key:∀l:List Nat,(∀id,id∈l->id∈lN)->l.Nodup->(l.map λid=>(ρ.aW (.aA id)).b).Nodup:=by
   intro l
   induction l with
   |nil=>intro _ _;exact List.nodup_nil
   |cons id r ih=>
    intro hm hn;obtain⟨qj,Xd⟩:=aem.1 hn;refine aem.2 ⟨λhb=>?_,ih (λid h=>hm id (by simp[h])) Xd⟩
    obtain⟨lO,OU,e⟩:=abm.1 hb;have:=hI.mem.inj _ _ (dj lO (hm lO (by simp[OU]))) (dj id (hm id aG)) e
    cases this;exact qj OU
  exact key lN (λ_ h=>h) s9
 have VE:∀b,b∈as.map (·.1)->b<w.heap.size:=by intro b hb;rw[has,adu]at hb;obtain⟨id,hid,rfl⟩:=abm.1 hb;exact ay _ (dj id hid)
 have ae8:∀b,b∈as.map (·.1)->w0.heap.size<=b\/∃k0,Live ρ0 m0 k0/\(ρ0.aW k0).b=b:=by intro b hb;rw[has,adu]at hb;obtain⟨id,hid,rfl⟩:=abm.1 hb;exact hI.ext.aF _ (dj id hid)
 have Em:∀a0,a0∈as->a0.1∈as.map (·.1):=λa0 h0=>abm.2 ⟨a0,h0,rfl⟩
 let Jw:Nat->World->Prop:=λk W=>∃y U',J k y/\Inv N ρ0 m0 w0 (S y) U' act W/\sD U' (S y).mem (w.heap.size+1)/\(∀b,b∈as.map (·.1)->sD U' (S y).mem b)/\
  W.heap[w.heap.size+1]? =some (.loop rec0)
 let Jx:World->Prop:=λW=>∃c ex kH U',K ex kH/\Inv N ρ0 m0 w0 kH U' act W/\sD U' kH.mem (w.heap.size+1)/\(∀b,b∈as.map (·.1)->sD U' kH.mem b)/\
  ((c= .ret/\ex= .ret)\/∃id,c= .exit id/\ex= .exit id)/\W.heap[w.heap.size+1]? =some (.loop {rec0 with state:= .done,pending:=some c})
 have VF:∀(kH:St)(U':b9)(o:Obj)(W W':World),Inv N ρ0 m0 w0 kH U' act W->(∀b,b∈as.map (·.1)->sD U' kH.mem b)->W.heap[w.heap.size+1]? =some o->
   W.heap.size<=W'.heap.size->(∀b,b<W.heap.size->(∀a,a∈as->b≠a.1)->W'.heap[b]? =W.heap[b]?)->W'.os=W.os->W'.tape=W.tape->W'.output=W.output->
   Inv N ρ0 m0 w0 kH U' act W'/\W'.heap[w.heap.size+1]? =some o:=by
  intro kH U' o W W' hI ho hl hs hb h1 h2 h3;refine⟨hI.aaA ⟨hs,λb hS=>hb b (hI.mem.S b hS) λa ha e=>(ho _ (Em a ha)).1 (e▸hS),λk hk=>hb _ (hI.mem.aF k hk).1 λa ha e=>(ho _ (Em a ha)).2 k hk e⟩
   (λb uY hk=>hb b (abV uY hI.ext.size) λa ha e=>?_) h1 h2 h3,?_⟩
  .rcases ae8 _ (Em a ha)with h|⟨k0,h0,e0⟩
   .omega
   .exact hk k0 h0 (e0.trans e.symm)
  .rw[hb _ (abG.1 hl).1 λa ha e=>?_]
   .exact hl
   .have:=VE _ (Em a ha);omega
 have main:=hT (w.heap.size+1) as W1 Jw Jx ae6 ae7
  (λi a0 v hi hv=>by
   rw[has,Rn]at hi;cases hid:lN[i]? with
   |none=>rw[hid]at hi;cases hi
   |some id=>
    rw[hid]at hi;simp only[aaS,abi]at hi;subst hi;obtain⟨hm,fb⟩:=SX i id v hid hv;obtain⟨cur,cC,li⟩:=JD.mem.bk id _ hm;obtain⟨u,hu,cP⟩:=li 0 _ rfl;have xb:u=v:=by
     cases cP with
     |val _ _=>rfl
     |no _=>simp[eE]at fb
    subst xb;exact⟨by rw[cC.cell];simpa using hu,cC.se (by have:=(abG.1 hu).1;simpa using this)⟩)
  (λk W W'⟨y,U',h1,h2,h3,h4,h5⟩hs hb e1 e2 e3=>by obtain⟨q1,q2⟩:=VF _ _ _ W W' h2 h4 h5 hs hb e1 e2 e3;exact⟨y,U',h1,q1,h3,h4,q2⟩)
  (λW W'⟨c,ex,kH,U',h0,h2,h3,h4,h6,h5⟩hs hb e1 e2 e3=>by obtain⟨q1,q2⟩:=VF _ _ _ W W' h2 h4 h5 hs hb e1 e2 e3;exact⟨c,ex,kH,U',h0,q1,h3,h4,h6,q2⟩)
  (λk y W hk⟨z,U',h1,h2,h3,h4,h5⟩=>by
   have hr:=G5 k y z hk h1;have Xe:=Ek (WG _) (WH _) (l:=w.heap.size+1) (n0:=0) (rec0:=rec0) (act:=act) (fn:=fn) (p:=p) (by rw[Cv];exact⟨rfl,rfl,rfl,rfl,jB,rfl,rfl⟩) h2 h5 h3
    (by have:=hI.ext.size;omega) hr
   obtain⟨f1,t1,a1,b1,hy,hR⟩:=Xe;refine⟨f1,t1,a1,b1,hy,hR.mono λe W' hp=>?_⟩
   obtain⟨ex,kH,ρ3,jump,hK,hIn,he,hl,hj,ae9,jE,eu⟩:=hp;have hoc:∀b,b∈as.map (·.1)->sD ρ3 kH.mem b/\W'.heap[b]? =W.heap[b]? :=λb hb=>by have ay:=VE b hb;have Eh:w.heap.size+1<W.heap.size:=(abG.1 h5).1;exact ae9 b om om (h4 b hb)
   rcases hj with⟨rfl,rfl⟩|⟨rfl,rfl⟩|⟨id,rfl,rfl⟩
   .left;obtain⟨z',Li,Vw⟩:=hK;obtain⟨ρ4,hIv,hov⟩:=hIn.view m5 Vw;refine⟨he,⟨z',ρ4,Li,hIv,hov _ jE,λb hb=>hov b (hoc b hb).1,?_⟩,eu,λa ha=>(hoc a.1 (abm.2 ⟨a,ha,rfl⟩)).2⟩
    rw[hl,Cv];rfl
   .right;exact⟨he,.ret,.ret,_,ρ3,hK,hIn,jE,λb hb=>(hoc b hb).1,.inl ⟨rfl,rfl⟩,hl⟩
   .right;exact⟨he,.exit id,.exit id,_,ρ3,hK,hIn,jE,λb hb=>(hoc b hb).1,.inr ⟨id,rfl,rfl⟩,hl⟩)
  ⟨x0,ρ2,hJ0,hId,VD _ aaF,λb hb=>VD b (aaH b hb),hL1⟩
 refine⟨w.heap.size+1,[{target:= .collected w.heap.size,args:= #[]}],W1,{target:= .fn (.func gf) (tl as).toArray,args:= #[.func (.yield (w.heap.size+1)) #[] #[]]},W1,gf,
  #[.func (.yield (w.heap.size+1)) #[] #[]]++(tl as).toArray,W1,?_,?_,λ_ _=>trivial,?_,by simp[Fence.wide],?_⟩
 .rw[<-DL,Cv];exact run_enterLoop_outer _ _ _ _ _
 .simp only[resolve,hv];simp[go_sem]
 .simp[invoke,callFunc,hgf,ae4,ae3]
 .refine main.mono λe W' hp=>?_
  obtain⟨⟨v,rfl⟩,hp⟩:=hp;rcases hp with⟨y,U',h1,h2,h3,h4,h5⟩|⟨c,ex,kH,U',h0,h2,h3,h4,h6,h5⟩
  .refine⟨none,_,by have:=run_endLoop (P:=P) h5 (by rw[Cv];simp);rw[Cv]at this;exact this,?_⟩
   exact⟨.normal,S y,U',rfl,aaB y h1,h2.put h3 (by have:=hI.ext.size;omega) _⟩
  .refine⟨some c,_,by have:=run_endLoop (P:=P) h5 (by simp);exact this,?_⟩
   have aaI:=h2.put h3 (by have:=hI.ext.size;omega) (.loop {rec0 with state:= .exhausted,pending:=some c})
   rcases h6 with⟨rfl,rfl⟩|⟨id,rfl,rfl⟩
   .exact wpIn_ret ⟨.ret,kH,U',rfl,h0,aaI⟩
   .exact wpIn_exit ⟨.exit id,kH,U',rfl,h0,aaI⟩
end
section
variable {P:Program} {N:Nat} {ρ0:b9} {m0:Mem} {w0:World}
theorem l7{f:Operand}{ps:Array Tmp}{x y:Code}{lc:LC}(h:eJ P (.rangeFunc f ps x y)=some lc):∃x' p la lb,lc= .Ah x' p la lb:=by
 simp only[eJ,XX]at h;split at h
 case h_2=>cases h
 simp only[V3]at h;obtain⟨lx,hx,ly,hy,h⟩:=h;split at h
 case isFalse=>cases h
 simp only[V3]at h;obtain⟨x',_,h⟩:=h;cases h;exact⟨_,_,_,_,rfl⟩
theorem OV:∀(lc:LC)(r:Option Nat)(Cw:r=none\/lc.te=true)(N:Nat)(ρ0:b9)(m0:Mem)(w0:World)(m5:ρ0.n=m0.length)(c:Code)(K:Ex->St->Prop)(st:St)(ρ:b9)(a:Act)(w:World),
  eJ P c=some lc.er->aw P m0.length lc K st->Inv N ρ0 m0 w0 st ρ a w->c.wpIn (FR r) 0 P (Cn N ρ0 m0 w0 K) a w:=by
 intro lc
 induction lc with
 |rO b ih=>
  intro r Cw N ρ0 m0 w0 m5 c K st ρ a w hl h hI;obtain⟨s',hv,h⟩:=h;obtain⟨U',rI⟩:=hI.Ok m5 hv;exact ih r Cw N ρ0 m0 w0 m5 c K s' U' a w hl h rI
 |skip=>
  intro r Cw N ρ0 m0 w0 m5 c K st ρ a w hl h hI;cases c with
  |skip=>exact wpIn_skip ⟨_,st,ρ,rfl,h,hI⟩
  |region id ops jF=>cases jF<;>simp[eJ,LC.er,V3]at hl
  |rangeFunc f ps ca cb=>obtain⟨_,_,_,_,e⟩:=l7 hl;simp[LC.er]at e
  |_=>simp[eJ,LC.er,V3]at hl
 |DD afa=>
  intro r Cw N ρ0 m0 w0 m5 c K st ρ a w hl h hI;cases c with
  |region id ops jF=>
   cases jF with
   |true=>simp[eJ,LC.er,V3]at hl
   |false=>
    simp only[eJ,LC.er,XX,V3]at hl;obtain⟨cy,Ct,hl⟩:=hl;cases hl;refine wpIn_region (jI (yu Ct) JB _ _ _ ?_);have:=yq (Q:=Cn N ρ0 m0 w0 K) (K:=Le K) (λba m ρ a w hK hI=>⟨_,_,ρ,rfl,hK,hI⟩) ops.toList 0 _ st.ba st.mem ρ a w rfl Ct h hI
    simpa[List.range_eq_range']using this
  |rangeFunc f ps ca cb=>obtain⟨_,_,_,_,e⟩:=l7 hl;simp[LC.er]at e
  |_=>simp[eJ,LC.er,V3]at hl
 |jF afa sch=>
  intro r Cw N ρ0 m0 w0 m5 c K st ρ a w hl h hI;cases c with
  |region id ops jF=>
   cases jF with
   |true=>
    simp only[eJ,LC.er,XX,V3]at hl;obtain⟨cy,Ct,hl⟩:=hl;obtain⟨sh,hs,hl⟩:=hl;cases hl;refine wpIn_region_draw λt=>jI (yu Ct) JB _ _ _ ?_
    exact Cu (Q:=Cn N ρ0 m0 w0 K) (K:=K) (λba m ρ a w hK hI=>⟨_,_,ρ,rfl,hK,hI⟩) Ct hs h hI t
   |false=>simp[eJ,LC.er,V3]at hl
  |rangeFunc f ps ca cb=>obtain⟨_,_,_,_,e⟩:=l7 hl;simp[LC.er]at e
  |_=>simp[eJ,LC.er,V3]at hl
 |seq lx ly Xa OQ=>
  intro r Cw N ρ0 m0 w0 m5 c K st ρ a w hl h hI;cases c with
  |seq x y=>
   simp only[eJ,LC.er,XX,V3,abi,LC.seq.injEq]at hl;obtain⟨lx',hx,ly',hy,rfl,rfl⟩:=hl;refine wpIn_seq (wpIn_mono (Xa r (Cw.imp id λh=>(aee.1 h).1) N ρ0 m0 w0 m5 x _ st ρ a w hx h hI) λe a' w' hp=>?_)
   obtain⟨ex,kH,U',he,hK,rI⟩:=hp;cases e<;>simp[Ec]at he<;>subst he
   .exact OQ r (Cw.imp id λh=>(aee.1 h).2) N ρ0 m0 w0 m5 y K kH U' a' w' hy hK rI
   .exact⟨_,kH,U',rfl,hK,rI⟩
   .exact⟨_,kH,U',rfl,hK,rI⟩
  |region id ops jF=>cases jF<;>simp[eJ,LC.er,V3]at hl
  |rangeFunc f ps ca cb=>obtain⟨_,_,_,_,e⟩:=l7 hl;simp[LC.er]at e
  |_=>simp[eJ,LC.er,V3]at hl
 |cond x0 ly0 lz0 OQ ihz=>
  intro r Cw N ρ0 m0 w0 m5 c K st ρ a w hl h hI;cases c with
  |cond x y z=>
   simp only[eJ,LC.er,XX,V3,abi,LC.cond.injEq]at hl;obtain⟨x',hx,ly,hy,lz,hz,rfl,rfl,rfl⟩:=hl;have hd:=aU hI.ba hx;simp only[aw]at h;split at h
   .rename_i t w9;rw[w9]at hd;have ht:=(cf hd).1;have tz:∀b,t=b->WK x' (ar b) st.ba=st.ba:=λb hb=>by
     subst hb;cases x' with
     |t n=>exact Cr w9
     |c v=>rfl
    refine wpIn_cond ht ?_;rcases cU.1 h with⟨rfl,h⟩|⟨rfl,h⟩
    .simp only[fO,tz true rfl]at h;exact OQ r (Cw.imp id λh=>(aee.1 h).1) N ρ0 m0 w0 m5 y K st ρ a w hy h hI
    .simp only[fO,tz false rfl]at h;exact ihz r (Cw.imp id λh=>(aee.1 h).2) N ρ0 m0 w0 m5 z K st ρ a w hz h hI
   .exact h.elim
  |region id ops jF=>cases jF<;>simp[eJ,LC.er,V3]at hl
  |rangeFunc f ps ca cb=>obtain⟨_,_,_,_,e⟩:=l7 hl;simp[LC.er]at e
  |_=>simp[eJ,LC.er,V3]at hl
 |block id0 lb0 ih=>
  intro r Cw N ρ0 m0 w0 m5 c K st ρ a w hl h hI;cases c with
  |block id b=>
   simp only[eJ,LC.er,XX,V3,abi,LC.block.injEq]at hl;obtain⟨lb,hb,rfl,rfl⟩:=hl;refine wpIn_block (wpIn_mono (ih r Cw N ρ0 m0 w0 m5 b _ st ρ a w hb h hI) λe a' w' hp=>?_)
   obtain⟨ex,kH,U',he,hK,rI⟩:=hp;cases e<;>simp[Ec]at he<;>subst he
   .exact⟨_,kH,U',rfl,hK,rI⟩
   .rename_i lO;simp only[Gx]at hK;simp only[Exit.inBlock];rcases cU.1 hK with⟨hid,hK⟩|⟨hid,hK⟩
    .rw[if_pos (aaX hid)];exact⟨_,kH,U',rfl,hK,rI⟩
    .rw[if_neg (ad9 hid)];exact⟨_,kH,U',rfl,hK,rI⟩
   .exact⟨_,kH,U',rfl,hK,rI⟩
  |region id ops jF=>cases jF<;>simp[eJ,LC.er,V3]at hl
  |rangeFunc f ps ca cb=>obtain⟨_,_,_,_,e⟩:=l7 hl;simp[LC.er]at e
  |_=>simp[eJ,LC.er,V3]at hl
 |loop lb0 ih=>
  intro r Cw N ρ0 m0 w0 m5 c K st ρ a w hl h hI;cases c with
  |loop b=>
   simp only[eJ,LC.er,XX,V3,abi,LC.loop.injEq]at hl;obtain⟨lb,hb,rfl⟩:=hl;obtain⟨α,J,S,μ,⟨a1,hJ1,hw1⟩,G5⟩:=h;obtain⟨ρ1,SU⟩:=hI.Ok m5 hw1;refine xe (γ:=α) (I:=λx a w=>J x/\∃ρ,Inv N ρ0 m0 w0 (S x) ρ a w) (μ:=μ) a1 ⟨hJ1,ρ1,SU⟩ λx a w⟨hJ,ρ,hI⟩=>?_
   refine wpIn_mono (ih r Cw N ρ0 m0 w0 m5 b _ (S x) ρ a w hb (G5 x hJ) hI) λe a' w' hp=>?_
   obtain⟨ex,kH,U',he,hK,rI⟩:=hp;cases e<;>simp[Ec]at he<;>subst he
   .obtain⟨x3,hJ3,ay,hw3⟩:=hK;obtain⟨ρ3,hI3⟩:=rI.Ok m5 hw3;exact⟨x3,⟨hJ3,ρ3,hI3⟩,ay⟩
   .exact⟨_,kH,U',rfl,hK,rI⟩
   .exact⟨_,kH,U',rfl,hK,rI⟩
  |region id ops jF=>cases jF<;>simp[eJ,LC.er,V3]at hl
  |rangeFunc f ps ca cb=>obtain⟨_,_,_,_,e⟩:=l7 hl;simp[LC.er]at e
  |_=>simp[eJ,LC.er,V3]at hl
 |exit id0=>
  intro r Cw N ρ0 m0 w0 m5 c K st ρ a w hl h hI;cases c with
  |exit id=>
   simp[eJ,LC.er]at hl;subst hl;exact wpIn_exit ⟨_,st,ρ,rfl,h,hI⟩
  |region id ops jF=>cases jF<;>simp[eJ,LC.er,V3]at hl
  |rangeFunc f ps ca cb=>obtain⟨_,_,_,_,e⟩:=l7 hl;simp[LC.er]at e
  |_=>simp[eJ,LC.er,V3]at hl
 |ret=>
  intro r Cw N ρ0 m0 w0 m5 c K st ρ a w hl h hI;cases c with
  |ret=>exact wpIn_ret ⟨_,st,ρ,rfl,h,hI⟩
  |region id ops jF=>cases jF<;>simp[eJ,LC.er,V3]at hl
  |rangeFunc f ps ca cb=>obtain⟨_,_,_,_,e⟩:=l7 hl;simp[LC.er]at e
  |_=>simp[eJ,LC.er,V3]at hl
 |Ah x0 p la0 lb0 WG WH=>
  intro r Cw N ρ0 m0 w0 m5 c K st ρ a w hl h hI;have hr0:r=none:=Cw.resolve_right (by simp[LC.te])
  subst hr0;cases c with
  |rangeFunc f ps ca cb=>
   simp only[eJ,LC.er,XX]at hl;split at hl
   case h_2=>cases hl
   rename_i p' jB;simp only[V3]at hl;obtain⟨la,hla,lb,hlb,hl⟩:=hl;split at hl
   case isFalse=>cases hl
   rename_i k6;simp only[V3,abi,LC.Ah.injEq]at hl;obtain⟨x',hx,rfl,rfl,rfl,rfl⟩:=hl;rw[aaJ,JC,JC]at k6;exact G4 m5 (by apply adH;simpa using jB) hx (λl ρ0 m0 w0 K st ρ a w hM h hI=>WG (some l) (.inr k6.1) 0 ρ0 m0 w0 hM ca K st ρ a w hla h hI)
    (λl ρ0 m0 w0 K st ρ a w hM h hI=>WH (some l) (.inr k6.2) 0 ρ0 m0 w0 hM cb K st ρ a w hlb h hI) h hI
  |region id ops jF=>cases jF<;>simp[eJ,LC.er,V3]at hl
  |_=>simp[eJ,LC.er,V3]at hl
def u9(tmps:Array Value):ResultVar->Sem Value
 | .tmp t=>pure (tmps.getD t Go.undef)
 | .cell ad t=>do loadVar t (<-asAddr (tmps.getD ad Go.undef))
theorem G6(fn:Func)(tmps:Array Value):results fn tmps=(do let vs<-fn.results.mapM (u9 tmps);pure (if h:vs.size=1 then vs[0]else .tuple vs)):=by
 unfold results;have e:(λ(r:ResultVar)=>match r with
  | .tmp t=>(pure (tmps.getD t Go.undef):Sem Value)
  | .cell ad t=>do loadVar t (<-asAddr (tmps.getD ad Go.undef)))=u9 tmps:=by
  funext r;cases r<;>rfl
 rw[<-e];rfl
theorem sF:∀{rs:List ResultVar}{LH:List Rv},oW P rs=some LH->∀{st:St}{ρ:b9}{a:Act}{w:World}{K:List RV->Prop},
  aN ρ st.mem w->bu ρ w st.ba a.tmps->DV P st LH K->
  ∃(vs:List RV)(us:List Value),K vs/\(rs.mapM (u9 a.tmps)).run P w= .ok us w/\
   us.length=vs.length/\∀(i:Nat)r,vs[i]? =some r->∃u,us[i]? =some u/\eU ρ w r u
 | [],LH,h,st,ρ,a,w,K,hM,hE,hr=>by simp[oW]at h;subst h;exact⟨[],[],hr,rfl,rfl,aG⟩
 | .tmp t::r,LH,h,st,ρ,a,w,K,hM,hE,hr=>by
  simp only[oW,XX,V3]at h;obtain⟨r',hr',h⟩:=h;cases h;simp only[DV]at hr;obtain⟨v,hv,hr⟩:=be.1 hr;obtain⟨vs,us,hK,fv,hlen,cL⟩:=sF hr' hM hE hr;have hd:=hE.get t;have Zr:lV st.ba t= .rv v:=by
   cases hg:lV st.ba t<;>rw[hg]at hv<;>simp[Gr]at hv
   rw[hv]
  rw[Zr]at hd;refine⟨v::vs,a.tmps.getD t Go.undef::us,hK,?_,by simp[hlen],λi r hi=>?_⟩
  .rw[List.mapM_cons,Sem.run_bind];simp only[u9,Sem.run_pure,Result.andThen_ok];rw[Sem.run_bind,fv];rfl
  .cases i with
   |zero=>simp at hi;subst hi;exact⟨_,aG,hd⟩
   |succ i=>simpa using cL i r (by simpa using hi)
 | .cell ad t::r,LH,h,st,ρ,a,w,K,hM,hE,hr=>by
  simp only[oW,XX,V3]at h;obtain⟨agg,ha,n,hn,r',hr',h⟩:=h;cases h;simp only[DV]at hr;obtain⟨addr,u,cv,hv,aaK,hK1,cP⟩:=wd hM ha hn hr (hE.get ad);obtain⟨v,Al,hr⟩:=be.1 hK1;obtain⟨vs,us,hK,fv,hlen,cL⟩:=sF hr' hM hE hr;have Zr:cv= .rv v:=by
   cases cv<;>simp[Gr]at Al
   rw[Al]
  subst Zr;refine⟨v::vs,u::us,hK,?_,by simp[hlen],λi r hi=>?_⟩
  .rw[List.mapM_cons,Sem.run_bind];simp only[u9,hv,asAddr,Sem.run_bind,Sem.run_pure,Result.andThen_ok,aaK];rw[fv];rfl
  .cases i with
   |zero=>simp at hi;subst hi;exact⟨_,aG,cP⟩
   |succ i=>simpa using cL i r (by simpa using hi)
theorem Au{fn:Func}{rs:List Rv}(h:oW P fn.results.toList=some rs){st:St}{ρ:b9}{a:Act}{w:World}{K:CV->Prop}(hM:aN ρ st.mem w)(hE:bu ρ w st.ba a.tmps)(hr:DV P st rs λvs=>K (WM vs)):∃v r,(results fn a.tmps).run P w= .ok v w/\K r/\cG ρ w r v:=by
 obtain⟨vs,us,hK,fv,hlen,cL⟩:=sF h hM hE hr;have AZ:(fn.results.mapM (u9 a.tmps)).run P w= .ok us.toArray w:=by rw[Array.mapM_eq_mapM_toList,Sem.run_map,fv];rfl
 rw[G6,Sem.run_bind,AZ];refine⟨_,_,rfl,hK,?_⟩
 match vs,us,hlen,cL with
 | [r],[u],_,cL=>
  obtain⟨u',hu,hd⟩:=cL 0 r aG;simp at hu;subst hu;exact hd
 | [],[],_,cL=>exact⟨[],rfl,rfl,aG⟩
 |r1::r2::rs,u1::u2::us,hlen,cL=>
  refine⟨u1::u2::us,?_,hlen,cL⟩;simp
theorem jJ{f:Nat}{fn:Func}{lf:LF}{args:List CV}{m:Mem}{K:CV->Mem->Prop}(hf:P.funcs[f]? =some fn)(hl:bA P fn=some lf.er)(hn:(fn.name== "runtime.NumGoroutine")=false)(hle:args.length<=lf.n)(h:body P lf args m K):aq P f args m K:=by
 simp only[bA,LF.er,XX,V3,abi,LF.mk.injEq]at hl;obtain⟨rs,Xe,c,hc,lc0,uK,qj,afd,aaL⟩:=hl;subst aaL afd;obtain⟨lfn,lfr,lc⟩:=lf;simp only at qj Xe uK;subst qj;refine⟨⟨fn,hf,by simp[hc],hn⟩,λρ w vs hM hlen cL=>?_⟩
 simp only[body,fO,kZ,cw,gn]at h;simp only at hle;have hI:Inv w.heap.size ρ m w ⟨args++List.replicate (fn.ntmps-args.length) .undef,m⟩ ρ {tmps:=vs.toArray++Array.replicate (fn.ntmps-vs.toArray.size) Go.undef,defers:=[]} w:=by
  refine⟨Ext.refl _ _ _,hM,⟨by simp[hlen],λi c hi=>?_⟩,GZ.nil,aah _,aah _⟩
  rcases aaD i args.length with ay|eO
  .rw[aaM ay]at hi;obtain⟨v,hv,hd⟩:=cL i c hi;refine⟨v,?_,hd⟩;rw[ad1 (by simp[hlen];exact ay)]
   simpa using hv
  .rw[aaO eO,aes]at hi;split at hi
   .rename_i ay;cases hi;refine⟨Go.undef,?_,rfl⟩;rw[Array.getElem?_append_right (by simp[hlen];exact eO),Array.getElem?_replicate,if_pos (by simp[hlen];exact ay)]
   .cases hi
 refine(callsIn_wide (n:=0)).1 (callsIn_of_wp_marks (F:=Fence.wide) hf hc trivial (wpIn_mono (OV lc none (.inl rfl) _ ρ m w hM.n c _ _ ρ _ w uK h hI) λe a' w' hp=>?_))
 obtain⟨ex,kH,U',he,hK,rI⟩:=hp;have gU:DV P kH lfr (λvs=>K (WM vs) kH.mem)->LeavesInM Fence.wide 0 P fn a'.tmps (λe w'=>∃v_1 r m' U',e=Ending.returned v_1/\K r m'/\aN U' m' w'/\cG U' w' r v_1/\Ext ρ m w U' m' w') a'.defers .returning w':=λhr=>by
  obtain⟨Ds,h1,h2,h3⟩:=rI.defers;rw[h1];refine tH rfl Ds w' h2 h3 rI.mem rI.ba rI.ext λw2 El Gd W9=>?_
  obtain⟨v,r,fv,hKr,hd⟩:=Au (K:=λr=>K r kH.mem) Xe El Gd hr
  exact⟨v,fv,v,r,kH.mem,U',rfl,hKr,El,hd,W9⟩
 cases e<;>simp[Ec]at he<;>subst he
 .exact gU hK
 .exact hK.elim
 .exact gU hK
theorem SY:∀(c:Code)(lc:LC),eJ P c=some lc->lc.er=lc:=by
 intro c
 induction c with
 |skip=>intro lc h;simp[eJ]at h;subst h;rfl
 |region id ops jF=>
  intro lc h;cases jF with
  |true=>
   simp only[eJ,XX,V3]at h;obtain⟨cy,_,sch,_,h⟩:=h;cases h;rfl
  |false=>
   simp only[eJ,XX,V3]at h;obtain⟨cy,_,h⟩:=h;cases h;rfl
 |seq x y Xa OQ=>
  intro lc h;simp only[eJ,XX,V3]at h;obtain⟨lx,hx,ly,hy,h⟩:=h;cases h;simp only[LC.er,Xa lx hx,OQ ly hy]
 |cond x y z OQ ihz=>
  intro lc h;simp only[eJ,XX,V3]at h;obtain⟨x',_,ly,hy,lz,hz,h⟩:=h;cases h;simp only[LC.er,OQ ly hy,ihz lz hz]
 |block id b ih=>
  intro lc h;simp only[eJ,XX,V3]at h;obtain⟨lb,hb,h⟩:=h;cases h;simp only[LC.er,ih lb hb]
 |loop b ih=>
  intro lc h;simp only[eJ,XX,V3]at h;obtain⟨lb,hb,h⟩:=h;cases h;simp only[LC.er,ih lb hb]
 |exit id=>intro lc h;simp[eJ]at h;subst h;rfl
 |ret=>intro lc h;simp[eJ]at h;subst h;rfl
 |rangeFunc f ps x y Xa OQ=>
  intro lc h;simp only[eJ,XX]at h;split at h
  case h_2=>cases h
  simp only[V3]at h;obtain⟨lx,hx,ly,hy,h⟩:=h;split at h
  case isFalse=>cases h
  simp only[V3]at h;obtain⟨x',_,h⟩:=h;cases h;simp only[LC.er,Xa lx hx,OQ ly hy]
 |_=>intro lc h;simp[eJ]at h
theorem mF{f:Nat}{fn:Func}{lf:LF}{args:List CV}{m:Mem}{K:CV->Mem->Prop}(hf:P.funcs[f]? =some fn)(hl:bA P fn=some lf)(hn:(fn.name== "runtime.NumGoroutine")=false)(hle:args.length<=lf.n)(h:body P lf args m K):aq P f args m K:=by
 refine jJ hf ?_ hn hle h;have NM:=hl;simp only[bA,XX,V3]at hl;obtain⟨rs,Xe,c,hc,lc,uK,hl⟩:=hl;cases hl;rw[NM];simp only[LF.er,SY c lc uK]
end
end Go.AM
