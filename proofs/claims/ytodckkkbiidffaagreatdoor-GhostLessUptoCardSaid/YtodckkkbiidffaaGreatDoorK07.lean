/- Part 7 of 16. -/
import Derived.Test.YtodckkkbiidffaaGreatDoorK06
import Derived.Orders
set_option linter.unusedVariables false
set_option linter.unusedSimpArgs false
set_option maxRecDepth 100000
set_option maxHeartbeats 0
namespace Go.AM
section
variable {P:Program}
def LO.ku(lo:LO)(e:List CV):Option Bool:=
 match lo.guard with
 |none=>some true
 |some (s,ku)=>match kP e s with
  | .undef=>some false
  | .rv (.one (.ah (.val (.bool t))))=>some (t==ku)
  |_=>none
theorem gR{lo:LO}{e:List CV}{m:Mem}{K:List CV->CV->Mem->Prop}:
  og P lo e m K↔(lo.ku e=some true/\step P lo.Cy e m (K e))\/(lo.ku e=some false/\K e .undef m):=by
 unfold og LO.ku;cases hg:lo.guard with
 |none=>simp[fp]
 |some p=>
  obtain⟨s,ku⟩:=p;simp only;generalize d8:kP e s=c;split
  .simp
  .rename_i t;have h1:∀b,t=b->aV e s (aD b)=e:=λb hb=>by subst hb;exact A7 d8
   rw[cn];cases t
   .simp only[fp,h1 false rfl];cases ku<;>simp
   .simp only[fp,h1 true rfl];cases ku<;>simp
  .rename_i n1 n2;have:∀b,¬(match c with
     |CV.undef=>some false
     |CV.rv (RV.one (CC.ah (Dt.val (Value.bool t))))=>some (t==ku)
     |x=>none)=some b:=by
    intro b hb;split at hb
    .exact n1 rfl
    .exact n2 _ rfl
    .cases hb
   constructor
   .exact λh=>h.elim
   .rintro(⟨h,_⟩|⟨h,_⟩)<;>exact this _ h
def y5(d:Option Nat)(v:CV)(e:List CV):List CV:=
 match d with
 |none=>e
 |some d=>e.set d v
theorem sb{d:Option Nat}{v:CV}{e:List CV}{K:List CV->Prop}:put d v e K↔K (y5 d v e):=by
 rw[MJ];cases d<;>rfl
variable {N:Nat} {ρ0:bI} {m0:Mem} {w0:World}
theorem Inv.drew{st:St}{ρ:bI}{a:Act}{w:World}(h:Inv N ρ0 m0 w0 st ρ a w):Inv N ρ0 m0 w0 st ρ a {w with drawn:=w.drawn+1}:=by
 obtain⟨x,M,E,d,hN,n⟩:=h;have g:iL ρ w ρ {w with drawn:=w.drawn+1}:=⟨Ym _,λ_ _=>rfl,λ_ h=>h,λ_ _=>rfl⟩
 have e:Ext ρ st.mem w ρ st.mem {w with drawn:=w.drawn+1}:=⟨Ym _,λ_ _=>rfl,λ_ h=>h,λ_ h=>.inl h,λk h=>.inr ⟨k,h,rfl⟩,λ_ _ _=>rfl,Ym _,rfl,rfl,rfl⟩
 have hc:∀{mk:Prop}b cur,mE mk w b cur->mE mk {w with drawn:=w.drawn+1} b cur:=λ{mk}b cur hc=>hc.dC rfl
 refine⟨x.trans e,?_,?_,d,hN,n⟩
 .refine⟨M.n,M.S,M.aL,M.inj,λid b hb=>?_,λid i j esz el ho be=>?_⟩
  .have h1:=M.bk id b hb;cases b with
   |aS=>trivial
   |var cs=>
    obtain⟨cur,bX,h2⟩:=h1;exact⟨cur,hc _ _ bX,λj c hj=>let⟨u,hu,hd⟩:=h2 j c hj;⟨u,hu,bj.cm g aE hd⟩⟩
   |row esz elems=>
    obtain⟨h2,h3,h4,h5,h6⟩:=h1;refine⟨h2,h3,h4,h5,λhp=>?_⟩
    obtain⟨cur,bX,h7,h8⟩:=h6 hp;exact⟨cur,hc _ _ bX,h7,λi cs j c hi hj=>let⟨u,hu,hd⟩:=h8 i cs j c hi hj;⟨u,hu,bj.cm g (by intro kK i' j' e';cases e';rw[M.n];exact(Km.1 hb).1) hd⟩⟩
   |mp es=>
    obtain⟨bq,ck,h2,h3,h4⟩:=h1;exact⟨bq,ck,h2,h3,λi e he=>let⟨e',mT,hk,hd⟩:=h4 i e he;⟨e',mT,hk,df.cm g hd⟩⟩
   |it cur left=>exact h1
   |mo esz es so=>exact cJ.cm (bk:= .mo esz es so) g (by rw[M.n];exact(Km.1 hb).1) (λ_ _=>rfl) h1
   |iw mid ip seen=>exact h1
  .obtain⟨cur,bX,h2,h3,h4⟩:=M.ei id i j esz el ho be;exact⟨cur,hc _ _ bX,h2,h3,λi cs j d hi hj=>let⟨u,hu,hd⟩:=h4 i cs j d hi hj;⟨u,hu,de.mono (S:=ρ.S) (S':=ρ.S) (w:=w) (w':={w with drawn:=w.drawn+1}) (λ_ h=>h) (λ_ _=>rfl) hd⟩⟩
 .exact⟨E.size,λi c hi=>let⟨v,hv,hd⟩:=E.jS i c hi;⟨v,hv,ce.cm g hd⟩⟩
theorem zN{ops:Array Oper}{k:Nat}{o:Oper}{lo:LO}{aX:List CV}{m:Mem}{ρ:bI}{a:Act}{w:World}{K:CV->Mem->Prop}{K1:Act->World->Prop}{Q:Exit->Act->World->Prop}(ho:ops[k]? =some o)(iT:wH P ops o=some lo)(hI:Inv N ρ0 m0 w0 ⟨aX,m⟩ ρ a w)(h:og P lo aX m λ_ v m'=>K v m')(hn:∀v m' U' a' w',K v m'->Inv N ρ0 m0 w0 ⟨y5 lo.dst v aX,m'⟩ U' a' w'->K1 a' w'):wpOp P ops Q k K1 a w:=by
 simp only[wH,U6,N7]at iT;obtain⟨i,hi,g,hg,iT⟩:=iT;cases iT;unfold wpOp;rw[ho];simp only;have SK:∀b,LO.ku ⟨o.dst,i,g⟩ aX=some b->Region.wanted o (yielded ops a.tmps)=b:=by
  intro b hb;unfold LO.ku at hb;cases MM:o.guard with
  |none=>
   rw[MM]at hg;simp[Ma]at hg;subst hg;simp at hb;subst hb;simp[Region.wanted,MM]
  |some jb=>
   obtain⟨j,ku⟩:=jb;rw[MM]at hg;simp only[Ma,U6,N7]at hg;obtain⟨oj,hoj,s,hs,hg⟩:=hg;cases hg;have hy:yielded ops a.tmps j=match a.tmps[s]? with|some (.bool b)=>some b|_=>none:=by simp[yielded,hoj,hs];rfl
   simp only at hb;split at hb
   .rename_i d8;have cq:=hI.aX.get s;rw[d8]at cq;have hu:a.tmps[s]? =some Go.undef\/a.tmps[s]? =none:=by
     simp only[ce,abE]at cq;cases ht:a.tmps[s]? with
     |none=>exact .inr rfl
     |some v=>rw[ht]at cq;simp at cq;exact .inl (by rw[cq])
    cases hb;simp only[Region.wanted,MM,hy];rcases hu with hu|hu<;>rw[hu]<;>rfl
   .rename_i t d8;have cq:=hI.aX.get s;rw[d8]at cq;have ht:a.tmps[s]? =some (.bool t):=by
     have:=(bF cq).1;rw[abE]at this;cases ht:a.tmps[s]? with
     |none=>rw[ht]at this;cases this
     |some v=>rw[ht]at this;simp at this;rw[this]
    simp at hb;simp[Region.wanted,MM,hy,ht,hb]
   .cases hb
 rcases gR.1 h with⟨hw,hs⟩|⟨hw,hs⟩
 .rw[if_pos (SK _ hw)];refine .inl (Db (K:=λe' m'=>∃v,e'=y5 o.dst v aX/\K v m') hi hI (zM hs λv m' hk=>sb.2 ⟨v,rfl,hk⟩) λfP m' U' a' w'⟨v,he,hk⟩qa=>?_)
  subst he;exact hn v m' U' a' w' hk qa
 .rw[if_neg (by simp[SK _ hw])]
  obtain⟨fP,LH,qa⟩:=hI.step (d:=o.dst) (c:= .undef) (v:=Go.undef) (K:=λe=>e=y5 o.dst .undef aX) hI.mem rfl (Ext.refl _ _ _) (sb.2 rfl)
  subst LH;exact hn _ _ _ _ _ hs qa
theorem vg{lo:LO}{e e':List CV}{m:Mem}{K:CV->Mem->Prop}(hx:∀t,t∈lo.looks->kP e t=kP e' t)(h:og P lo e m λ_ v m'=>K v m'):
  og P lo e' m λ_ v m'=>K v m':=by
 rw[gR]at h|-;have hs:∀t,t∈l9 lo.Cy.xs->kP e t=kP e' t:=λt ht=>hx t (by unfold LO.looks;split<;>simp[ht])
 have hw:lo.ku e=lo.ku e':=by
  unfold LO.ku;cases hg:lo.guard with
  |none=>rfl
  |some p=>simp only[hx p.1 (by unfold LO.looks;rw[hg];simp)]
 have zK:∀(xs:List X)(x:X),x∈xs->∀n,x= .t n->n∈l9 xs:=by
  intro xs
  induction xs with
  |nil=>intro x hx;cases hx
  |cons y r ih=>
   intro x hx n hn;subst hn;cases y with
   |t k=>
    simp only[l9,aaJ];rcases aaJ.1 hx with h|h
    .cases h;exact .inl rfl
    .exact .inr (ih _ h n rfl)
   |c v=>
    simp only[l9];rcases aaJ.1 hx with h|h
    .cases h
    .exact ih _ h n rfl
 have SB:∀x,x∈lo.Cy.xs->x.ev e=x.ev e':=λx hx=>by
  cases x with
  |t n=>exact hs n (zK _ _ hx n rfl)
  |c v=>rfl
 rw[<-hw];rcases h with⟨h1,h2⟩|h
 .exact .inl ⟨h1,FC SB h2⟩
 .exact .inr h
def QV(P:Program)(lo:LO)(e:List CV)(m:Mem)(v:CV):Prop:=og P lo e m λ_ v' m'=>v'=v/\m'=m
theorem vh{lo:LO}(hq:tG lo.Cy=true){e:List CV}{m:Mem}{K:List CV->CV->Mem->Prop}(h:og P lo e m K):∃v,K e v m/\QV P lo e m v:=by
 rcases gR.1 h with⟨h1,h2⟩|⟨h1,h2⟩
 .obtain⟨v,hv,f8⟩:=FB hq h2;exact⟨v,hv,gR.2 (.inl ⟨h1,f8 _ ⟨rfl,rfl⟩⟩)⟩
 .exact⟨_,h2,gR.2 (.inr ⟨h1,rfl,rfl⟩)⟩
theorem QV.pure{lo:LO}(hq:zr lo.Cy=true){e:List CV}{m:Mem}{v:CV}(h:QV P lo e m v)(m':Mem):QV P lo e m' v:=by
 rcases gR.1 h with⟨h1,h2⟩|⟨h1,h2⟩
 .obtain⟨v',hv,f8⟩:=JI hq h2;exact gR.2 (.inl ⟨h1,f8 m' _ ⟨hv.1,rfl⟩⟩)
 .exact gR.2 (.inr ⟨h1,h2.1,rfl⟩)
end
section
variable {P:Program}
def Edge(ic:List (List Nat))(i j:Nat):Prop:=∃l,ic[i]? =some l/\j∈l
def Ui(ic:List (List Nat))(L:Nat->Prop):Prop:=∀i j,Edge ic i j->L i->L j
def Uj(ic:List (List Nat))(i j:Nat):Prop:=∀L,Ui ic L->(∀k,Edge ic i k->L k)->L j
theorem se{fc:List Nat}{t:Nat}:∀{l:List Nat},Nat.testBit (AO fc l) t=true->
  ∃j,j∈l/\(t=j\/Nat.testBit ((cF fc j).getD 0) t=true)
 | [],h=>by simp[AO]at h
 |j::r,h=>by
  simp only[AO,List.foldr_cons]at h;have h1:∀a b:Nat,Nat.testBit (Nat.lor a b) t=(Nat.testBit a t||Nat.testBit b t):=λa b=>Nat.testBit_or a b t
  rw[h1,h1]at h;simp only[abX]at h;rcases h with h|h|h
  .obtain⟨k,hk,hr⟩:=se (l:=r) h;exact⟨k,by simp[hk],hr⟩
  .refine⟨j,aE,.inl ?_⟩;have:Nat.shiftLeft 1 j=2^j:=by show 1<<<j=2^j;rw[Nat.shiftLeft_eq];simp
   rw[this,Nat.testBit_two_pow]at h;simpa using(of_decide_eq_true h).symm
  .exact⟨j,aE,.inr h⟩
def MQ(ic:List (List Nat))(fc:List Nat):Prop:=∀(i j:Nat),Nat.testBit ((cF fc i).getD 0) j=true->Uj ic i j
theorem Dc{ic:List (List Nat)}{fc:List Nat}(h:MQ ic fc):MQ ic (E7 ic fc):=by
 intro i j hb;rw[aT,E7,Tm]at hb;cases hl:ic[i]? with
 |none=>rw[hl]at hb;simp at hb
 |some l=>
  rw[hl]at hb;simp only[aaD,abt]at hb;obtain⟨k,hk,hr⟩:=se hb;have he:Edge ic i k:=⟨l,hl,hk⟩;rcases hr with rfl|hr
  .exact λL _ hL=>hL _ he
  .exact λL hd hL=>h k j hr L hd λk' fZ=>hd _ _ fZ (hL _ he)
theorem vj{ic:List (List Nat)}:∀(k:Nat){fc:List Nat},MQ ic fc->MQ ic (AP ic k fc)
 |0,_,h=>h
 |k+1,fc,h=>by
  simp only[AP];split
  .exact h
  .exact vj k (Dc h)
theorem JJ{n:Nat}{ic:List (List Nat)}:MQ ic (bt n ic):=vj n λi j hb=>by simp[cF]at hb
theorem xg{ic:List (List Nat)}{n:Nat}{L:Nat->Prop}(kF:∀i,i<n->¬L i->∃j,Edge ic i j/\¬L j):
  ∀(l bf:List Nat),zs ic n bf l=true->(∀i,i∈bf->L i)->∀i,i<n->L i
 | [],bf,h,hb,i,hi=>by
  simp only[zs,abd]at h;exact hb i (by simpa using h i (by simpa using hi))
 |x::r,bf,h,hb,i,hi=>by
  simp only[zs,aab,abd]at h;refine xg kF r (x::bf) h.2 (λk hk=>?_) i hi
  rcases aaJ.1 hk with e|hk
  .rw[e];by_cases h1:L x
   .exact h1
   .obtain⟨j,⟨l,hl,hj⟩,hnj⟩:=kF x (by have:=h.1.1;rwa [abJ]at this) h1
    refine absurd (hb j ?_) hnj;have:=h.1.2 j (by rw[aT,hl];exact hj)
    simpa using this
  .exact hb k hk
variable {bW:List LO} {ms:List Nat} {n:Nat} {e0:List CV} {ic:List (List Nat)}
structure mq(bW:List LO)(e0:List CV)(S:Nat->Prop)(val:Nat->CV)(e:List CV):Prop where
 len:e.length=e0.length
 on:∀t k,S k->dg bW t k=true->t<e0.length->e[t]? =some (val k)
 off:∀t,(∀k,S k->dg bW t k=false)->e[t]? =e0[t]?
theorem lq{t k:Nat}:dg bW t k=true↔∃lo,cF bW k=some lo/\lo.dst=some t:=by
 unfold dg;cases cF bW k with
 |none=>simp
 |some lo=>
  cases hd:lo.dst with
  |none=>simp[hd]
  |some d=>simp[hd]
theorem mq.step{S:Nat->Prop}{val:Nat->CV}{e:List CV}(h:mq bW e0 S val e){i:Nat}{lo:LO}(hi:cF bW i=some lo)(hu:∀t k,S k->lo.dst=some t->dg bW t k=false){v:CV}{jE:Nat->CV}(hv:jE i=v)(j8:∀k,S k->jE k=val k){S':Nat->Prop}(hS:∀k,S' k↔S k\/k=i):mq bW e0 S' jE (y5 lo.dst v e):=by
 have hw:∀t,dg bW t i=true↔lo.dst=some t:=λt=>by rw[lq];simp[hi]
 refine⟨?_,λt k hk CB aC=>?_,λt f8=>?_⟩
 .unfold y5;split<;>simp[h.len]
 .rcases(hS k).1 hk with hk|rfl
  .have dh:lo.dst≠some t:=λhd=>by rw[hu t k hk hd]at CB;cases CB
   rw[j8 k hk,<-h.on t k hk CB aC];unfold y5;cases hd:lo.dst with
   |none=>rfl
   |some d=>
    simp only;rw[U7];rintro rfl;exact dh hd
  .have hd:=(hw t).1 CB;rw[hd,hv];simp only[y5];rw[TH (by rw[h.len];exact aC)]
 .have dh:lo.dst≠some t:=λhd=>by have:=f8 i ((hS i).2 (.inr rfl));rw[(hw t).2 hd]at this;cases this
  rw[<-h.off t λk hk=>f8 k ((hS k).2 (.inl hk))]
  unfold y5;cases hd:lo.dst with
  |none=>rfl
  |some d=>
   simp only;rw[U7];rintro rfl;exact dh hd
theorem mq.Xf{S S':Nat->Prop}{val jE:Nat->CV}{e:List CV}(h:mq bW e0 S val e)(j8:∀k,S k->jE k=val k)(hS:∀k,S' k↔S k):mq bW e0 S' jE e:=
 ⟨h.len,λt k hk hw hl=>by rw[j8 k ((hS k).1 hk)];exact h.on t k ((hS k).1 hk) hw hl,λt f8=>h.off t λk hk=>f8 k ((hS k).2 hk)⟩
theorem mq.ext{S:Nat->Prop}{val:Nat->CV}{e e':List CV}(h:mq bW e0 S val e)(h':mq bW e0 S val e'):e=e':=by
 refine abr λt=>?_
 by_cases hex:∃k,S k/\dg bW t k=true
 .obtain⟨k,hk,hw⟩:=hex;rcases aaf t e0.length with aC|d8
  .rw[h.on t k hk hw aC,h'.on t k hk hw aC]
  .rw[aaE (by rw[h.len];exact d8),aaE (by rw[h'.len];exact d8)]
 .have:∀k,S k->dg bW t k=false:=λk hk=>by
   cases hw:dg bW t k with
   |false=>rfl
   |true=>exact absurd ⟨k,hk,hw⟩ hex
  rw[h.off t this,h'.off t this]
def Agree(bW:List LO)(ms:List Nat)(e0:List CV)(bf:List Nat)(val:Nat->CV)(j:Nat)(e1:List CV):Prop:=
 e1.length=e0.length/\∀t,t∈oM bW j->t<e0.length->
  (∃k,k∈bf/\dg bW t k=true/\nK ms j k=true/\e1[t]? =some (val k))\/
  ((∀k,k∈bf->dg bW t k=true->k=j\/nK ms k j=true)/\e1[t]? =e0[t]?)
theorem Agree.Zu{bf:List Nat}{val:Nat->CV}{j:Nat}{e1 aX:List CV}{L:Nat->Prop}(h:Agree bW ms e0 bf val j e1)(hE:mq bW e0 L val aX)(CD:∀i j,nK ms i j=true->Uj ic i j)(hd:Ui ic L)(iN:∀i,L i->i∈bf)(hj:¬L j)(hr:∀k,Edge ic j k->L k):
  ∀t,t∈oM bW j->kP e1 t=kP aX t:=by
 intro t ht;rw[mc,mc];rcases aaf t e0.length with aC|d8
 .rcases h.2 t ht aC with⟨k,hk,hw,hm,he⟩|⟨f8,he⟩
  .rw[he,hE.on t k (CD _ _ hm L hd hr) hw aC]
  .rw[he,hE.off t λk hk=>?_]
   cases hw:dg bW t k with
   |false=>rfl
   |true=>
    rcases f8 k (iN k hk) hw with rfl|hm
    .exact absurd hk hj
    .exact absurd (CD _ _ hm L hd λk' fZ=>hd _ _ fZ hk) hj
 .rw[aaE (by rw[h.1];exact d8),aaE (by rw[hE.len];exact d8)]
structure DS(P:Program)(bW:List LO)(ms:List Nat)(n:Nat)(ic:List (List Nat))(e0:List CV)(K:List CV->Mem->Prop)(L:Nat->Prop)(bf:List Nat)(c:Bool)(R:nH)(val:Nat->CV)(eu:List (Nat×LO×List CV×CV))(e aX:List CV)(m:Mem):Prop where
 go:ef bW ms n c bf R=true
 Xg:vF P bW R eu K e m
 sf:mq bW e0 (·∈bf) val e
 y6:mq bW e0 L val aX
 sub:∀i,L i->i∈bf
 down:Ui ic L
 A8:∀t j k,j∈bf->k∈bf->dg bW t j=true->dg bW t k=true->j=k
 tS:∀j,j∈bf->¬L j->∃lo e1,cF bW j=some lo/\tG lo.Cy=true/\wJ j eu=some (lo,e1,val j)/\QV P lo e1 m (val j)/\Agree bW ms e0 bf val j e1
theorem jF{bf:List Nat}{i:Nat}(h:HB bW ms n bf i=true):i<n/\i∉bf/\
  (∀t,t∈oM bW i->∀j,j∈bf->dg bW t j=true->nK ms i j=true)/\
  (∀t,Jd bW i=some t->∀j,j∈bf->dg bW t j=false/\(t∈oM bW j->nK ms i j=true)):=by
 simp only[HB,aab]at h;obtain⟨⟨⟨h1,h2⟩,h4⟩,h5⟩:=h;refine⟨by rwa [abJ]at h1,by simpa using h2,?_,?_⟩
 .intro t ht j hj hw;have:=abd.1 (abd.1 h4 t ht) j hj;simpa[hw]using this
 .intro t ht j hj;rw[ht]at h5;have:=abd.1 h5 j hj;simp only[aab,abN,abX]at this;refine⟨this.1,λhl=>?_⟩
  rcases this.2 with h|h
  .simp[hl]at h
  .exact h
theorem zO{bf hd:List Nat}(h:TS ms n bf hd=true){i:Nat}(hi:i<n)(hb:i∉bf):i∈hd\/∃f,f∈hd/\nK ms i f=true:=by
 have:=abd.1 h i (by simpa using hi)
 simp only[abX,abc]at this;rcases this with h|h|⟨f,h1,h2⟩
 .exact absurd (by simpa using h) hb
 .exact .inl (by simpa using h)
 .exact .inr ⟨f,h1,h2⟩
theorem lu:∀{R:nH}{bf:List Nat},ef bW ms n false bf R=true->(∃f,f∈R.hd)/\∀f,f∈R.hd->f<n/\f∉bf
 | .nil,bf,h=>by simp[ef]at h
 | .cons i none r,bf,h=>by simp[ef]at h
 | .cons i (some l) r,bf,h=>by
  simp only[ef,aab]at h;obtain⟨h1,h2,_⟩:=jF h.2.1;exact⟨⟨i,by simp[nH.hd]⟩,λf hf=>by simp[nH.hd]at hf;subst hf;exact⟨h1,h2⟩⟩
 | .ww x y,bf,h=>by
  simp only[ef,aab]at h;obtain⟨⟨f,hf⟩,hx⟩:=lu h.2.1;obtain⟨_,hy⟩:=lu h.2.2;exact⟨⟨f,by simp[nH.hd,hf]⟩,λf hf=>by simp only[nH.hd,abu]at hf;exact hf.elim (hx f) (hy f)⟩
theorem DS.ahead{K:List CV->Mem->Prop}{L:Nat->Prop}{bf:List Nat}{c:Bool}{q:Nat}{R:nH}{val:Nat->CV}{eu:List (Nat×LO×List CV×CV)}{e aX:List CV}{m:Mem}(h:DS P bW ms n ic e0 K L bf c (.cons q none R) val eu e aX m):∃jE sh e',DS P bW ms n ic e0 K L (q::bf) true R jE sh e' aX m:=by
 have qj:=h.go;simp only[ef,aab]at qj;obtain⟨_,Dd,g6,g8⟩:=qj;obtain⟨g1,g2,g4,g5⟩:=jF Dd;have hc:=h.Xg;simp only[zu,HF]at hc;obtain⟨lo,iT,hc⟩:=aU.1 hc;have hq:tG lo.Cy=true:=by simpa[ma,iT]using g6
 obtain⟨v,hc,hqv⟩:=vh hq hc;have hc:=sb.1 hc;have MR:Jd bW q=lo.dst:=by simp[Jd,iT]
 let jE:Nat->CV:=λk=>if k=q then v else val k
 have j8:∀k,k∈bf->jE k=val k:=λk hk=>if_neg λ(e:k=q)=>g2 (e▸hk)
 have CB:∀t k,k∈bf->lo.dst=some t->dg bW t k=false:=λt k hk hd=>(g5 t (by rw[MR];exact hd) k hk).1
 have Uk:∀t,dg bW t q=true->lo.dst=some t:=λt hw=>by obtain⟨Fq,h1,h2⟩:=lq.1 hw;rw[iT]at h1;cases h1;exact h2
 refine⟨jE,_,_,g8,hc,h.sf.step iT CB (by simp[jE]) j8 (by simp[or_comm]),h.y6.Xf (λk hk=>j8 k (h.sub k hk)) (λ_=>Iff.rfl),λi hi=>by simp[h.sub i hi],h.down,?_,?_⟩
 .intro t j k hj hk MS HV;rcases aaJ.1 hj with e1|y3<;>rcases aaJ.1 hk with e2|kM
  .rw[e1,e2]
  .rw[e1]at MS;rw[CB t k kM (Uk t MS)]at HV;cases HV
  .rw[e2]at HV;rw[CB t j y3 (Uk t HV)]at MS;cases MS
  .exact h.A8 t j k y3 kM MS HV
 .intro j hj hL;rcases aaJ.1 hj with rfl|hj
  .refine⟨lo,e,iT,hq,by simp[wJ,jE],by simpa[jE]using hqv,h.sf.len,λt ht aC=>?_⟩
   by_cases hex:∃k,k∈bf/\dg bW t k=true
   .obtain⟨k,hk,hw⟩:=hex;exact .inl ⟨k,by simp[hk],hw,g4 t ht k hk hw,by rw[j8 k hk];exact h.sf.on t k hk hw aC⟩
   .refine .inr ⟨λk hk hw=>?_,h.sf.off t λk hk=>?_⟩
    .rcases aaJ.1 hk with rfl|hk
     .exact .inl rfl
     .exact absurd ⟨k,hk,hw⟩ hex
    .cases hw:dg bW t k with
     |false=>rfl
     |true=>exact absurd ⟨k,hk,hw⟩ hex
  .obtain⟨Fq,e1,h1,h2,h3,h4,h5,h6⟩:=h.tS j hj hL;have dh:q≠j:=λe=>g2 (e▸hj)
   refine⟨Fq,e1,h1,h2,?_,by rw[j8 j hj];exact h4,h5,λt ht aC=>?_⟩
   .have:Nat.beq q j=false:=by
     cases hb:Nat.beq q j with
     |false=>rfl
     |true=>exact absurd (aai hb) dh
    simp only[wJ,this];rw[h3,j8 j hj]
   .rcases h6 t ht aC with⟨k,hk,hw,hm,he⟩|⟨f8,he⟩
    .exact .inl ⟨k,by simp[hk],hw,hm,by rw[j8 k hk];exact he⟩
    .refine .inr ⟨λk hk hw=>?_,he⟩
     rcases aaJ.1 hk with e2|kM
     .rw[e2]at hw|-;exact .inr ((g5 t (by rw[MR];exact Uk t hw) j hj).2 ht)
     .exact f8 k kM hw
end
section
variable {P:Program}
variable {N:Nat} {ρ0:bI} {m0:Mem} {w0:World}
variable {bW:List LO} {ms:List Nat} {n:Nat} {e0:List CV} {ic:List (List Nat)}
theorem zP{ops:Array Oper}:∀{l:List Oper}{bW:List LO},mX P ops l=some bW->l.length=bW.length/\∀(i:Nat)o,l[i]? =some o->∃lo,cF bW i=some lo/\wH P ops o=some lo
 | [],bW,h=>by simp[mX]at h;subst h;simp
 |o::r,bW,h=>by
  obtain⟨lo,lr,rfl,h1,h2⟩:=tQ h o r rfl;obtain⟨h3,h4⟩:=zP h2;refine⟨by simp[h3],λi o' hi=>?_⟩
  cases i with
  |zero=>simp at hi;subst hi;exact⟨lo,rfl,h1⟩
  |succ i=>simpa[cF]using h4 i o' (by simpa using hi)
theorem De{m:Mem}{eu:List (Nat×LO×List CV×CV)}{j:Nat}:∀{l:List Nat},AQ P m eu l->j∈l->ok (wJ j eu) λx=>og P x.1 x.2.1 m λ_ v _=>v=x.2.2
 | [],_,h=>by cases h
 |k::r,hc,h=>by
  simp only[Mc]at hc;rcases aaJ.1 h with e|h
  .rw[e];exact hc.1
  .exact De hc.2 h
theorem DS.Xh{K:List CV->Mem->Prop}{L:Nat->Prop}{bf:List Nat}{c:Bool}{R:nH}{val:Nat->CV}{eu:List (Nat×LO×List CV×CV)}{e aX:List CV}{m:Mem}(h:DS P bW ms n ic e0 K L bf c R val eu e aX m){i:Nat}(hi:i∈bf)(hL:¬L i){lo:LO}(iT:cF bW i=some lo):∀t k,L k->lo.dst=some t->dg bW t k=false:=by
 intro t k hk hd;cases hw:dg bW t k with
 |false=>rfl
 |true=>
  have:=h.A8 t i k hi (h.sub k hk) (lq.2 ⟨lo,iT,hd⟩) hw;exact absurd (this▸hk) hL
theorem DS.HW{K:List CV->Mem->Prop}{L L':Nat->Prop}{bf:List Nat}{c:Bool}{R:nH}{val:Nat->CV}{eu:List (Nat×LO×List CV×CV)}{e aX:List CV}{m:Mem}(h:DS P bW ms n ic e0 K L bf c R val eu e aX m)(CD:∀i j,nK ms i j=true->Uj ic i j){i:Nat}(hi:i∈bf)(hL:¬L i)(hr:∀k,Edge ic i k->L k)(zQ:∀k,L' k↔L k\/k=i){ops:Array Oper}{o:Oper}{lo:LO}(ho:ops[i]? =some o)(iT:cF bW i=some lo)(j7:wH P ops o=some lo){ρ:bI}{a:Act}{w:World}(hI:Inv N ρ0 m0 w0 ⟨aX,m⟩ ρ a w){K1:Act->World->Prop}{Q:Exit->Act->World->Prop}(hn:∀fP U' a' w',Inv N ρ0 m0 w0 ⟨fP,m⟩ U' a' w'->DS P bW ms n ic e0 K L' bf c R val eu e fP m->K1 a' w'):wpOp P ops Q i K1 a w:=by
 obtain⟨Fq,e1,h1,h2,h3,h4,h5⟩:=h.tS i hi hL;rw[iT]at h1;cases h1;have hag:=h5.Zu h.y6 CD h.down h.sub hL hr;have hv:=vg (lo:=lo) (K:=λv' m'=>v'=val i/\m'=m) (λt ht=>hag t (by simpa[oM,iT]using ht)) h4
 refine zN ho j7 hI hv λv m' U' a' w' hk qa=>?_
 obtain⟨rfl,rfl⟩:=hk;refine hn _ U' a' w' qa ⟨h.go,h.Xg,h.sf,h.y6.step iT (h.Xh hi hL iT) rfl (λ_ _=>rfl) zQ,λj hj=>?_,λx y JK hx=>?_,h.A8,λj hj Zy=>h.tS j hj λhl=>Zy ((zQ j).2 (.inl hl))⟩
 .rcases(zQ j).1 hj with hj|rfl
  .exact h.sub j hj
  .exact hi
 .rcases(zQ x).1 hx with hx|rfl
  .exact(zQ y).2 (.inl (h.down x y JK hx))
  .exact(zQ y).2 (.inl (hr y JK))
theorem DS.Ul{K:List CV->Mem->Prop}{L L':Nat->Prop}{bf:List Nat}{c:Bool}{i:Nat}{l:List Nat}{R:nH}{val:Nat->CV}{eu:List (Nat×LO×List CV×CV)}{e aX:List CV}{m:Mem}(h:DS P bW ms n ic e0 K L bf c (.cons i (some l) R) val eu e aX m)(CD:∀i j,nK ms i j=true->Uj ic i j)(hr:∀k,Edge ic i k->L k)(zQ:∀k,L' k↔L k\/k=i){ops:Array Oper}{o:Oper}{lo:LO}(ho:ops[i]? =some o)(iT:cF bW i=some lo)(j7:wH P ops o=some lo){ρ:bI}{a:Act}{w:World}(hI:Inv N ρ0 m0 w0 ⟨aX,m⟩ ρ a w){K1:Act->World->Prop}{Q:Exit->Act->World->Prop}(hn:∀jE sh e' fP m' U' a' w',Inv N ρ0 m0 w0 ⟨fP,m'⟩ U' a' w'->DS P bW ms n ic e0 K L' (i::bf) true R jE sh e' fP m'->K1 a' w'):wpOp P ops Q i K1 a w:=by
 have qj:=h.go;simp only[ef,aab]at qj;obtain⟨_,Dd,g7,g8⟩:=qj;obtain⟨g1,g2,g4,g5⟩:=jF Dd;have hc:=h.Xg;simp only[zu,HF]at hc;obtain⟨Fq,Xi,hc⟩:=aU.1 hc;rw[iT]at Xi;cases Xi;have hiL:¬L i:=λhl=>g2 (h.sub i hl)
 have Xj:∀k,nK ms i k=true->L k:=λk hm=>CD i k hm L h.down hr
 have wV:og P lo e m λ_ v m'=>AQ P m' eu l/\vF P bW R eu K (y5 lo.dst v e) m':=by
  rw[gR]at hc|-;rcases hc with⟨h1,h2⟩|⟨h1,h2⟩
  .exact .inl ⟨h1,zM h2 λv m' hk=>sb.1 hk⟩
  .exact .inr ⟨h1,sb.1 h2⟩
 have MR:Jd bW i=lo.dst:=by simp[Jd,iT]
 have hag:∀t,t∈lo.looks->kP e t=kP aX t:=λt ht=>by
  rw[mc,mc];rcases aaf t e0.length with aC|d8
  .by_cases hex:∃k,k∈bf/\dg bW t k=true
   .obtain⟨k,hk,hw⟩:=hex;rw[h.sf.on t k hk hw aC,h.y6.on t k (Xj k (g4 t (by simpa[oM,iT]using ht) k hk hw)) hw aC]
   .have FD:∀k,k∈bf->dg bW t k=false:=λk hk=>by
     cases hw:dg bW t k with
     |false=>rfl
     |true=>exact absurd ⟨k,hk,hw⟩ hex
    rw[h.sf.off t FD,h.y6.off t λk hk=>FD k (h.sub k hk)]
  .rw[aaE (by rw[h.sf.len];exact d8),aaE (by rw[h.y6.len];exact d8)]
 have hv:=vg hag wV;have CB:∀t k,k∈bf->lo.dst=some t->dg bW t k=false:=λt k hk hd=>(g5 t (by rw[MR];exact hd) k hk).1
 have Uk:∀t,dg bW t i=true->lo.dst=some t:=λt hw=>by obtain⟨Fq,h1,h2⟩:=lq.1 hw;rw[iT]at h1;cases h1;exact h2
 refine zN ho j7 hI hv λv m' U' a' w' hk qa=>?_
 obtain⟨aaQ,hd⟩:=hk;let jE:Nat->CV:=λk=>if k=i then v else val k
 have j8:∀k,k∈bf->jE k=val k:=λk hk=>if_neg λ(e:k=i)=>g2 (e▸hk)
 refine hn jE eu _ _ m' U' a' w' qa ⟨g8,hd,h.sf.step iT CB (by simp[jE]) j8 (by simp[or_comm]),
  h.y6.step iT (λt k hk hd=>CB t k (h.sub k hk) hd) (by simp[jE]) (λk hk=>j8 k (h.sub k hk)) zQ,λj hj=>?_,λx y JK hx=>?_,λt j k hj hk MS HV=>?_,λj hj Zy=>?_⟩
 .rcases(zQ j).1 hj with hj|rfl
  .simp[h.sub j hj]
  .simp
 .rcases(zQ x).1 hx with hx|rfl
  .exact(zQ y).2 (.inl (h.down x y JK hx))
  .exact(zQ y).2 (.inl (hr y JK))
 .rcases aaJ.1 hj with e1|y3<;>rcases aaJ.1 hk with e2|kM
  .rw[e1,e2]
  .rw[e1]at MS;rw[CB t k kM (Uk t MS)]at HV;cases HV
  .rw[e2]at HV;rw[CB t j y3 (Uk t HV)]at MS;cases MS
  .exact h.A8 t j k y3 kM MS HV
 .have hjL:¬L j:=λhl=>Zy ((zQ j).2 (.inl hl))
  have hji:j≠i:=λe=>Zy ((zQ j).2 (.inr e))
  have y3:j∈bf:=by
   rcases aaJ.1 hj with e|h
   .exact absurd e hji
   .exact h
  obtain⟨Fq,e1,h1,h2,h3,h4,h5,h6⟩:=h.tS j y3 hjL;refine⟨Fq,e1,h1,h2,by rw[j8 j y3];exact h3,?_,h5,λt ht aC=>?_⟩
  .rw[j8 j y3];have g7j:=abd.1 g7 j y3;have Um:ma bW j=true:=by simpa[ma,h1]using h2
   simp only[Um,adX,acZ,abX,List.contains_iff_mem]at g7j;rcases g7j with hm|hp|hl
   .exact absurd (Xj j hm) hjL
   .exact h4.pure (by simpa[E8,h1]using hp) m'
   .have:=De aaQ hl;rw[h3]at this;obtain⟨_,hx,VZ⟩:=aU.1 this;cases hx;obtain⟨v',hv',hq⟩:=vh h2 VZ;simp only at hv';rw[<-hv'];exact hq
  .rcases h6 t ht aC with⟨k,hk,hw,hm,he⟩|⟨f8,he⟩
   .exact .inl ⟨k,by simp[hk],hw,hm,by rw[j8 k hk];exact he⟩
   .refine .inr ⟨λk hk hw=>?_,he⟩
    rcases aaJ.1 hk with e2|kM
    .rw[e2]at hw|-;exact .inr ((g5 t (by rw[MR];exact Uk t hw) j y3).2 ht)
    .exact f8 k kM hw
theorem DS.any{K:List CV->Mem->Prop}{L L':Nat->Prop}(CD:∀i j,nK ms i j=true->Uj ic i j){i:Nat}(ir:i<n)(hL:¬L i)(hr:∀k,Edge ic i k->L k)(zQ:∀k,L' k↔L k\/k=i){ops:Array Oper}{o:Oper}{lo:LO}(ho:ops[i]? =some o)(iT:cF bW i=some lo)(j7:wH P ops o=some lo){aX:List CV}{m:Mem}{ρ:bI}{a:Act}{w:World}(hI:Inv N ρ0 m0 w0 ⟨aX,m⟩ ρ a w){K1:Act->World->Prop}{Q:Exit->Act->World->Prop}(hn:∀bf R jE sh e' fP m' U' a' w',Inv N ρ0 m0 w0 ⟨fP,m'⟩ U' a' w'->DS P bW ms n ic e0 K L' bf true R jE sh e' fP m'->K1 a' w'):
  ∀(R:nH)(bf:List Nat)(c:Bool)(val:Nat->CV)(eu:List (Nat×LO×List CV×CV))(e:List CV),(c=false->i∈R.hd)->DS P bW ms n ic e0 K L bf c R val eu e aX m->wpOp P ops Q i K1 a w:=by
 intro R
 induction R with
 |nil=>
  intro bf c val eu e hc h;cases c with
  |false=>have:=hc rfl;simp[nH.hd]at this
  |true=>
   have qj:=h.go;simp only[ef,adg,abd]at qj;have hi:i∈bf:=by simpa using qj i (by simpa using ir)
   exact h.HW CD hi hL hr zQ ho iT j7 hI λfP U' a' w'=>hn _ _ _ _ _ fP m U' a' w'
 |cons q L6 R ih=>
  intro bf c val eu e hc h;cases L6 with
  |none=>
   have hct:c=true:=by have qj:=h.go;simp only[ef,aab]at qj;exact qj.1
   subst hct;by_cases hi:i∈bf
   .exact h.HW CD hi hL hr zQ ho iT j7 hI λfP U' a' w'=>hn _ _ _ _ _ fP m U' a' w'
   .obtain⟨jE,sh,e',h'⟩:=h.ahead;exact ih _ _ _ _ _ (λh=>by cases h) h'
  |some l=>
   have qj:=h.go;simp only[ef,aab]at qj;obtain⟨MT,Dd,_⟩:=qj;obtain⟨_,g2,_⟩:=jF Dd;by_cases hi:i∈bf
   .cases c with
    |false=>
     have hq:=hc rfl;simp only[nH.hd,abY]at hq;subst hq;exact absurd hi g2
    |true=>exact h.HW CD hi hL hr zQ ho iT j7 hI λfP U' a' w'=>hn _ _ _ _ _ fP m U' a' w'
   .have y7:q=i:=by
     cases c with
     |false=>
      have hq:=hc rfl;simp only[nH.hd,abY]at hq;exact hq.symm
     |true=>
      simp only[adX,acZ]at MT;rcases zO MT ir hi with hq|⟨f,hf,hm⟩
      .simpa using Eq.symm (by simpa using hq)
      .simp only[abY]at hf;subst hf;exact absurd (h.sub _ (CD i _ hm L h.down hr)) g2
    subst y7;exact h.Ul CD hr zQ ho iT j7 hI λjE sh e' fP m' U' a' w'=>hn _ _ _ _ _ fP m' U' a' w'
 |ww x y Un MU=>
  intro bf c val eu e hc h;have qj:=h.go;simp only[ef,aab]at qj;obtain⟨MT,hgx,hgy⟩:=qj;obtain⟨_,hhx⟩:=lu hgx;obtain⟨_,hhy⟩:=lu hgy;have Uo:=h.Xg;simp only[Md]at Uo;have goX:i∈x.hd->wpOp P ops Q i K1 a w:=λhi=>Un bf false val eu e (λ_=>hi) ⟨hgx,Uo.1,h.sf,h.y6,h.sub,h.down,h.A8,h.tS⟩
  have goY:i∈y.hd->wpOp P ops Q i K1 a w:=λhi=>MU bf false val eu e (λ_=>hi) ⟨hgy,Uo.2,h.sf,h.y6,h.sub,h.down,h.A8,h.tS⟩
  cases c with
  |false=>
   have hq:=hc rfl;simp only[nH.hd,abu]at hq;exact hq.elim goX goY
  |true=>
   by_cases hi:i∈bf
   .exact h.HW CD hi hL hr zQ ho iT j7 hI λfP U' a' w'=>hn _ _ _ _ _ fP m U' a' w'
   .simp only[adX,acZ]at MT;rcases zO MT ir hi with hq|⟨f,hf,hm⟩
    .rcases abu.1 hq with hq|hq
     .exact goX hq
     .exact goY hq
    .have hfL:=h.sub _ (CD i f hm L h.down hr);rcases abu.1 hf with hf|hf
     .exact absurd hfL (hhx f hf).2
     .exact absurd hfL (hhy f hf).2
theorem zR:∀(l:List Bool)(i:Nat),l[i]? =some false->(l.set i true).count false+1=l.count false
 | [],i,h=>by simp at h
 |b::r,0,h=>by simp at h;subst h;simp
 |b::r,i+1,h=>by
  have:=zR r i (by simpa using h)
  cases b<;>simp[List.count_cons]at this|-<;>omega
theorem Qu{md:Region.Mode}{ops:Array Oper}{Q:Exit->Act->World->Prop}{K:List CV->Mem->Prop}(hQ:∀aX m ρ a w,K aX m->Inv N ρ0 m0 w0 ⟨aX,m⟩ ρ a w->Q .normal a w)(CD:∀i j,nK ms i j=true->Uj (lj md ops) i j)(aaR:∃l,zs (lj md ops) n [] l=true)(A9:∀(i:Nat)o,ops[i]? =some o->∃lo,cF bW i=some lo/\wH P ops o=some lo)(hn:n=ops.size)(kG:n=bW.length):
  ∀(fuel:Nat) (listed:Array Bool) (a:Act) (w:World) (ρ:bI) (m:Mem) (aX:List CV) (bf:List Nat) (R:nH) (val:Nat->CV)
   (eu:List (Nat×LO×List CV×CV)) (e:List CV),listed.size=n->listed.toList.count false=fuel->Inv N ρ0 m0 w0 ⟨aX,m⟩ ρ a w->
   DS P bW ms n (lj md ops) e0 K (λi=>listed[i]? =some true) bf true R val eu e aX m->wpAny P md ops Q fuel listed a w:=by
 have MW:∀(listed:Array Bool)i,i∈Region.ready md ops listed->listed[i]? =some false/\i<ops.size/\∀k,Edge (lj md ops) i k->listed[k]? =some true:=by
  intro listed i hi;obtain⟨h0,o,ho,f8⟩:=mem_ready.1 hi;refine⟨?_,(aaC.1 ho).1,λk hk=>?_⟩
  .rw[abE]at h0;cases hg:listed[i]? with
   |none=>rw[hg]at h0;simp at h0
   |some b=>rw[hg]at h0;simp at h0;rw[h0]
  .obtain⟨l,hl,gA⟩:=hk;simp only[lj,Tm,abq,ho,aaD,aav]at hl;subst hl;obtain⟨ed,Xk,rfl⟩:=aal.1 gA;obtain⟨aaS,aaT⟩:=aca.1 Xk;have:=f8 ed (by simpa using aaS) aaT
   rw[abE]at this;cases hg:listed[ed.on]? with
   |none=>rw[hg]at this;simp at this
   |some b=>rw[hg]at this;simp at this;rw[this]
 have Up:∀(i:Nat)o ed,ops[i]? =some o->ed∈o.after->Region.binds md ed=true->Edge (lj md ops) i ed.on:=by
  intro i o ed ho Xk hb;refine⟨(o.after.toList.filter (Region.binds md)).map (·.on),?_,?_⟩
  .simp[lj,Tm,ho]
  .exact aal.2 ⟨ed,aca.2 ⟨by simpa using Xk,hb⟩,rfl⟩
 intro fuel
 induction fuel with
 |zero=>
  intro listed a w ρ m aX bf R val eu e dk Xl hI h;have f8:∀i,i<n->listed[i]? =some true:=by
   intro i hi;have aC:i<listed.size:=om;rw[abI aC];have kF:=List.count_eq_zero.1 Xl;cases hb:listed[i]with
   |true=>rfl
   |false=>exact absurd (by rw[<-hb];exact Array.getElem_mem_toList aC) kF
  constructor
  .rw[List.eq_nil_iff_forall_not_mem];intro i hi;obtain⟨h1,h2,_⟩:=MW listed i hi;rw[f8 i om]at h1;cases h1
  .have hR:R= .nil:=by
    cases R with
    |nil=>rfl
    |cons q L6 R=>
     have qj:=h.go;cases L6 with
     |none=>
      simp only[ef,aab]at qj;obtain⟨g1,g2,_⟩:=jF qj.2.1;exact absurd (h.sub q (f8 q g1)) g2
     |some l=>
      simp only[ef,aab]at qj;obtain⟨g1,g2,_⟩:=jF qj.2.1;exact absurd (h.sub q (f8 q g1)) g2
    |ww x y=>
     have qj:=h.go;simp only[ef,aab]at qj;obtain⟨⟨f,hf⟩,hx⟩:=lu qj.2.1;obtain⟨g1,g2⟩:=hx f hf;exact absurd (h.sub f (f8 f g1)) g2
   subst hR;have hbf:∀i,i∈bf->i<n\/n<=i:=λi _=>aaf i n
   have hnw:∀i t,n<=i->dg bW t i=false:=by
    intro i t hi;cases hw:dg bW t i with
    |false=>rfl
    |true=>
     obtain⟨lo,iT,_⟩:=lq.1 hw;rw[aT]at iT;have:=(Km.1 iT).1;omega
   have he:e=aX:=by
    have e1:mq bW e0 (λi=>i∈bf/\i<n) val e:=⟨h.sf.len,λt k hk=>h.sf.on t k hk.1,λt Xm=>h.sf.off t λk hk=>by
     rcases hbf k hk with aC|d8
     .exact Xm k ⟨hk,aC⟩
     .exact hnw k t d8⟩
    have e2:mq bW e0 (λi=>i∈bf/\i<n) val aX:=h.y6.Xf (λ_ _=>rfl) λk=>⟨λhk=>f8 k hk.2,λhk=>⟨h.sub k hk,by have:=(aaC.1 hk).1;omega⟩⟩
    exact e1.ext e2
   subst he;exact hQ _ _ ρ a w h.Xg hI
 |succ fuel ih=>
  intro listed a w ρ m aX bf R val eu e dk Xl hI h;constructor
  .intro T3;exfalso;have hex:∃i:Nat,listed[i]? =some false:=by
    have:false∈listed.toList:=by apply List.count_pos_iff.1;omega
    obtain⟨i,hi⟩:=aaa this;exact⟨i,by simpa using hi⟩
   obtain⟨i,hi⟩:=hex;obtain⟨l,hl⟩:=aaR;have ir:i<n:=by have:=(aaC.1 hi).1;omega
   have:=xg (L:=λi=>listed[i]? =some true) (λi hi Qv=>?_) l [] hl (λ_ h=>by cases h) i ir
   .rw[hi]at this;cases this
   .refine Yk λXn=>?_
    have aC:i<ops.size:=om;have Df:i<listed.size:=om;have hf:listed[i]? =some false:=by
     rw[abI Df]at Qv|-;cases fI:listed[i]with
     |true=>rw[fI]at Qv;exact absurd rfl Qv
     |false=>rfl
    have hm:i∈Region.ready md ops listed:=by
     rw[mem_ready];refine⟨by rw[abE,hf];rfl,ops[i],abI aC,λed Xk hb=>?_⟩
     have hE:=Up i _ ed (abI aC) Xk hb;have hL:listed[ed.on]? =some true:=Yk λhc=>Xn ⟨_,hE,hc⟩
     rw[abE,hL];rfl
    rw[T3]at hm;cases hm
  .intro i hi;obtain⟨h1,h2,h3⟩:=MW listed i hi;obtain⟨lo,iT,j7⟩:=A9 i _ (abI h2);have aC:i<listed.size:=om;refine DS.any (L:=λi=>listed[i]? =some true) (L':=λk=>(listed.setIfInBounds i true)[k]? =some true) CD om (by rw[h1];simp) h3 (λk=>?_) (abI h2) iT j7 hI
    (λbf R jE sh e' fP m' U' a' w' qa h'=>ih _ a' w' U' m' fP bf R jE sh e' (by simp[dk]) ?_ qa h') R bf true val eu e (λh=>by cases h) h
   .by_cases hk:i=k
    .subst hk;rw[ab2 aC];simp
    .rw[acm hk];constructor
     .exact .inl
     .rintro(h|h)
      .exact h
      .exact absurd h.symm hk
   .have:=zR listed.toList i (by simpa using h1)
    rw[Array.toList_setIfInBounds];omega
theorem FE{md:Region.Mode}{ops:Array Oper}{Q:Exit->Act->World->Prop}{K:List CV->Mem->Prop}(hQ:∀aX m ρ a w,K aX m->Inv N ρ0 m0 w0 ⟨aX,m⟩ ρ a w->Q .normal a w){bW:List LO}(j7:mX P ops ops.toList=some bW){sched:nH}(fC:rR bW (lj md ops) sched=true){st:St}(h:vF P bW sched [] K st.aX st.mem){ρ:bI}{a:Act}{w:World}(hI:Inv N ρ0 m0 w0 st ρ a w):wpAny P md ops Q ops.size (Array.replicate ops.size false) a w:=by
 obtain⟨hlen,A9⟩:=zP j7;simp only[rR,aab]at fC;have CD:∀i j,nK (bt bW.length (lj md ops)) i j=true->Uj (lj md ops) i j:=JJ;have kF:∀i:Nat,¬(Array.replicate ops.size false)[i]? =some true:=by
  intro i hi;rw[Array.getElem?_replicate]at hi;split at hi<;>simp at hi
 refine Qu (n:=bW.length) (e0:=st.aX) hQ CD ⟨_,fC.1⟩ (λi o ho=>A9 i o (by simpa using ho)) (by simpa using hlen.symm) rfl ops.size _ a w ρ st.mem st.aX [] sched (λ_=>.undef) [] st.aX
  (by simpa using hlen) aE hI ?_
 exact⟨fC.2,h,⟨rfl,λt k hk=>(ac7 hk).elim,λ_ _=>rfl⟩,⟨rfl,λt k hk=>absurd hk (kF k),λ_ _=>rfl⟩,λi hi=>absurd hi (kF i),λi j _ hi=>absurd hi (kF i),λt j k hj=>(ac7 hj).elim,λj hj=>(ac7 hj).elim⟩
theorem Dg{bW:List LO}{K:Ex->St->Prop}{s:St}:∀{l:List nH},Qb P bW K s l->∀x,x∈l->vF P bW x [] (Jf K) s.aX s.mem
 | [],_,x,hx=>by cases hx
 | [y],h,x,hx=>by obtain rfl:=abY.1 hx;exact h
 |y::z::r,h,x,hx=>by
  rcases aaJ.1 hx with rfl|hx
  .exact h.1
  .exact Dg h.2 x hx
theorem Ba{ops:Array Oper}{Q:Exit->Act->World->Prop}{K:Ex->St->Prop}(hQ:∀aX m ρ a w,K .normal ⟨aX,m⟩->Inv N ρ0 m0 w0 ⟨aX,m⟩ ρ a w->Q .normal a w){bW:List LO}(j7:mX P ops ops.toList=some bW){qS:List nH}(fC:wI P bW ops=some qS){st:St}(h:Qb P bW K st qS){ρ:bI}{a:Act}{w:World}(hI:Inv N ρ0 m0 w0 st ρ a w)(t:Nat):wpOps P ops Q (Region.schedule (P.follows .mixedOrders) ops t) a {w with drawn:=w.drawn+1}:=by
 have f8:∀md,md∈wg P ops->∃s,s∈qS/\rR bW (lj md ops) s=true:=by
  simp only[wI]at fC;split at fC
  .rename_i hc;cases fC;exact λmd V2=>⟨_,aE,abd.1 hc md V2⟩
  .split at fC
   .rename_i hc;cases fC;exact λmd V2=>by have:=abd.1 hc md V2;obtain⟨s,hs,ES⟩:=abc.1 this;exact⟨s,hs,ES⟩
   .cases fC
 have lZ:∀md,md∈wg P ops->wpAny P md ops Q ops.size (Array.replicate ops.size false) a {w with drawn:=w.drawn+1}:=λmd V2=>by obtain⟨s,hs,ES⟩:=f8 md V2;exact FE (K:=Jf K) hQ j7 ES (Dg h s hs) hI.drew
 unfold Region.schedule;unfold wg at lZ;split
 .rename_i hc;rw[if_pos hc]at lZ;exact wpAny_sound ops.size t _ a _ (lZ .any aE)
 .rename_i hc;rw[if_neg hc]at lZ;split
  .exact wpAny_sound ops.size (t/2) _ a _ (lZ .text aE)
  .exact wpAny_sound ops.size (t/2) _ a _ (lZ .gc aE)
end
section
variable {P:Program}
def FR(r:Option Nat):Fence:={Fence.wide with round:=r}
theorem Qw:FR none=Fence.wide:=rfl
theorem HX(l:Nat):FR (some l)=Fence.wide.inRound l:=rfl
theorem Qx{o:Oper}{i:I}(h:tF P o=some i):∀c,o.op≠.defer c:=by
 intro c e;unfold tF at h;have h0:wG P o=none:=by unfold wG;rw[e]
 rw[h0,e]at h;cases h
theorem xh{ops:Array Oper}:∀{l:List Oper}{bW:List LO},mX P ops l=some bW->∀o,o∈l->∀c,o.op≠.defer c
 | [],bW,h,o,ho=>by cases ho
 |o1::r,bW,h,o,ho=>by
  obtain⟨lo,lr,rfl,h1,h2⟩:=tQ h o1 r rfl;cases ho with
  |head=>
   simp only[wH,U6,N7]at h1;obtain⟨i,hi,_⟩:=h1;exact Qx hi
  |tail _ ho=>exact xh h2 o ho
theorem iY{r:Option Nat}{ops:Array Oper}{Q:Exit->Act->World->Prop}(lX:∀o,o∈ops.toList->∀c,o.op≠.defer c)(hQ:¬LetsOut Q):
  ∀(l:List Nat)(a:Act)(w:World),wpOps P ops Q l a w->wpOpsIn (FR r) 0 P ops Q l a w
 | [],a,w,h=>h
 |i::rest,a,w,h=>by
  simp only[wpOps]at h;simp only[wpOpsIn];cases ho:ops[i]? with
  |none=>rw[ho]at h;exact iY lX hQ rest a w h
  |some o=>
   rw[ho]at h;simp only at h|-;have iu:o∈ops.toList:=by have:=aaC.1 ho;obtain⟨h1,h2⟩:=this;rw[<-h2];exact adK.2 (Array.getElem_mem h1)
   split
   .rename_i hw;rw[if_pos hw]at h;rcases h with h|⟨_,h⟩
    .refine⟨λ_ _=>trivial,?_⟩
     have e:o.semAt (FR r).round a.eval=execOp a.eval o:=Oper.semAt_eq _ _ _ (lX o iu);rw[e];unfold Oper.wp at h;have up:∀{l8:Result Next},o.upon P a (wpOps P ops Q rest) Q l8->o.uponIn (FR r) 0 P a (wpOpsIn (FR r) 0 P ops Q rest) Q l8:=by
      intro l8 h;unfold Oper.upon at h;split at h
      .exact iY lX hQ rest _ _ h
      .exact iY lX hQ rest _ _ h
      .exact iY lX hQ rest _ _ h
      .refine⟨by simp[FR,Fence.wide],?_⟩
       have h2:=(callsIn_wide (n:=0-1)).2 h;have h3:CallsIn (FR r) (0-1) P _ _ _ _:=h2;refine h3.mono λe w' hR=>?_
       cases e with
       |returned v=>exact iY lX hQ rest _ _ hR
       |panicked c=>exact hR
       |outgrown=>exact hR
      .refine⟨by simp[FR,Fence.wide],?_⟩
       intro c cs _;obtain⟨v,w',hR,hs⟩:=h c cs;exact⟨v,w',iY lX hQ rest _ _ hR,(stepsIn_wide.2 hs:StepsIn (Machine.fenced P Fence.wide) P _ _)⟩
      .exact h
      .exact h.elim
     exact up h
    .exact absurd h hQ
   .rename_i hw;rw[if_neg hw]at h;exact⟨λ_ _=>trivial,iY lX hQ rest _ _ h⟩
theorem vM{F:Fence}{n:Nat}{γ:Type}{c:Code}{Q:Exit->Act->World->Prop}{a:Act}{w:World}(I:γ->Act->World->Prop)(μ:γ->Nat)(g0:γ)(h₀:I g0 a w)(round:∀g a w,I g a w->c.wpIn F n P (Exit.then (λa' w'=>∃g',I g' a' w'/\μ g'<μ g) Q) a w):(Code.loop c).wpIn F n P Q a w:=by
 intro b k cs hro hb hr;have key:∀j g a w,μ g=j->I g a w->
   ∃e a' w',Q e a' w'/\ArrivesIn (Machine.fenced P F) P (lone (b.atR a (.code c:: .inLoop c::k)) cs w) b k cs e a' w':=by
  intro j
  induction j using Nat.strongRecOn with
  |_ j ih=>
   intro g a w hn hI;obtain⟨e,a₁,w₁,hq,Dh⟩:=round g a w hI b (.inLoop c::k) cs hro hb hr;cases e with
   |normal=>
    obtain⟨g₁,Xo,aC⟩:=hq;obtain⟨e₂,a₂,w₂,Xp,Qy⟩:=ih (μ g₁) (hn▸aC) g₁ a₁ w₁ rfl Xo;exact⟨e₂,a₂,w₂,Xp,.of_steps (StepsIn.trans Dh (.one (fenced_calm hb hr rfl) stepR_inLoop)) Qy⟩
   |exit id=>exact⟨_,a₁,w₁,hq,.pass (x:= .inLoop c) rfl (λ_ _=>.inl aE) Dh⟩
   |goto l=>exact⟨_,a₁,w₁,hq,.pass (x:= .inLoop c) rfl (λ_ _=>.inl aE) Dh⟩
   |ret=>exact⟨_,a₁,w₁,hq,.pass (x:= .inLoop c) rfl (λ_ _=>.inl aE) Dh⟩
   |panic ch=>exact⟨_,a₁,w₁,hq,.pass (x:= .inLoop c) rfl (λ_ _=>.inl aE) Dh⟩
   |outgrown=>exact⟨_,a₁,w₁,hq,.pass (x:= .inLoop c) rfl (λ_ _=>.inl aE) Dh⟩
 obtain⟨e,a',w',hq,Dh⟩:=key _ g0 a w rfl h₀;exact⟨e,a',w',hq,.of_steps (.one (fenced_calm hb hr rfl) stepR_loop) Dh⟩
structure vN(ρ:bI)(m:Mem)(w w':World):Prop where
 size:w.heap.size<=w'.heap.size
 S:∀b,ρ.S b->w'.heap[b]? =w.heap[b]?
 aL:∀k,Live ρ m k->w'.heap[(ρ.aI k).b]? =w.heap[(ρ.aI k).b]?
theorem vN.cm{ρ:bI}{m:Mem}{w w':World}(h:vN ρ m w w'):iL ρ w ρ w':=⟨Ym _,λ_ _=>rfl,λ_ h=>h,h.S⟩
theorem ay.vQ{ρ:bI}{m:Mem}{w w':World}(hM:ay ρ m w)(h:vN ρ m w w'):ay ρ m w':=by
 have g:=h.cm;refine⟨hM.n,λb hb=>aaI (hM.S b hb) h.size,λk hk=>⟨aaI (hM.aL k hk).1 h.size,(hM.aL k hk).2⟩,hM.inj,λid b hb=>?_,λid i j esz el ho be=>?_⟩
 .have h1:=hM.bk id b hb;cases b with
  |aS=>trivial
  |var cs=>
   obtain⟨cur,bX,h2⟩:=h1;exact⟨cur,bX.dC (h.aL (.aj id) ⟨_,hb,aE,aE⟩),λj c hj=>let⟨u,hu,hd⟩:=h2 j c hj;⟨u,hu,bj.cm g aE hd⟩⟩
  |row esz elems=>
   obtain⟨h2,h3,h4,h5,h6⟩:=h1;refine⟨h2,h3,h4,h5,λhp=>?_⟩
   obtain⟨cur,bX,h7,h8⟩:=h6 hp;exact⟨cur,bX.dC (h.aL (.aj id) ⟨_,hb,aE,λ_=>hp⟩),h7,λi cs j c hi hj=>let⟨u,hu,hd⟩:=h8 i cs j c hi hj;⟨u,hu,bj.cm g (by intro kK i' j' e';cases e';rw[hM.n];exact(Km.1 hb).1) hd⟩⟩
  |mp es=>
   obtain⟨bq,ck,h2,h3,h4⟩:=h1;exact⟨bq,ck,⟨(h.aL (.aj id) ⟨_,hb,aE,aE⟩).trans h2.1,h2.2⟩,h3,λi e he=>let⟨e',mT,hk,hd⟩:=h4 i e he;⟨e',mT,hk,df.cm g hd⟩⟩
  |it cur left=>
   obtain⟨mb,seen,ck,bq,h2,h3,h4,h5,h6⟩:=h1;exact⟨mb,seen,ck,bq,(h.aL (.aj id) ⟨_,hb,aE,aE⟩).trans h2,h3,h4,(h.S mb h4).trans h5,h6⟩
  |mo esz es so=>exact cJ.cm (bk:= .mo esz es so) g (by rw[hM.n];exact(Km.1 hb).1) (λ_ _=>h.aL (.aj id) ⟨_,hb,aE,aE⟩) h1
  |iw mid ip seen=>exact cJ.cm (bk:= .iw mid ip seen) g (by rw[hM.n];exact(Km.1 hb).1) (λ_ _=>h.aL (.aj id) ⟨_,hb,aE,aE⟩) h1
 .obtain⟨cur,bX,h2,h3,h4⟩:=hM.ei id i j esz el ho be;exact⟨cur,bX.dC (h.aL (.sub id i j) ⟨⟨_,_,ho⟩,be⟩),h2,h3,λi cs j d hi hj=>let⟨u,hu,hd⟩:=h4 i cs j d hi hj;⟨u,hu,de.mono g.S g.heap hd⟩⟩
theorem bl.cm{ρ U':bI}{w w':World}{aX:List CV}{tmps:Array Value}(g:iL ρ w U' w')(hE:bl ρ w aX tmps):bl U' w' aX tmps:=
 ⟨hE.size,λi c hi=>let⟨v,hv,hd⟩:=hE.jS i c hi;⟨v,hv,ce.cm g hd⟩⟩
theorem FA.vQ{N:Nat}{ρ:bI}{m:Mem}{w w':World}{ds:List Deferred}(h:vN ρ m w w')(hd:FA N ρ w ds):FA N ρ w' ds:=by obtain⟨Ds,h1,h2,h3⟩:=hd;exact⟨Ds,h1,h2,λD hD=>⟨(h3 D hD).1,(h3 D hD).2.1,(h.S D (h3 D hD).2.1).trans (h3 D hD).2.2⟩⟩
variable {N:Nat} {ρ0:bI} {m0:Mem} {w0:World}
theorem Inv.vQ{st:St}{ρ:bI}{a:Act}{w w':World}(hI:Inv N ρ0 m0 w0 st ρ a w)(h:vN ρ st.mem w w')(hb:∀b,b<w0.heap.size->w'.heap[b]? =w.heap[b]?)(ho:w'.os=w.os)(ht:w'.tape=w.tape)(hu:w'.output=w.output):Inv N ρ0 m0 w0 st ρ a w':=
 ⟨⟨hI.ext.n,hI.ext.aI,hI.ext.S,hI.ext.S',hI.ext.aL,λb tM hk=>(hb b tM).trans (hI.ext.frame b tM hk),abD hI.ext.size h.size,ho.trans hI.ext.os,ht.trans hI.ext.tape,hu.trans hI.ext.output⟩,
  hI.mem.vQ h,hI.aX.cm h.cm,hI.defers.vQ h,hI.hN,hI.n0⟩
def rb(ρ:bI)(m:Mem)(b:Nat):Prop:= ¬ρ.S b/\∀k,Live ρ m k->(ρ.aI k).b≠b
theorem rb.ext{ρ U':bI}{m m':Mem}{w w':World}{b:Nat}(h:rb ρ m b)(x:Ext ρ m w U' m' w')(hb:b<w.heap.size):rb U' m' b:=by
 refine⟨λhs=>?_,λk hk e=>?_⟩
 .rcases x.S' b hs with h1|h1|⟨k,hk,e⟩
  .exact h.1 h1
  .omega
  .exact h.2 k hk e
 .rcases x.aL k hk with h1|⟨k0,h0,e0⟩
  .omega
  .exact h.2 k0 h0 (e0.trans e)
theorem rb.chg{n0:Nat}{ρ U':bI}{m m':Mem}{b:Nat}(h:rb ρ m b)(x:TW n0 ρ m U' m'):rb U' m' b:=by
 refine⟨λhs=>?_,λk hk e=>?_⟩
 .rcases x.S' b hs with h1|⟨k,hk,e⟩
  .exact h.1 h1
  .exact h.2 k hk e
 .obtain⟨k0,h0,e0⟩:=x.aL k hk;exact h.2 k0 h0 (e0.trans e)
theorem vN.put{ρ:bI}{m:Mem}{w:World}{l:Nat}(h:rb ρ m l)(o:Obj):vN ρ m w (w.putObj l o):=
 ⟨aE,λb hb=>World.putObj_heap_other (by rintro rfl;exact h.1 hb),λk hk=>World.putObj_heap_other (h.2 k hk)⟩
theorem Inv.put{st:St}{ρ:bI}{a:Act}{w:World}{l:Nat}(hI:Inv N ρ0 m0 w0 st ρ a w)(h:rb ρ st.mem l)(hl:w0.heap.size<=l)(o:Obj):Inv N ρ0 m0 w0 st ρ a (w.putObj l o):=
 hI.vQ (vN.put h o) (λb hb=>World.putObj_heap_other om) rfl rfl rfl
theorem Inv.view{st jD:St}{ρ:bI}{a:Act}{w:World}(hI:Inv N ρ0 m0 w0 st ρ a w)(ml:ρ0.n=m0.length)(hw:View m0.length st jD):
  ∃U',Inv N ρ0 m0 w0 jD U' a w/\∀b,rb ρ st.mem b->rb U' jD.mem b:=by
 obtain⟨U',hM,hc,hd⟩:=hw.go ρ w hI.mem;refine⟨U',⟨⟨by rw[ml,hM.n];exact hw.hn,λid hid=>(hc.aI id (by rw[<-ml];exact hid)).trans (hI.ext.aI id hid),λb hb=>hc.S b (hI.ext.S b hb),λb hb=>?_,λk hk=>?_,hI.ext.frame,hI.ext.size,hI.ext.os,hI.ext.tape,hI.ext.output⟩,hM,?_,hI.defers.s hc.S,hI.hN,hw.hn⟩,λb h=>h.chg hc⟩
 .rcases hc.S' b hb with h|⟨k,hk,rfl⟩
  .exact hI.ext.S' b h
  .exact .inr (hI.ext.aL k hk)
 .obtain⟨k0,h0,e0⟩:=hc.aL k hk;rw[<-e0];exact hI.ext.aL k0 h0
 .refine⟨hI.aX.size.trans hw.len.symm,λi c hi=>?_⟩
  obtain⟨c0,we,MN⟩:=hd i c hi;obtain⟨v,hv,p7⟩:=hI.aX.jS i c0 we;exact⟨v,hv,MN v p7⟩
theorem tT:∀(m:Mem)(kJ:List Nat),(qv m kJ).length=m.length
 |m,[]=>rfl
 |m,id::r=>by rw[qv,tT,aY,aaF]
theorem nb:∀(m:Mem)(kJ:List Nat)(i:Nat)(bk:Bk),(qv m kJ)[i]? =some bk->bk= .aS\/(m[i]? =some bk/\i∉kJ)
 |m,[],i,bk,h=>.inr ⟨h,aE⟩
 |m,id::r,i,bk,h=>by
  rcases nb _ r i bk h with h|⟨h,hn⟩
  .exact .inl h
  .rw[aY]at h;by_cases hi:id=i
   .subst hi;have aC:id<m.length:=by have:=(Km.1 h).1;simpa using this
    rw[TH aC]at h;exact .inl (by cases h;rfl)
   .rw[U7 hi]at h;exact .inr ⟨h,by simp;exact⟨λe=>hi e.symm,hn⟩⟩
theorem vl:∀{m:Mem}{kJ:List Nat}{cs:List Value},AR m kJ cs->kJ.length=cs.length/\∀(i:Nat)id v,kJ[i]? =some id->cs[i]? =some v->m[id]? =some (.var [.ah (.val v)])/\cw v=true
 |m,[],[],_=>⟨rfl,aE⟩
 |m,id::r,v::vs,h=>by
  obtain⟨h1,h2⟩:=h;obtain⟨e,g⟩:=vl h2;refine⟨by simp[e],λi kK v' hi hv=>?_⟩
  cases i with
  |zero=>simp at hi hv;subst hi hv;rw[<-aT];exact h1
  |succ i=>exact g i kK v' (by simpa using hi) (by simpa using hv)
end
section
variable {P:Program} {N:Nat} {ρ0:bI} {m0:Mem} {w0:World}
structure V3(ρ:bI)(m:Mem)(w w':World):Prop where
 size:w.heap.size<=w'.heap.size
 S:∀b off,ρ.S b->w'.cell? ⟨b,off,none⟩=w.cell? ⟨b,off,none⟩
 aL:∀k,Live ρ m k->w'.heap[(ρ.aI k).b]? =w.heap[(ρ.aI k).b]?
 maps:∀b es ck,ρ.S b->w.heap[b]? =some (.map es ck)->w'.heap[b]? =some (.map es ck)
theorem de.Bb{S:Nat->Prop}{w w':World}(hw:∀b off,S b->w'.cell? ⟨b,off,none⟩=w.cell? ⟨b,off,none⟩){d:Dt}{v:Value}(h:de S w d v):de S w' d v:=by
 induction h with
 |val v h=>exact .val v h
 |no a=>exact .no a
 |nil esz a cap hc=>exact .nil esz a cap hc
 |sl esz elems b off cap u hb hl be dk hc hd ih=>
  exact .sl esz elems b off cap u hb hl be dk (λi cs j d hi hj=>(hw b _ hb).trans (hc i cs j d hi hj)) ih
theorem bj.Bb{ρ:bI}{m:Mem}{w w':World}(x:V3 ρ m w w'){pos:Option (Nat×Nat×Nat)}{c:CC}{v:Value}(h:bj ρ w pos c v):bj ρ w' pos c v:=by
 cases c<;>simp only[bj]at h|-
 case ah=>exact h.Bb x.S
 case rL cs=>
  obtain⟨b,off,hv,hb,hc⟩:=h;exact⟨b,off,hv,hb,λj d hj=>let⟨u,hu,hd⟩:=hc j d hj;⟨u,(x.S b _ hb).trans hu,hd.Bb x.S⟩⟩
 all_goals exact h
theorem df.Bb{ρ:bI}{m:Mem}{w w':World}(x:V3 ρ m w w'){r:RV}{v:Value}(h:df ρ w r v):df ρ w' r v:=by
 cases r with
 |one c=>exact bj.Bb x h
 |agg cs=>
  obtain⟨vs,hv,hl,hc⟩:=h;exact⟨vs,hv,hl,λi c hi=>let⟨u,hu,hd⟩:=hc i c hi;⟨u,hu,hd.Bb x⟩⟩
theorem ce.Bb{ρ:bI}{m:Mem}{w w':World}(x:V3 ρ m w w'){r:CV}{v:Value}(h:ce ρ w r v):ce ρ w' r v:=by
 cases r with
 |aA=>trivial
 |undef=>exact h
 |rv r=>exact df.Bb x h
 |bD rs=>
  obtain⟨vs,hv,hl,hc⟩:=h;exact⟨vs,hv,hl,λi c hi=>let⟨u,hu,hd⟩:=hc i c hi;⟨u,hu,hd.Bb x⟩⟩
theorem ay.Bb{ρ:bI}{m:Mem}{w w':World}(hM:ay ρ m w)(h:V3 ρ m w w'):ay ρ m w':=by
 refine⟨hM.n,λb hb=>aaI (hM.S b hb) h.size,λk hk=>⟨aaI (hM.aL k hk).1 h.size,(hM.aL k hk).2⟩,hM.inj,λid b hb=>?_,λid i j esz el ho be=>?_⟩
 .have h1:=hM.bk id b hb;cases b with
  |aS=>trivial
  |var cs=>
   obtain⟨cur,bX,h2⟩:=h1;exact⟨cur,bX.dC (h.aL (.aj id) ⟨_,hb,aE,aE⟩),λj c hj=>let⟨u,hu,hd⟩:=h2 j c hj;⟨u,hu,hd.Bb h⟩⟩
  |row esz elems=>
   obtain⟨h2,h3,h4,h5,h6⟩:=h1;refine⟨h2,h3,h4,h5,λhp=>?_⟩
   obtain⟨cur,bX,h7,h8⟩:=h6 hp;exact⟨cur,bX.dC (h.aL (.aj id) ⟨_,hb,aE,λ_=>hp⟩),h7,λi cs j c hi hj=>let⟨u,hu,hd⟩:=h8 i cs j c hi hj;⟨u,hu,hd.Bb h⟩⟩
  |mp es=>
   obtain⟨bq,ck,h2,h3,h4⟩:=h1;exact⟨bq,ck,⟨(h.aL (.aj id) ⟨_,hb,aE,aE⟩).trans h2.1,h2.2⟩,h3,λi e he=>let⟨e',mT,hk,hd⟩:=h4 i e he;⟨e',mT,hk,hd.Bb h⟩⟩
  |it cur left=>
   obtain⟨mb,seen,ck,bq,h2,h3,h4,h5,h6⟩:=h1;exact⟨mb,seen,ck,bq,(h.aL (.aj id) ⟨_,hb,aE,aE⟩).trans h2,h3,h4,h.maps mb bq ck h4 h5,h6⟩
  |mo esz es so=>
   obtain⟨bq,ck,h2,⟨h3,h4⟩,h5⟩:=h1;exact⟨bq,ck,⟨(h.aL (.aj id) ⟨_,hb,aE,aE⟩).trans h2.1,h2.2⟩,⟨h3,λi e he=>let⟨e',mT,hk,hp,hd⟩:=h4 i e he;⟨e',mT,hk,hp,hd.Bb h⟩⟩,h5⟩
  |iw mid ip seen=>
   obtain⟨h2,h3,s,h4,h5⟩:=h1;exact⟨h2,h3,s,(h.aL (.aj id) ⟨_,hb,aE,aE⟩).trans h4,h5⟩
 .obtain⟨cur,bX,h2,h3,h4⟩:=hM.ei id i j esz el ho be;exact⟨cur,bX.dC (h.aL (.sub id i j) ⟨⟨_,_,ho⟩,be⟩),h2,h3,λi cs j d hi hj=>let⟨u,hu,hd⟩:=h4 i cs j d hi hj;⟨u,hu,hd.Bb h.S⟩⟩
theorem bl.Bb{ρ:bI}{m:Mem}{w w':World}(x:V3 ρ m w w'){aX:List CV}{tmps:Array Value}(hE:bl ρ w aX tmps):bl ρ w' aX tmps:=
 ⟨hE.size,λi c hi=>let⟨v,hv,hd⟩:=hE.jS i c hi;⟨v,hv,hd.Bb x⟩⟩
theorem si{fn:Func}{tmps:Array Value}{R:Ending->World->Prop}{ρ:bI}{m:Mem}{aX:List CV}(hN:N=w0.heap.size):∀(Ds:List Nat)(w:World),Ds.Nodup->
  (∀D,D∈Ds->N<=D/\ρ.S D/\w.heap[D]? =some (.deferred (some [])))->ay ρ m w->bl ρ w aX tmps->Ext ρ0 m0 w0 ρ m w->
  (∀w',ay ρ m w'->bl ρ w' aX tmps->Ext ρ0 m0 w0 ρ m w'->∃v,(results fn tmps).run P w'= .ok v w'/\R (.returned v) w')->
  LeavesInM Fence.wide 0 P fn tmps R (Ds.map λD=>{target:= .collected D,args:= #[]}) .returning w
 | [],w,_,_,hM,hE,hx,h=>by obtain⟨v,h1,h2⟩:=h w hM hE hx;exact⟨v,h1,h2⟩
 |D::Ds,w,hn,hD,hM,hE,hx,h=>by
  obtain⟨q8,Qz⟩:=abH.1 hn;obtain⟨d1,d2,d3⟩:=hD D aE;have aC:=(aaC.1 d3).1;have hc:V3 ρ m w (w.putObj D (.deferred none)):=by
   refine⟨aE,λb off hS=>?_,λk hk=>World.putObj_heap_other λe=>(hM.aL k hk).2 (e▸d2),λb es ck hS Xq=>by
    have hb:b≠D:=λe=>by subst e;rw[d3]at Xq;cases Xq
    rw[World.putObj_heap_other hb];exact Xq⟩
   by_cases hb:b=D
   .subst hb;simp only[World.cell?,d3,World.putObj_heap_same aC]
   .simp only[World.cell?,World.putObj_heap_other hb]
  refine⟨aE,.inl ⟨D,_,rfl,run_takeDeferred d3,?_⟩⟩;refine si hN Ds _ Qz (λD' WM=>?_) (hM.Bb hc) (hE.Bb hc) ?_ h
  .obtain⟨e1,e2,e3⟩:=hD D' (by simp[WM])
   exact⟨e1,e2,(World.putObj_heap_other (by rintro rfl;exact q8 WM)).trans e3⟩
  .exact⟨hx.n,hx.aI,hx.S,hx.S',hx.aL,λb hb hk=>(World.putObj_heap_other om).trans (hx.frame b hb hk),by simpa using hx.size,hx.os,hx.tape,hx.output⟩
end
section
variable {P:Program} {N:Nat} {ρ0:bI} {m0:Mem} {w0:World}
theorem HY{K:Ex->St->Prop}:¬LetsOut (A5 N ρ0 m0 w0 K):=by rintro⟨a,w,ex,st,ρ,he,_⟩;simp[Da]at he
theorem HZ:∀lc:LC,lc.er.rO=lc.rO:=by
 intro lc
 induction lc<;>simp_all[LC.er,LC.rO]
theorem Di{l:Nat}{n0:Nat}{st:St}{ρ:bI}{act:Act}{W:World}{fn:FuncId}{rec0:Loop}{p:Nat}{la lb:LC}{ca cb:Code}{y:ByteArray}{K:Ex->St->Prop}(TT:∀(ρ0:bI)(m0:Mem)(w0:World)(K:Ex->St->Prop)(st:St)(ρ:bI)(a:Act)(w:World),ρ0.n=m0.length->aw P m0.length la K st->Inv 0 ρ0 m0 w0 st ρ a w->ca.wpIn (FR (some l)) 0 P (A5 0 ρ0 m0 w0 K) a w)(TU:∀(ρ0:bI)(m0:Mem)(w0:World)(K:Ex->St->Prop)(st:St)(ρ:bI)(a:Act)(w:World),ρ0.n=m0.length->aw P m0.length lb K st->Inv 0 ρ0 m0 w0 st ρ a w->cb.wpIn (FR (some l)) 0 P (A5 0 ρ0 m0 w0 K) a w)(hr:rec0.state= .ready/\rec0.pending=none/\rec0.fn=fn/\rec0.tmps=act.tmps/\rec0.params= #[p]/\rec0.assign=ca/\rec0.body=cb)(hI:Inv N ρ0 m0 w0 st ρ act W)(hl:W.heap[l]? =some (.loop rec0))(FD:rb ρ st.mem l)(Zz:w0.heap.size<=l)(h:nJ st.mem λn1=>aw P n1 la (λex s2=>match ex with
    | .normal=>nJ s2.mem λn2=>aw P n2 lb K s2
    |_=>False) ⟨aV st.aX p (fb y),st.mem⟩):
  Sy P l #[.string y] W λe W'=>∃ex jD U' jump,K ex jD/\Inv N ρ0 m0 w0 ⟨st.aX,jD.mem⟩ U' act W'/\e= .returned (.bool jump.isNone)/\
   W'.heap[l]? =some (.loop {rec0 with state:=if jump.isNone then .ready else .done,pending:=jump})/\
   ((jump=none/\ex= .normal)\/(jump=some .ret/\ex= .ret)\/∃id,jump=some (.exit id)/\ex= .exit id)/\
   (∀b,b<W.heap.size->b≠l->rb ρ st.mem b->rb U' jD.mem b/\W'.heap[b]? =W.heap[b]?)/\rb U' jD.mem l/\W.heap.size<=W'.heap.size:=by
 obtain⟨r1,r2,r3,r4,r5,r6,r7⟩:=hr;have hy:=run_yield (P:=P) (args:= #[.string y]) hl (by rw[r5];rfl)
 rw[r3,r4,r5,r6,r7]at hy;refine⟨_,_,_,_,hy,?_⟩;have aC:l<W.heap.size:=(aaC.1 hl).1;simp only[gP]at h;have hRo:RoundIn Fence.wide 0 P l fn (act.tmps.setIfInBounds p (.string y)) ca cb W λe W'=>∃ex jD U' jump,K ex jD/\Inv N ρ0 m0 w0 ⟨st.aX,jD.mem⟩ U' act W'/\e= .returned (.bool jump.isNone)/\
   W'.heap[l]? =some (.loop {rec0 with state:=if jump.isNone then .ready else .done,pending:=jump})/\
   ((jump=none/\ex= .normal)\/(jump=some .ret/\ex= .ret)\/∃id,jump=some (.exit id)/\ex= .exit id)/\
   (∀b,b<W.heap.size->b≠l->rb ρ st.mem b->rb U' jD.mem b/\W'.heap[b]? =W.heap[b]?)/\rb U' jD.mem l/\W.heap.size<=W'.heap.size:=by
  refine roundIn_of_wpIn trivial ?_;have AY:bl ρ W (aV st.aX p (fb y)) (act.tmps.setIfInBounds p (.string y)):=by rw[aY];exact hI.aX.set (de.val _ rfl:ce ρ W (fb y) (.string y))
  have hI1:Inv 0 ρ st.mem W ⟨aV st.aX p (fb y),st.mem⟩ ρ {tmps:=act.tmps.setIfInBounds p (.string y),defers:=[]} W:=
   ⟨Ext.refl _ _ _,hI.mem,AY,FA.nil,aaj _,Ym _⟩
  have hwa:=TT ρ st.mem W _ _ ρ _ W hI.mem.n h hI1;rw[HX]at hwa;refine wpIn_mono hwa λe a1 W1 hp=>?_
  obtain⟨ex,s2,ρ2,he,hK,JL⟩:=hp;cases e<;>simp[Da]at he<;>subst he<;>simp only at hK
  simp only[Exit.then];have zB:W1.heap[l]? =some (.loop rec0):=(JL.ext.frame l aC FD.2).trans hl;have MX:rb ρ2 s2.mem l:=FD.ext JL.ext aC;have Xr:l<W1.heap.size:=(aaC.1 zB).1;refine⟨_,run_beginRound zB r1,?_⟩;obtain⟨W2,SL⟩:∃W2,W1.putObj l (.loop {rec0 with state:= .busy})=W2:=⟨_,rfl⟩
  rw[SL];have xi:vN ρ2 s2.mem W1 W2:=by rw[<-SL];exact vN.put MX _
  have FF:=JL.mem.vQ xi;have hI3:Inv 0 ρ2 s2.mem W2 s2 ρ2 a1 W2:=⟨Ext.refl _ _ _,FF,JL.aX.cm xi.cm,JL.defers.vQ xi,aaj _,Ym _⟩;have hwb:=TU ρ2 s2.mem W2 _ _ ρ2 _ W2 FF.n hK hI3;rw[HX]at hwb;refine wpIn_mono hwb λe a3 W3 hp=>?_
  obtain⟨ex,s3,ρ3,he,hK3,PX⟩:=hp;have Df:l<W2.heap.size:=by rw[<-SL];simpa using Xr
  have ZA:W3.heap[l]? =some (.loop {rec0 with state:= .busy}):=by rw[PX.ext.frame l Df MX.2,<-SL];exact World.putObj_heap_same Xr
  have aaX:l<W3.heap.size:=(aaC.1 ZA).1;have SM:rb ρ3 s3.mem l:=MX.ext PX.ext Df;have gQ:∀(jump:Option Code),((jump=none/\ex= .normal)\/(jump=some .ret/\ex= .ret)\/∃id,jump=some (.exit id)/\ex= .exit id)->
    ∃v w',(Instr.endRound l jump).run P W3= .ok v w'/\∃ex jD U' jump,K ex jD/\Inv N ρ0 m0 w0 ⟨st.aX,jD.mem⟩ U' act w'/\Ending.returned v= .returned (.bool jump.isNone)/\
     w'.heap[l]? =some (.loop {rec0 with state:=if jump.isNone then .ready else .done,pending:=jump})/\
     ((jump=none/\ex= .normal)\/(jump=some .ret/\ex= .ret)\/∃id,jump=some (.exit id)/\ex= .exit id)/\
     (∀b,b<W.heap.size->b≠l->rb ρ st.mem b->rb U' jD.mem b/\w'.heap[b]? =W.heap[b]?)/\rb U' jD.mem l/\W.heap.size<=w'.heap.size:=by
   intro jump hj;have QA:=run_endRound (P:=P) jump ZA;refine⟨_,_,QA,ex,s3,ρ3,jump,hK3,?_,rfl,World.putObj_heap_same aaX,hj,λb hb Uq ho=>?_,SM,?_⟩
   .have x1:Ext ρ0 m0 w0 ρ2 s2.mem W1:=hI.ext.trans JL.ext;have x2:Ext ρ0 m0 w0 ρ2 s2.mem W2:=by rw[<-SL];exact⟨x1.n,x1.aI,x1.S,x1.S',x1.aL,λb hb hk=>(World.putObj_heap_other om).trans (x1.frame b hb hk),by simpa using x1.size,x1.os,x1.tape,x1.output⟩
    have x3:Ext ρ0 m0 w0 ρ3 s3.mem W3:=x2.trans PX.ext;have e1:bl ρ2 W1 st.aX act.tmps:=hI.aX.ext hI.mem JL.ext;have e3:bl ρ3 W3 st.aX act.tmps:=(e1.cm xi.cm).ext FF PX.ext;have d3:FA N ρ3 W3 act.defers:=((hI.defers.ext hI.mem JL.ext).vQ xi).ext FF PX.ext;have hI5:Inv N ρ0 m0 w0 ⟨st.aX,s3.mem⟩ ρ3 act W3:=⟨x3,PX.mem,e3,d3,hI.hN,abD hI.n0 (abD JL.n0 PX.n0)⟩;exact hI5.put SM Zz _
   .have ia:rb ρ2 s2.mem b:=ho.ext JL.ext hb;have WX:b<W1.heap.size:=aaI hb JL.ext.size;have fI:b<W2.heap.size:=by rw[<-SL];simpa using WX
    refine⟨ia.ext PX.ext fI,?_⟩;rw[World.putObj_heap_other Uq,PX.ext.frame b fI ia.2,<-SL,World.putObj_heap_other Uq,JL.ext.frame b hb ho.2]
   .have h1:=JL.ext.size;have h2:W1.heap.size=W2.heap.size:=by rw[<-SL];simp
    have h3:=PX.ext.size;simp only[World.putObj_size];omega
  cases e<;>simp[Da]at he<;>subst he
  .exact gQ none (.inl ⟨rfl,rfl⟩)
  .rename_i id;exact gQ (some (.exit id)) (.inr (.inr ⟨id,rfl,rfl⟩))
  .exact gQ (some .ret) (.inr (.inl ⟨rfl,rfl⟩))
 have hz:(#[p].zip #[Value.string y]).foldl (λtmps x=>tmps.setIfInBounds x.1 x.2) act.tmps=act.tmps.setIfInBounds p (.string y):=aE
 exact hz▸hRo
theorem Inv.Xs{st:St}{ρ:bI}{a:Act}{w w':World}(hI:Inv N ρ0 m0 w0 st ρ a w)(h:vN ρ st.mem w w')(hb:∀b,b<w0.heap.size->(∀k,Live ρ0 m0 k->(ρ0.aI k).b≠b)->w'.heap[b]? =w.heap[b]?)(ho:w'.os=w.os)(ht:w'.tape=w.tape)(hu:w'.output=w.output):Inv N ρ0 m0 w0 st ρ a w':=
 ⟨⟨hI.ext.n,hI.ext.aI,hI.ext.S,hI.ext.S',hI.ext.aL,λb tM hk=>(hb b tM hk).trans (hI.ext.frame b tM hk),abD hI.ext.size h.size,ho.trans hI.ext.os,ht.trans hI.ext.tape,hu.trans hI.ext.output⟩,
  hI.mem.vQ h,hI.aX.cm h.cm,hI.defers.vQ h,hI.hN,hI.n0⟩
theorem ay.aaY{ρ:bI}{m:Mem}{w:World}{D:Nat}(hM:ay ρ m w)(hD:D<w.heap.size)(hl:∀k,Live ρ m k->(ρ.aI k).b≠D):ay {ρ with S:=λb=>ρ.S b\/b=D} m w:=by
 have g:iL ρ w {ρ with S:=λb=>ρ.S b\/b=D} w:=⟨Ym _,λ_ _=>rfl,λ_ h=>.inl h,λ_ _=>rfl⟩
 have bC:∀k,Live {ρ with S:=λb=>ρ.S b\/b=D} m k↔Live ρ m k:=λk=>by cases k<;>rfl
 refine⟨hM.n,λb hb=>?_,λk hk=>⟨(hM.aL k ((bC k).1 hk)).1,?_⟩,λk k' hk fZ e=>hM.inj k k' ((bC k).1 hk) ((bC k').1 fZ) e,λid b hb=>?_,λid i j esz el ho be=>?_⟩
 .rcases hb with hb|rfl
  .exact hM.S b hb
  .exact hD
 .rintro(hs|hs)
  .exact(hM.aL k ((bC k).1 hk)).2 hs
  .exact hl k ((bC k).1 hk) hs
 .have h1:=hM.bk id b hb;cases b with
  |aS=>trivial
  |var cs=>
   obtain⟨cur,bX,h2⟩:=h1;exact⟨cur,bX,λj c hj=>let⟨u,hu,hd⟩:=h2 j c hj;⟨u,hu,bj.cm g aE hd⟩⟩
  |row esz elems=>
   obtain⟨h2,h3,h4,h5,h6⟩:=h1;refine⟨h2,h3,h4,h5,λhp=>?_⟩
   obtain⟨cur,bX,h7,h8⟩:=h6 hp;exact⟨cur,bX,h7,λi cs j c hi hj=>let⟨u,hu,hd⟩:=h8 i cs j c hi hj;⟨u,hu,bj.cm g (by intro kK i' j' e';cases e';rw[hM.n];exact(Km.1 hb).1) hd⟩⟩
  |mp es=>
   obtain⟨bq,ck,h2,h3,h4⟩:=h1;exact⟨bq,ck,h2,h3,λi e he=>let⟨e',mT,hk,hd⟩:=h4 i e he;⟨e',mT,hk,df.cm g hd⟩⟩
  |it cur left=>
   obtain⟨mb,seen,ck,bq,h2,h3,h4,h5,h6⟩:=h1;exact⟨mb,seen,ck,bq,h2,h3,g.S _ h4,(g.heap mb h4).trans h5,h6⟩
  |mo esz es so=>exact cJ.cm (bk:= .mo esz es so) g (by rw[hM.n];exact(Km.1 hb).1) (λ_ _=>rfl) h1
  |iw mid ip seen=>exact cJ.cm (bk:= .iw mid ip seen) g (by rw[hM.n];exact(Km.1 hb).1) (λ_ _=>rfl) h1
 .obtain⟨cur,bX,h2,h3,h4⟩:=hM.ei id i j esz el ho be;exact⟨cur,bX,h2,h3,λi cs j d hi hj=>let⟨u,hu,hd⟩:=h4 i cs j d hi hj;⟨u,hu,de.mono g.S g.heap hd⟩⟩
theorem Live.jn{ρ:bI}{m:Mem}{kJ:List Nat}{k:gw}(h:Live ρ (qv m kJ) k):Live ρ m k/\k.id∉kJ:=by
 cases k with
 |aj id=>
  obtain⟨bk,h1,h2,h3⟩:=h;rcases nb m kJ id bk h1 with rfl|⟨h4,h5⟩
  .exact absurd rfl h2
  .exact⟨⟨bk,h4,h2,h3⟩,h5⟩
 |sub id i j=>
  obtain⟨⟨esz,elems,b2,h1,h2⟩,h4⟩:=h;rcases nb m kJ id _ h1 with rfl|⟨h5,h6⟩
  .cases h2
  .exact⟨⟨⟨esz,elems,b2,h5,h2⟩,h4⟩,h6⟩
theorem ay.jn{ρ:bI}{m:Mem}{w:World}(hM:ay ρ m w)(kJ:List Nat):ay ρ (qv m kJ) w:=by
 refine⟨by rw[tT];exact hM.n,hM.S,λk hk=>hM.aL k hk.jn.1,λk k' hk fZ=>hM.inj k k' hk.jn.1 fZ.jn.1,λid b hb=>?_,λid i j esz el ho be=>?_⟩
 .rcases nb m kJ id b hb with rfl|⟨h,_⟩
  .trivial
  .exact hM.bk id b h
 .obtain⟨b2,h1,h2⟩:=ho;rcases nb m kJ id _ h1 with rfl|⟨h5,_⟩
  .cases h2
  .exact hM.ei id i j esz el ⟨b2,h5,h2⟩ be
theorem Inv.jn{st:St}{ρ:bI}{a:Act}{w:World}(hI:Inv N ρ0 m0 w0 st ρ a w)(kJ:List Nat):Inv N ρ0 m0 w0 ⟨st.aX,qv st.mem kJ⟩ ρ a w:=
 ⟨⟨hI.ext.n,hI.ext.aI,hI.ext.S,hI.ext.S',λk hk=>hI.ext.aL k hk.jn.1,hI.ext.frame,hI.ext.size,hI.ext.os,hI.ext.tape,hI.ext.output⟩,
  hI.mem.jn kJ,hI.aX,hI.defers,hI.hN,by rw[tT];exact hI.n0⟩
theorem FG{x:X}{f:Operand}{p:Nat}{ps:Array Tmp}{la lb:LC}{ca cb:Code}{K:Ex->St->Prop}{st:St}{ρ:bI}{a:Act}{w:World}(ml:ρ0.n=m0.length)(qk:ps= #[p])(hx:bn f=some x)(TT:∀(l:Nat)(ρ0:bI)(m0:Mem)(w0:World)(K:Ex->St->Prop)(st:St)(ρ:bI)(a:Act)(w:World),ρ0.n=m0.length->aw P m0.length la K st->Inv 0 ρ0 m0 w0 st ρ a w->ca.wpIn (FR (some l)) 0 P (A5 0 ρ0 m0 w0 K) a w)(TU:∀(l:Nat)(ρ0:bI)(m0:Mem)(w0:World)(K:Ex->St->Prop)(st:St)(ρ:bI)(a:Act)(w:World),ρ0.n=m0.length->aw P m0.length lb K st->Inv 0 ρ0 m0 w0 st ρ a w->cb.wpIn (FR (some l)) 0 P (A5 0 ρ0 m0 w0 K) a w)(h:aw P m0.length (.yR x p la lb) K st)(hI:Inv N ρ0 m0 w0 st ρ a w):(Code.rangeFunc f ps ca cb).wpIn (FR none) 0 P (A5 N ρ0 m0 w0 K) a w:=by
 obtain⟨gf,kJ,cs,xs,α,J,S,hxe,MK,⟨lX,dh⟩,aa0,⟨x0,hJ0,V4⟩,FH,Xt⟩:=h;have hd:=aR hI.aX hx;rw[hxe]at hd;obtain⟨iB,hv⟩:=hd;rw[Qw];refine wpIn_rangeFunc λfn _=>?_
 obtain⟨rec0,Bc⟩:∃rec0:Loop,rec0={state:= .ready,pending:=none,fn,tmps:=a.tmps,params:=ps,assign:=ca,body:=cb,defers:=w.heap.size}:=⟨_,rfl⟩;obtain⟨W1,CE⟩:∃W1,(w.alloc (.deferred (some []))).alloc (.loop rec0)=W1:=⟨_,rfl⟩;have Xu:W1.heap.size=w.heap.size+2:=by rw[<-CE];simp
 have hold:∀b,b<w.heap.size->W1.heap[b]? =w.heap[b]? :=λb hb=>by
  rw[<-CE];exact(Go.RowKit.Below.heap_alloc _ _ _ (by simp;omega)).trans (Go.RowKit.Below.heap_alloc _ _ _ hb)
 have hL1:W1.heap[w.heap.size+1]? =some (.loop rec0):=by rw[<-CE];have:=World.alloc_heap_new (w.alloc (.deferred (some []))) (.loop rec0);rwa [World.size_alloc]at this
 have Ur:W1.heap[w.heap.size]? =some (.deferred (some [])):=by rw[<-CE];exact(Go.RowKit.Below.heap_alloc _ _ _ aE).trans (World.alloc_heap_new w _)
 have WJ:W1.os=w.os/\W1.tape=w.tape/\W1.output=w.output:=by rw[<-CE];exact⟨rfl,rfl,rfl⟩
 obtain⟨⟨gfn,hgf,hgb,PY⟩,hT⟩:=aa0;have aa1:gfn.body≠none:=by intro e;rw[e]at hgb;cases hgb
 have aa2:gfn.name≠ "runtime.NumGoroutine" :=by intro e;rw[e]at PY;simp at PY
 obtain⟨as,has⟩:∃as:List (Nat×Nat),as=kJ.map λid=>((ρ.aI (.aj id)).b,(ρ.aI (.aj id)).aq):=⟨_,rfl⟩
 have hlb:(kJ.map λid=>Value.pointer (some ⟨(ρ.aI (.aj id)).b,(ρ.aI (.aj id)).aq,none⟩))=rS as:=by rw[has,rS,abF];rfl
 rw[hlb]at hv;have Xv:vN ρ st.mem w W1:=⟨om,λb hb=>hold b (hI.mem.S b hb),λk hk=>hold _ (hI.mem.aL k hk).1⟩
 have H0:Inv N ρ0 m0 w0 st ρ a W1:=hI.vQ Xv (λb hb=>hold b (aaI hb hI.ext.size)) WJ.1 WJ.2.1 WJ.2.2
 let ρ1:bI:={ρ with S:=λb=>ρ.S b\/b=w.heap.size}
 let act:Act:={a with defers:=[{target:= .collected w.heap.size,args:= #[]}]++a.defers}
 have aC:∀k,Live ρ st.mem k->(ρ.aI k).b<w.heap.size:=λk hk=>(hI.mem.aL k hk).1
 have bC:∀(m:Mem)k,Live ρ1 m k↔Live ρ m k:=λm k=>by cases k<;>rfl
 have g1:iL ρ W1 ρ1 W1:=⟨Ym _,λ_ _=>rfl,λ_ h=>.inl h,λ_ _=>rfl⟩
 have hIb:Inv N ρ0 m0 w0 st ρ1 act W1:=by
  refine⟨⟨H0.ext.n,H0.ext.aI,λb hb=>.inl (H0.ext.S b hb),λb hb=>?_,λk hk=>H0.ext.aL k ((bC _ k).1 hk),H0.ext.frame,H0.ext.size,H0.ext.os,H0.ext.tape,H0.ext.output⟩,
   H0.mem.aaY om (λk hk e=>by have:=aC k hk;omega),H0.aX.cm g1,?_,hI.hN,hI.n0⟩
  .rcases hb with hb|rfl
   .exact H0.ext.S' b hb
   .exact .inr (.inl hI.ext.size)
  .obtain⟨Ds,h1,h2,h3⟩:=H0.defers;refine⟨w.heap.size::Ds,by simp[act,h1],abH.2 ⟨λhm=>?_,h2⟩,λD hD=>?_⟩
   .have:=hI.mem.S _ (h3 _ hm).2.1;omega
   .rcases aaJ.1 hD with rfl|hD
    .exact⟨abD hI.hN hI.ext.size,.inr rfl,Ur⟩
    .exact⟨(h3 D hD).1,.inl (h3 D hD).2.1,(h3 D hD).2.2⟩
 have hIc:=hIb.jn kJ;have Xw:rb ρ1 (qv st.mem kJ) (w.heap.size+1):=by
  refine⟨?_,λk hk e=>?_⟩
  .rintro(hs|hs)
   .have:=hI.mem.S _ hs;omega
   .omega
  .have:=aC k ((bC _ k).1 hk).jn.1;have h2:(ρ1.aI k).b=(ρ.aI k).b:=rfl;omega
 obtain⟨Xx,V5⟩:=vl MK;have bY:∀id,id∈kJ->Live ρ st.mem (.aj id):=λid hid=>by
  obtain⟨i,hi⟩:=aaa hid;have aC:i<cs.length:=by rw[<-Xx];exact(Km.1 hi).1
  obtain⟨h1,_⟩:=V5 i id _ hi (vU aC);exact⟨_,h1,aE,aE⟩
 have Xy:∀b,b∈as.map (·.1)->rb ρ1 (qv st.mem kJ) b:=by
  intro b hb;rw[has,abF]at hb;obtain⟨id,hid,rfl⟩:=aal.1 hb;have hL:=bY id hid;refine⟨?_,λk hk e=>?_⟩
  .rintro(hs|hs)
   .exact(hI.mem.aL _ hL).2 hs
   .have:=aC _ hL;simp only[Function.comp]at hs;omega
  .have kM:=(bC _ k).1 hk;have:=hI.mem.inj k _ kM.jn.1 hL e;subst this;exact kM.jn.2 hid
 obtain⟨ρ2,hId,SN⟩:=hIc.view ml V4;have aa4:as.length=cs.length:=by rw[has,Pj,Xx]
 have aa5:(as.map (·.1)).Nodup:=by
  rw[has,abF];have key:∀l:List Nat,(∀id,id∈l->id∈kJ)->l.Nodup->(l.map λid=>(ρ.aI (.aj id)).b).Nodup:=by
   intro l
   induction l with
   |nil=>intro _ _;exact List.nodup_nil
   |cons id r ih=>
    intro hm hn;obtain⟨q8,Qz⟩:=abH.1 hn;refine abH.2 ⟨λhb=>?_,ih (λid h=>hm id (by simp[h])) Qz⟩
    obtain⟨kK,MY,e⟩:=aal.1 hb;have:=hI.mem.inj _ _ (bY kK (hm kK (by simp[MY]))) (bY id (hm id aE)) e
    cases this;exact q8 MY
  exact key kJ (λ_ h=>h) lX
 have SO:∀b,b∈as.map (·.1)->b<w.heap.size:=by intro b hb;rw[has,abF]at hb;obtain⟨id,hid,rfl⟩:=aal.1 hb;exact aC _ (bY id hid)
 have aa6:∀b,b∈as.map (·.1)->w0.heap.size<=b\/∃k0,Live ρ0 m0 k0/\(ρ0.aI k0).b=b:=by intro b hb;rw[has,abF]at hb;obtain⟨id,hid,rfl⟩:=aal.1 hb;exact hI.ext.aL _ (bY id hid)
 have QB:∀a0,a0∈as->a0.1∈as.map (·.1):=λa0 h0=>aal.2 ⟨a0,h0,rfl⟩
 let Jw:Nat->World->Prop:=λk W=>∃y U',J k y/\Inv N ρ0 m0 w0 (S y) U' act W/\rb U' (S y).mem (w.heap.size+1)/\(∀b,b∈as.map (·.1)->rb U' (S y).mem b)/\
  W.heap[w.heap.size+1]? =some (.loop rec0)
 let Jx:World->Prop:=λW=>∃c ex jD U',K ex jD/\Inv N ρ0 m0 w0 jD U' act W/\rb U' jD.mem (w.heap.size+1)/\(∀b,b∈as.map (·.1)->rb U' jD.mem b)/\
  ((c= .ret/\ex= .ret)\/∃id,c= .exit id/\ex= .exit id)/\W.heap[w.heap.size+1]? =some (.loop {rec0 with state:= .done,pending:=some c})
 have SP:∀(jD:St)(U':bI)(o:Obj)(W W':World),Inv N ρ0 m0 w0 jD U' act W->(∀b,b∈as.map (·.1)->rb U' jD.mem b)->W.heap[w.heap.size+1]? =some o->
   W.heap.size<=W'.heap.size->(∀b,b<W.heap.size->(∀a,a∈as->b≠a.1)->W'.heap[b]? =W.heap[b]?)->W'.os=W.os->W'.tape=W.tape->W'.output=W.output->
   Inv N ρ0 m0 w0 jD U' act W'/\W'.heap[w.heap.size+1]? =some o:=by
  intro jD U' o W W' hI ho hl hs hb h1 h2 h3;refine⟨hI.Xs ⟨hs,λb hS=>hb b (hI.mem.S b hS) λa ha e=>(ho _ (QB a ha)).1 (e▸hS),λk hk=>hb _ (hI.mem.aL k hk).1 λa ha e=>(ho _ (QB a ha)).2 k hk e⟩
   (λb tM hk=>hb b (aaI tM hI.ext.size) λa ha e=>?_) h1 h2 h3,?_⟩
  .rcases aa6 _ (QB a ha)with h|⟨k0,h0,e0⟩
   .omega
   .exact hk k0 h0 (e0.trans e.symm)
  .rw[hb _ (aaC.1 hl).1 λa ha e=>?_]
   .exact hl
   .have:=SO _ (QB a ha);omega
 have main:=hT (w.heap.size+1) as W1 Jw Jx aa4 aa5
  (λi a0 v hi hv=>by
   rw[has,Tm]at hi;cases hid:kJ[i]? with
   |none=>rw[hid]at hi;cases hi
   |some id=>
    rw[hid]at hi;simp only[aaD,aav]at hi;subst hi;obtain⟨hm,jZ⟩:=V5 i id v hid hv;obtain⟨cur,bX,ju⟩:=H0.mem.bk id _ hm;obtain⟨u,hu,cy⟩:=ju 0 _ rfl;have vK:u=v:=by
     cases cy with
     |val _ _=>rfl
     |no _=>simp[cw]at jZ
    subst vK;exact⟨by rw[bX.cell];simpa using hu,bX.qN (by have:=(aaC.1 hu).1;simpa using this)⟩)
  (λk W W'⟨y,U',h1,h2,h3,h4,h5⟩hs hb e1 e2 e3=>by obtain⟨q1,q2⟩:=SP _ _ _ W W' h2 h4 h5 hs hb e1 e2 e3;exact⟨y,U',h1,q1,h3,h4,q2⟩)
  (λW W'⟨c,ex,jD,U',h0,h2,h3,h4,h6,h5⟩hs hb e1 e2 e3=>by obtain⟨q1,q2⟩:=SP _ _ _ W W' h2 h4 h5 hs hb e1 e2 e3;exact⟨c,ex,jD,U',h0,q1,h3,h4,h6,q2⟩)
  (λk y W hk⟨z,U',h1,h2,h3,h4,h5⟩=>by
   have hr:=FH k y z hk h1;have Us:=Di (TT _) (TU _) (l:=w.heap.size+1) (n0:=0) (rec0:=rec0) (act:=act) (fn:=fn) (p:=p) (by rw[Bc];exact⟨rfl,rfl,rfl,rfl,qk,rfl,rfl⟩) h2 h5 h3
    (by have:=hI.ext.size;omega) hr
   obtain⟨f1,t1,a1,b1,hy,hR⟩:=Us;refine⟨f1,t1,a1,b1,hy,hR.mono λe W' hp=>?_⟩
   obtain⟨ex,jD,ρ3,jump,hK,hIn,he,hl,hj,aa7,Bd,dk⟩:=hp;have ZB:∀b,b∈as.map (·.1)->rb ρ3 jD.mem b/\W'.heap[b]? =W.heap[b]? :=λb hb=>by have aC:=SO b hb;have Df:w.heap.size+1<W.heap.size:=(aaC.1 h5).1;exact aa7 b om om (h4 b hb)
   rcases hj with⟨rfl,rfl⟩|⟨rfl,rfl⟩|⟨id,rfl,rfl⟩
   .left;obtain⟨z',PR,SE⟩:=hK;obtain⟨ρ4,hIv,ZC⟩:=hIn.view ml SE;refine⟨he,⟨z',ρ4,PR,hIv,ZC _ Bd,λb hb=>ZC b (ZB b hb).1,?_⟩,dk,λa ha=>(ZB a.1 (aal.2 ⟨a,ha,rfl⟩)).2⟩
    rw[hl,Bc];rfl
   .right;exact⟨he,.ret,.ret,_,ρ3,hK,hIn,Bd,λb hb=>(ZB b hb).1,.inl ⟨rfl,rfl⟩,hl⟩
   .right;exact⟨he,.exit id,.exit id,_,ρ3,hK,hIn,Bd,λb hb=>(ZB b hb).1,.inr ⟨id,rfl,rfl⟩,hl⟩)
  ⟨x0,ρ2,hJ0,hId,SN _ Xw,λb hb=>SN b (Xy b hb),hL1⟩
 refine⟨w.heap.size+1,[{target:= .collected w.heap.size,args:= #[]}],W1,{target:= .fn (.func gf) (rS as).toArray,args:= #[.func (.yield (w.heap.size+1)) #[] #[]]},W1,gf,
  #[.func (.yield (w.heap.size+1)) #[] #[]]++(rS as).toArray,W1,?_,?_,λ_ _=>trivial,?_,by simp[Fence.wide],?_⟩
 .rw[<-CE,Bc];exact run_enterLoop_outer _ _ _ _ _
 .simp only[resolve,hv];simp[go_sem]
 .simp[invoke,callFunc,hgf,aa2,aa1]
 .refine main.mono λe W' hp=>?_
  obtain⟨⟨v,rfl⟩,hp⟩:=hp;rcases hp with⟨y,U',h1,h2,h3,h4,h5⟩|⟨c,ex,jD,U',h0,h2,h3,h4,h6,h5⟩
  .refine⟨none,_,by have:=run_endLoop (P:=P) h5 (by rw[Bc];simp);rw[Bc]at this;exact this,?_⟩
   exact⟨.normal,S y,U',rfl,Xt y h1,h2.put h3 (by have:=hI.ext.size;omega) _⟩
  .refine⟨some c,_,by have:=run_endLoop (P:=P) h5 (by simp);exact this,?_⟩
   have Xz:=h2.put h3 (by have:=hI.ext.size;omega) (.loop {rec0 with state:= .exhausted,pending:=some c})
   rcases h6 with⟨rfl,rfl⟩|⟨id,rfl,rfl⟩
   .exact wpIn_ret ⟨.ret,jD,U',rfl,h0,Xz⟩
   .exact wpIn_exit ⟨.exit id,jD,U',rfl,h0,Xz⟩
end
section
variable {P:Program} {N:Nat} {ρ0:bI} {m0:Mem} {w0:World}
theorem kV{f:Operand}{ps:Array Tmp}{x y:Code}{lc:LC}(h:d7 P (.rangeFunc f ps x y)=some lc):∃x' p la lb,lc= .yR x' p la lb:=by
 simp only[d7,U6]at h;split at h
 case h_2=>cases h
 simp only[N7]at h;obtain⟨lx,hx,ly,hy,h⟩:=h;split at h
 case isFalse=>cases h
 simp only[N7]at h;obtain⟨x',_,h⟩:=h;cases h;exact⟨_,_,_,_,rfl⟩
theorem MZ:∀(lc:LC)(r:Option Nat)(Be:r=none\/lc.rO=true)(N:Nat)(ρ0:bI)(m0:Mem)(w0:World)(ml:ρ0.n=m0.length)(c:Code)(K:Ex->St->Prop)(st:St)(ρ:bI)(a:Act)(w:World),
  d7 P c=some lc.er->aw P m0.length lc K st->Inv N ρ0 m0 w0 st ρ a w->c.wpIn (FR r) 0 P (A5 N ρ0 m0 w0 K) a w:=by
 intro lc
 induction lc with
 |cX b ih=>
  intro r Be N ρ0 m0 w0 ml c K st ρ a w hl h hI;obtain⟨s',hv,h⟩:=h;obtain⟨U',qa⟩:=hI.Mf ml hv;exact ih r Be N ρ0 m0 w0 ml c K s' U' a w hl h qa
 |skip=>
  intro r Be N ρ0 m0 w0 ml c K st ρ a w hl h hI;cases c with
  |skip=>exact wpIn_skip ⟨_,st,ρ,rfl,h,hI⟩
  |region id ops bV=>cases bV<;>simp[d7,LC.er,N7]at hl
  |rangeFunc f ps ca cb=>obtain⟨_,_,_,_,e⟩:=kV hl;simp[LC.er]at e
  |_=>simp[d7,LC.er,N7]at hl
 |ai aa8=>
  intro r Be N ρ0 m0 w0 ml c K st ρ a w hl h hI;cases c with
  |region id ops bV=>
   cases bV with
   |true=>simp[d7,LC.er,N7]at hl
   |false=>
    simp only[d7,LC.er,U6,N7]at hl;obtain⟨bW,A9,hl⟩:=hl;cases hl;refine wpIn_region (iY (xh A9) HY _ _ _ ?_);have:=xf (Q:=A5 N ρ0 m0 w0 K) (K:=Jf K) (λaX m ρ a w hK hI=>⟨_,_,ρ,rfl,hK,hI⟩) ops.toList 0 _ st.aX st.mem ρ a w rfl A9 h hI
    simpa[adI]using this
  |rangeFunc f ps ca cb=>obtain⟨_,_,_,_,e⟩:=kV hl;simp[LC.er]at e
  |_=>simp[d7,LC.er,N7]at hl
 |bV aa8 sch=>
  intro r Be N ρ0 m0 w0 ml c K st ρ a w hl h hI;cases c with
  |region id ops bV=>
   cases bV with
   |true=>
    simp only[d7,LC.er,U6,N7]at hl;obtain⟨bW,A9,hl⟩:=hl;obtain⟨qS,hs,hl⟩:=hl;cases hl;refine wpIn_region_draw λt=>iY (xh A9) HY _ _ _ ?_
    exact Ba (Q:=A5 N ρ0 m0 w0 K) (K:=K) (λaX m ρ a w hK hI=>⟨_,_,ρ,rfl,hK,hI⟩) A9 hs h hI t
   |false=>simp[d7,LC.er,N7]at hl
  |rangeFunc f ps ca cb=>obtain⟨_,_,_,_,e⟩:=kV hl;simp[LC.er]at e
  |_=>simp[d7,LC.er,N7]at hl
 |seq lx ly Un MU=>
  intro r Be N ρ0 m0 w0 ml c K st ρ a w hl h hI;cases c with
  |seq x y=>
   simp only[d7,LC.er,U6,N7,aav,LC.seq.injEq]at hl;obtain⟨lx',hx,ly',hy,rfl,rfl⟩:=hl;refine wpIn_seq (wpIn_mono (Un r (Be.imp id λh=>(ado.1 h).1) N ρ0 m0 w0 ml x _ st ρ a w hx h hI) λe a' w' hp=>?_)
   obtain⟨ex,jD,U',he,hK,qa⟩:=hp;cases e<;>simp[Da]at he<;>subst he
   .exact MU r (Be.imp id λh=>(ado.1 h).2) N ρ0 m0 w0 ml y K jD U' a' w' hy hK qa
   .exact⟨_,jD,U',rfl,hK,qa⟩
   .exact⟨_,jD,U',rfl,hK,qa⟩
  |region id ops bV=>cases bV<;>simp[d7,LC.er,N7]at hl
  |rangeFunc f ps ca cb=>obtain⟨_,_,_,_,e⟩:=kV hl;simp[LC.er]at e
  |_=>simp[d7,LC.er,N7]at hl
 |cond x0 ly0 lz0 MU ihz=>
  intro r Be N ρ0 m0 w0 ml c K st ρ a w hl h hI;cases c with
  |cond x y z=>
   simp only[d7,LC.er,U6,N7,aav,LC.cond.injEq]at hl;obtain⟨x',hx,ly,hy,lz,hz,rfl,rfl,rfl⟩:=hl;have hd:=aR hI.aX hx;simp only[aw]at h;split at h
   .rename_i t tL;rw[tL]at hd;have ht:=(bF hd).1;have sa:∀b,t=b->TV x' (aD b) st.aX=st.aX:=λb hb=>by
     subst hb;cases x' with
     |t n=>exact A7 tL
     |c v=>rfl
    refine wpIn_cond ht ?_;rcases cn.1 h with⟨rfl,h⟩|⟨rfl,h⟩
    .simp only[fp,sa true rfl]at h;exact MU r (Be.imp id λh=>(ado.1 h).1) N ρ0 m0 w0 ml y K st ρ a w hy h hI
    .simp only[fp,sa false rfl]at h;exact ihz r (Be.imp id λh=>(ado.1 h).2) N ρ0 m0 w0 ml z K st ρ a w hz h hI
   .exact h.elim
  |region id ops bV=>cases bV<;>simp[d7,LC.er,N7]at hl
  |rangeFunc f ps ca cb=>obtain⟨_,_,_,_,e⟩:=kV hl;simp[LC.er]at e
  |_=>simp[d7,LC.er,N7]at hl
 |block id0 lb0 ih=>
  intro r Be N ρ0 m0 w0 ml c K st ρ a w hl h hI;cases c with
  |block id b=>
   simp only[d7,LC.er,U6,N7,aav,LC.block.injEq]at hl;obtain⟨lb,hb,rfl,rfl⟩:=hl;refine wpIn_block (wpIn_mono (ih r Be N ρ0 m0 w0 ml b _ st ρ a w hb h hI) λe a' w' hp=>?_)
   obtain⟨ex,jD,U',he,hK,qa⟩:=hp;cases e<;>simp[Da]at he<;>subst he
   .exact⟨_,jD,U',rfl,hK,qa⟩
   .rename_i kK;simp only[E9]at hK;simp only[Exit.inBlock];rcases cn.1 hK with⟨hid,hK⟩|⟨hid,hK⟩
    .rw[if_pos (aai hid)];exact⟨_,jD,U',rfl,hK,qa⟩
    .rw[if_neg (adj hid)];exact⟨_,jD,U',rfl,hK,qa⟩
   .exact⟨_,jD,U',rfl,hK,qa⟩
  |region id ops bV=>cases bV<;>simp[d7,LC.er,N7]at hl
  |rangeFunc f ps ca cb=>obtain⟨_,_,_,_,e⟩:=kV hl;simp[LC.er]at e
  |_=>simp[d7,LC.er,N7]at hl
 |loop lb0 ih=>
  intro r Be N ρ0 m0 w0 ml c K st ρ a w hl h hI;cases c with
  |loop b=>
   simp only[d7,LC.er,U6,N7,aav,LC.loop.injEq]at hl;obtain⟨lb,hb,rfl⟩:=hl;obtain⟨α,J,S,μ,⟨a1,hJ1,ZD⟩,FH⟩:=h;obtain⟨ρ1,hI1⟩:=hI.Mf ml ZD;refine vM (γ:=α) (I:=λx a w=>J x/\∃ρ,Inv N ρ0 m0 w0 (S x) ρ a w) (μ:=μ) a1 ⟨hJ1,ρ1,hI1⟩ λx a w⟨hJ,ρ,hI⟩=>?_
   refine wpIn_mono (ih r Be N ρ0 m0 w0 ml b _ (S x) ρ a w hb (FH x hJ) hI) λe a' w' hp=>?_
   obtain⟨ex,jD,U',he,hK,qa⟩:=hp;cases e<;>simp[Da]at he<;>subst he
   .obtain⟨x3,hJ3,aC,hw3⟩:=hK;obtain⟨ρ3,hI3⟩:=qa.Mf ml hw3;exact⟨x3,⟨hJ3,ρ3,hI3⟩,aC⟩
   .exact⟨_,jD,U',rfl,hK,qa⟩
   .exact⟨_,jD,U',rfl,hK,qa⟩
  |region id ops bV=>cases bV<;>simp[d7,LC.er,N7]at hl
  |rangeFunc f ps ca cb=>obtain⟨_,_,_,_,e⟩:=kV hl;simp[LC.er]at e
  |_=>simp[d7,LC.er,N7]at hl
 |exit id0=>
  intro r Be N ρ0 m0 w0 ml c K st ρ a w hl h hI;cases c with
  |exit id=>
   simp[d7,LC.er]at hl;subst hl;exact wpIn_exit ⟨_,st,ρ,rfl,h,hI⟩
  |region id ops bV=>cases bV<;>simp[d7,LC.er,N7]at hl
  |rangeFunc f ps ca cb=>obtain⟨_,_,_,_,e⟩:=kV hl;simp[LC.er]at e
  |_=>simp[d7,LC.er,N7]at hl
 |ret=>
  intro r Be N ρ0 m0 w0 ml c K st ρ a w hl h hI;cases c with
  |ret=>exact wpIn_ret ⟨_,st,ρ,rfl,h,hI⟩
  |region id ops bV=>cases bV<;>simp[d7,LC.er,N7]at hl
  |rangeFunc f ps ca cb=>obtain⟨_,_,_,_,e⟩:=kV hl;simp[LC.er]at e
  |_=>simp[d7,LC.er,N7]at hl
 |yR x0 p la0 lb0 TT TU=>
  intro r Be N ρ0 m0 w0 ml c K st ρ a w hl h hI;have hr0:r=none:=Be.resolve_right (by simp[LC.rO])
  subst hr0;cases c with
  |rangeFunc f ps ca cb=>
   simp only[d7,LC.er,U6]at hl;split at hl
   case h_2=>cases hl
   rename_i p' qk;simp only[N7]at hl;obtain⟨la,hla,lb,hlb,hl⟩:=hl;split at hl
   case isFalse=>cases hl
   rename_i kF;simp only[N7,aav,LC.yR.injEq]at hl;obtain⟨x',hx,rfl,rfl,rfl,rfl⟩:=hl;rw[aab,HZ,HZ]at kF;exact FG ml (by apply abZ;simpa using qk) hx (λl ρ0 m0 w0 K st ρ a w hM h hI=>TT (some l) (.inr kF.1) 0 ρ0 m0 w0 hM ca K st ρ a w hla h hI)
    (λl ρ0 m0 w0 K st ρ a w hM h hI=>TU (some l) (.inr kF.2) 0 ρ0 m0 w0 hM cb K st ρ a w hlb h hI) h hI
  |region id ops bV=>cases bV<;>simp[d7,LC.er,N7]at hl
  |_=>simp[d7,LC.er,N7]at hl
def tU(tmps:Array Value):ResultVar->Sem Value
 | .tmp t=>pure (tmps.getD t Go.undef)
 | .cell ad t=>do loadVar t (<-asAddr (tmps.getD ad Go.undef))
theorem FI(fn:Func)(tmps:Array Value):results fn tmps=(do let vs<-fn.results.mapM (tU tmps);pure (if h:vs.size=1 then vs[0]else .tuple vs)):=by
 unfold results;have e:(λ(r:ResultVar)=>match r with
  | .tmp t=>(pure (tmps.getD t Go.undef):Sem Value)
  | .cell ad t=>do loadVar t (<-asAddr (tmps.getD ad Go.undef)))=tU tmps:=by
  funext r;cases r<;>rfl
 rw[<-e];rfl
theorem rc:∀{rs:List ResultVar}{JM:List Rv},oN P rs=some JM->∀{st:St}{ρ:bI}{a:Act}{w:World}{K:List RV->Prop},
  ay ρ st.mem w->bl ρ w st.aX a.tmps->CP P st JM K->
  ∃(vs:List RV)(us:List Value),K vs/\(rs.mapM (tU a.tmps)).run P w= .ok us w/\
   us.length=vs.length/\∀(i:Nat)r,vs[i]? =some r->∃u,us[i]? =some u/\df ρ w r u
 | [],JM,h,st,ρ,a,w,K,hM,hE,hr=>by simp[oN]at h;subst h;exact⟨[],[],hr,rfl,rfl,aE⟩
 | .tmp t::r,JM,h,st,ρ,a,w,K,hM,hE,hr=>by
  simp only[oN,U6,N7]at h;obtain⟨r',hr',h⟩:=h;cases h;simp only[CP]at hr;obtain⟨v,hv,hr⟩:=aU.1 hr;obtain⟨vs,us,hK,cP,hlen,cq⟩:=rc hr' hM hE hr;have hd:=hE.get t;have Qs:kP st.aX t= .rv v:=by
   cases hg:kP st.aX t<;>rw[hg]at hv<;>simp[CL]at hv
   rw[hv]
  rw[Qs]at hd;refine⟨v::vs,a.tmps.getD t Go.undef::us,hK,?_,by simp[hlen],λi r hi=>?_⟩
  .rw[List.mapM_cons,Sem.run_bind];simp only[tU,Sem.run_pure,Result.andThen_ok];rw[Sem.run_bind,cP];rfl
  .cases i with
   |zero=>simp at hi;subst hi;exact⟨_,aE,hd⟩
   |succ i=>simpa using cq i r (by simpa using hi)
 | .cell ad t::r,JM,h,st,ρ,a,w,K,hM,hE,hr=>by
  simp only[oN,U6,N7]at h;obtain⟨agg,ha,n,hn,r',hr',h⟩:=h;cases h;simp only[CP]at hr;obtain⟨addr,u,cv,hv,XA,Ur,cy⟩:=uT hM ha hn hr (hE.get ad);obtain⟨v,vL,hr⟩:=aU.1 Ur;obtain⟨vs,us,hK,cP,hlen,cq⟩:=rc hr' hM hE hr;have Qs:cv= .rv v:=by
   cases cv<;>simp[CL]at vL
   rw[vL]
  subst Qs;refine⟨v::vs,u::us,hK,?_,by simp[hlen],λi r hi=>?_⟩
  .rw[List.mapM_cons,Sem.run_bind];simp only[tU,hv,asAddr,Sem.run_bind,Sem.run_pure,Result.andThen_ok,XA];rw[cP];rfl
  .cases i with
   |zero=>simp at hi;subst hi;exact⟨_,aE,cy⟩
   |succ i=>simpa using cq i r (by simpa using hi)
theorem y8{fn:Func}{rs:List Rv}(h:oN P fn.results.toList=some rs){st:St}{ρ:bI}{a:Act}{w:World}{K:CV->Prop}(hM:ay ρ st.mem w)(hE:bl ρ w st.aX a.tmps)(hr:CP P st rs λvs=>K (TZ vs)):∃v r,(results fn a.tmps).run P w= .ok v w/\K r/\ce ρ w r v:=by
 obtain⟨vs,us,hK,cP,hlen,cq⟩:=rc h hM hE hr;have zD:(fn.results.mapM (tU a.tmps)).run P w= .ok us.toArray w:=by rw[Array.mapM_eq_mapM_toList,Sem.run_map,cP];rfl
 rw[FI,Sem.run_bind,zD];refine⟨_,_,rfl,hK,?_⟩
 match vs,us,hlen,cq with
 | [r],[u],_,cq=>
  obtain⟨u',hu,hd⟩:=cq 0 r aE;simp at hu;subst hu;exact hd
 | [],[],_,cq=>exact⟨[],rfl,rfl,aE⟩
 |r1::r2::rs,u1::u2::us,hlen,cq=>
  refine⟨u1::u2::us,?_,hlen,cq⟩;simp
theorem nR{f:Nat}{fn:Func}{lf:LF}{args:List CV}{m:Mem}{K:CV->Mem->Prop}(hf:P.funcs[f]? =some fn)(hl:bz P fn=some lf.er)(hn:(fn.name== "runtime.NumGoroutine")=false)(hle:args.length<=lf.n)(h:body P lf args m K):ap P f args m K:=by
 simp only[bz,LF.er,U6,N7,aav,LF.mk.injEq]at hl;obtain⟨rs,Us,c,hc,lc0,oT,q8,abb,XB⟩:=hl;subst XB abb;obtain⟨lfn,lfr,lc⟩:=lf;simp only at q8 Us oT;subst q8;refine⟨⟨fn,hf,by simp[hc],hn⟩,λρ w vs hM hlen cq=>?_⟩
 simp only[body,fp,gP,cg,fY]at h;simp only at hle;have hI:Inv w.heap.size ρ m w ⟨args++List.replicate (fn.ntmps-args.length) .undef,m⟩ ρ {tmps:=vs.toArray++Array.replicate (fn.ntmps-vs.toArray.size) Go.undef,defers:=[]} w:=by
  refine⟨Ext.refl _ _ _,hM,⟨by simp[hlen],λi c hi=>?_⟩,FA.nil,Ym _,Ym _⟩
  rcases aaf i args.length with aC|d8
  .rw[aac aC]at hi;obtain⟨v,hv,hd⟩:=cq i c hi;refine⟨v,?_,hd⟩;rw[acY (by simp[hlen];exact aC)]
   simpa using hv
  .rw[ZZ d8,adx]at hi;split at hi
   .rename_i aC;cases hi;refine⟨Go.undef,?_,rfl⟩;rw[Array.getElem?_append_right (by simp[hlen];exact d8),Array.getElem?_replicate,if_pos (by simp[hlen];exact aC)]
   .cases hi
 refine(callsIn_wide (n:=0)).1 (callsIn_of_wp_marks (F:=Fence.wide) hf hc trivial (wpIn_mono (MZ lc none (.inl rfl) _ ρ m w hM.n c _ _ ρ _ w oT h hI) λe a' w' hp=>?_))
 obtain⟨ex,jD,U',he,hK,qa⟩:=hp;have gQ:CP P jD lfr (λvs=>K (TZ vs) jD.mem)->LeavesInM Fence.wide 0 P fn a'.tmps (λe w'=>∃XC r m' U',e=Ending.returned XC/\K r m'/\ay U' m' w'/\ce U' w' r XC/\Ext ρ m w U' m' w') a'.defers .returning w':=λhr=>by
  obtain⟨Ds,h1,h2,h3⟩:=qa.defers;rw[h1];refine si rfl Ds w' h2 h3 qa.mem qa.aX qa.ext λw2 FF EP VZ=>?_
  obtain⟨v,r,cP,hKr,hd⟩:=y8 (K:=λr=>K r jD.mem) Us FF EP hr
  exact⟨v,cP,v,r,jD.mem,U',rfl,hKr,FF,hd,VZ⟩
 cases e<;>simp[Da]at he<;>subst he
 .exact gQ hK
 .exact hK.elim
 .exact gQ hK
theorem QE:∀(c:Code)(lc:LC),d7 P c=some lc->lc.er=lc:=by
 intro c
 induction c with
 |skip=>intro lc h;simp[d7]at h;subst h;rfl
 |region id ops bV=>
  intro lc h;cases bV with
  |true=>
   simp only[d7,U6,N7]at h;obtain⟨bW,_,sch,_,h⟩:=h;cases h;rfl
  |false=>
   simp only[d7,U6,N7]at h;obtain⟨bW,_,h⟩:=h;cases h;rfl
 |seq x y Un MU=>
  intro lc h;simp only[d7,U6,N7]at h;obtain⟨lx,hx,ly,hy,h⟩:=h;cases h;simp only[LC.er,Un lx hx,MU ly hy]
 |cond x y z MU ihz=>
  intro lc h;simp only[d7,U6,N7]at h;obtain⟨x',_,ly,hy,lz,hz,h⟩:=h;cases h;simp only[LC.er,MU ly hy,ihz lz hz]
 |block id b ih=>
  intro lc h;simp only[d7,U6,N7]at h;obtain⟨lb,hb,h⟩:=h;cases h;simp only[LC.er,ih lb hb]
 |loop b ih=>
  intro lc h;simp only[d7,U6,N7]at h;obtain⟨lb,hb,h⟩:=h;cases h;simp only[LC.er,ih lb hb]
 |exit id=>intro lc h;simp[d7]at h;subst h;rfl
 |ret=>intro lc h;simp[d7]at h;subst h;rfl
 |rangeFunc f ps x y Un MU=>
  intro lc h;simp only[d7,U6]at h;split at h
  case h_2=>cases h
  simp only[N7]at h;obtain⟨lx,hx,ly,hy,h⟩:=h;split at h
  case isFalse=>cases h
  simp only[N7]at h;obtain⟨x',_,h⟩:=h;cases h;simp only[LC.er,Un lx hx,MU ly hy]
 |_=>intro lc h;simp[d7]at h
theorem xj{f:Nat}{fn:Func}{lf:LF}{args:List CV}{m:Mem}{K:CV->Mem->Prop}(hf:P.funcs[f]? =some fn)(hl:bz P fn=some lf)(hn:(fn.name== "runtime.NumGoroutine")=false)(hle:args.length<=lf.n)(h:body P lf args m K):ap P f args m K:=by
 refine nR hf ?_ hn hle h;have Zz:=hl;simp only[bz,U6,N7]at hl;obtain⟨rs,Us,c,hc,lc,oT,hl⟩:=hl;cases hl;rw[Zz];simp only[LF.er,QE c lc oT]
end
end Go.AM
