/- Part 7 of 16. -/
import Derived.Test.YtodckkkbiidffaaGreatDoorJ06
import Derived.Orders
set_option linter.unusedVariables false
set_option linter.unusedSimpArgs false
set_option maxRecDepth 100000
set_option maxHeartbeats 0
namespace Go.AM
section
variable {P:Program}
def LO.kp(lo:LO)(e:List CV):Option Bool:=
 match lo.guard with
 |none=>some true
 |some (s,kp)=>match kP e s with
  | .undef=>some false
  | .rv (.one (.ah (.val (.bool t))))=>some (t==kp)
  |_=>none
theorem gQ{lo:LO}{e:List CV}{m:Mem}{K:List CV->CV->Mem->Prop}:
  oi P lo e m K↔(lo.kp e=some true/\step P lo.Co e m (K e))\/(lo.kp e=some false/\K e .undef m):=by
 unfold oi LO.kp;cases hg:lo.guard with
 |none=>simp[fq]
 |some p=>
  obtain⟨s,kp⟩:=p;simp only;generalize eG:kP e s=c;split
  .simp
  .rename_i t;have h1:∀b,t=b->aX e s (aF b)=e:=λb hb=>by subst hb;exact AU eG
   rw[cq];cases t
   .simp only[fq,h1 false rfl];cases kp<;>simp
   .simp only[fq,h1 true rfl];cases kp<;>simp
  .rename_i n1 n2;have:∀b,¬(match c with
     |CV.undef=>some false
     |CV.rv (RV.one (CC.ah (Dt.val (Value.bool t))))=>some (t==kp)
     |x=>none)=some b:=by
    intro b hb;split at hb
    .exact n1 rfl
    .exact n2 _ rfl
    .cases hb
   constructor
   .exact λh=>h.elim
   .rintro(⟨h,_⟩|⟨h,_⟩)<;>exact this _ h
def yZ(d:Option Nat)(v:CV)(e:List CV):List CV:=
 match d with
 |none=>e
 |some d=>e.set d v
theorem sa{d:Option Nat}{v:CV}{e:List CV}{K:List CV->Prop}:put d v e K↔K (yZ d v e):=by
 rw[MK];cases d<;>rfl
variable {N:Nat} {ρ0:bJ} {m0:Mem} {w0:World}
theorem Inv.drew{st:St}{ρ:bJ}{a:Act}{w:World}(h:Inv N ρ0 m0 w0 st ρ a w):Inv N ρ0 m0 w0 st ρ a {w with drawn:=w.drawn+1}:=by
 obtain⟨x,M,E,d,hN,n⟩:=h;have g:iM ρ w ρ {w with drawn:=w.drawn+1}:=⟨Yj _,λ_ _=>rfl,λ_ h=>h,λ_ _=>rfl⟩
 have e:Ext ρ st.mem w ρ st.mem {w with drawn:=w.drawn+1}:=⟨Yj _,λ_ _=>rfl,λ_ h=>h,λ_ h=>.inl h,λk h=>.inr ⟨k,h,rfl⟩,λ_ _ _=>rfl,Yj _,rfl,rfl,rfl⟩
 have hc:∀{mk:Prop}b cur,mE mk w b cur->mE mk {w with drawn:=w.drawn+1} b cur:=λ{mk}b cur hc=>hc.dH rfl
 refine⟨x.trans e,?_,?_,d,hN,n⟩
 .refine⟨M.n,M.S,M.aO,M.inj,λid b hb=>?_,λid i j esz el ho bg=>?_⟩
  .have h1:=M.bk id b hb;cases b with
   |aU=>trivial
   |var cs=>
    obtain⟨cur,b8,h2⟩:=h1;exact⟨cur,hc _ _ b8,λj c hj=>let⟨u,hu,hd⟩:=h2 j c hj;⟨u,hu,bm.cn g aC hd⟩⟩
   |row esz elems=>
    obtain⟨h2,h3,h4,h5,h6⟩:=h1;refine⟨h2,h3,h4,h5,λhp=>?_⟩
    obtain⟨cur,b8,h7,h8⟩:=h6 hp;exact⟨cur,hc _ _ b8,h7,λi cs j c hi hj=>let⟨u,hu,hd⟩:=h8 i cs j c hi hj;⟨u,hu,bm.cn g (by intro kJ i' j' e';cases e';rw[M.n];exact(Ki.1 hb).1) hd⟩⟩
   |mp es=>
    obtain⟨bt,ck,h2,h3,h4⟩:=h1;exact⟨bt,ck,h2,h3,λi e he=>let⟨e',mT,hk,hd⟩:=h4 i e he;⟨e',mT,hk,dk.cn g hd⟩⟩
   |it cur left=>exact h1
   |mo esz es so=>exact cK.cn (bk:= .mo esz es so) g (by rw[M.n];exact(Ki.1 hb).1) (λ_ _=>rfl) h1
   |iw mid ip seen=>exact h1
  .obtain⟨cur,b8,h2,h3,h4⟩:=M.ei id i j esz el ho bg;exact⟨cur,hc _ _ b8,h2,h3,λi cs j d hi hj=>let⟨u,hu,hd⟩:=h4 i cs j d hi hj;⟨u,hu,dj.mono (S:=ρ.S) (S':=ρ.S) (w:=w) (w':={w with drawn:=w.drawn+1}) (λ_ h=>h) (λ_ _=>rfl) hd⟩⟩
 .exact⟨E.size,λi c hi=>let⟨v,hv,hd⟩:=E.jR i c hi;⟨v,hv,cf.cn g hd⟩⟩
theorem zF{ops:Array Oper}{k:Nat}{o:Oper}{lo:LO}{aZ:List CV}{m:Mem}{ρ:bJ}{a:Act}{w:World}{K:CV->Mem->Prop}{K1:Act->World->Prop}{Q:Exit->Act->World->Prop}(ho:ops[k]? =some o)(ir:wz P ops o=some lo)(hI:Inv N ρ0 m0 w0 ⟨aZ,m⟩ ρ a w)(h:oi P lo aZ m λ_ v m'=>K v m')(hn:∀v m' U' a' w',K v m'->Inv N ρ0 m0 w0 ⟨yZ lo.dst v aZ,m'⟩ U' a' w'->K1 a' w'):wpOp P ops Q k K1 a w:=by
 simp only[wz,U8,Pu]at ir;obtain⟨i,hi,g,hg,ir⟩:=ir;cases ir;unfold wpOp;rw[ho];simp only;have SP:∀b,LO.kp ⟨o.dst,i,g⟩ aZ=some b->Region.wanted o (yielded ops a.tmps)=b:=by
  intro b hb;unfold LO.kp at hb;cases MN:o.guard with
  |none=>
   rw[MN]at hg;simp[Mb]at hg;subst hg;simp at hb;subst hb;simp[Region.wanted,MN]
  |some jb=>
   obtain⟨j,kp⟩:=jb;rw[MN]at hg;simp only[Mb,U8,Pu]at hg;obtain⟨oj,hoj,s,hs,hg⟩:=hg;cases hg;have hy:yielded ops a.tmps j=match a.tmps[s]? with|some (.bool b)=>some b|_=>none:=by simp[yielded,hoj,hs];rfl
   simp only at hb;split at hb
   .rename_i eG;have cr:=hI.aZ.get s;rw[eG]at cr;have hu:a.tmps[s]? =some Go.undef\/a.tmps[s]? =none:=by
     simp only[cf,abE]at cr;cases ht:a.tmps[s]? with
     |none=>exact .inr rfl
     |some v=>rw[ht]at cr;simp at cr;exact .inl (by rw[cr])
    cases hb;simp only[Region.wanted,MN,hy];rcases hu with hu|hu<;>rw[hu]<;>rfl
   .rename_i t eG;have cr:=hI.aZ.get s;rw[eG]at cr;have ht:a.tmps[s]? =some (.bool t):=by
     have:=(bH cr).1;rw[abE]at this;cases ht:a.tmps[s]? with
     |none=>rw[ht]at this;cases this
     |some v=>rw[ht]at this;simp at this;rw[this]
    simp at hb;simp[Region.wanted,MN,hy,ht,hb]
   .cases hb
 rcases gQ.1 h with⟨hw,hs⟩|⟨hw,hs⟩
 .rw[if_pos (SP _ hw)];refine .inl (C2 (K:=λe' m'=>∃v,e'=yZ o.dst v aZ/\K v m') hi hI (zE hs λv m' hk=>sa.2 ⟨v,rfl,hk⟩) λfR m' U' a' w'⟨v,he,hk⟩p6=>?_)
  subst he;exact hn v m' U' a' w' hk p6
 .rw[if_neg (by simp[SP _ hw])]
  obtain⟨fR,LI,p6⟩:=hI.step (d:=o.dst) (c:= .undef) (v:=Go.undef) (K:=λe=>e=yZ o.dst .undef aZ) hI.mem rfl (Ext.refl _ _ _) (sa.2 rfl)
  subst LI;exact hn _ _ _ _ _ hs p6
theorem vf{lo:LO}{e e':List CV}{m:Mem}{K:CV->Mem->Prop}(hx:∀t,t∈lo.looks->kP e t=kP e' t)(h:oi P lo e m λ_ v m'=>K v m'):
  oi P lo e' m λ_ v m'=>K v m':=by
 rw[gQ]at h|-;have hs:∀t,t∈mf lo.Co.xs->kP e t=kP e' t:=λt ht=>hx t (by unfold LO.looks;split<;>simp[ht])
 have hw:lo.kp e=lo.kp e':=by
  unfold LO.kp;cases hg:lo.guard with
  |none=>rfl
  |some p=>simp only[hx p.1 (by unfold LO.looks;rw[hg];simp)]
 have yU:∀(xs:List X)(x:X),x∈xs->∀n,x= .t n->n∈mf xs:=by
  intro xs
  induction xs with
  |nil=>intro x hx;cases hx
  |cons y r ih=>
   intro x hx n hn;subst hn;cases y with
   |t k=>
    simp only[mf,aaL];rcases aaL.1 hx with h|h
    .cases h;exact .inl rfl
    .exact .inr (ih _ h n rfl)
   |c v=>
    simp only[mf];rcases aaL.1 hx with h|h
    .cases h
    .exact ih _ h n rfl
 have SG:∀x,x∈lo.Co.xs->x.ev e=x.ev e':=λx hx=>by
  cases x with
  |t n=>exact hs n (yU _ _ hx n rfl)
  |c v=>rfl
 rw[<-hw];rcases h with⟨h1,h2⟩|h
 .exact .inl ⟨h1,FE SG h2⟩
 .exact .inr h
def QV(P:Program)(lo:LO)(e:List CV)(m:Mem)(v:CV):Prop:=oi P lo e m λ_ v' m'=>v'=v/\m'=m
theorem vg{lo:LO}(hq:tF lo.Co=true){e:List CV}{m:Mem}{K:List CV->CV->Mem->Prop}(h:oi P lo e m K):∃v,K e v m/\QV P lo e m v:=by
 rcases gQ.1 h with⟨h1,h2⟩|⟨h1,h2⟩
 .obtain⟨v,hv,f4⟩:=FD hq h2;exact⟨v,hv,gQ.2 (.inl ⟨h1,f4 _ ⟨rfl,rfl⟩⟩)⟩
 .exact⟨_,h2,gQ.2 (.inr ⟨h1,rfl,rfl⟩)⟩
theorem QV.pure{lo:LO}(hq:zk lo.Co=true){e:List CV}{m:Mem}{v:CV}(h:QV P lo e m v)(m':Mem):QV P lo e m' v:=by
 rcases gQ.1 h with⟨h1,h2⟩|⟨h1,h2⟩
 .obtain⟨v',hv,f4⟩:=JD hq h2;exact gQ.2 (.inl ⟨h1,f4 m' _ ⟨hv.1,rfl⟩⟩)
 .exact gQ.2 (.inr ⟨h1,h2.1,rfl⟩)
end
section
variable {P:Program}
def Edge(ig:List (List Nat))(i j:Nat):Prop:=∃l,ig[i]? =some l/\j∈l
def Uk(ig:List (List Nat))(L:Nat->Prop):Prop:=∀i j,Edge ig i j->L i->L j
def Ul(ig:List (List Nat))(i j:Nat):Prop:=∀L,Uk ig L->(∀k,Edge ig i k->L k)->L j
theorem sb{de:List Nat}{t:Nat}:∀{l:List Nat},Nat.testBit (AD de l) t=true->
  ∃j,j∈l/\(t=j\/Nat.testBit ((cF de j).getD 0) t=true)
 | [],h=>by simp[AD]at h
 |j::r,h=>by
  simp only[AD,List.foldr_cons]at h;have h1:∀a b:Nat,Nat.testBit (Nat.lor a b) t=(Nat.testBit a t||Nat.testBit b t):=λa b=>Nat.testBit_or a b t
  rw[h1,h1]at h;simp only[ab0]at h;rcases h with h|h|h
  .obtain⟨k,hk,hr⟩:=sb (l:=r) h;exact⟨k,by simp[hk],hr⟩
  .refine⟨j,aC,.inl ?_⟩;have:Nat.shiftLeft 1 j=2^j:=by show 1<<<j=2^j;rw[Nat.shiftLeft_eq];simp
   rw[this,Nat.testBit_two_pow]at h;simpa using(of_decide_eq_true h).symm
  .exact⟨j,aC,.inr h⟩
def MR(ig:List (List Nat))(de:List Nat):Prop:=∀(i j:Nat),Nat.testBit ((cF de i).getD 0) j=true->Ul ig i j
theorem C3{ig:List (List Nat)}{de:List Nat}(h:MR ig de):MR ig (E9 ig de):=by
 intro i j hb;rw[aV,E9,Tr]at hb;cases hl:ig[i]? with
 |none=>rw[hl]at hb;simp at hb
 |some l=>
  rw[hl]at hb;simp only[aaG,abA]at hb;obtain⟨k,hk,hr⟩:=sb hb;have he:Edge ig i k:=⟨l,hl,hk⟩;rcases hr with rfl|hr
  .exact λL _ hL=>hL _ he
  .exact λL hd hL=>h k j hr L hd λk' gh=>hd _ _ gh (hL _ he)
theorem vh{ig:List (List Nat)}:∀(k:Nat){de:List Nat},MR ig de->MR ig (AE ig k de)
 |0,_,h=>h
 |k+1,de,h=>by
  simp only[AE];split
  .exact h
  .exact vh k (C3 h)
theorem JE{n:Nat}{ig:List (List Nat)}:MR ig (bo n ig):=vh n λi j hb=>by simp[cF]at hb
theorem wZ{ig:List (List Nat)}{n:Nat}{L:Nat->Prop}(kz:∀i,i<n->¬L i->∃j,Edge ig i j/\¬L j):
  ∀(l bf:List Nat),zl ig n bf l=true->(∀i,i∈bf->L i)->∀i,i<n->L i
 | [],bf,h,hb,i,hi=>by
  simp only[zl,abr]at h;exact hb i (by simpa using h i (by simpa using hi))
 |x::r,bf,h,hb,i,hi=>by
  simp only[zl,aae,abr]at h;refine wZ kz r (x::bf) h.2 (λk hk=>?_) i hi
  rcases aaL.1 hk with e|hk
  .rw[e];by_cases h1:L x
   .exact h1
   .obtain⟨j,⟨l,hl,hj⟩,hnj⟩:=kz x (by have:=h.1.1;rwa [abK]at this) h1
    refine absurd (hb j ?_) hnj;have:=h.1.2 j (by rw[aV,hl];exact hj)
    simpa using this
  .exact hb k hk
variable {bZ:List LO} {ms:List Nat} {n:Nat} {e0:List CV} {ig:List (List Nat)}
structure mw(bZ:List LO)(e0:List CV)(S:Nat->Prop)(val:Nat->CV)(e:List CV):Prop where
 len:e.length=e0.length
 on:∀t k,S k->dm bZ t k=true->t<e0.length->e[t]? =some (val k)
 off:∀t,(∀k,S k->dm bZ t k=false)->e[t]? =e0[t]?
theorem lw{t k:Nat}:dm bZ t k=true↔∃lo,cF bZ k=some lo/\lo.dst=some t:=by
 unfold dm;cases cF bZ k with
 |none=>simp
 |some lo=>
  cases hd:lo.dst with
  |none=>simp[hd]
  |some d=>simp[hd]
theorem mw.step{S:Nat->Prop}{val:Nat->CV}{e:List CV}(h:mw bZ e0 S val e){i:Nat}{lo:LO}(hi:cF bZ i=some lo)(hu:∀t k,S k->lo.dst=some t->dm bZ t k=false){v:CV}{jE:Nat->CV}(hv:jE i=v)(j7:∀k,S k->jE k=val k){S':Nat->Prop}(hS:∀k,S' k↔S k\/k=i):mw bZ e0 S' jE (yZ lo.dst v e):=by
 have hw:∀t,dm bZ t i=true↔lo.dst=some t:=λt=>by rw[lw];simp[hi]
 refine⟨?_,λt k hk Cs aD=>?_,λt f4=>?_⟩
 .unfold yZ;split<;>simp[h.len]
 .rcases(hS k).1 hk with hk|rfl
  .have dy:lo.dst≠some t:=λhd=>by rw[hu t k hk hd]at Cs;cases Cs
   rw[j7 k hk,<-h.on t k hk Cs aD];unfold yZ;cases hd:lo.dst with
   |none=>rfl
   |some d=>
    simp only;rw[U9];rintro rfl;exact dy hd
  .have hd:=(hw t).1 Cs;rw[hd,hv];simp only[yZ];rw[TK (by rw[h.len];exact aD)]
 .have dy:lo.dst≠some t:=λhd=>by have:=f4 i ((hS i).2 (.inr rfl));rw[(hw t).2 hd]at this;cases this
  rw[<-h.off t λk hk=>f4 k ((hS k).2 (.inl hk))]
  unfold yZ;cases hd:lo.dst with
  |none=>rfl
  |some d=>
   simp only;rw[U9];rintro rfl;exact dy hd
theorem mw.Xd{S S':Nat->Prop}{val jE:Nat->CV}{e:List CV}(h:mw bZ e0 S val e)(j7:∀k,S k->jE k=val k)(hS:∀k,S' k↔S k):mw bZ e0 S' jE e:=
 ⟨h.len,λt k hk hw hl=>by rw[j7 k ((hS k).1 hk)];exact h.on t k ((hS k).1 hk) hw hl,λt f4=>h.off t λk hk=>f4 k ((hS k).2 hk)⟩
theorem mw.ext{S:Nat->Prop}{val:Nat->CV}{e e':List CV}(h:mw bZ e0 S val e)(h':mw bZ e0 S val e'):e=e':=by
 refine abC λt=>?_
 by_cases hex:∃k,S k/\dm bZ t k=true
 .obtain⟨k,hk,hw⟩:=hex;rcases aag t e0.length with aD|eG
  .rw[h.on t k hk hw aD,h'.on t k hk hw aD]
  .rw[aaH (by rw[h.len];exact eG),aaH (by rw[h'.len];exact eG)]
 .have:∀k,S k->dm bZ t k=false:=λk hk=>by
   cases hw:dm bZ t k with
   |false=>rfl
   |true=>exact absurd ⟨k,hk,hw⟩ hex
  rw[h.off t this,h'.off t this]
def Agree(bZ:List LO)(ms:List Nat)(e0:List CV)(bf:List Nat)(val:Nat->CV)(j:Nat)(e1:List CV):Prop:=
 e1.length=e0.length/\∀t,t∈oP bZ j->t<e0.length->
  (∃k,k∈bf/\dm bZ t k=true/\nK ms j k=true/\e1[t]? =some (val k))\/
  ((∀k,k∈bf->dm bZ t k=true->k=j\/nK ms k j=true)/\e1[t]? =e0[t]?)
theorem Agree.Zq{bf:List Nat}{val:Nat->CV}{j:Nat}{e1 aZ:List CV}{L:Nat->Prop}(h:Agree bZ ms e0 bf val j e1)(hE:mw bZ e0 L val aZ)(Ct:∀i j,nK ms i j=true->Ul ig i j)(hd:Uk ig L)(iO:∀i,L i->i∈bf)(hj:¬L j)(hr:∀k,Edge ig j k->L k):
  ∀t,t∈oP bZ j->kP e1 t=kP aZ t:=by
 intro t ht;rw[mh,mh];rcases aag t e0.length with aD|eG
 .rcases h.2 t ht aD with⟨k,hk,hw,hm,he⟩|⟨f4,he⟩
  .rw[he,hE.on t k (Ct _ _ hm L hd hr) hw aD]
  .rw[he,hE.off t λk hk=>?_]
   cases hw:dm bZ t k with
   |false=>rfl
   |true=>
    rcases f4 k (iO k hk) hw with rfl|hm
    .exact absurd hk hj
    .exact absurd (Ct _ _ hm L hd λk' gh=>hd _ _ gh hk) hj
 .rw[aaH (by rw[h.1];exact eG),aaH (by rw[hE.len];exact eG)]
structure DS(P:Program)(bZ:List LO)(ms:List Nat)(n:Nat)(ig:List (List Nat))(e0:List CV)(K:List CV->Mem->Prop)(L:Nat->Prop)(bf:List Nat)(c:Bool)(R:nG)(val:Nat->CV)(eu:List (Nat×LO×List CV×CV))(e aZ:List CV)(m:Mem):Prop where
 go:ef bZ ms n c bf R=true
 Xe:vC P bZ R eu K e m
 se:mw bZ e0 (·∈bf) val e
 y3:mw bZ e0 L val aZ
 sub:∀i,L i->i∈bf
 down:Uk ig L
 AV:∀t j k,j∈bf->k∈bf->dm bZ t j=true->dm bZ t k=true->j=k
 tR:∀j,j∈bf->¬L j->∃lo e1,cF bZ j=some lo/\tF lo.Co=true/\wB j eu=some (lo,e1,val j)/\QV P lo e1 m (val j)/\Agree bZ ms e0 bf val j e1
theorem jF{bf:List Nat}{i:Nat}(h:HB bZ ms n bf i=true):i<n/\i∉bf/\
  (∀t,t∈oP bZ i->∀j,j∈bf->dm bZ t j=true->nK ms i j=true)/\
  (∀t,I8 bZ i=some t->∀j,j∈bf->dm bZ t j=false/\(t∈oP bZ j->nK ms i j=true)):=by
 simp only[HB,aae]at h;obtain⟨⟨⟨h1,h2⟩,h4⟩,h5⟩:=h;refine⟨by rwa [abK]at h1,by simpa using h2,?_,?_⟩
 .intro t ht j hj hw;have:=abr.1 (abr.1 h4 t ht) j hj;simpa[hw]using this
 .intro t ht j hj;rw[ht]at h5;have:=abr.1 h5 j hj;simp only[aae,abU,ab0]at this;refine⟨this.1,λhl=>?_⟩
  rcases this.2 with h|h
  .simp[hl]at h
  .exact h
theorem zG{bf hd:List Nat}(h:TT ms n bf hd=true){i:Nat}(hi:i<n)(hb:i∉bf):i∈hd\/∃f,f∈hd/\nK ms i f=true:=by
 have:=abr.1 h i (by simpa using hi)
 simp only[ab0,abc]at this;rcases this with h|h|⟨f,h1,h2⟩
 .exact absurd (by simpa using h) hb
 .exact .inl (by simpa using h)
 .exact .inr ⟨f,h1,h2⟩
theorem lA:∀{R:nG}{bf:List Nat},ef bZ ms n false bf R=true->(∃f,f∈R.hd)/\∀f,f∈R.hd->f<n/\f∉bf
 | .nil,bf,h=>by simp[ef]at h
 | .cons i none r,bf,h=>by simp[ef]at h
 | .cons i (some l) r,bf,h=>by
  simp only[ef,aae]at h;obtain⟨h1,h2,_⟩:=jF h.2.1;exact⟨⟨i,by simp[nG.hd]⟩,λf hf=>by simp[nG.hd]at hf;subst hf;exact⟨h1,h2⟩⟩
 | .wm x y,bf,h=>by
  simp only[ef,aae]at h;obtain⟨⟨f,hf⟩,hx⟩:=lA h.2.1;obtain⟨_,hy⟩:=lA h.2.2;exact⟨⟨f,by simp[nG.hd,hf]⟩,λf hf=>by simp only[nG.hd,abD]at hf;exact hf.elim (hx f) (hy f)⟩
theorem DS.ahead{K:List CV->Mem->Prop}{L:Nat->Prop}{bf:List Nat}{c:Bool}{q:Nat}{R:nG}{val:Nat->CV}{eu:List (Nat×LO×List CV×CV)}{e aZ:List CV}{m:Mem}(h:DS P bZ ms n ig e0 K L bf c (.cons q none R) val eu e aZ m):∃jE sf e',DS P bZ ms n ig e0 K L (q::bf) true R jE sf e' aZ m:=by
 have p7:=h.go;simp only[ef,aae]at p7;obtain⟨_,C4,g6,g8⟩:=p7;obtain⟨g1,g2,g4,g5⟩:=jF C4;have hc:=h.Xe;simp only[zn,HF]at hc;obtain⟨lo,ir,hc⟩:=aW.1 hc;have hq:tF lo.Co=true:=by simpa[mg,ir]using g6
 obtain⟨v,hc,hqv⟩:=vg hq hc;have hc:=sa.1 hc;have MS:I8 bZ q=lo.dst:=by simp[I8,ir]
 let jE:Nat->CV:=λk=>if k=q then v else val k
 have j7:∀k,k∈bf->jE k=val k:=λk hk=>if_neg λ(e:k=q)=>g2 (e▸hk)
 have Cs:∀t k,k∈bf->lo.dst=some t->dm bZ t k=false:=λt k hk hd=>(g5 t (by rw[MS];exact hd) k hk).1
 have Um:∀t,dm bZ t q=true->lo.dst=some t:=λt hw=>by obtain⟨Ft,h1,h2⟩:=lw.1 hw;rw[ir]at h1;cases h1;exact h2
 refine⟨jE,_,_,g8,hc,h.se.step ir Cs (by simp[jE]) j7 (by simp[or_comm]),h.y3.Xd (λk hk=>j7 k (h.sub k hk)) (λ_=>Iff.rfl),λi hi=>by simp[h.sub i hi],h.down,?_,?_⟩
 .intro t j k hj hk MT HV;rcases aaL.1 hj with e1|yX<;>rcases aaL.1 hk with e2|kL
  .rw[e1,e2]
  .rw[e1]at MT;rw[Cs t k kL (Um t MT)]at HV;cases HV
  .rw[e2]at HV;rw[Cs t j yX (Um t HV)]at MT;cases MT
  .exact h.AV t j k yX kL MT HV
 .intro j hj hL;rcases aaL.1 hj with rfl|hj
  .refine⟨lo,e,ir,hq,by simp[wB,jE],by simpa[jE]using hqv,h.se.len,λt ht aD=>?_⟩
   by_cases hex:∃k,k∈bf/\dm bZ t k=true
   .obtain⟨k,hk,hw⟩:=hex;exact .inl ⟨k,by simp[hk],hw,g4 t ht k hk hw,by rw[j7 k hk];exact h.se.on t k hk hw aD⟩
   .refine .inr ⟨λk hk hw=>?_,h.se.off t λk hk=>?_⟩
    .rcases aaL.1 hk with rfl|hk
     .exact .inl rfl
     .exact absurd ⟨k,hk,hw⟩ hex
    .cases hw:dm bZ t k with
     |false=>rfl
     |true=>exact absurd ⟨k,hk,hw⟩ hex
  .obtain⟨Ft,e1,h1,h2,h3,h4,h5,h6⟩:=h.tR j hj hL;have dy:q≠j:=λe=>g2 (e▸hj)
   refine⟨Ft,e1,h1,h2,?_,by rw[j7 j hj];exact h4,h5,λt ht aD=>?_⟩
   .have:Nat.beq q j=false:=by
     cases hb:Nat.beq q j with
     |false=>rfl
     |true=>exact absurd (aau hb) dy
    simp only[wB,this];rw[h3,j7 j hj]
   .rcases h6 t ht aD with⟨k,hk,hw,hm,he⟩|⟨f4,he⟩
    .exact .inl ⟨k,by simp[hk],hw,hm,by rw[j7 k hk];exact he⟩
    .refine .inr ⟨λk hk hw=>?_,he⟩
     rcases aaL.1 hk with e2|kL
     .rw[e2]at hw|-;exact .inr ((g5 t (by rw[MS];exact Um t hw) j hj).2 ht)
     .exact f4 k kL hw
end
section
variable {P:Program}
variable {N:Nat} {ρ0:bJ} {m0:Mem} {w0:World}
variable {bZ:List LO} {ms:List Nat} {n:Nat} {e0:List CV} {ig:List (List Nat)}
theorem zH{ops:Array Oper}:∀{l:List Oper}{bZ:List LO},mX P ops l=some bZ->l.length=bZ.length/\∀(i:Nat)o,l[i]? =some o->∃lo,cF bZ i=some lo/\wz P ops o=some lo
 | [],bZ,h=>by simp[mX]at h;subst h;simp
 |o::r,bZ,h=>by
  obtain⟨lo,lr,rfl,h1,h2⟩:=tP h o r rfl;obtain⟨h3,h4⟩:=zH h2;refine⟨by simp[h3],λi o' hi=>?_⟩
  cases i with
  |zero=>simp at hi;subst hi;exact⟨lo,rfl,h1⟩
  |succ i=>simpa[cF]using h4 i o' (by simpa using hi)
theorem C5{m:Mem}{eu:List (Nat×LO×List CV×CV)}{j:Nat}:∀{l:List Nat},Wv P m eu l->j∈l->ok (wB j eu) λx=>oi P x.1 x.2.1 m λ_ v _=>v=x.2.2
 | [],_,h=>by cases h
 |k::r,hc,h=>by
  simp only[Md]at hc;rcases aaL.1 h with e|h
  .rw[e];exact hc.1
  .exact C5 hc.2 h
theorem DS.Xf{K:List CV->Mem->Prop}{L:Nat->Prop}{bf:List Nat}{c:Bool}{R:nG}{val:Nat->CV}{eu:List (Nat×LO×List CV×CV)}{e aZ:List CV}{m:Mem}(h:DS P bZ ms n ig e0 K L bf c R val eu e aZ m){i:Nat}(hi:i∈bf)(hL:¬L i){lo:LO}(ir:cF bZ i=some lo):∀t k,L k->lo.dst=some t->dm bZ t k=false:=by
 intro t k hk hd;cases hw:dm bZ t k with
 |false=>rfl
 |true=>
  have:=h.AV t i k hi (h.sub k hk) (lw.2 ⟨lo,ir,hd⟩) hw;exact absurd (this▸hk) hL
theorem DS.HW{K:List CV->Mem->Prop}{L L':Nat->Prop}{bf:List Nat}{c:Bool}{R:nG}{val:Nat->CV}{eu:List (Nat×LO×List CV×CV)}{e aZ:List CV}{m:Mem}(h:DS P bZ ms n ig e0 K L bf c R val eu e aZ m)(Ct:∀i j,nK ms i j=true->Ul ig i j){i:Nat}(hi:i∈bf)(hL:¬L i)(hr:∀k,Edge ig i k->L k)(zI:∀k,L' k↔L k\/k=i){ops:Array Oper}{o:Oper}{lo:LO}(ho:ops[i]? =some o)(ir:cF bZ i=some lo)(jZ:wz P ops o=some lo){ρ:bJ}{a:Act}{w:World}(hI:Inv N ρ0 m0 w0 ⟨aZ,m⟩ ρ a w){K1:Act->World->Prop}{Q:Exit->Act->World->Prop}(hn:∀fR U' a' w',Inv N ρ0 m0 w0 ⟨fR,m⟩ U' a' w'->DS P bZ ms n ig e0 K L' bf c R val eu e fR m->K1 a' w'):wpOp P ops Q i K1 a w:=by
 obtain⟨Ft,e1,h1,h2,h3,h4,h5⟩:=h.tR i hi hL;rw[ir]at h1;cases h1;have hag:=h5.Zq h.y3 Ct h.down h.sub hL hr;have hv:=vf (lo:=lo) (K:=λv' m'=>v'=val i/\m'=m) (λt ht=>hag t (by simpa[oP,ir]using ht)) h4
 refine zF ho jZ hI hv λv m' U' a' w' hk p6=>?_
 obtain⟨rfl,rfl⟩:=hk;refine hn _ U' a' w' p6 ⟨h.go,h.Xe,h.se,h.y3.step ir (h.Xf hi hL ir) rfl (λ_ _=>rfl) zI,λj hj=>?_,λx y JF hx=>?_,h.AV,λj hj Zv=>h.tR j hj λhl=>Zv ((zI j).2 (.inl hl))⟩
 .rcases(zI j).1 hj with hj|rfl
  .exact h.sub j hj
  .exact hi
 .rcases(zI x).1 hx with hx|rfl
  .exact(zI y).2 (.inl (h.down x y JF hx))
  .exact(zI y).2 (.inl (hr y JF))
theorem DS.Un{K:List CV->Mem->Prop}{L L':Nat->Prop}{bf:List Nat}{c:Bool}{i:Nat}{l:List Nat}{R:nG}{val:Nat->CV}{eu:List (Nat×LO×List CV×CV)}{e aZ:List CV}{m:Mem}(h:DS P bZ ms n ig e0 K L bf c (.cons i (some l) R) val eu e aZ m)(Ct:∀i j,nK ms i j=true->Ul ig i j)(hr:∀k,Edge ig i k->L k)(zI:∀k,L' k↔L k\/k=i){ops:Array Oper}{o:Oper}{lo:LO}(ho:ops[i]? =some o)(ir:cF bZ i=some lo)(jZ:wz P ops o=some lo){ρ:bJ}{a:Act}{w:World}(hI:Inv N ρ0 m0 w0 ⟨aZ,m⟩ ρ a w){K1:Act->World->Prop}{Q:Exit->Act->World->Prop}(hn:∀jE sf e' fR m' U' a' w',Inv N ρ0 m0 w0 ⟨fR,m'⟩ U' a' w'->DS P bZ ms n ig e0 K L' (i::bf) true R jE sf e' fR m'->K1 a' w'):wpOp P ops Q i K1 a w:=by
 have p7:=h.go;simp only[ef,aae]at p7;obtain⟨_,C4,g7,g8⟩:=p7;obtain⟨g1,g2,g4,g5⟩:=jF C4;have hc:=h.Xe;simp only[zn,HF]at hc;obtain⟨Ft,Xg,hc⟩:=aW.1 hc;rw[ir]at Xg;cases Xg;have hiL:¬L i:=λhl=>g2 (h.sub i hl)
 have Xh:∀k,nK ms i k=true->L k:=λk hm=>Ct i k hm L h.down hr
 have wO:oi P lo e m λ_ v m'=>Wv P m' eu l/\vC P bZ R eu K (yZ lo.dst v e) m':=by
  rw[gQ]at hc|-;rcases hc with⟨h1,h2⟩|⟨h1,h2⟩
  .exact .inl ⟨h1,zE h2 λv m' hk=>sa.1 hk⟩
  .exact .inr ⟨h1,sa.1 h2⟩
 have MS:I8 bZ i=lo.dst:=by simp[I8,ir]
 have hag:∀t,t∈lo.looks->kP e t=kP aZ t:=λt ht=>by
  rw[mh,mh];rcases aag t e0.length with aD|eG
  .by_cases hex:∃k,k∈bf/\dm bZ t k=true
   .obtain⟨k,hk,hw⟩:=hex;rw[h.se.on t k hk hw aD,h.y3.on t k (Xh k (g4 t (by simpa[oP,ir]using ht) k hk hw)) hw aD]
   .have FF:∀k,k∈bf->dm bZ t k=false:=λk hk=>by
     cases hw:dm bZ t k with
     |false=>rfl
     |true=>exact absurd ⟨k,hk,hw⟩ hex
    rw[h.se.off t FF,h.y3.off t λk hk=>FF k (h.sub k hk)]
  .rw[aaH (by rw[h.se.len];exact eG),aaH (by rw[h.y3.len];exact eG)]
 have hv:=vf hag wO;have Cs:∀t k,k∈bf->lo.dst=some t->dm bZ t k=false:=λt k hk hd=>(g5 t (by rw[MS];exact hd) k hk).1
 have Um:∀t,dm bZ t i=true->lo.dst=some t:=λt hw=>by obtain⟨Ft,h1,h2⟩:=lw.1 hw;rw[ir]at h1;cases h1;exact h2
 refine zF ho jZ hI hv λv m' U' a' w' hk p6=>?_
 obtain⟨aaM,hd⟩:=hk;let jE:Nat->CV:=λk=>if k=i then v else val k
 have j7:∀k,k∈bf->jE k=val k:=λk hk=>if_neg λ(e:k=i)=>g2 (e▸hk)
 refine hn jE eu _ _ m' U' a' w' p6 ⟨g8,hd,h.se.step ir Cs (by simp[jE]) j7 (by simp[or_comm]),
  h.y3.step ir (λt k hk hd=>Cs t k (h.sub k hk) hd) (by simp[jE]) (λk hk=>j7 k (h.sub k hk)) zI,λj hj=>?_,λx y JF hx=>?_,λt j k hj hk MT HV=>?_,λj hj Zv=>?_⟩
 .rcases(zI j).1 hj with hj|rfl
  .simp[h.sub j hj]
  .simp
 .rcases(zI x).1 hx with hx|rfl
  .exact(zI y).2 (.inl (h.down x y JF hx))
  .exact(zI y).2 (.inl (hr y JF))
 .rcases aaL.1 hj with e1|yX<;>rcases aaL.1 hk with e2|kL
  .rw[e1,e2]
  .rw[e1]at MT;rw[Cs t k kL (Um t MT)]at HV;cases HV
  .rw[e2]at HV;rw[Cs t j yX (Um t HV)]at MT;cases MT
  .exact h.AV t j k yX kL MT HV
 .have hjL:¬L j:=λhl=>Zv ((zI j).2 (.inl hl))
  have hji:j≠i:=λe=>Zv ((zI j).2 (.inr e))
  have yX:j∈bf:=by
   rcases aaL.1 hj with e|h
   .exact absurd e hji
   .exact h
  obtain⟨Ft,e1,h1,h2,h3,h4,h5,h6⟩:=h.tR j yX hjL;refine⟨Ft,e1,h1,h2,by rw[j7 j yX];exact h3,?_,h5,λt ht aD=>?_⟩
  .rw[j7 j yX];have g7j:=abr.1 g7 j yX;have Uo:mg bZ j=true:=by simpa[mg,h1]using h2
   simp only[Uo,adX,ac0,ab0,List.contains_iff_mem]at g7j;rcases g7j with hm|hp|hl
   .exact absurd (Xh j hm) hjL
   .exact h4.pure (by simpa[Fa,h1]using hp) m'
   .have:=C5 aaM hl;rw[h3]at this;obtain⟨_,hx,VW⟩:=aW.1 this;cases hx;obtain⟨v',hv',hq⟩:=vg h2 VW;simp only at hv';rw[<-hv'];exact hq
  .rcases h6 t ht aD with⟨k,hk,hw,hm,he⟩|⟨f4,he⟩
   .exact .inl ⟨k,by simp[hk],hw,hm,by rw[j7 k hk];exact he⟩
   .refine .inr ⟨λk hk hw=>?_,he⟩
    rcases aaL.1 hk with e2|kL
    .rw[e2]at hw|-;exact .inr ((g5 t (by rw[MS];exact Um t hw) j yX).2 ht)
    .exact f4 k kL hw
theorem DS.any{K:List CV->Mem->Prop}{L L':Nat->Prop}(Ct:∀i j,nK ms i j=true->Ul ig i j){i:Nat}(iU:i<n)(hL:¬L i)(hr:∀k,Edge ig i k->L k)(zI:∀k,L' k↔L k\/k=i){ops:Array Oper}{o:Oper}{lo:LO}(ho:ops[i]? =some o)(ir:cF bZ i=some lo)(jZ:wz P ops o=some lo){aZ:List CV}{m:Mem}{ρ:bJ}{a:Act}{w:World}(hI:Inv N ρ0 m0 w0 ⟨aZ,m⟩ ρ a w){K1:Act->World->Prop}{Q:Exit->Act->World->Prop}(hn:∀bf R jE sf e' fR m' U' a' w',Inv N ρ0 m0 w0 ⟨fR,m'⟩ U' a' w'->DS P bZ ms n ig e0 K L' bf true R jE sf e' fR m'->K1 a' w'):
  ∀(R:nG)(bf:List Nat)(c:Bool)(val:Nat->CV)(eu:List (Nat×LO×List CV×CV))(e:List CV),(c=false->i∈R.hd)->DS P bZ ms n ig e0 K L bf c R val eu e aZ m->wpOp P ops Q i K1 a w:=by
 intro R
 induction R with
 |nil=>
  intro bf c val eu e hc h;cases c with
  |false=>have:=hc rfl;simp[nG.hd]at this
  |true=>
   have p7:=h.go;simp only[ef,adC,abr]at p7;have hi:i∈bf:=by simpa using p7 i (by simpa using iU)
   exact h.HW Ct hi hL hr zI ho ir jZ hI λfR U' a' w'=>hn _ _ _ _ _ fR m U' a' w'
 |cons q L7 R ih=>
  intro bf c val eu e hc h;cases L7 with
  |none=>
   have hct:c=true:=by have p7:=h.go;simp only[ef,aae]at p7;exact p7.1
   subst hct;by_cases hi:i∈bf
   .exact h.HW Ct hi hL hr zI ho ir jZ hI λfR U' a' w'=>hn _ _ _ _ _ fR m U' a' w'
   .obtain⟨jE,sf,e',h'⟩:=h.ahead;exact ih _ _ _ _ _ (λh=>by cases h) h'
  |some l=>
   have p7:=h.go;simp only[ef,aae]at p7;obtain⟨MU,C4,_⟩:=p7;obtain⟨_,g2,_⟩:=jF C4;by_cases hi:i∈bf
   .cases c with
    |false=>
     have hq:=hc rfl;simp only[nG.hd,ab5]at hq;subst hq;exact absurd hi g2
    |true=>exact h.HW Ct hi hL hr zI ho ir jZ hI λfR U' a' w'=>hn _ _ _ _ _ fR m U' a' w'
   .have y4:q=i:=by
     cases c with
     |false=>
      have hq:=hc rfl;simp only[nG.hd,ab5]at hq;exact hq.symm
     |true=>
      simp only[adX,ac0]at MU;rcases zG MU iU hi with hq|⟨f,hf,hm⟩
      .simpa using Eq.symm (by simpa using hq)
      .simp only[ab5]at hf;subst hf;exact absurd (h.sub _ (Ct i _ hm L h.down hr)) g2
    subst y4;exact h.Un Ct hr zI ho ir jZ hI λjE sf e' fR m' U' a' w'=>hn _ _ _ _ _ fR m' U' a' w'
 |wm x y Up MW=>
  intro bf c val eu e hc h;have p7:=h.go;simp only[ef,aae]at p7;obtain⟨MU,hgx,hgy⟩:=p7;obtain⟨_,hhx⟩:=lA hgx;obtain⟨_,hhy⟩:=lA hgy;have Uq:=h.Xe;simp only[Me]at Uq;have goX:i∈x.hd->wpOp P ops Q i K1 a w:=λhi=>Up bf false val eu e (λ_=>hi) ⟨hgx,Uq.1,h.se,h.y3,h.sub,h.down,h.AV,h.tR⟩
  have goY:i∈y.hd->wpOp P ops Q i K1 a w:=λhi=>MW bf false val eu e (λ_=>hi) ⟨hgy,Uq.2,h.se,h.y3,h.sub,h.down,h.AV,h.tR⟩
  cases c with
  |false=>
   have hq:=hc rfl;simp only[nG.hd,abD]at hq;exact hq.elim goX goY
  |true=>
   by_cases hi:i∈bf
   .exact h.HW Ct hi hL hr zI ho ir jZ hI λfR U' a' w'=>hn _ _ _ _ _ fR m U' a' w'
   .simp only[adX,ac0]at MU;rcases zG MU iU hi with hq|⟨f,hf,hm⟩
    .rcases abD.1 hq with hq|hq
     .exact goX hq
     .exact goY hq
    .have hfL:=h.sub _ (Ct i f hm L h.down hr);rcases abD.1 hf with hf|hf
     .exact absurd hfL (hhx f hf).2
     .exact absurd hfL (hhy f hf).2
theorem zJ:∀(l:List Bool)(i:Nat),l[i]? =some false->(l.set i true).count false+1=l.count false
 | [],i,h=>by simp at h
 |b::r,0,h=>by simp at h;subst h;simp
 |b::r,i+1,h=>by
  have:=zJ r i (by simpa using h)
  cases b<;>simp[List.count_cons]at this|-<;>omega
theorem QF{md:Region.Mode}{ops:Array Oper}{Q:Exit->Act->World->Prop}{K:List CV->Mem->Prop}(hQ:∀aZ m ρ a w,K aZ m->Inv N ρ0 m0 w0 ⟨aZ,m⟩ ρ a w->Q .normal a w)(Ct:∀i j,nK ms i j=true->Ul (lu md ops) i j)(aaN:∃l,zl (lu md ops) n [] l=true)(AW:∀(i:Nat)o,ops[i]? =some o->∃lo,cF bZ i=some lo/\wz P ops o=some lo)(hn:n=ops.size)(jT:n=bZ.length):
  ∀(fuel:Nat) (listed:Array Bool) (a:Act) (w:World) (ρ:bJ) (m:Mem) (aZ:List CV) (bf:List Nat) (R:nG) (val:Nat->CV)
   (eu:List (Nat×LO×List CV×CV)) (e:List CV),listed.size=n->listed.toList.count false=fuel->Inv N ρ0 m0 w0 ⟨aZ,m⟩ ρ a w->
   DS P bZ ms n (lu md ops) e0 K (λi=>listed[i]? =some true) bf true R val eu e aZ m->wpAny P md ops Q fuel listed a w:=by
 have MX:∀(listed:Array Bool)i,i∈Region.ready md ops listed->listed[i]? =some false/\i<ops.size/\∀k,Edge (lu md ops) i k->listed[k]? =some true:=by
  intro listed i hi;obtain⟨h0,o,ho,f4⟩:=mem_ready.1 hi;refine⟨?_,(aaF.1 ho).1,λk hk=>?_⟩
  .rw[abE]at h0;cases hg:listed[i]? with
   |none=>rw[hg]at h0;simp at h0
   |some b=>rw[hg]at h0;simp at h0;rw[h0]
  .obtain⟨l,hl,gA⟩:=hk;simp only[lu,Tr,abz,ho,aaG,aaA]at hl;subst hl;obtain⟨ed,Xi,rfl⟩:=aaz.1 gA;obtain⟨aaO,aaP⟩:=acL.1 Xi;have:=f4 ed (by simpa using aaO) aaP
   rw[abE]at this;cases hg:listed[ed.on]? with
   |none=>rw[hg]at this;simp at this
   |some b=>rw[hg]at this;simp at this;rw[this]
 have Ur:∀(i:Nat)o ed,ops[i]? =some o->ed∈o.after->Region.binds md ed=true->Edge (lu md ops) i ed.on:=by
  intro i o ed ho Xi hb;refine⟨(o.after.toList.filter (Region.binds md)).map (·.on),?_,?_⟩
  .simp[lu,Tr,ho]
  .exact aaz.2 ⟨ed,acL.2 ⟨by simpa using Xi,hb⟩,rfl⟩
 intro fuel
 induction fuel with
 |zero=>
  intro listed a w ρ m aZ bf R val eu e dq Xj hI h;have f4:∀i,i<n->listed[i]? =some true:=by
   intro i hi;have aD:i<listed.size:=om;rw[abI aD];have kz:=List.count_eq_zero.1 Xj;cases hb:listed[i]with
   |true=>rfl
   |false=>exact absurd (by rw[<-hb];exact Array.getElem_mem_toList aD) kz
  constructor
  .rw[List.eq_nil_iff_forall_not_mem];intro i hi;obtain⟨h1,h2,_⟩:=MX listed i hi;rw[f4 i om]at h1;cases h1
  .have hR:R= .nil:=by
    cases R with
    |nil=>rfl
    |cons q L7 R=>
     have p7:=h.go;cases L7 with
     |none=>
      simp only[ef,aae]at p7;obtain⟨g1,g2,_⟩:=jF p7.2.1;exact absurd (h.sub q (f4 q g1)) g2
     |some l=>
      simp only[ef,aae]at p7;obtain⟨g1,g2,_⟩:=jF p7.2.1;exact absurd (h.sub q (f4 q g1)) g2
    |wm x y=>
     have p7:=h.go;simp only[ef,aae]at p7;obtain⟨⟨f,hf⟩,hx⟩:=lA p7.2.1;obtain⟨g1,g2⟩:=hx f hf;exact absurd (h.sub f (f4 f g1)) g2
   subst hR;have hbf:∀i,i∈bf->i<n\/n<=i:=λi _=>aag i n
   have hnw:∀i t,n<=i->dm bZ t i=false:=by
    intro i t hi;cases hw:dm bZ t i with
    |false=>rfl
    |true=>
     obtain⟨lo,ir,_⟩:=lw.1 hw;rw[aV]at ir;have:=(Ki.1 ir).1;omega
   have he:e=aZ:=by
    have e1:mw bZ e0 (λi=>i∈bf/\i<n) val e:=⟨h.se.len,λt k hk=>h.se.on t k hk.1,λt Xk=>h.se.off t λk hk=>by
     rcases hbf k hk with aD|eG
     .exact Xk k ⟨hk,aD⟩
     .exact hnw k t eG⟩
    have e2:mw bZ e0 (λi=>i∈bf/\i<n) val aZ:=h.y3.Xd (λ_ _=>rfl) λk=>⟨λhk=>f4 k hk.2,λhk=>⟨h.sub k hk,by have:=(aaF.1 hk).1;omega⟩⟩
    exact e1.ext e2
   subst he;exact hQ _ _ ρ a w h.Xe hI
 |succ fuel ih=>
  intro listed a w ρ m aZ bf R val eu e dq Xj hI h;constructor
  .intro T5;exfalso;have hex:∃i:Nat,listed[i]? =some false:=by
    have:false∈listed.toList:=by apply List.count_pos_iff.1;omega
    obtain⟨i,hi⟩:=aab this;exact⟨i,by simpa using hi⟩
   obtain⟨i,hi⟩:=hex;obtain⟨l,hl⟩:=aaN;have iU:i<n:=by have:=(aaF.1 hi).1;omega
   have:=wZ (L:=λi=>listed[i]? =some true) (λi hi QG=>?_) l [] hl (λ_ h=>by cases h) i iU
   .rw[hi]at this;cases this
   .refine Yl λXl=>?_
    have aD:i<ops.size:=om;have C6:i<listed.size:=om;have hf:listed[i]? =some false:=by
     rw[abI C6]at QG|-;cases fK:listed[i]with
     |true=>rw[fK]at QG;exact absurd rfl QG
     |false=>rfl
    have hm:i∈Region.ready md ops listed:=by
     rw[mem_ready];refine⟨by rw[abE,hf];rfl,ops[i],abI aD,λed Xi hb=>?_⟩
     have hE:=Ur i _ ed (abI aD) Xi hb;have hL:listed[ed.on]? =some true:=Yl λhc=>Xl ⟨_,hE,hc⟩
     rw[abE,hL];rfl
    rw[T5]at hm;cases hm
  .intro i hi;obtain⟨h1,h2,h3⟩:=MX listed i hi;obtain⟨lo,ir,jZ⟩:=AW i _ (abI h2);have aD:i<listed.size:=om;refine DS.any (L:=λi=>listed[i]? =some true) (L':=λk=>(listed.setIfInBounds i true)[k]? =some true) Ct om (by rw[h1];simp) h3 (λk=>?_) (abI h2) ir jZ hI
    (λbf R jE sf e' fR m' U' a' w' p6 h'=>ih _ a' w' U' m' fR bf R jE sf e' (by simp[dq]) ?_ p6 h') R bf true val eu e (λh=>by cases h) h
   .by_cases hk:i=k
    .subst hk;rw[ab3 aD];simp
    .rw[acM hk];constructor
     .exact .inl
     .rintro(h|h)
      .exact h
      .exact absurd h.symm hk
   .have:=zJ listed.toList i (by simpa using h1)
    rw[Array.toList_setIfInBounds];omega
theorem FG{md:Region.Mode}{ops:Array Oper}{Q:Exit->Act->World->Prop}{K:List CV->Mem->Prop}(hQ:∀aZ m ρ a w,K aZ m->Inv N ρ0 m0 w0 ⟨aZ,m⟩ ρ a w->Q .normal a w){bZ:List LO}(jZ:mX P ops ops.toList=some bZ){sched:nG}(fA:rQ bZ (lu md ops) sched=true){st:St}(h:vC P bZ sched [] K st.aZ st.mem){ρ:bJ}{a:Act}{w:World}(hI:Inv N ρ0 m0 w0 st ρ a w):wpAny P md ops Q ops.size (Array.replicate ops.size false) a w:=by
 obtain⟨hlen,AW⟩:=zH jZ;simp only[rQ,aae]at fA;have Ct:∀i j,nK (bo bZ.length (lu md ops)) i j=true->Ul (lu md ops) i j:=JE;have kz:∀i:Nat,¬(Array.replicate ops.size false)[i]? =some true:=by
  intro i hi;rw[Array.getElem?_replicate]at hi;split at hi<;>simp at hi
 refine QF (n:=bZ.length) (e0:=st.aZ) hQ Ct ⟨_,fA.1⟩ (λi o ho=>AW i o (by simpa using ho)) (by simpa using hlen.symm) rfl ops.size _ a w ρ st.mem st.aZ [] sched (λ_=>.undef) [] st.aZ
  (by simpa using hlen) aC hI ?_
 exact⟨fA.2,h,⟨rfl,λt k hk=>(adb hk).elim,λ_ _=>rfl⟩,⟨rfl,λt k hk=>absurd hk (kz k),λ_ _=>rfl⟩,λi hi=>absurd hi (kz i),λi j _ hi=>absurd hi (kz i),λt j k hj=>(adb hj).elim,λj hj=>(adb hj).elim⟩
theorem C7{bZ:List LO}{K:Ex->St->Prop}{s:St}:∀{l:List nG},Ql P bZ K s l->∀x,x∈l->vC P bZ x [] (Ja K) s.aZ s.mem
 | [],_,x,hx=>by cases hx
 | [y],h,x,hx=>by obtain rfl:=ab5.1 hx;exact h
 |y::z::r,h,x,hx=>by
  rcases aaL.1 hx with rfl|hx
  .exact h.1
  .exact C7 h.2 x hx
theorem AX{ops:Array Oper}{Q:Exit->Act->World->Prop}{K:Ex->St->Prop}(hQ:∀aZ m ρ a w,K .normal ⟨aZ,m⟩->Inv N ρ0 m0 w0 ⟨aZ,m⟩ ρ a w->Q .normal a w){bZ:List LO}(jZ:mX P ops ops.toList=some bZ){qM:List nG}(fA:wA P bZ ops=some qM){st:St}(h:Ql P bZ K st qM){ρ:bJ}{a:Act}{w:World}(hI:Inv N ρ0 m0 w0 st ρ a w)(t:Nat):wpOps P ops Q (Region.schedule (P.follows .mixedOrders) ops t) a {w with drawn:=w.drawn+1}:=by
 have f4:∀md,md∈wa P ops->∃s,s∈qM/\rQ bZ (lu md ops) s=true:=by
  simp only[wA]at fA;split at fA
  .rename_i hc;cases fA;exact λmd VY=>⟨_,aC,abr.1 hc md VY⟩
  .split at fA
   .rename_i hc;cases fA;exact λmd VY=>by have:=abr.1 hc md VY;obtain⟨s,hs,ER⟩:=abc.1 this;exact⟨s,hs,ER⟩
   .cases fA
 have l7:∀md,md∈wa P ops->wpAny P md ops Q ops.size (Array.replicate ops.size false) a {w with drawn:=w.drawn+1}:=λmd VY=>by obtain⟨s,hs,ER⟩:=f4 md VY;exact FG (K:=Ja K) hQ jZ ER (C7 h s hs) hI.drew
 unfold Region.schedule;unfold wa at l7;split
 .rename_i hc;rw[if_pos hc]at l7;exact wpAny_sound ops.size t _ a _ (l7 .any aC)
 .rename_i hc;rw[if_neg hc]at l7;split
  .exact wpAny_sound ops.size (t/2) _ a _ (l7 .text aC)
  .exact wpAny_sound ops.size (t/2) _ a _ (l7 .gc aC)
end
section
variable {P:Program}
def FR(r:Option Nat):Fence:={Fence.wide with round:=r}
theorem QH:FR none=Fence.wide:=rfl
theorem HX(l:Nat):FR (some l)=Fence.wide.inRound l:=rfl
theorem QI{o:Oper}{i:I}(h:tE P o=some i):∀c,o.op≠.defer c:=by
 intro c e;unfold tE at h;have h0:wy P o=none:=by unfold wy;rw[e]
 rw[h0,e]at h;cases h
theorem w8{ops:Array Oper}:∀{l:List Oper}{bZ:List LO},mX P ops l=some bZ->∀o,o∈l->∀c,o.op≠.defer c
 | [],bZ,h,o,ho=>by cases ho
 |o1::r,bZ,h,o,ho=>by
  obtain⟨lo,lr,rfl,h1,h2⟩:=tP h o1 r rfl;cases ho with
  |head=>
   simp only[wz,U8,Pu]at h1;obtain⟨i,hi,_⟩:=h1;exact QI hi
  |tail _ ho=>exact w8 h2 o ho
theorem iY{r:Option Nat}{ops:Array Oper}{Q:Exit->Act->World->Prop}(l5:∀o,o∈ops.toList->∀c,o.op≠.defer c)(hQ:¬LetsOut Q):
  ∀(l:List Nat)(a:Act)(w:World),wpOps P ops Q l a w->wpOpsIn (FR r) 0 P ops Q l a w
 | [],a,w,h=>h
 |i::rest,a,w,h=>by
  simp only[wpOps]at h;simp only[wpOpsIn];cases ho:ops[i]? with
  |none=>rw[ho]at h;exact iY l5 hQ rest a w h
  |some o=>
   rw[ho]at h;simp only at h|-;have iv:o∈ops.toList:=by have:=aaF.1 ho;obtain⟨h1,h2⟩:=this;rw[<-h2];exact adJ.2 (Array.getElem_mem h1)
   split
   .rename_i hw;rw[if_pos hw]at h;rcases h with h|⟨_,h⟩
    .refine⟨λ_ _=>trivial,?_⟩
     have e:o.semAt (FR r).round a.eval=execOp a.eval o:=Oper.semAt_eq _ _ _ (l5 o iv);rw[e];unfold Oper.wp at h;have up:∀{me:Result Next},o.upon P a (wpOps P ops Q rest) Q me->o.uponIn (FR r) 0 P a (wpOpsIn (FR r) 0 P ops Q rest) Q me:=by
      intro me h;unfold Oper.upon at h;split at h
      .exact iY l5 hQ rest _ _ h
      .exact iY l5 hQ rest _ _ h
      .exact iY l5 hQ rest _ _ h
      .refine⟨by simp[FR,Fence.wide],?_⟩
       have h2:=(callsIn_wide (n:=0-1)).2 h;have h3:CallsIn (FR r) (0-1) P _ _ _ _:=h2;refine h3.mono λe w' hR=>?_
       cases e with
       |returned v=>exact iY l5 hQ rest _ _ hR
       |panicked c=>exact hR
       |outgrown=>exact hR
      .refine⟨by simp[FR,Fence.wide],?_⟩
       intro c cs _;obtain⟨v,w',hR,hs⟩:=h c cs;exact⟨v,w',iY l5 hQ rest _ _ hR,(stepsIn_wide.2 hs:StepsIn (Machine.fenced P Fence.wide) P _ _)⟩
      .exact h
      .exact h.elim
     exact up h
    .exact absurd h hQ
   .rename_i hw;rw[if_neg hw]at h;exact⟨λ_ _=>trivial,iY l5 hQ rest _ _ h⟩
theorem vK{F:Fence}{n:Nat}{γ:Type}{c:Code}{Q:Exit->Act->World->Prop}{a:Act}{w:World}(I:γ->Act->World->Prop)(μ:γ->Nat)(g0:γ)(h₀:I g0 a w)(round:∀g a w,I g a w->c.wpIn F n P (Exit.then (λa' w'=>∃g',I g' a' w'/\μ g'<μ g) Q) a w):(Code.loop c).wpIn F n P Q a w:=by
 intro b k cs hro hb hr;have key:∀j g a w,μ g=j->I g a w->
   ∃e a' w',Q e a' w'/\ArrivesIn (Machine.fenced P F) P (lone (b.atR a (.code c:: .inLoop c::k)) cs w) b k cs e a' w':=by
  intro j
  induction j using Nat.strongRecOn with
  |_ j ih=>
   intro g a w hn hI;obtain⟨e,a₁,w₁,hq,C8⟩:=round g a w hI b (.inLoop c::k) cs hro hb hr;cases e with
   |normal=>
    obtain⟨g₁,Xm,aD⟩:=hq;obtain⟨e₂,a₂,w₂,Xn,QJ⟩:=ih (μ g₁) (hn▸aD) g₁ a₁ w₁ rfl Xm;exact⟨e₂,a₂,w₂,Xn,.of_steps (StepsIn.trans C8 (.one (fenced_calm hb hr rfl) stepR_inLoop)) QJ⟩
   |exit id=>exact⟨_,a₁,w₁,hq,.pass (x:= .inLoop c) rfl (λ_ _=>.inl aC) C8⟩
   |goto l=>exact⟨_,a₁,w₁,hq,.pass (x:= .inLoop c) rfl (λ_ _=>.inl aC) C8⟩
   |ret=>exact⟨_,a₁,w₁,hq,.pass (x:= .inLoop c) rfl (λ_ _=>.inl aC) C8⟩
   |panic ch=>exact⟨_,a₁,w₁,hq,.pass (x:= .inLoop c) rfl (λ_ _=>.inl aC) C8⟩
   |outgrown=>exact⟨_,a₁,w₁,hq,.pass (x:= .inLoop c) rfl (λ_ _=>.inl aC) C8⟩
 obtain⟨e,a',w',hq,C8⟩:=key _ g0 a w rfl h₀;exact⟨e,a',w',hq,.of_steps (.one (fenced_calm hb hr rfl) stepR_loop) C8⟩
structure vL(ρ:bJ)(m:Mem)(w w':World):Prop where
 size:w.heap.size<=w'.heap.size
 S:∀b,ρ.S b->w'.heap[b]? =w.heap[b]?
 aO:∀k,Live ρ m k->w'.heap[(ρ.aI k).b]? =w.heap[(ρ.aI k).b]?
theorem vL.cn{ρ:bJ}{m:Mem}{w w':World}(h:vL ρ m w w'):iM ρ w ρ w':=⟨Yj _,λ_ _=>rfl,λ_ h=>h,h.S⟩
theorem aA.vM{ρ:bJ}{m:Mem}{w w':World}(hM:aA ρ m w)(h:vL ρ m w w'):aA ρ m w':=by
 have g:=h.cn;refine⟨hM.n,λb hb=>aaJ (hM.S b hb) h.size,λk hk=>⟨aaJ (hM.aO k hk).1 h.size,(hM.aO k hk).2⟩,hM.inj,λid b hb=>?_,λid i j esz el ho bg=>?_⟩
 .have h1:=hM.bk id b hb;cases b with
  |aU=>trivial
  |var cs=>
   obtain⟨cur,b8,h2⟩:=h1;exact⟨cur,b8.dH (h.aO (.aj id) ⟨_,hb,aC,aC⟩),λj c hj=>let⟨u,hu,hd⟩:=h2 j c hj;⟨u,hu,bm.cn g aC hd⟩⟩
  |row esz elems=>
   obtain⟨h2,h3,h4,h5,h6⟩:=h1;refine⟨h2,h3,h4,h5,λhp=>?_⟩
   obtain⟨cur,b8,h7,h8⟩:=h6 hp;exact⟨cur,b8.dH (h.aO (.aj id) ⟨_,hb,aC,λ_=>hp⟩),h7,λi cs j c hi hj=>let⟨u,hu,hd⟩:=h8 i cs j c hi hj;⟨u,hu,bm.cn g (by intro kJ i' j' e';cases e';rw[hM.n];exact(Ki.1 hb).1) hd⟩⟩
  |mp es=>
   obtain⟨bt,ck,h2,h3,h4⟩:=h1;exact⟨bt,ck,⟨(h.aO (.aj id) ⟨_,hb,aC,aC⟩).trans h2.1,h2.2⟩,h3,λi e he=>let⟨e',mT,hk,hd⟩:=h4 i e he;⟨e',mT,hk,dk.cn g hd⟩⟩
  |it cur left=>
   obtain⟨mb,seen,ck,bt,h2,h3,h4,h5,h6⟩:=h1;exact⟨mb,seen,ck,bt,(h.aO (.aj id) ⟨_,hb,aC,aC⟩).trans h2,h3,h4,(h.S mb h4).trans h5,h6⟩
  |mo esz es so=>exact cK.cn (bk:= .mo esz es so) g (by rw[hM.n];exact(Ki.1 hb).1) (λ_ _=>h.aO (.aj id) ⟨_,hb,aC,aC⟩) h1
  |iw mid ip seen=>exact cK.cn (bk:= .iw mid ip seen) g (by rw[hM.n];exact(Ki.1 hb).1) (λ_ _=>h.aO (.aj id) ⟨_,hb,aC,aC⟩) h1
 .obtain⟨cur,b8,h2,h3,h4⟩:=hM.ei id i j esz el ho bg;exact⟨cur,b8.dH (h.aO (.sub id i j) ⟨⟨_,_,ho⟩,bg⟩),h2,h3,λi cs j d hi hj=>let⟨u,hu,hd⟩:=h4 i cs j d hi hj;⟨u,hu,dj.mono g.S g.heap hd⟩⟩
theorem bn.cn{ρ U':bJ}{w w':World}{aZ:List CV}{tmps:Array Value}(g:iM ρ w U' w')(hE:bn ρ w aZ tmps):bn U' w' aZ tmps:=
 ⟨hE.size,λi c hi=>let⟨v,hv,hd⟩:=hE.jR i c hi;⟨v,hv,cf.cn g hd⟩⟩
theorem FC.vM{N:Nat}{ρ:bJ}{m:Mem}{w w':World}{ds:List Deferred}(h:vL ρ m w w')(hd:FC N ρ w ds):FC N ρ w' ds:=by obtain⟨Ds,h1,h2,h3⟩:=hd;exact⟨Ds,h1,h2,λD hD=>⟨(h3 D hD).1,(h3 D hD).2.1,(h.S D (h3 D hD).2.1).trans (h3 D hD).2.2⟩⟩
variable {N:Nat} {ρ0:bJ} {m0:Mem} {w0:World}
theorem Inv.vM{st:St}{ρ:bJ}{a:Act}{w w':World}(hI:Inv N ρ0 m0 w0 st ρ a w)(h:vL ρ st.mem w w')(hb:∀b,b<w0.heap.size->w'.heap[b]? =w.heap[b]?)(ho:w'.os=w.os)(ht:w'.tape=w.tape)(hu:w'.output=w.output):Inv N ρ0 m0 w0 st ρ a w':=
 ⟨⟨hI.ext.n,hI.ext.aI,hI.ext.S,hI.ext.S',hI.ext.aO,λb tL hk=>(hb b tL).trans (hI.ext.frame b tL hk),abF hI.ext.size h.size,ho.trans hI.ext.os,ht.trans hI.ext.tape,hu.trans hI.ext.output⟩,
  hI.mem.vM h,hI.aZ.cn h.cn,hI.defers.vM h,hI.hN,hI.n0⟩
def q8(ρ:bJ)(m:Mem)(b:Nat):Prop:= ¬ρ.S b/\∀k,Live ρ m k->(ρ.aI k).b≠b
theorem q8.ext{ρ U':bJ}{m m':Mem}{w w':World}{b:Nat}(h:q8 ρ m b)(x:Ext ρ m w U' m' w')(hb:b<w.heap.size):q8 U' m' b:=by
 refine⟨λhs=>?_,λk hk e=>?_⟩
 .rcases x.S' b hs with h1|h1|⟨k,hk,e⟩
  .exact h.1 h1
  .omega
  .exact h.2 k hk e
 .rcases x.aO k hk with h1|⟨k0,h0,e0⟩
  .omega
  .exact h.2 k0 h0 (e0.trans e)
theorem q8.chg{n0:Nat}{ρ U':bJ}{m m':Mem}{b:Nat}(h:q8 ρ m b)(x:TY n0 ρ m U' m'):q8 U' m' b:=by
 refine⟨λhs=>?_,λk hk e=>?_⟩
 .rcases x.S' b hs with h1|⟨k,hk,e⟩
  .exact h.1 h1
  .exact h.2 k hk e
 .obtain⟨k0,h0,e0⟩:=x.aO k hk;exact h.2 k0 h0 (e0.trans e)
theorem vL.put{ρ:bJ}{m:Mem}{w:World}{l:Nat}(h:q8 ρ m l)(o:Obj):vL ρ m w (w.putObj l o):=
 ⟨aC,λb hb=>World.putObj_heap_other (by rintro rfl;exact h.1 hb),λk hk=>World.putObj_heap_other (h.2 k hk)⟩
theorem Inv.put{st:St}{ρ:bJ}{a:Act}{w:World}{l:Nat}(hI:Inv N ρ0 m0 w0 st ρ a w)(h:q8 ρ st.mem l)(hl:w0.heap.size<=l)(o:Obj):Inv N ρ0 m0 w0 st ρ a (w.putObj l o):=
 hI.vM (vL.put h o) (λb hb=>World.putObj_heap_other om) rfl rfl rfl
theorem Inv.view{st jD:St}{ρ:bJ}{a:Act}{w:World}(hI:Inv N ρ0 m0 w0 st ρ a w)(mr:ρ0.n=m0.length)(hw:View m0.length st jD):
  ∃U',Inv N ρ0 m0 w0 jD U' a w/\∀b,q8 ρ st.mem b->q8 U' jD.mem b:=by
 obtain⟨U',hM,hc,hd⟩:=hw.go ρ w hI.mem;refine⟨U',⟨⟨by rw[mr,hM.n];exact hw.hn,λid hid=>(hc.aI id (by rw[<-mr];exact hid)).trans (hI.ext.aI id hid),λb hb=>hc.S b (hI.ext.S b hb),λb hb=>?_,λk hk=>?_,hI.ext.frame,hI.ext.size,hI.ext.os,hI.ext.tape,hI.ext.output⟩,hM,?_,hI.defers.s hc.S,hI.hN,hw.hn⟩,λb h=>h.chg hc⟩
 .rcases hc.S' b hb with h|⟨k,hk,rfl⟩
  .exact hI.ext.S' b h
  .exact .inr (hI.ext.aO k hk)
 .obtain⟨k0,h0,e0⟩:=hc.aO k hk;rw[<-e0];exact hI.ext.aO k0 h0
 .refine⟨hI.aZ.size.trans hw.len.symm,λi c hi=>?_⟩
  obtain⟨c0,vZ,MP⟩:=hd i c hi;obtain⟨v,hv,p0⟩:=hI.aZ.jR i c0 vZ;exact⟨v,hv,MP v p0⟩
theorem tS:∀(m:Mem)(kI:List Nat),(qn m kI).length=m.length
 |m,[]=>rfl
 |m,id::r=>by rw[qn,tS,bb,aaI]
theorem nb:∀(m:Mem)(kI:List Nat)(i:Nat)(bk:Bk),(qn m kI)[i]? =some bk->bk= .aU\/(m[i]? =some bk/\i∉kI)
 |m,[],i,bk,h=>.inr ⟨h,aC⟩
 |m,id::r,i,bk,h=>by
  rcases nb _ r i bk h with h|⟨h,hn⟩
  .exact .inl h
  .rw[bb]at h;by_cases hi:id=i
   .subst hi;have aD:id<m.length:=by have:=(Ki.1 h).1;simpa using this
    rw[TK aD]at h;exact .inl (by cases h;rfl)
   .rw[U9 hi]at h;exact .inr ⟨h,by simp;exact⟨λe=>hi e.symm,hn⟩⟩
theorem vj:∀{m:Mem}{kI:List Nat}{cs:List Value},AF m kI cs->kI.length=cs.length/\∀(i:Nat)id v,kI[i]? =some id->cs[i]? =some v->m[id]? =some (.var [.ah (.val v)])/\cu v=true
 |m,[],[],_=>⟨rfl,aC⟩
 |m,id::r,v::vs,h=>by
  obtain⟨h1,h2⟩:=h;obtain⟨e,g⟩:=vj h2;refine⟨by simp[e],λi kJ v' hi hv=>?_⟩
  cases i with
  |zero=>simp at hi hv;subst hi hv;rw[<-aV];exact h1
  |succ i=>exact g i kJ v' (by simpa using hi) (by simpa using hv)
end
section
variable {P:Program} {N:Nat} {ρ0:bJ} {m0:Mem} {w0:World}
structure VZ(ρ:bJ)(m:Mem)(w w':World):Prop where
 size:w.heap.size<=w'.heap.size
 S:∀b off,ρ.S b->w'.cell? ⟨b,off,none⟩=w.cell? ⟨b,off,none⟩
 aO:∀k,Live ρ m k->w'.heap[(ρ.aI k).b]? =w.heap[(ρ.aI k).b]?
 maps:∀b es ck,ρ.S b->w.heap[b]? =some (.map es ck)->w'.heap[b]? =some (.map es ck)
theorem dj.AY{S:Nat->Prop}{w w':World}(hw:∀b off,S b->w'.cell? ⟨b,off,none⟩=w.cell? ⟨b,off,none⟩){d:Dt}{v:Value}(h:dj S w d v):dj S w' d v:=by
 induction h with
 |val v h=>exact .val v h
 |no a=>exact .no a
 |nil esz a cap hc=>exact .nil esz a cap hc
 |sl esz elems b off cap u hb hl bg dq hc hd ih=>
  exact .sl esz elems b off cap u hb hl bg dq (λi cs j d hi hj=>(hw b _ hb).trans (hc i cs j d hi hj)) ih
theorem bm.AY{ρ:bJ}{m:Mem}{w w':World}(x:VZ ρ m w w'){pos:Option (Nat×Nat×Nat)}{c:CC}{v:Value}(h:bm ρ w pos c v):bm ρ w' pos c v:=by
 cases c<;>simp only[bm]at h|-
 case ah=>exact h.AY x.S
 case rK cs=>
  obtain⟨b,off,hv,hb,hc⟩:=h;exact⟨b,off,hv,hb,λj d hj=>let⟨u,hu,hd⟩:=hc j d hj;⟨u,(x.S b _ hb).trans hu,hd.AY x.S⟩⟩
 all_goals exact h
theorem dk.AY{ρ:bJ}{m:Mem}{w w':World}(x:VZ ρ m w w'){r:RV}{v:Value}(h:dk ρ w r v):dk ρ w' r v:=by
 cases r with
 |one c=>exact bm.AY x h
 |agg cs=>
  obtain⟨vs,hv,hl,hc⟩:=h;exact⟨vs,hv,hl,λi c hi=>let⟨u,hu,hd⟩:=hc i c hi;⟨u,hu,hd.AY x⟩⟩
theorem cf.AY{ρ:bJ}{m:Mem}{w w':World}(x:VZ ρ m w w'){r:CV}{v:Value}(h:cf ρ w r v):cf ρ w' r v:=by
 cases r with
 |aH=>trivial
 |undef=>exact h
 |rv r=>exact dk.AY x h
 |bx rs=>
  obtain⟨vs,hv,hl,hc⟩:=h;exact⟨vs,hv,hl,λi c hi=>let⟨u,hu,hd⟩:=hc i c hi;⟨u,hu,hd.AY x⟩⟩
theorem aA.AY{ρ:bJ}{m:Mem}{w w':World}(hM:aA ρ m w)(h:VZ ρ m w w'):aA ρ m w':=by
 refine⟨hM.n,λb hb=>aaJ (hM.S b hb) h.size,λk hk=>⟨aaJ (hM.aO k hk).1 h.size,(hM.aO k hk).2⟩,hM.inj,λid b hb=>?_,λid i j esz el ho bg=>?_⟩
 .have h1:=hM.bk id b hb;cases b with
  |aU=>trivial
  |var cs=>
   obtain⟨cur,b8,h2⟩:=h1;exact⟨cur,b8.dH (h.aO (.aj id) ⟨_,hb,aC,aC⟩),λj c hj=>let⟨u,hu,hd⟩:=h2 j c hj;⟨u,hu,hd.AY h⟩⟩
  |row esz elems=>
   obtain⟨h2,h3,h4,h5,h6⟩:=h1;refine⟨h2,h3,h4,h5,λhp=>?_⟩
   obtain⟨cur,b8,h7,h8⟩:=h6 hp;exact⟨cur,b8.dH (h.aO (.aj id) ⟨_,hb,aC,λ_=>hp⟩),h7,λi cs j c hi hj=>let⟨u,hu,hd⟩:=h8 i cs j c hi hj;⟨u,hu,hd.AY h⟩⟩
  |mp es=>
   obtain⟨bt,ck,h2,h3,h4⟩:=h1;exact⟨bt,ck,⟨(h.aO (.aj id) ⟨_,hb,aC,aC⟩).trans h2.1,h2.2⟩,h3,λi e he=>let⟨e',mT,hk,hd⟩:=h4 i e he;⟨e',mT,hk,hd.AY h⟩⟩
  |it cur left=>
   obtain⟨mb,seen,ck,bt,h2,h3,h4,h5,h6⟩:=h1;exact⟨mb,seen,ck,bt,(h.aO (.aj id) ⟨_,hb,aC,aC⟩).trans h2,h3,h4,h.maps mb bt ck h4 h5,h6⟩
  |mo esz es so=>
   obtain⟨bt,ck,h2,⟨h3,h4⟩,h5⟩:=h1;exact⟨bt,ck,⟨(h.aO (.aj id) ⟨_,hb,aC,aC⟩).trans h2.1,h2.2⟩,⟨h3,λi e he=>let⟨e',mT,hk,hp,hd⟩:=h4 i e he;⟨e',mT,hk,hp,hd.AY h⟩⟩,h5⟩
  |iw mid ip seen=>
   obtain⟨h2,h3,s,h4,h5⟩:=h1;exact⟨h2,h3,s,(h.aO (.aj id) ⟨_,hb,aC,aC⟩).trans h4,h5⟩
 .obtain⟨cur,b8,h2,h3,h4⟩:=hM.ei id i j esz el ho bg;exact⟨cur,b8.dH (h.aO (.sub id i j) ⟨⟨_,_,ho⟩,bg⟩),h2,h3,λi cs j d hi hj=>let⟨u,hu,hd⟩:=h4 i cs j d hi hj;⟨u,hu,hd.AY h.S⟩⟩
theorem bn.AY{ρ:bJ}{m:Mem}{w w':World}(x:VZ ρ m w w'){aZ:List CV}{tmps:Array Value}(hE:bn ρ w aZ tmps):bn ρ w' aZ tmps:=
 ⟨hE.size,λi c hi=>let⟨v,hv,hd⟩:=hE.jR i c hi;⟨v,hv,hd.AY x⟩⟩
theorem sh{fn:Func}{tmps:Array Value}{R:Ending->World->Prop}{ρ:bJ}{m:Mem}{aZ:List CV}(hN:N=w0.heap.size):∀(Ds:List Nat)(w:World),Ds.Nodup->
  (∀D,D∈Ds->N<=D/\ρ.S D/\w.heap[D]? =some (.deferred (some [])))->aA ρ m w->bn ρ w aZ tmps->Ext ρ0 m0 w0 ρ m w->
  (∀w',aA ρ m w'->bn ρ w' aZ tmps->Ext ρ0 m0 w0 ρ m w'->∃v,(results fn tmps).run P w'= .ok v w'/\R (.returned v) w')->
  LeavesInM Fence.wide 0 P fn tmps R (Ds.map λD=>{target:= .collected D,args:= #[]}) .returning w
 | [],w,_,_,hM,hE,hx,h=>by obtain⟨v,h1,h2⟩:=h w hM hE hx;exact⟨v,h1,h2⟩
 |D::Ds,w,hn,hD,hM,hE,hx,h=>by
  obtain⟨qW,QK⟩:=abH.1 hn;obtain⟨d1,d2,d3⟩:=hD D aC;have aD:=(aaF.1 d3).1;have hc:VZ ρ m w (w.putObj D (.deferred none)):=by
   refine⟨aC,λb off hS=>?_,λk hk=>World.putObj_heap_other λe=>(hM.aO k hk).2 (e▸d2),λb es ck hS Xo=>by
    have hb:b≠D:=λe=>by subst e;rw[d3]at Xo;cases Xo
    rw[World.putObj_heap_other hb];exact Xo⟩
   by_cases hb:b=D
   .subst hb;simp only[World.cell?,d3,World.putObj_heap_same aD]
   .simp only[World.cell?,World.putObj_heap_other hb]
  refine⟨aC,.inl ⟨D,_,rfl,run_takeDeferred d3,?_⟩⟩;refine sh hN Ds _ QK (λD' WJ=>?_) (hM.AY hc) (hE.AY hc) ?_ h
  .obtain⟨e1,e2,e3⟩:=hD D' (by simp[WJ])
   exact⟨e1,e2,(World.putObj_heap_other (by rintro rfl;exact qW WJ)).trans e3⟩
  .exact⟨hx.n,hx.aI,hx.S,hx.S',hx.aO,λb hb hk=>(World.putObj_heap_other om).trans (hx.frame b hb hk),by simpa using hx.size,hx.os,hx.tape,hx.output⟩
end
section
variable {P:Program} {N:Nat} {ρ0:bJ} {m0:Mem} {w0:World}
theorem HY{K:Ex->St->Prop}:¬LetsOut (AS N ρ0 m0 w0 K):=by rintro⟨a,w,ex,st,ρ,he,_⟩;simp[C1]at he
theorem HZ:∀lc:LC,lc.er.rN=lc.rN:=by
 intro lc
 induction lc<;>simp_all[LC.er,LC.rN]
theorem C9{l:Nat}{n0:Nat}{st:St}{ρ:bJ}{act:Act}{W:World}{fn:FuncId}{rec0:Loop}{p:Nat}{la lb:LC}{ca cb:Code}{y:ByteArray}{K:Ex->St->Prop}(TU:∀(ρ0:bJ)(m0:Mem)(w0:World)(K:Ex->St->Prop)(st:St)(ρ:bJ)(a:Act)(w:World),ρ0.n=m0.length->aw P m0.length la K st->Inv 0 ρ0 m0 w0 st ρ a w->ca.wpIn (FR (some l)) 0 P (AS 0 ρ0 m0 w0 K) a w)(TV:∀(ρ0:bJ)(m0:Mem)(w0:World)(K:Ex->St->Prop)(st:St)(ρ:bJ)(a:Act)(w:World),ρ0.n=m0.length->aw P m0.length lb K st->Inv 0 ρ0 m0 w0 st ρ a w->cb.wpIn (FR (some l)) 0 P (AS 0 ρ0 m0 w0 K) a w)(hr:rec0.state= .ready/\rec0.pending=none/\rec0.fn=fn/\rec0.tmps=act.tmps/\rec0.params= #[p]/\rec0.assign=ca/\rec0.body=cb)(hI:Inv N ρ0 m0 w0 st ρ act W)(hl:W.heap[l]? =some (.loop rec0))(FF:q8 ρ st.mem l)(Zw:w0.heap.size<=l)(h:nJ st.mem λn1=>aw P n1 la (λex s2=>match ex with
    | .normal=>nJ s2.mem λn2=>aw P n2 lb K s2
    |_=>False) ⟨aX st.aZ p (fe y),st.mem⟩):
  SD P l #[.string y] W λe W'=>∃ex jD U' jump,K ex jD/\Inv N ρ0 m0 w0 ⟨st.aZ,jD.mem⟩ U' act W'/\e= .returned (.bool jump.isNone)/\
   W'.heap[l]? =some (.loop {rec0 with state:=if jump.isNone then .ready else .done,pending:=jump})/\
   ((jump=none/\ex= .normal)\/(jump=some .ret/\ex= .ret)\/∃id,jump=some (.exit id)/\ex= .exit id)/\
   (∀b,b<W.heap.size->b≠l->q8 ρ st.mem b->q8 U' jD.mem b/\W'.heap[b]? =W.heap[b]?)/\q8 U' jD.mem l/\W.heap.size<=W'.heap.size:=by
 obtain⟨r1,r2,r3,r4,r5,r6,r7⟩:=hr;have hy:=run_yield (P:=P) (args:= #[.string y]) hl (by rw[r5];rfl)
 rw[r3,r4,r5,r6,r7]at hy;refine⟨_,_,_,_,hy,?_⟩;have aD:l<W.heap.size:=(aaF.1 hl).1;simp only[gP]at h;have hRo:RoundIn Fence.wide 0 P l fn (act.tmps.setIfInBounds p (.string y)) ca cb W λe W'=>∃ex jD U' jump,K ex jD/\Inv N ρ0 m0 w0 ⟨st.aZ,jD.mem⟩ U' act W'/\e= .returned (.bool jump.isNone)/\
   W'.heap[l]? =some (.loop {rec0 with state:=if jump.isNone then .ready else .done,pending:=jump})/\
   ((jump=none/\ex= .normal)\/(jump=some .ret/\ex= .ret)\/∃id,jump=some (.exit id)/\ex= .exit id)/\
   (∀b,b<W.heap.size->b≠l->q8 ρ st.mem b->q8 U' jD.mem b/\W'.heap[b]? =W.heap[b]?)/\q8 U' jD.mem l/\W.heap.size<=W'.heap.size:=by
  refine roundIn_of_wpIn trivial ?_;have AN:bn ρ W (aX st.aZ p (fe y)) (act.tmps.setIfInBounds p (.string y)):=by rw[bb];exact hI.aZ.set (dj.val _ rfl:cf ρ W (fe y) (.string y))
  have hI1:Inv 0 ρ st.mem W ⟨aX st.aZ p (fe y),st.mem⟩ ρ {tmps:=act.tmps.setIfInBounds p (.string y),defers:=[]} W:=
   ⟨Ext.refl _ _ _,hI.mem,AN,FC.nil,aav _,Yj _⟩
  have hwa:=TU ρ st.mem W _ _ ρ _ W hI.mem.n h hI1;rw[HX]at hwa;refine wpIn_mono hwa λe a1 W1 hp=>?_
  obtain⟨ex,s2,ρ2,he,hK,JG⟩:=hp;cases e<;>simp[C1]at he<;>subst he<;>simp only at hK
  simp only[Exit.then];have zs:W1.heap[l]? =some (.loop rec0):=(JG.ext.frame l aD FF.2).trans hl;have MY:q8 ρ2 s2.mem l:=FF.ext JG.ext aD;have Xp:l<W1.heap.size:=(aaF.1 zs).1;refine⟨_,run_beginRound zs r1,?_⟩;obtain⟨W2,SR⟩:∃W2,W1.putObj l (.loop {rec0 with state:= .busy})=W2:=⟨_,rfl⟩
  rw[SR];have w9:vL ρ2 s2.mem W1 W2:=by rw[<-SR];exact vL.put MY _
  have FH:=JG.mem.vM w9;have hI3:Inv 0 ρ2 s2.mem W2 s2 ρ2 a1 W2:=⟨Ext.refl _ _ _,FH,JG.aZ.cn w9.cn,JG.defers.vM w9,aav _,Yj _⟩;have hwb:=TV ρ2 s2.mem W2 _ _ ρ2 _ W2 FH.n hK hI3;rw[HX]at hwb;refine wpIn_mono hwb λe a3 W3 hp=>?_
  obtain⟨ex,s3,ρ3,he,hK3,P6⟩:=hp;have C6:l<W2.heap.size:=by rw[<-SR];simpa using Xp
  have Zx:W3.heap[l]? =some (.loop {rec0 with state:= .busy}):=by rw[P6.ext.frame l C6 MY.2,<-SR];exact World.putObj_heap_same Xp
  have aaT:l<W3.heap.size:=(aaF.1 Zx).1;have SS:q8 ρ3 s3.mem l:=MY.ext P6.ext C6;have iu:∀(jump:Option Code),((jump=none/\ex= .normal)\/(jump=some .ret/\ex= .ret)\/∃id,jump=some (.exit id)/\ex= .exit id)->
    ∃v w',(Instr.endRound l jump).run P W3= .ok v w'/\∃ex jD U' jump,K ex jD/\Inv N ρ0 m0 w0 ⟨st.aZ,jD.mem⟩ U' act w'/\Ending.returned v= .returned (.bool jump.isNone)/\
     w'.heap[l]? =some (.loop {rec0 with state:=if jump.isNone then .ready else .done,pending:=jump})/\
     ((jump=none/\ex= .normal)\/(jump=some .ret/\ex= .ret)\/∃id,jump=some (.exit id)/\ex= .exit id)/\
     (∀b,b<W.heap.size->b≠l->q8 ρ st.mem b->q8 U' jD.mem b/\w'.heap[b]? =W.heap[b]?)/\q8 U' jD.mem l/\W.heap.size<=w'.heap.size:=by
   intro jump hj;have QL:=run_endRound (P:=P) jump Zx;refine⟨_,_,QL,ex,s3,ρ3,jump,hK3,?_,rfl,World.putObj_heap_same aaT,hj,λb hb Us ho=>?_,SS,?_⟩
   .have x1:Ext ρ0 m0 w0 ρ2 s2.mem W1:=hI.ext.trans JG.ext;have x2:Ext ρ0 m0 w0 ρ2 s2.mem W2:=by rw[<-SR];exact⟨x1.n,x1.aI,x1.S,x1.S',x1.aO,λb hb hk=>(World.putObj_heap_other om).trans (x1.frame b hb hk),by simpa using x1.size,x1.os,x1.tape,x1.output⟩
    have x3:Ext ρ0 m0 w0 ρ3 s3.mem W3:=x2.trans P6.ext;have e1:bn ρ2 W1 st.aZ act.tmps:=hI.aZ.ext hI.mem JG.ext;have e3:bn ρ3 W3 st.aZ act.tmps:=(e1.cn w9.cn).ext FH P6.ext;have d3:FC N ρ3 W3 act.defers:=((hI.defers.ext hI.mem JG.ext).vM w9).ext FH P6.ext;have hI5:Inv N ρ0 m0 w0 ⟨st.aZ,s3.mem⟩ ρ3 act W3:=⟨x3,P6.mem,e3,d3,hI.hN,abF hI.n0 (abF JG.n0 P6.n0)⟩;exact hI5.put SS Zw _
   .have ib:q8 ρ2 s2.mem b:=ho.ext JG.ext hb;have WU:b<W1.heap.size:=aaJ hb JG.ext.size;have fK:b<W2.heap.size:=by rw[<-SR];simpa using WU
    refine⟨ib.ext P6.ext fK,?_⟩;rw[World.putObj_heap_other Us,P6.ext.frame b fK ib.2,<-SR,World.putObj_heap_other Us,JG.ext.frame b hb ho.2]
   .have h1:=JG.ext.size;have h2:W1.heap.size=W2.heap.size:=by rw[<-SR];simp
    have h3:=P6.ext.size;simp only[World.putObj_size];omega
  cases e<;>simp[C1]at he<;>subst he
  .exact iu none (.inl ⟨rfl,rfl⟩)
  .rename_i id;exact iu (some (.exit id)) (.inr (.inr ⟨id,rfl,rfl⟩))
  .exact iu (some .ret) (.inr (.inl ⟨rfl,rfl⟩))
 have hz:(#[p].zip #[Value.string y]).foldl (λtmps x=>tmps.setIfInBounds x.1 x.2) act.tmps=act.tmps.setIfInBounds p (.string y):=aC
 exact hz▸hRo
theorem Inv.Xq{st:St}{ρ:bJ}{a:Act}{w w':World}(hI:Inv N ρ0 m0 w0 st ρ a w)(h:vL ρ st.mem w w')(hb:∀b,b<w0.heap.size->(∀k,Live ρ0 m0 k->(ρ0.aI k).b≠b)->w'.heap[b]? =w.heap[b]?)(ho:w'.os=w.os)(ht:w'.tape=w.tape)(hu:w'.output=w.output):Inv N ρ0 m0 w0 st ρ a w':=
 ⟨⟨hI.ext.n,hI.ext.aI,hI.ext.S,hI.ext.S',hI.ext.aO,λb tL hk=>(hb b tL hk).trans (hI.ext.frame b tL hk),abF hI.ext.size h.size,ho.trans hI.ext.os,ht.trans hI.ext.tape,hu.trans hI.ext.output⟩,
  hI.mem.vM h,hI.aZ.cn h.cn,hI.defers.vM h,hI.hN,hI.n0⟩
theorem aA.aaU{ρ:bJ}{m:Mem}{w:World}{D:Nat}(hM:aA ρ m w)(hD:D<w.heap.size)(hl:∀k,Live ρ m k->(ρ.aI k).b≠D):aA {ρ with S:=λb=>ρ.S b\/b=D} m w:=by
 have g:iM ρ w {ρ with S:=λb=>ρ.S b\/b=D} w:=⟨Yj _,λ_ _=>rfl,λ_ h=>.inl h,λ_ _=>rfl⟩
 have bK:∀k,Live {ρ with S:=λb=>ρ.S b\/b=D} m k↔Live ρ m k:=λk=>by cases k<;>rfl
 refine⟨hM.n,λb hb=>?_,λk hk=>⟨(hM.aO k ((bK k).1 hk)).1,?_⟩,λk k' hk gh e=>hM.inj k k' ((bK k).1 hk) ((bK k').1 gh) e,λid b hb=>?_,λid i j esz el ho bg=>?_⟩
 .rcases hb with hb|rfl
  .exact hM.S b hb
  .exact hD
 .rintro(hs|hs)
  .exact(hM.aO k ((bK k).1 hk)).2 hs
  .exact hl k ((bK k).1 hk) hs
 .have h1:=hM.bk id b hb;cases b with
  |aU=>trivial
  |var cs=>
   obtain⟨cur,b8,h2⟩:=h1;exact⟨cur,b8,λj c hj=>let⟨u,hu,hd⟩:=h2 j c hj;⟨u,hu,bm.cn g aC hd⟩⟩
  |row esz elems=>
   obtain⟨h2,h3,h4,h5,h6⟩:=h1;refine⟨h2,h3,h4,h5,λhp=>?_⟩
   obtain⟨cur,b8,h7,h8⟩:=h6 hp;exact⟨cur,b8,h7,λi cs j c hi hj=>let⟨u,hu,hd⟩:=h8 i cs j c hi hj;⟨u,hu,bm.cn g (by intro kJ i' j' e';cases e';rw[hM.n];exact(Ki.1 hb).1) hd⟩⟩
  |mp es=>
   obtain⟨bt,ck,h2,h3,h4⟩:=h1;exact⟨bt,ck,h2,h3,λi e he=>let⟨e',mT,hk,hd⟩:=h4 i e he;⟨e',mT,hk,dk.cn g hd⟩⟩
  |it cur left=>
   obtain⟨mb,seen,ck,bt,h2,h3,h4,h5,h6⟩:=h1;exact⟨mb,seen,ck,bt,h2,h3,g.S _ h4,(g.heap mb h4).trans h5,h6⟩
  |mo esz es so=>exact cK.cn (bk:= .mo esz es so) g (by rw[hM.n];exact(Ki.1 hb).1) (λ_ _=>rfl) h1
  |iw mid ip seen=>exact cK.cn (bk:= .iw mid ip seen) g (by rw[hM.n];exact(Ki.1 hb).1) (λ_ _=>rfl) h1
 .obtain⟨cur,b8,h2,h3,h4⟩:=hM.ei id i j esz el ho bg;exact⟨cur,b8,h2,h3,λi cs j d hi hj=>let⟨u,hu,hd⟩:=h4 i cs j d hi hj;⟨u,hu,dj.mono g.S g.heap hd⟩⟩
theorem Live.jk{ρ:bJ}{m:Mem}{kI:List Nat}{k:gv}(h:Live ρ (qn m kI) k):Live ρ m k/\k.id∉kI:=by
 cases k with
 |aj id=>
  obtain⟨bk,h1,h2,h3⟩:=h;rcases nb m kI id bk h1 with rfl|⟨h4,h5⟩
  .exact absurd rfl h2
  .exact⟨⟨bk,h4,h2,h3⟩,h5⟩
 |sub id i j=>
  obtain⟨⟨esz,elems,b2,h1,h2⟩,h4⟩:=h;rcases nb m kI id _ h1 with rfl|⟨h5,h6⟩
  .cases h2
  .exact⟨⟨⟨esz,elems,b2,h5,h2⟩,h4⟩,h6⟩
theorem aA.jk{ρ:bJ}{m:Mem}{w:World}(hM:aA ρ m w)(kI:List Nat):aA ρ (qn m kI) w:=by
 refine⟨by rw[tS];exact hM.n,hM.S,λk hk=>hM.aO k hk.jk.1,λk k' hk gh=>hM.inj k k' hk.jk.1 gh.jk.1,λid b hb=>?_,λid i j esz el ho bg=>?_⟩
 .rcases nb m kI id b hb with rfl|⟨h,_⟩
  .trivial
  .exact hM.bk id b h
 .obtain⟨b2,h1,h2⟩:=ho;rcases nb m kI id _ h1 with rfl|⟨h5,_⟩
  .cases h2
  .exact hM.ei id i j esz el ⟨b2,h5,h2⟩ bg
theorem Inv.jk{st:St}{ρ:bJ}{a:Act}{w:World}(hI:Inv N ρ0 m0 w0 st ρ a w)(kI:List Nat):Inv N ρ0 m0 w0 ⟨st.aZ,qn st.mem kI⟩ ρ a w:=
 ⟨⟨hI.ext.n,hI.ext.aI,hI.ext.S,hI.ext.S',λk hk=>hI.ext.aO k hk.jk.1,hI.ext.frame,hI.ext.size,hI.ext.os,hI.ext.tape,hI.ext.output⟩,
  hI.mem.jk kI,hI.aZ,hI.defers,hI.hN,by rw[tS];exact hI.n0⟩
theorem FI{x:X}{f:Operand}{p:Nat}{ps:Array Tmp}{la lb:LC}{ca cb:Code}{K:Ex->St->Prop}{st:St}{ρ:bJ}{a:Act}{w:World}(mr:ρ0.n=m0.length)(p8:ps= #[p])(hx:bq f=some x)(TU:∀(l:Nat)(ρ0:bJ)(m0:Mem)(w0:World)(K:Ex->St->Prop)(st:St)(ρ:bJ)(a:Act)(w:World),ρ0.n=m0.length->aw P m0.length la K st->Inv 0 ρ0 m0 w0 st ρ a w->ca.wpIn (FR (some l)) 0 P (AS 0 ρ0 m0 w0 K) a w)(TV:∀(l:Nat)(ρ0:bJ)(m0:Mem)(w0:World)(K:Ex->St->Prop)(st:St)(ρ:bJ)(a:Act)(w:World),ρ0.n=m0.length->aw P m0.length lb K st->Inv 0 ρ0 m0 w0 st ρ a w->cb.wpIn (FR (some l)) 0 P (AS 0 ρ0 m0 w0 K) a w)(h:aw P m0.length (.yO x p la lb) K st)(hI:Inv N ρ0 m0 w0 st ρ a w):(Code.rangeFunc f ps ca cb).wpIn (FR none) 0 P (AS N ρ0 m0 w0 K) a w:=by
 obtain⟨gf,kI,cs,xs,α,J,S,hxe,ML,⟨l5,dy⟩,aaW,⟨x0,hJ0,V0⟩,FJ,Xr⟩:=h;have hd:=aT hI.aZ hx;rw[hxe]at hd;obtain⟨iB,hv⟩:=hd;rw[QH];refine wpIn_rangeFunc λfn _=>?_
 obtain⟨rec0,AZ⟩:∃rec0:Loop,rec0={state:= .ready,pending:=none,fn,tmps:=a.tmps,params:=ps,assign:=ca,body:=cb,defers:=w.heap.size}:=⟨_,rfl⟩;obtain⟨W1,Cu⟩:∃W1,(w.alloc (.deferred (some []))).alloc (.loop rec0)=W1:=⟨_,rfl⟩;have Xs:W1.heap.size=w.heap.size+2:=by rw[<-Cu];simp
 have hold:∀b,b<w.heap.size->W1.heap[b]? =w.heap[b]? :=λb hb=>by
  rw[<-Cu];exact(Go.RowKit.Below.heap_alloc _ _ _ (by simp;omega)).trans (Go.RowKit.Below.heap_alloc _ _ _ hb)
 have hL1:W1.heap[w.heap.size+1]? =some (.loop rec0):=by rw[<-Cu];have:=World.alloc_heap_new (w.alloc (.deferred (some []))) (.loop rec0);rwa [World.size_alloc]at this
 have Ut:W1.heap[w.heap.size]? =some (.deferred (some [])):=by rw[<-Cu];exact(Go.RowKit.Below.heap_alloc _ _ _ aC).trans (World.alloc_heap_new w _)
 have WG:W1.os=w.os/\W1.tape=w.tape/\W1.output=w.output:=by rw[<-Cu];exact⟨rfl,rfl,rfl⟩
 obtain⟨⟨gfn,hgf,hgb,P7⟩,hT⟩:=aaW;have aaX:gfn.body≠none:=by intro e;rw[e]at hgb;cases hgb
 have aaY:gfn.name≠ "runtime.NumGoroutine" :=by intro e;rw[e]at P7;simp at P7
 obtain⟨as,has⟩:∃as:List (Nat×Nat),as=kI.map λid=>((ρ.aI (.aj id)).b,(ρ.aI (.aj id)).ar):=⟨_,rfl⟩
 have hlb:(kI.map λid=>Value.pointer (some ⟨(ρ.aI (.aj id)).b,(ρ.aI (.aj id)).ar,none⟩))=rR as:=by rw[has,rR,abJ];rfl
 rw[hlb]at hv;have Xt:vL ρ st.mem w W1:=⟨om,λb hb=>hold b (hI.mem.S b hb),λk hk=>hold _ (hI.mem.aO k hk).1⟩
 have H0:Inv N ρ0 m0 w0 st ρ a W1:=hI.vM Xt (λb hb=>hold b (aaJ hb hI.ext.size)) WG.1 WG.2.1 WG.2.2
 let ρ1:bJ:={ρ with S:=λb=>ρ.S b\/b=w.heap.size}
 let act:Act:={a with defers:=[{target:= .collected w.heap.size,args:= #[]}]++a.defers}
 have aD:∀k,Live ρ st.mem k->(ρ.aI k).b<w.heap.size:=λk hk=>(hI.mem.aO k hk).1
 have bK:∀(m:Mem)k,Live ρ1 m k↔Live ρ m k:=λm k=>by cases k<;>rfl
 have g1:iM ρ W1 ρ1 W1:=⟨Yj _,λ_ _=>rfl,λ_ h=>.inl h,λ_ _=>rfl⟩
 have hIb:Inv N ρ0 m0 w0 st ρ1 act W1:=by
  refine⟨⟨H0.ext.n,H0.ext.aI,λb hb=>.inl (H0.ext.S b hb),λb hb=>?_,λk hk=>H0.ext.aO k ((bK _ k).1 hk),H0.ext.frame,H0.ext.size,H0.ext.os,H0.ext.tape,H0.ext.output⟩,
   H0.mem.aaU om (λk hk e=>by have:=aD k hk;omega),H0.aZ.cn g1,?_,hI.hN,hI.n0⟩
  .rcases hb with hb|rfl
   .exact H0.ext.S' b hb
   .exact .inr (.inl hI.ext.size)
  .obtain⟨Ds,h1,h2,h3⟩:=H0.defers;refine⟨w.heap.size::Ds,by simp[act,h1],abH.2 ⟨λhm=>?_,h2⟩,λD hD=>?_⟩
   .have:=hI.mem.S _ (h3 _ hm).2.1;omega
   .rcases aaL.1 hD with rfl|hD
    .exact⟨abF hI.hN hI.ext.size,.inr rfl,Ut⟩
    .exact⟨(h3 D hD).1,.inl (h3 D hD).2.1,(h3 D hD).2.2⟩
 have hIc:=hIb.jk kI;have Xu:q8 ρ1 (qn st.mem kI) (w.heap.size+1):=by
  refine⟨?_,λk hk e=>?_⟩
  .rintro(hs|hs)
   .have:=hI.mem.S _ hs;omega
   .omega
  .have:=aD k ((bK _ k).1 hk).jk.1;have h2:(ρ1.aI k).b=(ρ.aI k).b:=rfl;omega
 obtain⟨Xv,V1⟩:=vj ML;have b9:∀id,id∈kI->Live ρ st.mem (.aj id):=λid hid=>by
  obtain⟨i,hi⟩:=aab hid;have aD:i<cs.length:=by rw[<-Xv];exact(Ki.1 hi).1
  obtain⟨h1,_⟩:=V1 i id _ hi (vR aD);exact⟨_,h1,aC,aC⟩
 have Xw:∀b,b∈as.map (·.1)->q8 ρ1 (qn st.mem kI) b:=by
  intro b hb;rw[has,abJ]at hb;obtain⟨id,hid,rfl⟩:=aaz.1 hb;have hL:=b9 id hid;refine⟨?_,λk hk e=>?_⟩
  .rintro(hs|hs)
   .exact(hI.mem.aO _ hL).2 hs
   .have:=aD _ hL;simp only[Function.comp]at hs;omega
  .have kL:=(bK _ k).1 hk;have:=hI.mem.inj k _ kL.jk.1 hL e;subst this;exact kL.jk.2 hid
 obtain⟨ρ2,hId,SU⟩:=hIc.view mr V0;have aa0:as.length=cs.length:=by rw[has,N7,Xv]
 have aa1:(as.map (·.1)).Nodup:=by
  rw[has,abJ];have key:∀l:List Nat,(∀id,id∈l->id∈kI)->l.Nodup->(l.map λid=>(ρ.aI (.aj id)).b).Nodup:=by
   intro l
   induction l with
   |nil=>intro _ _;exact List.nodup_nil
   |cons id r ih=>
    intro hm hn;obtain⟨qW,QK⟩:=abH.1 hn;refine abH.2 ⟨λhb=>?_,ih (λid h=>hm id (by simp[h])) QK⟩
    obtain⟨kJ,MZ,e⟩:=aaz.1 hb;have:=hI.mem.inj _ _ (b9 kJ (hm kJ (by simp[MZ]))) (b9 id (hm id aC)) e
    cases this;exact qW MZ
  exact key kI (λ_ h=>h) l5
 have SV:∀b,b∈as.map (·.1)->b<w.heap.size:=by intro b hb;rw[has,abJ]at hb;obtain⟨id,hid,rfl⟩:=aaz.1 hb;exact aD _ (b9 id hid)
 have aa2:∀b,b∈as.map (·.1)->w0.heap.size<=b\/∃k0,Live ρ0 m0 k0/\(ρ0.aI k0).b=b:=by intro b hb;rw[has,abJ]at hb;obtain⟨id,hid,rfl⟩:=aaz.1 hb;exact hI.ext.aO _ (b9 id hid)
 have QM:∀a0,a0∈as->a0.1∈as.map (·.1):=λa0 h0=>aaz.2 ⟨a0,h0,rfl⟩
 let Jw:Nat->World->Prop:=λk W=>∃y U',J k y/\Inv N ρ0 m0 w0 (S y) U' act W/\q8 U' (S y).mem (w.heap.size+1)/\(∀b,b∈as.map (·.1)->q8 U' (S y).mem b)/\
  W.heap[w.heap.size+1]? =some (.loop rec0)
 let Jx:World->Prop:=λW=>∃c ex jD U',K ex jD/\Inv N ρ0 m0 w0 jD U' act W/\q8 U' jD.mem (w.heap.size+1)/\(∀b,b∈as.map (·.1)->q8 U' jD.mem b)/\
  ((c= .ret/\ex= .ret)\/∃id,c= .exit id/\ex= .exit id)/\W.heap[w.heap.size+1]? =some (.loop {rec0 with state:= .done,pending:=some c})
 have SX:∀(jD:St)(U':bJ)(o:Obj)(W W':World),Inv N ρ0 m0 w0 jD U' act W->(∀b,b∈as.map (·.1)->q8 U' jD.mem b)->W.heap[w.heap.size+1]? =some o->
   W.heap.size<=W'.heap.size->(∀b,b<W.heap.size->(∀a,a∈as->b≠a.1)->W'.heap[b]? =W.heap[b]?)->W'.os=W.os->W'.tape=W.tape->W'.output=W.output->
   Inv N ρ0 m0 w0 jD U' act W'/\W'.heap[w.heap.size+1]? =some o:=by
  intro jD U' o W W' hI ho hl hs hb h1 h2 h3;refine⟨hI.Xq ⟨hs,λb hS=>hb b (hI.mem.S b hS) λa ha e=>(ho _ (QM a ha)).1 (e▸hS),λk hk=>hb _ (hI.mem.aO k hk).1 λa ha e=>(ho _ (QM a ha)).2 k hk e⟩
   (λb tL hk=>hb b (aaJ tL hI.ext.size) λa ha e=>?_) h1 h2 h3,?_⟩
  .rcases aa2 _ (QM a ha)with h|⟨k0,h0,e0⟩
   .omega
   .exact hk k0 h0 (e0.trans e.symm)
  .rw[hb _ (aaF.1 hl).1 λa ha e=>?_]
   .exact hl
   .have:=SV _ (QM a ha);omega
 have main:=hT (w.heap.size+1) as W1 Jw Jx aa0 aa1
  (λi a0 v hi hv=>by
   rw[has,Tr]at hi;cases hid:kI[i]? with
   |none=>rw[hid]at hi;cases hi
   |some id=>
    rw[hid]at hi;simp only[aaG,aaA]at hi;subst hi;obtain⟨hm,jY⟩:=V1 i id v hid hv;obtain⟨cur,b8,jr⟩:=H0.mem.bk id _ hm;obtain⟨u,hu,cz⟩:=jr 0 _ rfl;have vH:u=v:=by
     cases cz with
     |val _ _=>rfl
     |no _=>simp[cu]at jY
    subst vH;exact⟨by rw[b8.cell];simpa using hu,b8.qJ (by have:=(aaF.1 hu).1;simpa using this)⟩)
  (λk W W'⟨y,U',h1,h2,h3,h4,h5⟩hs hb e1 e2 e3=>by obtain⟨q1,q2⟩:=SX _ _ _ W W' h2 h4 h5 hs hb e1 e2 e3;exact⟨y,U',h1,q1,h3,h4,q2⟩)
  (λW W'⟨c,ex,jD,U',h0,h2,h3,h4,h6,h5⟩hs hb e1 e2 e3=>by obtain⟨q1,q2⟩:=SX _ _ _ W W' h2 h4 h5 hs hb e1 e2 e3;exact⟨c,ex,jD,U',h0,q1,h3,h4,h6,q2⟩)
  (λk y W hk⟨z,U',h1,h2,h3,h4,h5⟩=>by
   have hr:=FJ k y z hk h1;have Uu:=C9 (TU _) (TV _) (l:=w.heap.size+1) (n0:=0) (rec0:=rec0) (act:=act) (fn:=fn) (p:=p) (by rw[AZ];exact⟨rfl,rfl,rfl,rfl,p8,rfl,rfl⟩) h2 h5 h3
    (by have:=hI.ext.size;omega) hr
   obtain⟨f1,t1,a1,b1,hy,hR⟩:=Uu;refine⟨f1,t1,a1,b1,hy,hR.mono λe W' hp=>?_⟩
   obtain⟨ex,jD,ρ3,jump,hK,hIn,he,hl,hj,aa3,A0,dq⟩:=hp;have Zy:∀b,b∈as.map (·.1)->q8 ρ3 jD.mem b/\W'.heap[b]? =W.heap[b]? :=λb hb=>by have aD:=SV b hb;have C6:w.heap.size+1<W.heap.size:=(aaF.1 h5).1;exact aa3 b om om (h4 b hb)
   rcases hj with⟨rfl,rfl⟩|⟨rfl,rfl⟩|⟨id,rfl,rfl⟩
   .left;obtain⟨z',P0,SJ⟩:=hK;obtain⟨ρ4,hIv,Zz⟩:=hIn.view mr SJ;refine⟨he,⟨z',ρ4,P0,hIv,Zz _ A0,λb hb=>Zz b (Zy b hb).1,?_⟩,dq,λa ha=>(Zy a.1 (aaz.2 ⟨a,ha,rfl⟩)).2⟩
    rw[hl,AZ];rfl
   .right;exact⟨he,.ret,.ret,_,ρ3,hK,hIn,A0,λb hb=>(Zy b hb).1,.inl ⟨rfl,rfl⟩,hl⟩
   .right;exact⟨he,.exit id,.exit id,_,ρ3,hK,hIn,A0,λb hb=>(Zy b hb).1,.inr ⟨id,rfl,rfl⟩,hl⟩)
  ⟨x0,ρ2,hJ0,hId,SU _ Xu,λb hb=>SU b (Xw b hb),hL1⟩
 refine⟨w.heap.size+1,[{target:= .collected w.heap.size,args:= #[]}],W1,{target:= .fn (.func gf) (rR as).toArray,args:= #[.func (.yield (w.heap.size+1)) #[] #[]]},W1,gf,
  #[.func (.yield (w.heap.size+1)) #[] #[]]++(rR as).toArray,W1,?_,?_,λ_ _=>trivial,?_,by simp[Fence.wide],?_⟩
 .rw[<-Cu,AZ];exact run_enterLoop_outer _ _ _ _ _
 .simp only[resolve,hv];simp[go_sem]
 .simp[invoke,callFunc,hgf,aaY,aaX]
 .refine main.mono λe W' hp=>?_
  obtain⟨⟨v,rfl⟩,hp⟩:=hp;rcases hp with⟨y,U',h1,h2,h3,h4,h5⟩|⟨c,ex,jD,U',h0,h2,h3,h4,h6,h5⟩
  .refine⟨none,_,by have:=run_endLoop (P:=P) h5 (by rw[AZ];simp);rw[AZ]at this;exact this,?_⟩
   exact⟨.normal,S y,U',rfl,Xr y h1,h2.put h3 (by have:=hI.ext.size;omega) _⟩
  .refine⟨some c,_,by have:=run_endLoop (P:=P) h5 (by simp);exact this,?_⟩
   have Xx:=h2.put h3 (by have:=hI.ext.size;omega) (.loop {rec0 with state:= .exhausted,pending:=some c})
   rcases h6 with⟨rfl,rfl⟩|⟨id,rfl,rfl⟩
   .exact wpIn_ret ⟨.ret,jD,U',rfl,h0,Xx⟩
   .exact wpIn_exit ⟨.exit id,jD,U',rfl,h0,Xx⟩
end
section
variable {P:Program} {N:Nat} {ρ0:bJ} {m0:Mem} {w0:World}
theorem kW{f:Operand}{ps:Array Tmp}{x y:Code}{lc:LC}(h:d8 P (.rangeFunc f ps x y)=some lc):∃x' p la lb,lc= .yO x' p la lb:=by
 simp only[d8,U8]at h;split at h
 case h_2=>cases h
 simp only[Pu]at h;obtain⟨lx,hx,ly,hy,h⟩:=h;split at h
 case isFalse=>cases h
 simp only[Pu]at h;obtain⟨x',_,h⟩:=h;cases h;exact⟨_,_,_,_,rfl⟩
theorem M1:∀(lc:LC)(r:Option Nat)(A2:r=none\/lc.rN=true)(N:Nat)(ρ0:bJ)(m0:Mem)(w0:World)(mr:ρ0.n=m0.length)(c:Code)(K:Ex->St->Prop)(st:St)(ρ:bJ)(a:Act)(w:World),
  d8 P c=some lc.er->aw P m0.length lc K st->Inv N ρ0 m0 w0 st ρ a w->c.wpIn (FR r) 0 P (AS N ρ0 m0 w0 K) a w:=by
 intro lc
 induction lc with
 |cX b ih=>
  intro r A2 N ρ0 m0 w0 mr c K st ρ a w hl h hI;obtain⟨s',hv,h⟩:=h;obtain⟨U',p6⟩:=hI.Mg mr hv;exact ih r A2 N ρ0 m0 w0 mr c K s' U' a w hl h p6
 |skip=>
  intro r A2 N ρ0 m0 w0 mr c K st ρ a w hl h hI;cases c with
  |skip=>exact wpIn_skip ⟨_,st,ρ,rfl,h,hI⟩
  |region id ops bV=>cases bV<;>simp[d8,LC.er,Pu]at hl
  |rangeFunc f ps ca cb=>obtain⟨_,_,_,_,e⟩:=kW hl;simp[LC.er]at e
  |_=>simp[d8,LC.er,Pu]at hl
 |ai aa4=>
  intro r A2 N ρ0 m0 w0 mr c K st ρ a w hl h hI;cases c with
  |region id ops bV=>
   cases bV with
   |true=>simp[d8,LC.er,Pu]at hl
   |false=>
    simp only[d8,LC.er,U8,Pu]at hl;obtain⟨bZ,AW,hl⟩:=hl;cases hl;refine wpIn_region (iY (w8 AW) HY _ _ _ ?_);have:=wY (Q:=AS N ρ0 m0 w0 K) (K:=Ja K) (λaZ m ρ a w hK hI=>⟨_,_,ρ,rfl,hK,hI⟩) ops.toList 0 _ st.aZ st.mem ρ a w rfl AW h hI
    simpa[adH]using this
  |rangeFunc f ps ca cb=>obtain⟨_,_,_,_,e⟩:=kW hl;simp[LC.er]at e
  |_=>simp[d8,LC.er,Pu]at hl
 |bV aa4 Z9=>
  intro r A2 N ρ0 m0 w0 mr c K st ρ a w hl h hI;cases c with
  |region id ops bV=>
   cases bV with
   |true=>
    simp only[d8,LC.er,U8,Pu]at hl;obtain⟨bZ,AW,hl⟩:=hl;obtain⟨qM,hs,hl⟩:=hl;cases hl;refine wpIn_region_draw λt=>iY (w8 AW) HY _ _ _ ?_
    exact AX (Q:=AS N ρ0 m0 w0 K) (K:=K) (λaZ m ρ a w hK hI=>⟨_,_,ρ,rfl,hK,hI⟩) AW hs h hI t
   |false=>simp[d8,LC.er,Pu]at hl
  |rangeFunc f ps ca cb=>obtain⟨_,_,_,_,e⟩:=kW hl;simp[LC.er]at e
  |_=>simp[d8,LC.er,Pu]at hl
 |seq lx ly Up MW=>
  intro r A2 N ρ0 m0 w0 mr c K st ρ a w hl h hI;cases c with
  |seq x y=>
   simp only[d8,LC.er,U8,Pu,aaA,LC.seq.injEq]at hl;obtain⟨lx',hx,ly',hy,rfl,rfl⟩:=hl;refine wpIn_seq (wpIn_mono (Up r (A2.imp id λh=>(adn.1 h).1) N ρ0 m0 w0 mr x _ st ρ a w hx h hI) λe a' w' hp=>?_)
   obtain⟨ex,jD,U',he,hK,p6⟩:=hp;cases e<;>simp[C1]at he<;>subst he
   .exact MW r (A2.imp id λh=>(adn.1 h).2) N ρ0 m0 w0 mr y K jD U' a' w' hy hK p6
   .exact⟨_,jD,U',rfl,hK,p6⟩
   .exact⟨_,jD,U',rfl,hK,p6⟩
  |region id ops bV=>cases bV<;>simp[d8,LC.er,Pu]at hl
  |rangeFunc f ps ca cb=>obtain⟨_,_,_,_,e⟩:=kW hl;simp[LC.er]at e
  |_=>simp[d8,LC.er,Pu]at hl
 |cond x0 ly0 lz0 MW ihz=>
  intro r A2 N ρ0 m0 w0 mr c K st ρ a w hl h hI;cases c with
  |cond x y z=>
   simp only[d8,LC.er,U8,Pu,aaA,LC.cond.injEq]at hl;obtain⟨x',hx,ly,hy,lz,hz,rfl,rfl,rfl⟩:=hl;have hd:=aT hI.aZ hx;simp only[aw]at h;split at h
   .rename_i t tK;rw[tK]at hd;have ht:=(bH hd).1;have r9:∀b,t=b->TW x' (aF b) st.aZ=st.aZ:=λb hb=>by
     subst hb;cases x' with
     |t n=>exact AU tK
     |c v=>rfl
    refine wpIn_cond ht ?_;rcases cq.1 h with⟨rfl,h⟩|⟨rfl,h⟩
    .simp only[fq,r9 true rfl]at h;exact MW r (A2.imp id λh=>(adn.1 h).1) N ρ0 m0 w0 mr y K st ρ a w hy h hI
    .simp only[fq,r9 false rfl]at h;exact ihz r (A2.imp id λh=>(adn.1 h).2) N ρ0 m0 w0 mr z K st ρ a w hz h hI
   .exact h.elim
  |region id ops bV=>cases bV<;>simp[d8,LC.er,Pu]at hl
  |rangeFunc f ps ca cb=>obtain⟨_,_,_,_,e⟩:=kW hl;simp[LC.er]at e
  |_=>simp[d8,LC.er,Pu]at hl
 |block id0 lb0 ih=>
  intro r A2 N ρ0 m0 w0 mr c K st ρ a w hl h hI;cases c with
  |block id b=>
   simp only[d8,LC.er,U8,Pu,aaA,LC.block.injEq]at hl;obtain⟨lb,hb,rfl,rfl⟩:=hl;refine wpIn_block (wpIn_mono (ih r A2 N ρ0 m0 w0 mr b _ st ρ a w hb h hI) λe a' w' hp=>?_)
   obtain⟨ex,jD,U',he,hK,p6⟩:=hp;cases e<;>simp[C1]at he<;>subst he
   .exact⟨_,jD,U',rfl,hK,p6⟩
   .rename_i kJ;simp only[Fb]at hK;simp only[Exit.inBlock];rcases cq.1 hK with⟨hid,hK⟩|⟨hid,hK⟩
    .rw[if_pos (aau hid)];exact⟨_,jD,U',rfl,hK,p6⟩
    .rw[if_neg (adh hid)];exact⟨_,jD,U',rfl,hK,p6⟩
   .exact⟨_,jD,U',rfl,hK,p6⟩
  |region id ops bV=>cases bV<;>simp[d8,LC.er,Pu]at hl
  |rangeFunc f ps ca cb=>obtain⟨_,_,_,_,e⟩:=kW hl;simp[LC.er]at e
  |_=>simp[d8,LC.er,Pu]at hl
 |loop lb0 ih=>
  intro r A2 N ρ0 m0 w0 mr c K st ρ a w hl h hI;cases c with
  |loop b=>
   simp only[d8,LC.er,U8,Pu,aaA,LC.loop.injEq]at hl;obtain⟨lb,hb,rfl⟩:=hl;obtain⟨α,J,S,μ,⟨a1,hJ1,ZA⟩,FJ⟩:=h;obtain⟨ρ1,hI1⟩:=hI.Mg mr ZA;refine vK (γ:=α) (I:=λx a w=>J x/\∃ρ,Inv N ρ0 m0 w0 (S x) ρ a w) (μ:=μ) a1 ⟨hJ1,ρ1,hI1⟩ λx a w⟨hJ,ρ,hI⟩=>?_
   refine wpIn_mono (ih r A2 N ρ0 m0 w0 mr b _ (S x) ρ a w hb (FJ x hJ) hI) λe a' w' hp=>?_
   obtain⟨ex,jD,U',he,hK,p6⟩:=hp;cases e<;>simp[C1]at he<;>subst he
   .obtain⟨x3,hJ3,aD,hw3⟩:=hK;obtain⟨ρ3,hI3⟩:=p6.Mg mr hw3;exact⟨x3,⟨hJ3,ρ3,hI3⟩,aD⟩
   .exact⟨_,jD,U',rfl,hK,p6⟩
   .exact⟨_,jD,U',rfl,hK,p6⟩
  |region id ops bV=>cases bV<;>simp[d8,LC.er,Pu]at hl
  |rangeFunc f ps ca cb=>obtain⟨_,_,_,_,e⟩:=kW hl;simp[LC.er]at e
  |_=>simp[d8,LC.er,Pu]at hl
 |exit id0=>
  intro r A2 N ρ0 m0 w0 mr c K st ρ a w hl h hI;cases c with
  |exit id=>
   simp[d8,LC.er]at hl;subst hl;exact wpIn_exit ⟨_,st,ρ,rfl,h,hI⟩
  |region id ops bV=>cases bV<;>simp[d8,LC.er,Pu]at hl
  |rangeFunc f ps ca cb=>obtain⟨_,_,_,_,e⟩:=kW hl;simp[LC.er]at e
  |_=>simp[d8,LC.er,Pu]at hl
 |ret=>
  intro r A2 N ρ0 m0 w0 mr c K st ρ a w hl h hI;cases c with
  |ret=>exact wpIn_ret ⟨_,st,ρ,rfl,h,hI⟩
  |region id ops bV=>cases bV<;>simp[d8,LC.er,Pu]at hl
  |rangeFunc f ps ca cb=>obtain⟨_,_,_,_,e⟩:=kW hl;simp[LC.er]at e
  |_=>simp[d8,LC.er,Pu]at hl
 |yO x0 p la0 lb0 TU TV=>
  intro r A2 N ρ0 m0 w0 mr c K st ρ a w hl h hI;have hr0:r=none:=A2.resolve_right (by simp[LC.rN])
  subst hr0;cases c with
  |rangeFunc f ps ca cb=>
   simp only[d8,LC.er,U8]at hl;split at hl
   case h_2=>cases hl
   rename_i p' p8;simp only[Pu]at hl;obtain⟨la,hla,lb,hlb,hl⟩:=hl;split at hl
   case isFalse=>cases hl
   rename_i kz;simp only[Pu,aaA,LC.yO.injEq]at hl;obtain⟨x',hx,rfl,rfl,rfl,rfl⟩:=hl;rw[aae,HZ,HZ]at kz;exact FI mr (by apply ab1;simpa using p8) hx (λl ρ0 m0 w0 K st ρ a w hM h hI=>TU (some l) (.inr kz.1) 0 ρ0 m0 w0 hM ca K st ρ a w hla h hI)
    (λl ρ0 m0 w0 K st ρ a w hM h hI=>TV (some l) (.inr kz.2) 0 ρ0 m0 w0 hM cb K st ρ a w hlb h hI) h hI
  |region id ops bV=>cases bV<;>simp[d8,LC.er,Pu]at hl
  |_=>simp[d8,LC.er,Pu]at hl
def tT(tmps:Array Value):ResultVar->Sem Value
 | .tmp t=>pure (tmps.getD t Go.undef)
 | .cell ad t=>do loadVar t (<-asAddr (tmps.getD ad Go.undef))
theorem FK(fn:Func)(tmps:Array Value):results fn tmps=(do let vs<-fn.results.mapM (tT tmps);pure (if h:vs.size=1 then vs[0]else .tuple vs)):=by
 unfold results;have e:(λ(r:ResultVar)=>match r with
  | .tmp t=>(pure (tmps.getD t Go.undef):Sem Value)
  | .cell ad t=>do loadVar t (<-asAddr (tmps.getD ad Go.undef)))=tT tmps:=by
  funext r;cases r<;>rfl
 rw[<-e];rfl
theorem q9:∀{rs:List ResultVar}{JH:List Rv},oQ P rs=some JH->∀{st:St}{ρ:bJ}{a:Act}{w:World}{K:List RV->Prop},
  aA ρ st.mem w->bn ρ w st.aZ a.tmps->CG P st JH K->
  ∃(vs:List RV)(us:List Value),K vs/\(rs.mapM (tT a.tmps)).run P w= .ok us w/\
   us.length=vs.length/\∀(i:Nat)r,vs[i]? =some r->∃u,us[i]? =some u/\dk ρ w r u
 | [],JH,h,st,ρ,a,w,K,hM,hE,hr=>by simp[oQ]at h;subst h;exact⟨[],[],hr,rfl,rfl,aC⟩
 | .tmp t::r,JH,h,st,ρ,a,w,K,hM,hE,hr=>by
  simp only[oQ,U8,Pu]at h;obtain⟨r',hr',h⟩:=h;cases h;simp only[CG]at hr;obtain⟨v,hv,hr⟩:=aW.1 hr;obtain⟨vs,us,hK,cP,hlen,cr⟩:=q9 hr' hM hE hr;have hd:=hE.get t;have QB:kP st.aZ t= .rv v:=by
   cases hg:kP st.aZ t<;>rw[hg]at hv<;>simp[CB]at hv
   rw[hv]
  rw[QB]at hd;refine⟨v::vs,a.tmps.getD t Go.undef::us,hK,?_,by simp[hlen],λi r hi=>?_⟩
  .rw[List.mapM_cons,Sem.run_bind];simp only[tT,Sem.run_pure,Result.andThen_ok];rw[Sem.run_bind,cP];rfl
  .cases i with
   |zero=>simp at hi;subst hi;exact⟨_,aC,hd⟩
   |succ i=>simpa using cr i r (by simpa using hi)
 | .cell ad t::r,JH,h,st,ρ,a,w,K,hM,hE,hr=>by
  simp only[oQ,U8,Pu]at h;obtain⟨agg,ha,n,hn,r',hr',h⟩:=h;cases h;simp only[CG]at hr;obtain⟨addr,u,cv,hv,Xy,Ut,cz⟩:=uT hM ha hn hr (hE.get ad);obtain⟨v,vJ,hr⟩:=aW.1 Ut;obtain⟨vs,us,hK,cP,hlen,cr⟩:=q9 hr' hM hE hr;have QB:cv= .rv v:=by
   cases cv<;>simp[CB]at vJ
   rw[vJ]
  subst QB;refine⟨v::vs,u::us,hK,?_,by simp[hlen],λi r hi=>?_⟩
  .rw[List.mapM_cons,Sem.run_bind];simp only[tT,hv,asAddr,Sem.run_bind,Sem.run_pure,Result.andThen_ok,Xy];rw[cP];rfl
  .cases i with
   |zero=>simp at hi;subst hi;exact⟨_,aC,cz⟩
   |succ i=>simpa using cr i r (by simpa using hi)
theorem y5{fn:Func}{rs:List Rv}(h:oQ P fn.results.toList=some rs){st:St}{ρ:bJ}{a:Act}{w:World}{K:CV->Prop}(hM:aA ρ st.mem w)(hE:bn ρ w st.aZ a.tmps)(hr:CG P st rs λvs=>K (T0 vs)):∃v r,(results fn a.tmps).run P w= .ok v w/\K r/\cf ρ w r v:=by
 obtain⟨vs,us,hK,cP,hlen,cr⟩:=q9 h hM hE hr;have zu:(fn.results.mapM (tT a.tmps)).run P w= .ok us.toArray w:=by rw[Array.mapM_eq_mapM_toList,Sem.run_map,cP];rfl
 rw[FK,Sem.run_bind,zu];refine⟨_,_,rfl,hK,?_⟩
 match vs,us,hlen,cr with
 | [r],[u],_,cr=>
  obtain⟨u',hu,hd⟩:=cr 0 r aC;simp at hu;subst hu;exact hd
 | [],[],_,cr=>exact⟨[],rfl,rfl,aC⟩
 |r1::r2::rs,u1::u2::us,hlen,cr=>
  refine⟨u1::u2::us,?_,hlen,cr⟩;simp
theorem nR{f:Nat}{fn:Func}{lf:LF}{args:List CV}{m:Mem}{K:CV->Mem->Prop}(hf:P.funcs[f]? =some fn)(hl:bz P fn=some lf.er)(hn:(fn.name== "runtime.NumGoroutine")=false)(hle:args.length<=lf.n)(h:body P lf args m K):aq P f args m K:=by
 simp only[bz,LF.er,U8,Pu,aaA,LF.mk.injEq]at hl;obtain⟨rs,Uu,c,hc,lc0,oW,qW,aa7,Xz⟩:=hl;subst Xz aa7;obtain⟨lfn,lfr,lc⟩:=lf;simp only at qW Uu oW;subst qW;refine⟨⟨fn,hf,by simp[hc],hn⟩,λρ w vs hM hlen cr=>?_⟩
 simp only[body,fq,gP,cg,fZ]at h;simp only at hle;have hI:Inv w.heap.size ρ m w ⟨args++List.replicate (fn.ntmps-args.length) .undef,m⟩ ρ {tmps:=vs.toArray++Array.replicate (fn.ntmps-vs.toArray.size) Go.undef,defers:=[]} w:=by
  refine⟨Ext.refl _ _ _,hM,⟨by simp[hlen],λi c hi=>?_⟩,FC.nil,Yj _,Yj _⟩
  rcases aag i args.length with aD|eG
  .rw[aad aD]at hi;obtain⟨v,hv,hd⟩:=cr i c hi;refine⟨v,?_,hd⟩;rw[acZ (by simp[hlen];exact aD)]
   simpa using hv
  .rw[Y5 eG,adx]at hi;split at hi
   .rename_i aD;cases hi;refine⟨Go.undef,?_,rfl⟩;rw[Array.getElem?_append_right (by simp[hlen];exact eG),Array.getElem?_replicate,if_pos (by simp[hlen];exact aD)]
   .cases hi
 refine(callsIn_wide (n:=0)).1 (callsIn_of_wp_marks (F:=Fence.wide) hf hc trivial (wpIn_mono (M1 lc none (.inl rfl) _ ρ m w hM.n c _ _ ρ _ w oW h hI) λe a' w' hp=>?_))
 obtain⟨ex,jD,U',he,hK,p6⟩:=hp;have iu:CG P jD lfr (λvs=>K (T0 vs) jD.mem)->LeavesInM Fence.wide 0 P fn a'.tmps (λe w'=>∃XA r m' U',e=Ending.returned XA/\K r m'/\aA U' m' w'/\cf U' w' r XA/\Ext ρ m w U' m' w') a'.defers .returning w':=λhr=>by
  obtain⟨Ds,h1,h2,h3⟩:=p6.defers;rw[h1];refine sh rfl Ds w' h2 h3 p6.mem p6.aZ p6.ext λw2 FH EO VW=>?_
  obtain⟨v,r,cP,hKr,hd⟩:=y5 (K:=λr=>K r jD.mem) Uu FH EO hr
  exact⟨v,cP,v,r,jD.mem,U',rfl,hKr,FH,hd,VW⟩
 cases e<;>simp[C1]at he<;>subst he
 .exact iu hK
 .exact hK.elim
 .exact iu hK
theorem QN:∀(c:Code)(lc:LC),d8 P c=some lc->lc.er=lc:=by
 intro c
 induction c with
 |skip=>intro lc h;simp[d8]at h;subst h;rfl
 |region id ops bV=>
  intro lc h;cases bV with
  |true=>
   simp only[d8,U8,Pu]at h;obtain⟨bZ,_,Z9,_,h⟩:=h;cases h;rfl
  |false=>
   simp only[d8,U8,Pu]at h;obtain⟨bZ,_,h⟩:=h;cases h;rfl
 |seq x y Up MW=>
  intro lc h;simp only[d8,U8,Pu]at h;obtain⟨lx,hx,ly,hy,h⟩:=h;cases h;simp only[LC.er,Up lx hx,MW ly hy]
 |cond x y z MW ihz=>
  intro lc h;simp only[d8,U8,Pu]at h;obtain⟨x',_,ly,hy,lz,hz,h⟩:=h;cases h;simp only[LC.er,MW ly hy,ihz lz hz]
 |block id b ih=>
  intro lc h;simp only[d8,U8,Pu]at h;obtain⟨lb,hb,h⟩:=h;cases h;simp only[LC.er,ih lb hb]
 |loop b ih=>
  intro lc h;simp only[d8,U8,Pu]at h;obtain⟨lb,hb,h⟩:=h;cases h;simp only[LC.er,ih lb hb]
 |exit id=>intro lc h;simp[d8]at h;subst h;rfl
 |ret=>intro lc h;simp[d8]at h;subst h;rfl
 |rangeFunc f ps x y Up MW=>
  intro lc h;simp only[d8,U8]at h;split at h
  case h_2=>cases h
  simp only[Pu]at h;obtain⟨lx,hx,ly,hy,h⟩:=h;split at h
  case isFalse=>cases h
  simp only[Pu]at h;obtain⟨x',_,h⟩:=h;cases h;simp only[LC.er,Up lx hx,MW ly hy]
 |_=>intro lc h;simp[d8]at h
theorem xb{f:Nat}{fn:Func}{lf:LF}{args:List CV}{m:Mem}{K:CV->Mem->Prop}(hf:P.funcs[f]? =some fn)(hl:bz P fn=some lf)(hn:(fn.name== "runtime.NumGoroutine")=false)(hle:args.length<=lf.n)(h:body P lf args m K):aq P f args m K:=by
 refine nR hf ?_ hn hle h;have Zw:=hl;simp only[bz,U8,Pu]at hl;obtain⟨rs,Uu,c,hc,lc,oW,hl⟩:=hl;cases hl;rw[Zw];simp only[LF.er,QN c lc oW]
end
end Go.AM
