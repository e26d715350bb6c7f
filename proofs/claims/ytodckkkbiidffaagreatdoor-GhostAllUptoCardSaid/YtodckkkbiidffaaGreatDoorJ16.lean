/- Part 16 of 16. -/
import Derived.Test.YtodckkkbiidffaaGreatDoorJ11
import Derived.Test.YtodckkkbiidffaaGreatDoorJ12
import Derived.Test.YtodckkkbiidffaaGreatDoorJ15
set_option linter.unusedVariables false
set_option linter.unusedSimpArgs false
set_option maxRecDepth 100000
set_option maxHeartbeats 0
namespace Go.Proofs.YtodckkkbiidffaaGreatDoor
open Proofs.Tryz
open Go.AM Go.ChangeShapes Go.WideShapes Go.ChangeAt Go.RowKit
namespace Kn
theorem Ln{k:Kr}(h:KI k)(N:Nat->Prop){cL:Int}{name:ByteArray}(he:(cT k.l cL name).2.2=0):OX N k.l (cT k.l cL name).1:=by
 obtain⟨n,p,o,q,rfl,hn,fA,hf,hp,O5,hR,_⟩:=ti he;obtain⟨e0,Al,MM,Z2⟩:∃e0,e0∈dQ o/\e0.1.toList=name.toList/\e0.2=(p:Int):=by
  rcases i3 (dQ o) name with⟨e,a1,a2,a3⟩|⟨a3,_⟩
  .exact⟨e,a1,a2,om⟩
  .omega
 have BY:n≠p:=λe=>by
  subst e;rw[hn]at hp;cases hp;have:o.ak=[]:=aaq (by have:=λh=>O5 ⟨fA,h⟩;omega)
  rw[dQ,this]at Al;cases Al
 rw[hR];obtain⟨g1,g2,g3,_⟩:=Aq hn hp BY name;exact OX.two N hn hp g1 g2 g3 ⟨rfl,rfl,rfl⟩ ⟨rfl,rfl,rfl⟩
theorem PF(N:Nat->Prop)(l:List Obj)(z:Int):OX N l (lK l z)/\OE l (lK l z):=by
 unfold lK;split
 .rename_i o ho;exact⟨OX.set N ho ⟨rfl,rfl,rfl⟩,OE.set ho rfl⟩
 .exact⟨.refl _ _,.refl _⟩
theorem Lo{k:Kr}(h:KI k){c:Cl}{f:R4}(hf:f.fp=0->f.bp= -1\/gn k.l f.bp)(he:(bW k c f).2.2=0):
  ∃j:Nat,(bW k c f).2.1=j/\OX (λi=>i=j) k.l (bW k c f).1.l/\OE k.l (bW k c f).1.l/\(bW k c f).1.ops=k.ops/\(bW k c f).1.ps=k.ps:=by
 unfold Kn.bW at he|-;split at he
 .rename_i h1;exact absurd he h1
 rename_i h1;rw[if_neg h1];have hf:=hf (Yl h1);split at he
 .rename_i h2;rw[if_pos h2];split at he
  .cases he
  .rename_i h3;rw[if_neg h3];exact uL h IK he
 .rename_i h2;rw[if_neg h2];split at he
  .cases he
  .rename_i h3;rw[if_neg h3];rcases hf with hf|⟨j,x,hj,_,_⟩
   .exact absurd (by show f.bp<0;omega) h2
   .exact⟨j,hj,.refl _ _,.refl _,rfl,rfl⟩
theorem jQ{ps:List bl}{p:Nat}{y:bl}(hp:ps[p]? =some y)(S:List eA)(t:Nat):(cS ps p S)[t]? =if t=p then some {y with aQ:=S}else ps[t]? :=by
 by_cases e:t=p
 .subst e;rw[if_pos rfl];exact fz hp S
 .rw[if_neg e];exact kj e S
theorem yv{k:Kr}{p:Nat}{y:bl}(hp:k.ps[p]? =some y)(bK:y.aO=true){l1 l2:List Obj}{bp:Nat}(hox:OX (λi=>i=bp) k.l l2)(hoe:OE k.l l2){bX:Int}{R:Kr}{i:Nat}{S:List eA}(O:TM ⟨l1,k.ops,k.ps⟩ p y bp bX R i S):oH k ⟨l2,R.ops,R.ps⟩:=by
 have eo:∀m:Nat,R.ops[m]? =if m=i then some ⟨(bp:Int),0⟩else k.ops[m]? :=O.o
 have ep:R.ps=cS k.ps p S:=O.ps;have TO:R.ps[p]? =some {y with aQ:=S}:=by rw[ep];exact fz hp S
 refine⟨λj o ho hk=>?_,λm o ho h0=>?_,λt z hz hl=>?_,λj o ho hk=>?_,λm o ho=>?_,λt z hz hl=>?_⟩
 .obtain⟨o',h1,h2,h3,h4⟩:=hox.m j o ho hk;exact⟨o',h1,h2,h3,hoe j o o' ho hk h1,λz hz=>.inl (by unfold sQ;rw[h4];exact hz)⟩
 .refine⟨o,?_,rfl⟩;show R.ops[m]? =_;rw[eo,if_neg λe=>?_]
  .exact ho
  .subst e;have:=O.yP o ho;omega
 .by_cases e:t=p
  .subst e;rw[hp]at hz;cases hz;exact⟨_,TO,hl,λs hs hh=>⟨s,O.old s hs hh,hh,rfl⟩⟩
  .exact⟨z,by show R.ps[t]? =_;rw[ep,kj e];exact hz,hl,λs hs hh=>⟨s,hs,hh,rfl⟩⟩
 .rcases hox.n j o ho hk with h1|⟨rfl,_⟩
  .exact .inl h1
  .exact .inr ⟨p,_,⟨true,i,bX⟩,i,⟨(j:Int),0⟩,TO,bK,O.new,rfl,rfl,by show R.ops[i]? =_;rw[eo,if_pos rfl],rfl⟩
 .have ho:R.ops[m]? =some o:=ho;rw[eo]at ho;split at ho
  .rename_i e;subst e;exact .inr ⟨p,_,⟨true,m,bX⟩,TO,bK,O.new,rfl,rfl⟩
  .exact .inl ho
 .have hz:R.ps[t]? =some z:=hz;rw[ep,jQ hp]at hz;split at hz
  .rename_i e;subst e;exact .inl ⟨y,hp,bK⟩
  .exact .inl ⟨z,hz,hl⟩
theorem Lp{k:Kr}{p:Nat}{y:bl}(hp:k.ps[p]? =some y)(bK:y.aO=true){S:List eA}(hS:∀s,s∈y.aQ->s.has=true->∃s',s'∈S/\s'.has=true/\s'.dG=s.dG):oH k ⟨k.l,k.ops,cS k.ps p S⟩:=by
 refine⟨λj o ho hk=>⟨o,ho,rfl,rfl,λ_ h=>h,λ_ h=>.inl h⟩,λm o ho h0=>⟨o,ho,rfl⟩,λt z hz hl=>?_,λj o ho hk=>.inl ⟨o,ho,hk⟩,λm o ho=>.inl ho,λt z hz hl=>?_⟩
 .by_cases e:t=p
  .subst e;rw[hp]at hz;cases hz;exact⟨_,fz hp S,hl,hS⟩
  .exact⟨z,by show(cS k.ps p S)[t]? =_;rw[kj e];exact hz,hl,λs hs hh=>⟨s,hs,hh,rfl⟩⟩
 .have hz:(cS k.ps p S)[t]? =some z:=hz;rw[jQ hp]at hz;split at hz
  .rename_i e;subst e;exact .inl ⟨y,hp,bK⟩
  .exact .inl ⟨z,hz,hl⟩
theorem Ay{k:Kr}(h:KI k){p:Nat}{y:bl}(hp:k.ps[p]? =some y)(bK:y.aO=true){c:Cl}{ar:Int}{ay:Bool}(he:(eO k p c ar ay).2.fp=0):
  (∃N,OX N k.l (eO k p c ar ay).1.l)/\oH k (eO k p c ar ay).1/\∃z,(eO k p c ar ay).1.ps[p]? =some z/\z.aO=true:=by
 unfold eO jd at he|-;split at he
 .rename_i h1;exact absurd he h1
 rename_i h1;rw[if_neg h1];obtain⟨j,g1,g2,g3,g4,g5⟩:=Lo h (h.RL ar c.cE ay true) (Yl h1);generalize bW k c (gV k ar c.cE ay true)=X at*
 obtain⟨K1,z,e1⟩:=X;obtain⟨l1,o1,p1⟩:=K1;have g4:o1=k.ops:=g4;have g5:p1=k.ps:=g5;have g1:z=j:=g1;subst g4 g5 g1;simp only at he h1 g2 g3|-;split at he
 .rename_i h2;exact absurd he h2
 rename_i h2;rw[if_neg h2];obtain⟨i,S,O⟩:=ji (k:=⟨l1,k.ops,k.ps⟩) hp (Yl h2);generalize aE ⟨l1,k.ops,k.ps⟩ p (j:Nat) c.aY=RR at*
 obtain⟨⟨rl,ro,rp⟩,fd,e2⟩:=RR;have hl:rl=l1:=O.l;subst hl;have p8:∃z,rp[p]? =some z/\z.aO=true:=⟨{y with aQ:=S},by rw[show rp=cS k.ps p S from O.ps];exact fz hp S,bK⟩
 split
 .obtain⟨t1,t2⟩:=PF (λi=>i=j) rl (j:Nat)
  exact⟨⟨_,g2.trans t1⟩,yv hp bK (g2.trans t1) (OE.trans g2 g3 t2) O,p8⟩
 .exact⟨⟨_,g2⟩,yv hp bK g2 g3 O,p8⟩
theorem pI{k:Kr}(h:KI k){p:Nat}{y:bl}(hp:k.ps[p]? =some y)(bK:y.aO=true){c:Cl}(he:(fx k p c).2.fp=0):
  (∃N,OX N k.l (fx k p c).1.l)/\oH k (fx k p c).1/\∃z,(fx k p c).1.ps[p]? =some z/\z.aO=true:=by
 unfold fx at he|-;split at he
 .cases he
 rename_i h1;rw[if_neg h1];split at he
 .rename_i h2;rw[if_pos h2];exact Ay h hp bK he
 rename_i h2;rw[if_neg h2];split at he
 .rename_i h3;exact absurd he h3
 rename_i h3;rw[if_neg h3];exact Ay h hp bK he
end Kn
namespace Kn
theorem PG(k:Kr)(p:Nat)(l:List eA)(e:Int):(eC k p l e).l=k.l:=by unfold eC;split<;>rfl
theorem Sd(k:Kr)(z a:Int):(pA k z a).l=k.l:=rfl
theorem PH{k:Kr}(h:KI k){p:Nat}{c:Cl}(he:(gd k p c).2.fp=0):∃N,OX N k.l (gd k p c).1.l:=by
 refine⟨λ_=>False,?_⟩
 unfold gd kF at he|-;split at he
 .rename_i h1;exact absurd he h1
 rename_i h1;rw[if_neg h1];obtain⟨n,op,j,x,e1,e2,e3,e4,e5,e6,_⟩:=h.br (Yl h1);have Qd:lM k.l (Kn.br k p c.fd (oz c.ag)).2.1=x:=by rw[e3,lM,ZW,e5];rfl
 rw[Qd]at he|-;split at he
 .rename_i h4;rw[if_pos h4];unfold pB;split
  .exact .refl _ _
  .exact .refl _ _
 rename_i h4;rw[if_neg h4];split at he
 .rename_i h5;rw[if_pos h5];unfold mP at he|-;split at he
  .rename_i h6;exact absurd he h6
  rename_i h6;rw[if_neg h6];obtain⟨_,_,_,_,_,w6⟩:=s7 (h.sm x (Tu e5)) (Yl h6);rw[Sd,e3,setObj,ZW];exact OX.set _ e5 (by rw[w6];exact⟨rfl,rfl,rfl⟩)
 .rename_i h5;rw[if_neg h5];unfold oc;split
  .exact .refl _ _
  .exact .refl _ _
theorem Se{k:Kr}(h:KI k){p:Nat}{c:Cl}(he:(iJ k p c).2.fp=0):∃N,OX N k.l (iJ k p c).1.l:=by
 have he:(im k c (Kn.br k p c.fd (s9 c))).2=0:=he;show ∃N,OX N k.l (im k c (Kn.br k p c.fd (s9 c))).1.l;unfold im at he|-;split at he
 .rename_i h1;exact absurd he h1
 rename_i h1;rw[if_neg h1];split at he
 .rename_i h2;exact absurd he h2.2
 rename_i h2;rw[if_neg h2];unfold mC at he|-;split at he
 .rename_i h3;exact absurd he h3
 rename_i h3;rw[if_neg h3];split at he
 .cases he
 rename_i h4;rw[if_neg h4];split at he
 .rename_i h5;rw[if_pos h5];split at he
  .cases he
  rename_i h6;rw[if_neg h6];have he:(D9 k (gV k (Kn.br k p c.fd (s9 c)).2.1 c.cE true false)).2.2=0:=he;show ∃N,OX N k.l (bF k _ _).l;rw[bF,if_pos he];exact⟨λ_=>False,Ln h _ he⟩
 rename_i h5;rw[if_neg h5];split at he
 .cases he
 rename_i h6;rw[if_neg h6];split at he
 .rename_i h7;rw[if_pos h7];obtain⟨j,_,g,_⟩:=uL h (IL _) he;exact⟨_,g⟩
 .rename_i h7;rw[if_neg h7];obtain⟨j,_,g,_⟩:=uL h Pg he;exact⟨_,g⟩
theorem Sf{l:List eA}{fd:Int}(h:(ur l fd).2.2=0):∀s,s∈l->s.has=true->s∈(ur l fd).1:=by
 unfold ur Tb.sN at h|-;split at h
 .rename_i h1;simp only[if_pos h1];exact(yq (l:=l) (o:=(Tb.du (l.map i7) fd).1.dG) (r:=(Tb.du (l.map i7) fd).1.bX) h).2
 .rename_i h1;exact absurd h h1
theorem Sg{l:List eA}{fd n:Int}(h:(vU l fd n).2=0):∀s,s∈l->s.has=true->∃s',s'∈(vU l fd n).1/\s'.has=true/\s'.dG=s.dG:=by
 intro s hs hh;unfold vU Tb.xG at h|-;split at h
 .rename_i h1;obtain⟨i,t,hi,h3,h4,h5,h6⟩:=jN (l:=l) (fd:=fd) h1;split at h
  .cases h
  rename_i h2;split at h
  .cases h
  rename_i h9;simp only[if_pos h1,if_neg h2,if_neg h9];obtain⟨q,hq⟩:=aab hs;have vI:i<l.length:=(Ki.1 h3).1;have e1:(Tb.du (l.map i7) fd).1.dG=t.dG:=by rw[h6]
  by_cases e:q=i
  .subst e;rw[h3]at hq;cases hq;refine⟨Iq ⟨true,⟨(Tb.du (l.map i7) fd).1.dG,n⟩⟩,aaz.2 ⟨_,?_,rfl⟩,rfl,e1⟩;rw[hi,ZW];exact List.mem_set (by simpa using vI) _
  .refine⟨s,aaz.2 ⟨i7 s,?_,rfl⟩,hh,rfl⟩;rw[hi,ZW];refine Tu (i:=q) ?_;rw[U9 (λe2=>e e2.symm),Tr,hq];rfl
 .rename_i h1;exact absurd h h1
theorem tn{k:Kr}{p:Nat}{y:bl}(hp:k.ps[p]? =some y)(bK:y.aO=true){c:Cl}(he:(iI k p c).2.fp=0)(h7:c.ag≠7):oH k (iI k p c).1/\∃z,(iI k p c).1.ps[p]? =some z/\z.aO=true:=by
 have ui:ap k.ps p=y.aQ:=by rw[ap,hp]
 have he:(jg (ap k.ps p) c).2.2=0:=he;show oH k (eC k p _ _)/\∃z,(eC k p _ _).ps[p]? =some z/\z.aO=true;rw[eC,if_pos he];refine⟨Lp hp bK ?_,⟨_,fz hp _,bK⟩⟩;rw[ui]at he|-;unfold jg at he|-;rw[if_neg h7]at he|-;split
 .rename_i h8;rw[if_pos h8]at he;intro s hs hh;exact⟨s,Sf he s hs hh,hh,rfl⟩
 .rename_i h8;rw[if_neg h8]at he;exact Sg he
theorem yw{k:Kr}(h:KI k){p:Nat}{y:bl}(hp:k.ps[p]? =some y)(bK:y.aO=true)(he:(gX k p).2.fp=0):
  (∃N,OX N k.l (gX k p).1.l)/\oH k (gX k p).1/\∃z,(gX k p).1.ps[p]? =some z/\z.aO=true:=by
 unfold Kn.gX yb at he|-;split at he
 .rename_i h1;exact absurd he h1
 rename_i h1;rw[if_neg h1];obtain⟨_,a,b,_,C,_⟩:=yj h.ll (Yl h1);generalize fG k.l=P at*
 obtain⟨l1,⟨ea,eb⟩,e0⟩:=P;have hea:ea=a:=C.ea;have Wd:eb=b:=C.eb;subst hea Wd;unfold td at he|-;split at he
 .rename_i h2;exact absurd he h2
 rename_i h2;rw[if_neg h2];obtain⟨i1,S1,O1⟩:=ji (k:=⟨l1,k.ops,k.ps⟩) hp (Yl h2);simp only at he h2 O1|-;generalize aE ⟨l1,k.ops,k.ps⟩ p (a:Nat) 896=RR at*
 obtain⟨⟨l2,o2,p2⟩,fd1,e1⟩:=RR;have XI:l2=l1:=O1.l;subst XI;have ib:∀m:Nat,o2[m]? =if m=i1 then some ⟨(a:Int),0⟩else k.ops[m]? :=O1.o
 have yJ:p2=cS k.ps p S1:=O1.ps;have VB:p2[p]? =some {y with aQ:=S1}:=by rw[yJ];exact fz hp S1
 split at he
 .rename_i h3;exact absurd he h3
 rename_i h3;rw[if_neg h3];obtain⟨i2,S2,O2⟩:=ji (k:=⟨l2,o2,p2⟩) VB (Yl h3);simp only at h3 O2|-;generalize aE ⟨l2,o2,p2⟩ p (b:Nat) 896=RR at*
 obtain⟨⟨l3,o3,p3⟩,fY,e2⟩:=RR;have Zx:l3=l2:=O2.l;subst Zx;have Z6:∀m:Nat,o3[m]? =if m=i2 then some ⟨(b:Int),0⟩else o2[m]? :=O2.o
 have hp3:p3=cS p2 p S2:=O2.ps;have Lq:p3[p]? =some {y with aQ:=S2}:=by rw[hp3];exact fz VB S2
 have Ze:i1≠i2:=λe=>by
  have:=O2.yP ⟨(a:Int),0⟩ (by show o2[i2]? =_;rw[ib,if_pos e.symm])
  have this:(a:Int)<0:=this;omega
 have VC:∀o,k.ops[i1]? =some o->o.bp<0:=O1.yP;have VD:∀o,k.ops[i2]? =some o->o.bp<0:=λo ho=>O2.yP o (by show o2[i2]? =_;rw[ib,if_neg Ze.symm];exact ho)
 have dy:∀i o,k.l[i]? =some o->o.ag≠0->i≠a/\i≠b:=λi o ho hk=>⟨λe=>hk (C.za o (e▸ho)),λe=>hk (C.zb o (e▸ho))⟩
 have go:∀i,i≠a->i≠b->l3[i]? =k.l[i]? :=C.go;have ga:l3[a]? =some (bR b):=C.ga;have gb:l3[b]? =some (bR a):=C.gb;refine⟨⟨λi=>i=a\/i=b,λi o ho hk=>⟨o,by rw[go i (dy i o ho hk).1 (dy i o ho hk).2];exact ho,rfl,rfl,rfl⟩,λi o ho hk=>?_⟩,⟨λj o ho hk=>⟨o,by rw[show(Kr.mk l3 o3 p3).l=l3 from rfl,go j (dy j o ho hk).1 (dy j o ho hk).2];exact ho,rfl,rfl,λ_ h=>h,λ_ h=>.inl h⟩,λm o ho h0=>?_,λt z hz hl=>?_,λj o ho hk=>?_,λm o ho=>?_,λt z hz hl=>?_⟩,⟨_,Lq,bK⟩⟩
 .by_cases e:i=a
  .subst e;rw[ga]at ho;cases ho;exact .inr ⟨.inl rfl,rfl⟩
  by_cases e2:i=b
  .subst e2;rw[gb]at ho;cases ho;exact .inr ⟨.inr rfl,rfl⟩
  .rw[go i e e2]at ho;exact .inl ⟨o,ho,hk⟩
 .refine⟨o,?_,rfl⟩;show o3[m]? =_;rw[Z6,if_neg (λe=>by subst e;have:=VD o ho;omega),ib,if_neg (λe=>by subst e;have:=VC o ho;omega)]
  exact ho
 .by_cases e:t=p
  .subst e;rw[hp]at hz;cases hz;exact⟨_,Lq,hl,λs hs hh=>⟨s,O2.old s (O1.old s hs hh) hh,hh,rfl⟩⟩
  .exact⟨z,by show p3[t]? =_;rw[hp3,kj e,yJ,kj e];exact hz,hl,λs hs hh=>⟨s,hs,hh,rfl⟩⟩
 .have ho:l3[j]? =some o:=ho;by_cases e:j=a
  .subst e;exact .inr ⟨p,_,⟨true,i1,896⟩,i1,⟨(j:Int),0⟩,Lq,bK,O2.old _ O1.new rfl,rfl,rfl,by show o3[i1]? =_;rw[Z6,if_neg Ze,ib,if_pos rfl],rfl⟩
  by_cases e2:j=b
  .subst e2;exact .inr ⟨p,_,⟨true,i2,896⟩,i2,⟨(j:Int),0⟩,Lq,bK,O2.new,rfl,rfl,by show o3[i2]? =_;rw[Z6,if_pos rfl],rfl⟩
  .rw[go j e e2]at ho;exact .inl ⟨o,ho,hk⟩
 .have ho:o3[m]? =some o:=ho;rw[Z6]at ho;split at ho
  .rename_i e;subst e;exact .inr ⟨p,_,⟨true,m,896⟩,Lq,bK,O2.new,rfl,rfl⟩
  .rw[ib]at ho;split at ho
   .rename_i e;subst e;exact .inr ⟨p,_,⟨true,m,896⟩,Lq,bK,O2.old _ O1.new rfl,rfl,rfl⟩
   .exact .inl ho
 .have hz:p3[t]? =some z:=hz;rw[hp3,jQ VB]at hz;split at hz
  .rename_i e;subst e;exact .inl ⟨y,hp,bK⟩
  .rename_i e;rw[yJ,kj e]at hz;exact .inl ⟨z,hz,hl⟩
end Kn
namespace Kn
theorem uM{k:Kr}{p:Nat}{fd need:Int}(h:(br k p fd need).2.2=0):(c7 (ap k.ps p) fd).2=0/\(br k p fd need).2.1=lV k p fd/\(br k p fd need).1=(c7 (ap k.ps p) fd).1/\Tb.fc need (c7 (ap k.ps p) fd).1.2=true:=by
 have key:(gU (ap k.ps p) fd need).2=0->gU (ap k.ps p) fd need=c7 (ap k.ps p) fd/\Tb.fc need (c7 (ap k.ps p) fd).1.2=true:=λh=>by
  unfold gU Tb.oy at h|-;split at h
  .cases h
  .rename_i hn;rw[if_neg hn];refine⟨rfl,?_⟩;cases hx:Tb.fc need (c7 (ap k.ps p) fd).1.2 with
   |true=>rfl
   |false=>exact absurd ⟨h,hx⟩ hn
 unfold br at h|-;split at h
 .rename_i hn;exact absurd h hn
 .rename_i hn;rw[if_neg hn];obtain⟨e,hw⟩:=key (Yl hn);rw[e];refine⟨?_,rfl,rfl,hw⟩;rw[<-e];exact Yl hn
theorem Ew{k:Kr}(h:KI k){p:Nat}{x:bl}(hp:k.ps[p]? =some x)(bK:x.aO=true)(he:(fX k p).2.2.2=0):
  ∃c:Nat,(fX k p).2.1=c/\c≠p/\(∃N,OX N k.l (fX k p).1.l)/\oH k (fX k p).1/\(∃S,(fX k p).1.ps[p]? =some {x with aQ:=S})/\(fX k p).1.ps[c]? =some ⟨true,x.fenced,0,x.aQ⟩:=by
 obtain⟨c,C⟩:=rB hp bK he;obtain⟨g1,g2,g3,g4⟩:=uD hp C.le;obtain⟨j,j1,j2,j3,j4,-,-⟩:=gg C.em h.ll;have HP:(gm k.ps p c)[p]? =some x:=by rw[g3 p C.ne];exact hp
 obtain⟨i,S,O⟩:=ji (k:=⟨(aG k.l (da c)).1,k.ops,gm k.ps p c⟩) HP C.eo;have js:∀y,k.ps[c]? =some y->y.aO=false:=λy hy=>by have:=C.aU (Ki.1 hy).1;unfold sP at this;rw[hy]at this;have this:(!y.aO&& !(k.l.any (dL (c:Nat))))=true:=this;rw[aae]at this;simpa using this.1
 rw[C.R];refine⟨c,rfl,C.ne.symm,?_⟩;generalize (aE ⟨(aG k.l (da c)).1,k.ops,gm k.ps p c⟩ p (aG k.l (da c)).2.1 3200).1=R at O;have el:R.l=(aG k.l (da c)).1:=O.l;have eo:∀m:Nat,R.ops[m]? =if m=i then some ⟨(aG k.l (da c)).2.1,0⟩else k.ops[m]? :=O.o
 have ep:R.ps=cS (gm k.ps p c) p S:=O.ps;have hRc:R.ps[c]? =some ⟨true,x.fenced,0,x.aQ⟩:=by rw[ep,kj C.ne.symm];exact g2
 have TO:R.ps[p]? =some {x with aQ:=S}:=by rw[ep];exact fz HP S
 have hRt:∀t:Nat,t≠c->t≠p->R.ps[t]? =k.ps[t]? :=λt h1 h2=>by rw[ep,kj h2,g3 t h1]
 have dy:∀(i:Nat)(o:Obj),k.l[i]? =some o->o.ag≠0->i≠j:=λi o ho hk e=>hk (j4 o (e▸ho))
 have Wf:∀(i:Nat)(o:Obj),k.l[i]? =some o->o.ag≠0->R.l[i]? =some o:=λi o ho hk=>by rw[el,j3 i (dy i o ho hk)];exact ho
 refine⟨⟨λi=>i=j,λi o ho hk=>⟨o,Wf i o ho hk,rfl,rfl,rfl⟩,λi o ho hk=>?_⟩,⟨λi o ho hk=>⟨o,Wf i o ho hk,rfl,rfl,λ_ h=>h,λ_ h=>.inl h⟩,λm o ho h0=>?_,λt y hy hl=>?_,λn o ho hk=>?_,λm o ho=>?_,λt y hy hl=>?_⟩,⟨S,TO⟩,hRc⟩
 .rw[el]at ho;by_cases e:i=j
  .subst e;rw[j2]at ho;cases ho;exact .inr ⟨rfl,rfl⟩
  .rw[j3 i e]at ho;exact .inl ⟨o,ho,hk⟩
 .refine⟨o,?_,rfl⟩;rw[eo,if_neg λe=>?_]
  .exact ho
  .subst e;have:=O.yP o ho;omega
 .by_cases e:t=p
  .subst e;rw[hp]at hy;cases hy;exact⟨_,TO,hl,λs hs hh=>⟨s,O.old s hs hh,hh,rfl⟩⟩
  .refine⟨y,?_,hl,λs hs hh=>⟨s,hs,hh,rfl⟩⟩
   rw[hRt t (λe2=>?_) e]
   .exact hy
   .subst e2;rw[js y hy]at hl;cases hl
 .rw[el]at ho;by_cases e:n=j
  .subst e;exact .inr ⟨p,_,⟨true,i,3200⟩,i,⟨(aG k.l (da c)).2.1,0⟩,TO,bK,O.new,rfl,rfl,by rw[eo,if_pos rfl],j1⟩
  .rw[j3 n e]at ho;exact .inl ⟨o,ho,hk⟩
 .rw[eo]at ho;split at ho
  .rename_i e;subst e;exact .inr ⟨p,_,⟨true,m,3200⟩,TO,bK,O.new,rfl,rfl⟩
  .exact .inl ho
 .by_cases e:t=c
  .subst e;exact .inr ⟨da t,Tu (by rw[el];exact j2),by simp[dL,da]⟩
  .by_cases e2:t=p
   .subst e2;exact .inl ⟨x,hp,bK⟩
   .rw[hRt t e e2]at hy;exact .inl ⟨y,hy,hl⟩
theorem Ey{k:Kr}(h:KI k){p:Nat}{y:bl}(hp:k.ps[p]? =some y)(bK:y.aO=true){c:Cl}(he:(gW k p c).2.fp=0):
  ∃(n:Nat)(o:Obj)(x:dn)(r:List dn),(c7 (ap k.ps p) c.fd).2=0/\lV k p c.fd=n/\k.l[n]? =some o/\o.ag=4/\o.ax=x::r/\(gW k p c).1.l=k.l.set n {o with ax:=r}/\oH k (gW k p c).1/\
   ∃z,(gW k p c).1.ps[p]? =some z/\z.aO=true:=by
 unfold Kn.gW ya at he|-;split at he
 .rename_i h1;exact absurd he h1
 rename_i h1;rw[if_neg h1];obtain⟨w1,w2,_⟩:=uM (Yl h1);rw[w2]at he|-;unfold x9 at he|-;split at he
 .rename_i h2;exact absurd he h2
 rename_i h2;rw[if_neg h2];obtain⟨n,o,x,r,e1,e2,e3,e4,e5,e6⟩:=rA (Yl h2);have ui:ap k.ps p=y.aQ:=by rw[ap,hp]
 have jT:=(Ki.1 e2).1;refine⟨n,o,x,r,w1,e1,e2,e3,e4,?_⟩;rw[e6]at he|-;have ext:∀oJ,(∀(t:Nat)z,k.ps[t]? =some z->z.aO=true->∃z':bl,oJ[t]? =some z'/\z'.aO=true/\∀s,s∈z.aQ->s.has=true->∃s',s'∈z'.aQ/\s'.has=true/\s'.dG=s.dG)->
   (∀(t:Nat)z,oJ[t]? =some z->z.aO=true->∃z0,k.ps[t]? =some z0/\z0.aO=true)->
   (x.has=true->∃(t:Nat)(y:bl)(s:eA),oJ[t]? =some y/\y.aO=true/\s∈y.aQ/\s.has=true/\s.dG=x.dG)->oH k ⟨k.l.set n {o with ax:=r},k.ops,oJ⟩:=λoJ a1 a2 a3=>by
  refine⟨λi b hb hk=>?_,λm b hb h0=>⟨b,hb,rfl⟩,a1,λi b hb hk=>?_,λm b hb=>.inl hb,λt z hz hl=>.inl (a2 t z hz hl)⟩
  .by_cases e:n=i
   .subst e;rw[e2]at hb;cases hb;refine⟨_,TK jT,rfl,rfl,λ_ h=>h,λz⟨q,hq,hh,hz⟩=>?_⟩
    rw[e4]at hq;rcases aaL.1 hq with rfl|hq
    .obtain⟨t,y,s,b1,b2,b3,b4,b5⟩:=a3 hh;exact .inr ⟨t,y,s,b1,b2,b3,b4,b5.trans hz⟩
    .exact .inl ⟨q,hq,hh,hz⟩
   .exact⟨b,by show(k.l.set n _)[i]? =_;rw[U9 e];exact hb,rfl,rfl,λ_ h=>h,λ_ h=>.inl h⟩
  .have hb:(k.l.set n {o with ax:=r})[i]? =some b:=hb
   by_cases e:n=i
   .subst e;rw[TK jT]at hb;cases hb;exact .inl ⟨o,e2,hk⟩
   .rw[U9 e]at hb;exact .inl ⟨b,hb,hk⟩
 split at he
 .rename_i h3;rw[if_pos h3];split at he
  .rename_i h4;exact absurd he h4
  rename_i h4;rw[if_neg h4];have h4:=Yl h4;show(bF (eC k p _ 0) _ 0).l=_/\oH k (bF (eC k p _ 0) _ 0)/\∃z,(bF (eC k p _ 0) _ 0).ps[p]? =some z/\z.aO=true;rw[bF,if_pos rfl,eC,if_pos rfl,e5];rw[ui]at h4|-;obtain⟨b1,b2⟩:=yq h4;refine⟨rfl,ext _ (λt z hz hl=>?_) (λt z hz hl=>?_) (λ_=>⟨p,_,⟨true,x.dG,x.bX⟩,fz hp _,bK,b1,rfl,rfl⟩),⟨_,fz hp _,bK⟩⟩
  .rw[jQ hp];by_cases e:t=p
   .subst e;rw[hp]at hz;cases hz;rw[if_pos rfl];exact⟨_,rfl,hl,λs hs hh=>⟨s,b2 s hs hh,hh,rfl⟩⟩
   .rw[if_neg e];exact⟨z,hz,hl,λs hs hh=>⟨s,hs,hh,rfl⟩⟩
  .rw[jQ hp]at hz;split at hz
   .rename_i e;subst e;exact⟨y,hp,bK⟩
   .exact⟨z,hz,hl⟩
 .rename_i h3;rw[if_neg h3];show(bF k _ 0).l=_/\oH k (bF k _ 0)/\∃z,(bF k _ 0).ps[p]? =some z/\z.aO=true;rw[bF,if_pos rfl,e5];exact⟨rfl,ext k.ps (λt z hz hl=>⟨z,hz,hl,λs hs hh=>⟨s,hs,hh,rfl⟩⟩) (λt z hz hl=>⟨z,hz,hl⟩) (λhh=>absurd hh h3),⟨y,hp,bK⟩⟩
theorem PI{k:Kr}{p:Nat}{c:Cl}(he:(iK k p c).2.fp=0):
  ∃(n q:Nat)(o qo:Obj)(m:dn),(c7 (ap k.ps p) c.fd).2=0/\lV k p c.fd=n/\k.l[n]? =some o/\o.bs=q/\k.l[q]? =some qo/\qo.ag=4/\(iK k p c).1.l=k.l.set q {qo with ax:=qo.ax++ [m]}:=by
 have key:∀r:List Obj×Int,(kh k c r).2.fp=0->r.2=0:=λr hr=>by
  unfold kh at hr;by_cases h1:r.2=0
  .exact h1
  .rw[if_pos h1]at hr;exact absurd hr h1
 unfold Kn.iK vu at he|-;split at he
 .rename_i h1;exact absurd he h1
 rename_i h1;rw[if_neg h1];obtain⟨w1,w2,_⟩:=uM (Yl h1);rw[w2]at he|-;have iu:∀(m:dn),(kh k c (fj k.l (lV k p c.fd) m)).2.fp=0->∃(n q:Nat)(o qo:Obj)(m':dn),(c7 (ap k.ps p) c.fd).2=0/\lV k p c.fd=n/\k.l[n]? =some o/\o.bs=q/\k.l[q]? =some qo/\qo.ag=4/\(kh k c (fj k.l (lV k p c.fd) m)).1.l=k.l.set q {qo with ax:=qo.ax++ [m']}:=λm hr=>by have h1:=key _ hr;obtain⟨n,q,o,qo,e1,e2,_,e4,e5,e6,_,_,e9⟩:=yk h1;refine⟨n,q,o,qo,m,w1,e1,e2,e4,e5,e6,?_⟩;show(bF k _ _).l=_;rw[bF,if_pos h1];exact e9
 unfold ta at he|-;split at he
 .rename_i h2;rw[if_pos h2];split at he
  .rename_i h3;exact absurd he h3
  rename_i h3;rw[if_neg h3];exact iu _ he
 .rename_i h2;rw[if_neg h2];exact iu _ he
theorem PJ{k:Kr}(h:KI k){p:Nat}{y:bl}(hp:k.ps[p]? =some y)(bK:y.aO=true){c:Cl}(he:(dR k p c).2.fp=0):∃N,OX N k.l (dR k p c).1.l:=by
 have hf:∀l',l'=k.l->∃N,OX N k.l l':=λl' e=>⟨λ_=>False,e▸ .refl _ _⟩
 have ex:∀z n:Int,(io k (gD k z n)).1.l=k.l:=λz n=>by
  unfold io;split
  .rename_i h1;unfold gD at h1|-;split
   .rename_i h2;rw[if_pos h2]at h1;cases h1
   .rename_i h2;rw[if_neg h2]at h1;split
    .rename_i h3;rw[if_pos h3]at h1;cases h1
    .rfl
  .rfl
 unfold dR at he|-;split at he
 .rename_i h1;rw[if_pos h1];exact hf _ rfl
 rename_i h1;rw[if_neg h1];split at he
 .rename_i h2;rw[if_pos h2];exact hf _ rfl
 rename_i h2;rw[if_neg h2];split at he
 .rename_i h3;rw[if_pos h3];unfold pD at he|-;split at he
  .rename_i h4;exact absurd he h4
  .rename_i h4;rw[if_neg h4];obtain⟨_,_,_,g,_⟩:=Ew h hp bK (Yl h4);exact g
 rename_i h3;rw[if_neg h3];split
 .exact hf _ (ex _ _)
 .generalize Kn.br k p c.fd (if c.ag=20 then 2048 else 1024)=w
  unfold lQ;split
  .exact hf _ rfl
  .unfold rx;split
   .exact hf _ rfl
   .split
    .split<;>exact hf _ rfl
    .exact hf _ (ex _ _)
theorem Zf{k:Kr}(h:KI k){p:Nat}{y:bl}(hp:k.ps[p]? =some y)(bK:y.aO=true){c:Cl}(he:(fE k p c).2.fp=0)(Ht:c.ag≠16)(Eu:c.ag≠17):∃N,OX N k.l (fE k p c).1.l:=by
 have hf:∀l',l'=k.l->∃N,OX N k.l l':=λl' e=>⟨λ_=>False,e▸ .refl _ _⟩
 unfold fE at he|-;split at he
 .rename_i a;rw[if_pos a];exact(pI h hp bK he).1
 rename_i a;rw[if_neg a];split at he
 .rename_i a;rw[if_pos a];exact PH h he
 rename_i a;rw[if_neg a];split at he
 .rename_i a;rw[if_pos a];exact hf _ (PG _ _ _ _)
 rename_i a;rw[if_neg a];split at he
 .rename_i a;rw[if_pos a];exact hf _ rfl
 rename_i a;rw[if_neg a];split at he
 .rename_i a;rw[if_pos a];exact Se h he
 rename_i a;rw[if_neg a];split at he
 .rename_i a;rw[if_pos a];exact(yw h hp bK he).1
 rename_i a;rw[if_neg a,if_neg Ht,if_neg Eu];exact PJ h hp bK he
theorem Cd{k:Kr}(h:KI k){p:Nat}{y:bl}(hp:k.ps[p]? =some y)(bK:y.aO=true){c:Cl}(he:(fE k p c).2.fp=0)(ht:Ax c.ag):
  oH k (fE k p c).1/\(∃z,(fE k p c).1.ps[p]? =some z/\z.aO=true)/\(c.ag=18->∃n:Nat,(fE k p c).2.n=n/\n≠p/\(fE k p c).1.ps[n]? =some ⟨true,y.fenced,0,y.aQ⟩):=by
 unfold fE at he|-;rcases ht with hk|hk|hk|hk|hk|hk|hk
 .rw[if_pos (.inl hk)]at he|-;exact⟨(pI h hp bK he).2.1,(pI h hp bK he).2.2,λe=>om⟩
 .rw[if_pos (.inr hk)]at he|-;exact⟨(pI h hp bK he).2.1,(pI h hp bK he).2.2,λe=>om⟩
 .rw[if_neg om,if_neg om,if_pos om]at he|-;exact⟨(tn hp bK he om).1,(tn hp bK he om).2,λe=>om⟩
 .rw[if_neg om,if_neg om,if_pos om]at he|-;exact⟨(tn hp bK he om).1,(tn hp bK he om).2,λe=>om⟩
 .rw[if_neg om,if_neg om,if_neg om,if_neg om,if_neg om,if_pos om]at he|-;exact⟨(yw h hp bK he).2.1,(yw h hp bK he).2.2,λe=>om⟩
 .rw[if_neg om,if_neg om,if_neg om,if_neg om,if_neg om,if_neg om,if_neg om,if_pos om]at he|-;obtain⟨_,_,_,_,_,_,_,_,_,_,g1,g2⟩:=Ey h hp bK he;exact⟨g1,g2,λe=>om⟩
 .rw[if_neg om,if_neg om,if_neg om,if_neg om,if_neg om,if_neg om,if_neg om,if_neg om]at he|-;unfold dR at he|-;rw[if_neg om,if_neg om,if_pos hk]at he|-;unfold pD at he|-;split at he
  .rename_i h4;exact absurd he h4
  .rename_i h4;rw[if_neg h4];obtain⟨n,a1,a2,_,a3,⟨S,a4⟩,a5⟩:=Ew h hp bK (Yl h4);exact⟨a3,⟨_,a4,bK⟩,λ_=>⟨n,a1,a2,a5⟩⟩
end Kn
namespace Kn
structure GI(k:Kr)(W:Wt):Prop where
 ki:KI k
 sw:LY k
 nd:(W.map (·.1)).Nodup
 ky:∀e,e∈W->∃(j:Nat)(o:Obj),e.1=j/\k.l[j]? =some o/\o.ag=4
 ln:∀(j:Nat)o,k.l[j]? =some o->o.ag=4->((gG j W).getD []).length=o.ax.length
 nn:∀e,e∈W->∀x,x∈e.2->0<=x.1
theorem GI.Lr:GI cH []:=by
 refine⟨B3,PA,aC,aC,λj o ho hk=>?_,aC⟩
 have:o=gO:=by have hm:=Tu ho;simpa[cH]using hm
 subst this;simp[gO]at hk
theorem I0(i j:Int)(p:Nat)(c:Cl)(a:An)(b k:Kr)(W:Wt):(dV i p c a b k W).1=(dV j p c a b k W).1:=by
 unfold dV;repeat' split
 all_goals rfl
def qH(prog:List dv)(c:Cl)(k:Kr)(W:Wt):Wt:=if(gF prog k c).2.fp=0 then(dV 0 c.be.toNat c (gF prog k c).2 k (gF prog k c).1 W).1 else W
theorem tp{x:Int}:∀{W:Wt}{v:List (Int×Int)},gG x W=some v->(x,v)∈W
 | [],_,h=>by cases h
 |e::r,v,h=>by
  rw[gG]at h;split at h
  .rename_i hx;cases h;obtain⟨a,b⟩:=e;simp at hx;subst hx;simp
  .exact abN _ (tp h)
theorem I1{x:Int}{v:List (Int×Int)}:∀{W:Wt},(W.map (·.1)).Nodup->(x,v)∈W->gG x W=some v
 | [],_,h=>by cases h
 |e::r,hn,h=>by
  rw[aaR,abH]at hn;rw[gG];rcases aaL.1 h with h1|h1
  .rw[<-h1,if_pos rfl]
  .have dy:¬x=e.1:=λh2=>hn.1 (h2▸aaz.2 ⟨(x,v),h1,rfl⟩)
   rw[if_neg dy];exact I1 hn.2 h1
theorem yx(x:Int)(v:List (Int×Int)):∀W:Wt,gG x (jO x v W)=some v
 | []=>by rw[jO,gG,if_pos rfl]
 |e::r=>by
  rw[jO];split
  .rw[gG,if_pos rfl]
  .rename_i h;rw[gG,if_neg h];exact yx x v r
theorem pJ{x z:Int}(dy:z≠x)(v:List (Int×Int)):∀W:Wt,gG z (jO x v W)=gG z W
 | []=>by simp[jO,gG,dy]
 |e::r=>by
  rw[jO];split
  .rename_i h;rw[gG,gG,if_neg dy,if_neg (by rw[<-h];exact dy)]
  .rw[gG,gG,pJ dy v r]
theorem nF{x:Int}{v:List (Int×Int)}:∀{W:Wt}{e:Int×List (Int×Int)},e∈jO x v W->e=(x,v)\/e∈W
 | [],e,h=>by rw[jO]at h;exact .inl (by simpa using h)
 |y::r,e,h=>by
  rw[jO]at h;split at h
  .rcases aaL.1 h with h|h
   .exact .inl h
   .exact .inr (abN _ h)
  .rcases aaL.1 h with h|h
   .exact .inr (h▸adW)
   .exact(nF h).imp id (abN _)
theorem Ce{x:Int}{v:List (Int×Int)}:∀{W:Wt},(W.map (·.1)).Nodup->((jO x v W).map (·.1)).Nodup
 | [],_=>by rw[jO];simp
 |y::r,h=>by
  rw[aaR,abH]at h;rw[jO];split
  .rename_i hx;rw[aaR,abH];exact⟨by rw[hx];exact h.1,h.2⟩
  .rename_i hx;rw[aaR,abH];refine⟨λhm=>?_,Ce h.2⟩
   obtain⟨e,he,e1⟩:=aaz.1 hm;rcases nF he with rfl|he
   .exact hx e1
   .exact h.1 (e1▸aaz.2 ⟨e,he,rfl⟩)
theorem uN{l:List Obj}{x:Int}(hk:gk l x=true):∀W:Wt,gG x (tk l W)=gG x W
 | []=>rfl
 |e::r=>by
  rw[tk,ab2,gG];split
  .rename_i h1;rw[gG];split
   .rfl
   .exact uN hk r
  .rename_i h1;rw[if_neg (λh2=>h1 (by rw[<-h2];exact hk))]
   exact uN hk r
theorem Si{k:Kr}(h:KI k){n:Nat}{o:bI}(ho:(fa k).ops[n]? =some o)(h0:0<=o.bp):k.ops[n]? =some o:=by
 obtain⟨a,c,h1,h2,h3⟩:=(gp h.kr).ex;have one:∀{x y:Kr}{en:Bool},cW x.l x.ops x.ps y.l y.ops y.ps en->∀o,y.ops[n]? =some o->0<=o.bp->x.ops[n]? =some o:=λhx o ho h0=>by
  obtain⟨b,_,_,hP⟩:=hx.ex;obtain⟨o',g1,g2⟩:=hP.get ho;unfold Bl at g2;split at g2
  .rw[g2]at h0;simp at h0
  .rw[g2];exact g1
 have hc:c.ops[n]? =some o:=by obtain⟨n1,n2,n3,P,_,_,_,_,e⟩:=h3.ex;rw[e]at ho;exact(yh ho).1
 have ha:=one h2 o hc h0;clear hc h2 h3 ho
 induction h1 with
 |refl=>exact ha
 |step h ho ih=>exact ih (one ho o ha h0)
theorem Sj{k:Kr}(h:KI k){n:Nat}{o:Obj}(ho:(fa k).l[n]? =some o)(hk:o.ag≠0):∃o':Obj,k.l[n]? =some o'/\o'.ag=o.ag/\o'.ax=o.ax:=by
 obtain⟨a,c,h1,h2,h3⟩:=(gp h.kr).ex;obtain⟨o',g1,g2⟩:=(xw h.kr h1 h2 h3).1.2 n o ho hk;exact⟨o',g1,by rw[g2],by rw[g2]⟩
def LN(l:List Obj)(W:Wt):Prop:=∀(j:Nat)o,l[j]? =some o->o.ag=4->((gG j W).getD []).length=o.ax.length
theorem LN.ox{N:Nat->Prop}{k:Kr}{W:Wt}(h:GI k W){l':List Obj}(hx:OX N k.l l'):LN l' W:=λj o' fl gh=>by
 rcases hx.n j o' fl om with⟨o,ho,hk⟩|⟨_,hq⟩
 .obtain⟨b,g1,g2,_,g4⟩:=hx.m j o ho hk;rw[fl]at g1;cases g1;rw[g4];exact h.ln j o ho om
 .by_cases hex:∃o,k.l[j]? =some o/\o.ag=4
  .obtain⟨o,ho,hk⟩:=hex;obtain⟨b,g1,g2,_,g4⟩:=hx.m j o ho om;rw[fl]at g1;cases g1;rw[g4];exact h.ln j o ho hk
  .rw[hq];cases hw:gG j W with
   |none=>rfl
   |some v=>
    obtain⟨j',o,e1,e2,e3⟩:=h.ky _ (tp hw);have:j'=j:=by simp at e1;omega
    subst this;exact absurd ⟨o,e2,e3⟩ hex
theorem GI.op{prog:List dv}{k:Kr}{W:Wt}(h:GI k W){p:Nat}{c:Cl}(hc:c.be=p)(hp:p<k.ps.length)(bK:k.ps[p].aO=true)(he:(fE k p c).2.fp=0)(a:An)(k2:Kr):
  LN (fE k p c).1.l (dV 0 p c a k k2 W).1/\((dV 0 p c a k k2 W).1.map (·.1)).Nodup/\(∀e,e∈(dV 0 p c a k k2 W).1->∃j:Nat,e.1=j)/\(∀e,e∈(dV 0 p c a k k2 W).1->∀x,x∈e.2->0<=x.1)/\
   ((c.ag=16\/c.ag=17)->(c7 (ap k.ps p) c.fd).2=0)/\(c.ag=17->∃x r,gG (lV k p c.fd) W=some (x::r)):=by
 have LK:=vR hp;have Zg:∀e,e∈W->∃j:Nat,e.1=j:=λe he=>by obtain⟨j,_,h1,_⟩:=h.ky e he;exact⟨j,h1⟩
 by_cases Ht:c.ag=16
 .have dS:fE k p c=iK k p c:=by unfold fE;rw[if_neg om,if_neg om,if_neg om,if_neg om,if_neg om,if_neg om,if_pos Ht]
  rw[dS]at he|-;obtain⟨n,q,o,qo,m,w1,e1,e2,e3,e4,e5,e6⟩:=PI he;have yR:lU k.l (lV k p c.fd)=q:=by rw[e1,lU,ZW,e2];exact e3
  have lZ:(dV 0 p c a k k2 W).1=jO (q:Nat) ((gG (q:Nat) W).getD []++ [(c.be,c.fY)]) W:=by unfold dV;rw[if_neg om,if_neg om,if_neg om,if_neg om,if_pos Ht,yR]
  rw[lZ,e6];refine⟨λj o' fl gh=>?_,Ce h.nd,λe he=>?_,λe he x hx=>?_,λ_=>w1,λe=>om⟩
  .by_cases e:q=j
   .subst e;rw[TK (Ki.1 e4).1]at fl;cases fl;rw[yx];have:=h.ln q qo e4 e5;simp[this]
   .rw[U9 e]at fl;rw[pJ om];exact h.ln j o' fl gh
  .rcases nF he with rfl|he
   .exact⟨q,rfl⟩
   .exact Zg e he
  .rcases nF he with rfl|he
   .rcases abD.1 hx with hx|hx
    .cases hw:gG (q:Nat) W with
     |none=>rw[hw]at hx;simp at hx
     |some v=>rw[hw]at hx;exact h.nn _ (tp hw) x hx
    .have:x=(c.be,c.fY):=by simpa using hx
     rw[this,hc];show(0:Int)<=(p:Nat);omega
   .exact h.nn e he x hx
 by_cases Eu:c.ag=17
 .have dS:fE k p c=gW k p c:=by unfold fE;rw[if_neg om,if_neg om,if_neg om,if_neg om,if_neg om,if_neg om,if_neg om,if_pos Eu]
  rw[dS]at he|-;obtain⟨n,o,x,r,w1,e1,e2,e3,e4,e5,_,_⟩:=Ey h.ki LK bK he;have E4:=h.ln n o e2 e3;rw[e4]at E4;cases hw:gG (n:Nat) W with
  |none=>rw[hw]at E4;simp at E4
  |some v=>
   rw[hw]at E4;cases v with
   |nil=>simp at E4
   |cons z v=>
    have E4:v.length=r.length:=by simpa using E4
    have lZ:(dV 0 p c a k k2 W).1=jO (n:Nat) v W:=by unfold dV;rw[if_neg om,if_neg om,if_neg om,if_neg om,if_neg om,if_pos Eu,e1,hw]
    rw[lZ,e5,e1];refine⟨λj o' fl gh=>?_,Ce h.nd,λe he=>?_,λe he x hx=>?_,λ_=>w1,λ_=>⟨z,v,hw⟩⟩
    .by_cases e:n=j
     .subst e;rw[TK (Ki.1 e2).1]at fl;cases fl;rw[yx];exact E4
     .rw[U9 e]at fl;rw[pJ om];exact h.ln j o' fl gh
    .rcases nF he with rfl|he
     .exact⟨n,rfl⟩
     .exact Zg e he
    .rcases nF he with rfl|he
     .exact h.nn _ (tp hw) x (abN _ hx)
     .exact h.nn e he x hx
 .have lZ:(dV 0 p c a k k2 W).1=W:=by
   unfold dV;rw[if_neg Ht,if_neg Eu];repeat' split
   all_goals rfl
  rw[lZ];obtain⟨N,hx⟩:=Zf h.ki LK bK he Ht Eu;exact⟨LN.ox h hx,h.nd,Zg,h.nn,λe=>om,λe=>absurd e Eu⟩
theorem Az{prog:List dv}{k:Kr}(h:KI k)(hs:LY k){p:Nat}{c:Cl}(hp:p<k.ps.length)(bK:k.ps[p].aO=true)(he:(fE k p c).2.fp=0)(ht:Ax c.ag):fa (fE k p c).1=J6 (fE k p c).1:=
 h.Zd hs (h.op (vR hp) bK he) (Cd h (vR hp) bK he ht).1
theorem GI.in_{prog:List dv}{k:Kr}{W:Wt}(h:GI k W){c:Cl}(he:(gF prog k c).2.fp=0):Cb c (gF prog k c).2 k (gF prog k c).1 W c.be.toNat:=by
 obtain⟨p,hc,hp,hl,_,_,ho,e⟩:=uJ he;have EZ:c.be.toNat=p:=by rw[hc];rfl
 rw[EZ];have EU:=h.ki.do_ prog c;obtain⟨g1,g2,g3,g4,g5,g6⟩:=h.op (prog:=prog) hc hp hl ho (gF prog k c).2 (gF prog k c).1;have Bj:=λht=>Cd h.ki (vR hp) hl ho ht
 have d9:Ax c.ag->∀(t:Nat)z,(fE k p c).1.ps[t]? =some z->z.aO=true->(gF prog k c).1.ps[t]? =some z:=λht t z hz hlz=>by rw[e];show(fa (fE k p c).1).ps[t]? =some z;rw[Az (prog:=prog) h.ki h.sw hp hl ho ht];exact Er hz hlz
 refine⟨h.ki,EU,hc,hp,λht=>?_,g5,λx hx=>?_,g6,λQj=>?_⟩
 .obtain⟨z,hz,hlz⟩:=(Bj ht).2.1;exact(Ki.1 (d9 ht p z hz hlz)).1
 .obtain⟨j,o,e1,e2,e3⟩:=h.ky x hx;have hw:gG (j:Nat) W=some x.2:=I1 h.nd (by rw[<-e1];exact hx)
  have:=h.ln j o e2 e3;rw[hw]at this;have hq:=(h.ki.sm o (Tu e2)).q;have this:x.2.length=o.ax.length:=this;omega
 .have ht:Ax c.ag:= .inr (.inr (.inr (.inr (.inr (.inr Qj)))));obtain⟨n,a1,_,a2⟩:=(Bj ht).2.2 Qj;refine⟨n,by rw[e];exact a1,(Ki.1 (d9 ht n _ a2 rfl)).1⟩
theorem GI.mid{prog:List dv}{k:Kr}{W:Wt}(h:GI k W)(c:Cl):((qH prog c k W).map (·.1)).Nodup/\∀e,e∈qH prog c k W->∃j:Nat,e.1=j:=by
 unfold qH;by_cases he:(gF prog k c).2.fp=0
 .rw[if_pos he];obtain⟨p,hc,hp,hl,_,_,ho,e⟩:=uJ he;have EZ:c.be.toNat=p:=by rw[hc];rfl
  rw[EZ];obtain⟨g1,g2,g3,g4,g5,g6⟩:=h.op (prog:=prog) hc hp hl ho (gF prog k c).2 (gF prog k c).1;exact⟨g2,g3⟩
 .rw[if_neg he];exact⟨h.nd,λe he=>by obtain⟨j,_,h1,_⟩:=h.ky e he;exact⟨j,h1⟩⟩
theorem GI.next{prog:List dv}{k:Kr}{W:Wt}(h:GI k W)(c:Cl):GI (gF prog k c).1 (tk (gF prog k c).1.l (qH prog c k W)):=by
 have hm:=h.mid (prog:=prog) c;have E4:LN (gF prog k c).1.l (qH prog c k W)/\∀e,e∈qH prog c k W->∀x,x∈e.2->0<=x.1:=by
  unfold qH;by_cases he:(gF prog k c).2.fp=0
  .rw[if_pos he];obtain⟨p,hc,hp,hl,_,_,ho,e⟩:=uJ he;have EZ:c.be.toNat=p:=by rw[hc];rfl
   rw[EZ];obtain⟨g1,g2,g3,g4,g5,g6⟩:=h.op (prog:=prog) hc hp hl ho (gF prog k c).2 (gF prog k c).1;refine⟨λj o hj hk=>?_,g4⟩
   have hj:(fa (fE k p c).1).l[j]? =some o:=by rw[e]at hj;exact hj
   obtain⟨o',q1,q2,q3⟩:=Sj (h.ki.op (vR hp) hl ho) hj om;rw[<-q3];exact g1 j o' q1 om
  .rw[if_neg he];obtain⟨e,h2⟩:=B5 he;rw[h2];exact⟨h.ln,h.nn⟩
 refine⟨h.ki.do_ prog c,R5 h.ki h.sw c,(List.filter_sublist.map _).nodup hm.1,λe he=>?_,λj o ho hk=>?_,λe he=>E4.2 e (acL.1 he).1⟩
 .obtain⟨Qp,kK⟩:=acL.1 he;obtain⟨j,hj⟩:=hm.2 e Qp;rw[hj]at kK;unfold gk at kK;rw[ZW]at kK;cases ho:(gF prog k c).1.l[j]? with
  |none=>rw[ho]at kK;cases kK
  |some o=>rw[ho]at kK;exact⟨j,o,hj,ho,by simpa using kK⟩
 .have oZ:gk (gF prog k c).1.l (j:Nat)=true:=by unfold gk;rw[ZW,ho];simpa using hk
  rw[uN oZ];exact E4.1 j o ho hk
theorem Ez(k:Kr)(i:Int)(p:Nat)(fd h f g:Int):(d7 k i p fd h f g).length<=1:=by unfold d7;split<;>simp
theorem EA(k:Kr)(i:Int)(n:Nat)(f:Int):∀L:List Int,(fQ k i n f L).length<=L.length
 | []=>by simp[fQ]
 |y::r=>by
  have h1:fQ k i n f (y::r)=d7 k i n y 3 f y++fQ k i n f r:=by rw[fQ,fQ,List.flatMap_cons]
  have:=EA k i n f r;have:=Ez k i n y 3 f y;rw[h1,aa5,aar];omega
theorem Ls{i:Int}{c:Cl}{a:An}{b k:Kr}{W:Wt}{p:Nat}(h:Cb c a b k W p):(dV i p c a b k W).2.length<=12:=by
 have hc:=λfd h f g=>Ez k i p fd h f g
 have yU:(ap b.ps p).length<=10:=by rw[eD h.pb];exact h.kb.sl _ (aay h.pb)
 have hL:(B7 (ap b.ps p)).length<=10:=by have:=Tb.sO ((ap b.ps p).map i7) 0;rw[N7]at this;exact abF this yU
 unfold dV;split
 .have:=hc a.n 1 (-1) 0;show(d7 k i p a.n 1 (-1) 0).length<=12;omega
 split
 .have:=hc a.n 3 c.be c.fd;show(d7 k i p a.n 3 c.be c.fd).length<=12;omega
 split
 .have:=hc c.fd 3 c.be c.fd;show(d7 k i p c.fd 3 c.be c.fd).length<=12;omega
 split
 .have:=hc a.n 2 (-1) 0;have:=hc a.m 2 (-1) 0;show(d7 k i p a.n 2 (-1) 0++d7 k i p a.m 2 (-1) 0).length<=12;rw[aa5];omega
 split
 .simp
 split
 .split
  .rename_i x r _;show(if a.m>=0 then d7 k i p a.m 3 x.1 x.2 else []).length<=12
   split
   .have:=hc a.m 3 x.1 x.2;omega
   .simp
  .simp
 split
 .have:=EA k i a.n.toNat c.be (B7 (ap b.ps p));have:=hc a.m 2 (-1) 0;show(fQ k i a.n.toNat c.be (B7 (ap b.ps p))++d7 k i p a.m 2 (-1) 0).length<=12;rw[aa5];omega
 .simp
theorem Sl(prog:List dv)(i:Nat)(c:Cl)(g:Gs):(km prog i c g).W=tk (gF prog g.k c).1.l (qH prog c g.k g.W):=by
 unfold km qH;simp only;split
 .rw[I0 i 0]
 .rfl
theorem GI.step{prog:List dv}{g:Gs}(h:GI g.k g.W)(i:Nat)(c:Cl):GI (km prog i c g).k (km prog i c g).W:=by rw[Sl];exact h.next c
theorem GI.run{prog:List dv}:∀{g:Gs}(i:Nat)(cs:List Cl),GI g.k g.W->GI (kH prog g i cs).k (kH prog g i cs).W
 |_,_,[],h=>h
 |_,i,c::r,h=>GI.run (i+1) r (h.step i c)
theorem Lt{prog:List dv}{g:Gs}(h:GI g.k g.W)(i:Nat)(c:Cl):(km prog i c g).out.length<=g.out.length+12:=by
 show(g.out++_).length<=_;rw[aa5];by_cases he:(gF prog g.k c).2.fp=0
 .rw[if_pos he];have:=Ls (i:=i) (h.in_ he);omega
 .rw[if_neg he];simp
theorem yy{prog:List dv}:∀{g:Gs}(i:Nat)(cs:List Cl),GI g.k g.W->(kH prog g i cs).out.length<=g.out.length+12*cs.length
 |_,_,[],_=>by simp[kH]
 |g,i,c::r,h=>by have h1:=yy (prog:=prog) (i+1) r (h.step (prog:=prog) i c);have h2:=Lt (prog:=prog) h i c;show(kH prog (km prog i c g) (i+1) r).out.length<=_;rw[aar];omega
end Kn
def c14:LF:= ⟨96,[.tmp 4,.tmp 5],(.seq (.ai [qu 4 (.aN qe),qu 5 (.aN (qi 0))]) (.seq (.ai [qm 16 0,qu 17 (qc 17 [16]),qm 15 17,qu 18 (.ext 15 0),qu 19 (.ext 15 1),qu 7 (.alloc [qd 0,qd 0]),qm 6 18,qw (.store 2 7 19)]) (.seq (.seq (.ai [qf 20 0 7,ql 21 20,qu 22 (.aL .neq 21 (qi 0))]) (.cond 22 (.seq (.bV [qf 23 0 7,ql 24 23,qu 4 (.aN qe),qm 5 24] [eE 4 0 .nil]) .ret) .skip)) (.seq (.seq (.ai [qm 25 1,qu 26 (.len 1 25),qu 27 (.aL .gtr 26 (qi 80))]) (.cond 27 (.seq (.ai [qu 4 (.aN qe),qu 5 (.aN (qi 5))]) .ret) .skip)) (.seq (.ai [qu 28 (qc 18 []),qu 29 (.rM),qu 30 (.build [.aM,.aM,.aM,(.ah (.val (.map none))),.aM] [(0,3,28),(3,1,29)]),qu 31 (.box 30),qm 8 31]) (.seq (.seq (.ai [qm 32 1,qu 33 (.len 1 32),qu 34 (.aN (qi 0))]) (.block 0 (.loop (.seq (.ai [qu 35 (.aL .lss 34 33)]) (.seq (.cond 35 .skip (.exit 0)) (.seq (.block 1 (.seq (.ai [qm 36 34,qu 37 (.cw 9 32 34),qL 38 9 37,qu 10 (.alloc [qd 0,qd 0,qd 0,qd 0,qd 0,qd 0,qd 0,(.ah (.val (.string ⟨#[]⟩))),.aM]),qm 9 36,qw (.store 9 10 38)]) (.seq (.ai [qm 39 8,qu 40 (.aR 39),qf 41 0 40,qL 42 3 41,qu 11 (.alloc [.aM,.aM,.aM]),qw (.store 3 11 42)]) (.seq (.bV [qm 44 6,qm 45 8,qu 46 (.aR 45),qf 47 0 46,qL 48 3 47,qL 49 9 10,qu 50 (qc 19 [44,48,49]),qm 43 50,qu 51 (.ext 43 0),qu 52 (.ext 43 1),qu 12 (.alloc [.aM,.aM,.aM]),qu 13 (.alloc [qd 0,qd 0,qd 0,.aM]),qw (.store 3 12 51),qw (.store 4 13 52)] [(eE 6 0 (.wm (.cons 6 (some []) (eE 3 7 (.wm (.cons 10 (some [5,4]) (.cons 11 (some [5,4]) (.cons 12 (some []) (.cons 13 (some []) .nil)))) (.cons 11 (some [5,4]) (.cons 10 (some [5,4]) (.cons 12 (some []) (.cons 13 (some []) .nil))))))) (.wm (.cons 10 (some [5,4]) (.wm (.cons 6 (some []) (eE 3 7 (.cons 11 (some [5,4]) (.cons 12 (some []) (.cons 13 (some []) .nil))))) (.cons 11 (some [5,4]) (.cons 6 (some []) (eE 3 7 (.cons 12 (some []) (.cons 13 (some []) .nil))))))) (.cons 11 (some [5,4]) (.wm (.cons 6 (some []) (eE 3 7 (.cons 10 (some [5,4]) (.cons 12 (some []) (.cons 13 (some []) .nil))))) (.cons 10 (some [5,4]) (.cons 6 (some []) (eE 3 7 (.cons 12 (some []) (.cons 13 (some []) .nil))))))))))]) (.cX (.seq (.ai [qm 53 8,qL 54 3 12,qu 55 (.aR 53),qf 56 0 55,qw (.store 3 56 54)]) (.seq (.seq (.ai [qf 57 0 13,ql 58 57,qu 59 (.aL .eql 58 (qi 0))]) (.cond 59 (.ai [qm 60 8,qm 61 9,qu 62 (qc 20 [60,61,10,13,11])]) .skip)) (.cX (.seq (.ai [qm 63 8,qu 64 (.aR 63),qf 65 3 64,ql 66 65,qu 67 (.Wo 66)]) (.block 2 (.loop (.seq (.ai [qu 68 (.tu 67),qu 69 (.ext 68 0)]) (.seq (.cond 69 .skip (.exit 2)) (.block 3 (.seq (.ai [qu 70 (.Wp 67),qu 71 (.ext 70 0),qm 14 71]) (.seq (.ai [qm 72 14,qf 73 0 12,ql 74 73,qu 75 (.len 1 74),qu 76 (.aL .geq 72 75),qm 77 76,qg 78 (.bY 0 12) 77 false,qg 79 (.load false 1 78) 77 false,qg 80 (.aN 14) 77 false,qg 81 (.cw 9 79 80) 77 false,qg 82 (.bY 0 81) 77 false,qg 83 (.load false 1 82) 77 false,qg 84 (.aL .neq 83 (qi 4)) 77 false,qu 85 (.pick 77 (qb true) 84)]) (.cond 85 (.ai [qm 86 8,qu 87 (.aR 86),qf 88 3 87,ql 89 88,qm 90 14,qw (.L5 (.i .i64) 89 90)]) .skip))))))))))))))))) (.ai [qu 91 (.aL .add 34 (qi 1)),qm 34 91]))))))) (.seq (.ai [qm 92 8,qu 93 (.aR 92),qf 94 4 93,ql 95 94,qm 4 95,qu 5 (.aN (qi 0))]) .ret)))))))⟩
namespace Kn
def ac1(L:List Sp):Dt:= .sl 8 (L.map Sp.enc)
def rF(L:List Sp)(e:Int):CV:= .bx [.one (.ah (ac1 L)),cG e]
theorem EB{m:Mem}{e:Int}:cN m (.bx [.one .aM,cG e]) (rF [] e):=by
 refine .bx rfl λi r r' h1 h2=>?_
 match i,h1,h2 with
 |0,h1,h2=>cases h1;cases h2;exact .one (.aM 8)
 |1,h1,h2=>cases h1;cases h2;exact eZ.self rfl
 |n+2,h1,h2=>simp at h1
def g0:Gs:=⟨cH,[],[]⟩
def TrQ(l:List cU)(cs:List Cl)(r:CV)(m:Mem):Prop:=((cm l).1≠0->cN m r (rF [] (cm l).1))/\((cm l).1=0->cs.length>80->cN m r (rF [] 5))/\
   ((cm l).1=0->cs.length<=80->∃l',l'.Perm l/\gy l'/\cN m r (rF (kH (cZ l') g0 0 cs).out 0))
theorem Z7(Y:Nat->Nat)(m:Mem)(Z:Nat->Prop)(id:Nat)(W:Wt)(so:Option (List Nat×Nat)):mH Y m Z id (.mo 2 (pH W) so) (.mo 2 (pH W) so):=by have:=mH.mo (Y:=Y) (m:=m) (Z:=Z) (id:=id) 2 (pH W) so;rwa [IY]at this
theorem Lu(W:Wt)(i:Nat):(pH W).eraseIdx i=pH (W.eraseIdx i):=(Go.ChangeMaps.map_eraseIdx _ _ _).symm
theorem AA{Y:Nat->Nat}{m:Mem}(c:Cl)(a2:An)(k k2:Kr)(W:Wt)(out:List Sp)(h0:cF m (Y 0)=some (.var [.ah (dt k.l),.ah (fh k.ops),.ah (gE k.ps),.map (Y 1),.row (Y 2) 8 0 none]))(h1:cF m (Y 1)=some (lW W))(h2:cF m (Y 2)=some (fb out))(h3:cF m (Y 3)=some (cB c))(h4:cF m (Y 4)=some (aB a2))(h5:cF m (Y 5)=some (kB k))(h6:cF m (Y 6)=some (kB k2)):eI Y m (λk=>bD [] k=true) 0 [gB k 1 2,lW W,fb out,cB c,aB a2,kB k,kB k2]:=
 .put (dI rfl) h0 (.eq rfl (jA _ _ _)) (.put (dI rfl) h1 (.eq (fI _ _) (jP _)) (.put (dI rfl) h2 (.bM rfl) (.put (dI rfl) h3 (.eq rfl (jz _)) (.put (dI rfl) h4 (.eq rfl (yr _)) (.put (dI rfl) h5 (.eq rfl (fF _)) (.put (dI rfl) h6 (.eq rfl (fF _)) (.nil _)))))))
theorem l14:bz prog Tryz.f14=some c14.er:=by kernel_rfl
theorem Hu(l:List cU)(cs:List Cl)(eL:Ep cs):body Tryz.prog c14 [eK l,pG cs] [] (TrQ l cs):=by
 refine IQ l (λhw=>?_) (λhw l' hp hr=>?_)
 .refine bv (λhe=>?_) (λhe=>absurd he hw)
  exact⟨λ_=>EB,λh=>absurd h hw,λh=>absurd h hw⟩
 .generalize hpg:cZ l'=prog;refine aP (λyK=>?_) (λyK=>?_)
  .have yK:cs.length>80:=by have yK:((cs.map Cl.enc).length:Int)>80:=yK;rw[N7]at yK;omega
   exact⟨λh=>absurd hw h,λ_ _=>EB,λ_ h=>om⟩
  have yK:cs.length<=80:=by have yK:¬((cs.map Cl.enc).length:Int)>80:=yK;rw[N7]at yK;omega
  refine IS ?_;refine ba (λi=>i<=cs.length) [6,32,33] (λi=>[(34,an .i64 (i:Nat)),(8,.rv (.one (.ptr 0 0)))])
   (λi=>[gB (kH prog g0 0 (cs.take i)).k 1 2,lW (kH prog g0 0 (cs.take i)).W,fb (kH prog g0 0 (cs.take i)).out]) (λi=>cs.length-i) 0 (aav _) ?_ (λi hi=>?_)
  .refine View.trans (View.abl 2 4 8 3 rfl rfl rfl rfl) (View.o1 4 [2,1,3] [] ?_)
   .exact .pt rfl rfl (.eq rfl (jA _ _ _)) (.pt rfl rfl (.mo0 2) (.pn rfl rfl rfl))
  have hi:i<=cs.length:=hi;refine aP (λh=>?_) (λh=>?_)
  .have aD:i<cs.length:=by have h:(i:Int)<((cs.map Cl.enc).length:Int):=h;rw[N7]at h;omega
   have hgi:=GI.run (prog:=prog) (g:=g0) 0 (cs.take i) GI.Lr;have CR:=yy (prog:=prog) (g:=g0) 0 (cs.take i) GI.Lr;have ht:cs.take (i+1)=cs.take i++ [cs[i]]:=qy (vR aD);have Z8:=Aw prog (cs.take i) g0 0 cs[i];rw[<-ht,aaE,aa6,ads hi]at Z8;rw[aaE]at CR;have CR:(kH prog g0 0 (cs.take i)).out.length<=960:=by have:g0.out.length=0:=rfl;omega
   have iU:=GI.in_ (prog:=prog) hgi (c:=cs[i]);have sK:=GI.mid (prog:=prog) hgi cs[i];have hd:=eL.d _ (aay aD);refine af (Py aD) ?_;generalize cs[i]=c at*
   generalize kH prog g0 0 (cs.take i)=g at*
   obtain⟨k,W,out⟩:=g;have Zh:∀{m:Mem}{K:CV->Mem->Prop},K (Wh (gF prog k c)) m->aq Tryz.prog 19 [.rv (.one (.ah (yd prog))),eJ k.l k.ops k.ps,c.cv] m K:=λhK=>Pi prog k hgi.ki c hd hK
   unfold km at Z8;unfold qH at sK;generalize gF prog k c=D at*
   obtain⟨k2,a2⟩:=D;refine⟨Zh ⟨trivial,⟨⟨rfl,rfl,trivial⟩,⟨rfl,rfl,trivial⟩,trivial,trivial,⟨kT 96 [(6,.rv (.one (.ah (yd prog)))),(8,.rv (.one (.ptr 0 0))),(9,an .i64 (i:Nat)),(10,.rv (.one (.ptr 3 0))),(11,.rv (.one (.ptr 5 0))),(12,.rv (.one (.ptr 6 0))),(13,.rv (.one (.ptr 4 0))),(32,pG cs),(33,an .i64 ((cs.map Cl.enc).length:Nat)),(34,an .i64 (i:Nat))],[gB k 1 2,lW W,fb out,cB c,aB a2,kB k,kB k2]⟩,?v1,?rest⟩,⟨⟨rfl,rfl,trivial⟩,⟨rfl,rfl,trivial⟩,trivial,trivial,⟨kT 96 [(6,.rv (.one (.ah (yd prog)))),(8,.rv (.one (.ptr 0 0))),(9,an .i64 (i:Nat)),(10,.rv (.one (.ptr 3 0))),(11,.rv (.one (.ptr 5 0))),(12,.rv (.one (.ptr 6 0))),(13,.rv (.one (.ptr 4 0))),(32,pG cs),(33,an .i64 ((cs.map Cl.enc).length:Nat)),(34,an .i64 (i:Nat))],[gB k 1 2,lW W,fb out,cB c,aB a2,kB k,kB k2]⟩,?v2,?rest⟩⟩,⟨⟨rfl,rfl,trivial⟩,Zh ⟨trivial,⟨rfl,rfl,trivial⟩,trivial,trivial,⟨kT 96 [(6,.rv (.one (.ah (yd prog)))),(8,.rv (.one (.ptr 0 0))),(9,an .i64 (i:Nat)),(10,.rv (.one (.ptr 3 0))),(11,.rv (.one (.ptr 5 0))),(12,.rv (.one (.ptr 6 0))),(13,.rv (.one (.ptr 4 0))),(32,pG cs),(33,an .i64 ((cs.map Cl.enc).length:Nat)),(34,an .i64 (i:Nat))],[gB k 1 2,lW W,fb out,cB c,aB a2,kB k,kB k2]⟩,?v3,?rest⟩,⟨⟨rfl,rfl,trivial⟩,Zh ⟨trivial,trivial,trivial,⟨kT 96 [(6,.rv (.one (.ah (yd prog)))),(8,.rv (.one (.ptr 0 0))),(9,an .i64 (i:Nat)),(10,.rv (.one (.ptr 3 0))),(11,.rv (.one (.ptr 5 0))),(12,.rv (.one (.ptr 6 0))),(13,.rv (.one (.ptr 4 0))),(32,pG cs),(33,an .i64 ((cs.map Cl.enc).length:Nat)),(34,an .i64 (i:Nat))],[gB k 1 2,lW W,fb out,cB c,aB a2,kB k,kB k2]⟩,?v4,?rest⟩⟩⟩,⟨⟨rfl,rfl,trivial⟩,Zh ⟨trivial,⟨rfl,rfl,trivial⟩,trivial,trivial,⟨kT 96 [(6,.rv (.one (.ah (yd prog)))),(8,.rv (.one (.ptr 0 0))),(9,an .i64 (i:Nat)),(10,.rv (.one (.ptr 3 0))),(11,.rv (.one (.ptr 5 0))),(12,.rv (.one (.ptr 6 0))),(13,.rv (.one (.ptr 4 0))),(32,pG cs),(33,an .i64 ((cs.map Cl.enc).length:Nat)),(34,an .i64 (i:Nat))],[gB k 1 2,lW W,fb out,cB c,aB a2,kB k,kB k2]⟩,?v5,?rest⟩,⟨⟨rfl,rfl,trivial⟩,Zh ⟨trivial,trivial,trivial,⟨kT 96 [(6,.rv (.one (.ah (yd prog)))),(8,.rv (.one (.ptr 0 0))),(9,an .i64 (i:Nat)),(10,.rv (.one (.ptr 3 0))),(11,.rv (.one (.ptr 5 0))),(12,.rv (.one (.ptr 6 0))),(13,.rv (.one (.ptr 4 0))),(32,pG cs),(33,an .i64 ((cs.map Cl.enc).length:Nat)),(34,an .i64 (i:Nat))],[gB k 1 2,lW W,fb out,cB c,aB a2,kB k,kB k2]⟩,?v6,?rest⟩⟩⟩⟩
   case v1=>
    refine View.o1 7 [0,1,2,3,6,4,5] [] (AA c a2 k k2 W out rfl rfl rfl rfl rfl rfl rfl)
   case v2=>
    refine View.o1 7 [0,1,2,3,5,4,6] [] (AA c a2 k k2 W out rfl rfl rfl rfl rfl rfl rfl)
   case v3=>
    refine View.o1 7 [0,1,2,3,6,4,5] [] (AA c a2 k k2 W out rfl rfl rfl rfl rfl rfl rfl)
   case v4=>
    refine View.o1 7 [0,1,2,3,6,4,5] [] (AA c a2 k k2 W out rfl rfl rfl rfl rfl rfl rfl)
   case v5=>
    refine View.o1 7 [0,1,2,3,5,4,6] [] (AA c a2 k k2 W out rfl rfl rfl rfl rfl rfl rfl)
   case v6=>
    refine View.o1 7 [0,1,2,3,5,4,6] [] (AA c a2 k k2 W out rfl rfl rfl rfl rfl rfl rfl)
   obtain⟨s,hs⟩:∃s:Wt×List Sp,s=if a2.fp=0 then dV i c.be.toNat c a2 k k2 W else(W,[]):=⟨_,rfl⟩
   have ac3:kH prog g0 0 (cs.take (i+1))=⟨k2,tk k2.l s.1,out++s.2⟩:=by rw[Z8,hs]
   have l5:(s.1.map (·.1)).Nodup/\∀e,e∈s.1->∃j:Nat,e.1=j:=by
    rw[hs];by_cases he:a2.fp=0
    .rw[if_pos he]at sK|-;rw[I0 i 0];exact sK
    .rw[if_neg he]at sK|-;exact sK
   clear Z8 sK;refine bu (λhe=>?y1) (λhe=>?y2)
   case' y1=>
    have he:a2.fp=0:=he;rw[if_pos he]at hs;refine BK i c a2 k k2 W out (by have:out.length<=960:=CR;omega) _ (iU he) (kB k2) s hs ?_
    refine⟨⟨kT 96 [(6,.rv (.one (.ah (yd prog)))),(8,.rv (.one (.ptr 0 0))),(12,.rv (.one (.ptr 3 0))),(32,pG cs),(33,an .i64 ((cs.map Cl.enc).length:Nat)),(34,an .i64 (i:Nat))],[gB k2 1 2,lW s.1,fb (out++s.2),kB k2]⟩,
     View.o 8 [0,1,7,6] [] ?v7 (.pt rfl rfl (.eq rfl (jA _ _ _)) (.pt rfl rfl (.eq (fI _ _) (jP _)) (.pr rfl rfl rfl (.pt rfl rfl (.eq rfl (fF _)) (.nil _))))),?_⟩
    case v7=>repeat(first|exact .nil|refine .aH ?_|refine .eq rfl ?_)
   case' y2=>
    have he:¬a2.fp=0:=he;rw[if_neg he]at hs;refine⟨⟨kT 96 [(6,.rv (.one (.ah (yd prog)))),(8,.rv (.one (.ptr 0 0))),(12,.rv (.one (.ptr 3 0))),(32,pG cs),(33,an .i64 ((cs.map Cl.enc).length:Nat)),(34,an .i64 (i:Nat))],[gB k2 1 2,lW s.1,fb (out++s.2),kB k2]⟩,
     View.o 7 [0,1,2,6] [] ?v8 (.pt rfl rfl (.eq rfl (jA _ _ _)) (.pt rfl rfl (.eq (by rw[hs];exact fI _ _) (jP _)) (.pt rfl rfl (.bM (by rw[hs,abV])) (.pt rfl rfl (.eq rfl (fF _)) (.nil _))))),?_⟩
    case v8=>repeat(first|exact .nil|refine .aH ?_|refine .eq rfl ?_)
   all_goals
    clear iU hs;refine λst ip hl ac4 ag6=>?_
    obtain⟨L0,P9⟩:∃L0:Pr,L0=s.1.zip st:=⟨_,rfl⟩;have hl:st.length=s.1.length:=by rw[hl];exact N7 _
    have P0:wL L0=s.1:=by rw[P9,wL,List.map_fst_zip om]
    have SJ:L0.map (·.2)=st:=by rw[P9,List.map_snd_zip om]
    have HK:(L0.map (·.2)).Nodup:=by rw[SJ];exact ac4
    have Zg:∀x,x∈L0->∃j:Nat,x.1.1=j:=λx hx=>l5.2 _ (by rw[<-P0];exact aaz.2 ⟨x,hx,rfl⟩)
    have GH:∀seen,((wL (vX k2.l L0 seen)).map (·.1)).Nodup:=λseen=>by
     have h1:((wL L0).map (·.1)).Nodup:=by rw[P0];exact l5.1
     exact((List.filter_sublist.map _).map _).nodup h1
    have d9:∀seen,(∀x,x∈(vX k2.l L0 seen).map (·.2)->x∈seen)->wL (vX k2.l L0 seen)=tk k2.l s.1:=λseen h=>by rw[VA h,P0]
    refine ba (λ_:List Nat=>True) [6,32,33,34] (λ_=>[(8,.rv (.one (.ptr 0 0))),(12,.rv (.one (.ptr 3 0))),(67,.rv (.one (.ptr 4 0)))])
     (λseen=>[gB k2 1 2,.mo 2 (pH (wL (vX k2.l L0 seen))) (some ((vX k2.l L0 seen).map (·.2),ip)),fb (out++s.2),kB k2,.iw 1 ip seen]) (λseen=>left L0 seen) [] trivial ?_ (λseen _=>?_)
    .refine View.o1 5 [0,1,2,3,4] [] (.pt rfl rfl (.eq rfl (jA _ _ _)) (.pt rfl rfl ?_ (.pr rfl rfl rfl (.pt rfl rfl (.eq rfl (fF _)) (.pm rfl rfl rfl)))))
     .rw[R9,P0,SJ];exact Z7 _ _ _ _ _ _
    refine⟨rfl,λf4=>?_,λj x sj hx JW hns=>?_⟩
    .refine⟨i+1,aD,(show cs.length-(i+1)<cs.length-i by omega),View.o2 5 [0,1,2] [] ?_⟩
     .rw[ac3];refine .pt rfl rfl (.eq rfl (jA _ _ _)) (.pt rfl rfl (.eq ?_ (jP _)) (.pn rfl rfl rfl));rw[fI,lW,<-d9 seen f4]
    .obtain⟨y,hy,JF⟩:∃y,(vX k2.l L0 seen)[j]? =some y/\x=wM y.1:=by rw[pH,wL,abJ,Tr]at hx;obtain⟨y,h1,h2⟩:=aaB.1 hx;exact⟨y,h1,h2.symm⟩
     have hsy:sj=y.2:=by rw[Tr,hy]at JW;simpa using JW.symm
     subst JF hsy;have hyL:y∈L0:=(acL.1 (Tu hy)).1;obtain⟨q,hq⟩:=Zg y hyL;refine⟨rfl,j,_,hx,JW,?_⟩;obtain⟨⟨z,v⟩,sj⟩:=y;have hq:z=q:=hq;subst hq;have hF:iV (.int .i64 (q:Nat)) (pH (wL (vX k2.l L0 seen))) 0=some (some (j,.ei (v.map wE))):=by
      rw[tm,PE (q:Nat) _ 0 j ((q:Nat),v) (GH seen) (by rw[wL,Tr,hy];rfl) rfl,aa6];rfl
     have Zi:gk k2.l (q:Nat)=false-> .mo 2 ((pH (wL (vX k2.l L0 seen))).eraseIdx j) (some (((vX k2.l L0 seen).map (·.2)).eraseIdx j,ip))=Bk.mo 2 (pH (wL (vX k2.l L0 (sj::seen)))) (some ((vX k2.l L0 (sj::seen)).map (·.2),ip)):=λhk=>by rw[Sb (x:=((((q:Nat):Int),v),sj)) hy HK hk,Lu,wL,wL,Go.ChangeMaps.map_eraseIdx,Go.ChangeMaps.map_eraseIdx]
     have zZ:gk k2.l (q:Nat)=true->vX k2.l L0 (sj::seen)=vX k2.l L0 seen:=λhk=>Sa (x:=((((q:Nat):Int),v),sj)) hyL rfl HK hk
     have VE:=Sc hyL hns;have hlen:((k2.l.map Obj.enc).length:Int)=(k2.l.length:Nat):=by rw[N7]
     refine aP (λeG=>?_) (λeG=>?_)
     .have eG:((q:Nat):Int)>=((k2.l.map Obj.enc).length:Int):=eG;have hk:gk k2.l (q:Nat)=false:=by unfold gk;rw[ZW,aaH om]
      refine af hF ?_;refine⟨sj::seen,trivial,VE,View.o1 5 [0,1,2,3,4] [] (.pt rfl rfl (.eq rfl (jA _ _ _)) (.pt rfl rfl ?_ (.pr rfl rfl rfl (.pt rfl rfl (.eq rfl (fF _)) (.pm rfl rfl rfl)))))⟩
      .rw[Zi hk];exact Z7 _ _ _ _ _ _
     .have eG:¬((q:Nat):Int)>=((k2.l.map Obj.enc).length:Int):=eG;have Ia:q<k2.l.length:=om;have UC:gk k2.l (q:Nat)=decide (k2.l[q].ag=4):=by unfold gk;rw[ZW,vR Ia]
      refine af (Be Ia) ?_;refine bv (λVF=>?_) (λVF=>?_)
      .have VF:k2.l[q].ag≠4:=VF;have hk:gk k2.l (q:Nat)=false:=by rw[UC];exact decide_eq_false VF
       refine af hF ?_;refine⟨sj::seen,trivial,VE,View.o1 5 [0,1,2,3,4] [] (.pt rfl rfl (.eq rfl (jA _ _ _)) (.pt rfl rfl ?_ (.pr rfl rfl rfl (.pt rfl rfl (.eq rfl (fF _)) (.pm rfl rfl rfl)))))⟩
       .rw[Zi hk];exact Z7 _ _ _ _ _ _
      .have VF:k2.l[q].ag=4:=VF;have hk:gk k2.l (q:Nat)=true:=by rw[UC];exact decide_eq_true VF
       refine⟨sj::seen,trivial,VE,View.o1 5 [0,1,2,3,4] [] (.pt rfl rfl (.eq rfl (jA _ _ _)) (.pt rfl rfl ?_ (.pr rfl rfl rfl (.pt rfl rfl (.eq rfl (fF _)) (.pm rfl rfl rfl)))))⟩
       .rw[zZ hk];exact Z7 _ _ _ _ _ _
  .have lY:i=cs.length:=by have h:¬(i:Int)<((cs.map Cl.enc).length:Int):=h;rw[N7]at h;omega
   subst lY;rw[aaZ];subst hpg;refine⟨λh=>absurd hw h,λ_ h=>om,λ_ _=>⟨l',hp,hr,?_⟩⟩
   refine .bx rfl λi r r' h1 h2=>?_
   match i,h1,h2 with
   |0,h1,h2=>cases h1;cases h2;exact .one (ff.fg (ds:=(kH (cZ l') g0 0 cs).out.map Sp.enc) rfl 0 none)
   |1,h1,h2=>cases h1;cases h2;exact eZ.self rfl
   |n+2,h1,h2=>simp at h1
theorem EC(l:List cU)(cs:List Cl)(eL:Ep cs){m:Mem}{K:CV->Mem->Prop}(h1:(cm l).1≠0->K (rF [] (cm l).1) m)(h2:(cm l).1=0->cs.length>80->K (rF [] 5) m)(h3:(cm l).1=0->cs.length<=80->∀l',l'.Perm l->gy l'->K (rF (kH (cZ l') g0 0 cs).out 0) m):aq prog 14 [eK l,pG cs] m K:=
 bi (cj func14 l14 (Hu l cs eL)) (by simp[eK,pG,CV.dC,CC.dC,RV.dC]) λr m1 hf=>by
  by_cases hw:(cm l).1=0
  .by_cases h8:cs.length<=80
   .obtain⟨l',hp,hr,hf⟩:=hf.2.2 hw h8;exact⟨_,hf,h3 hw h8 l' hp hr⟩
   .exact⟨_,hf.2.1 hw om,h2 hw om⟩
  .exact⟨_,hf.1 hw,h1 hw⟩
end Kn
namespace Kn
theorem yz{l l':List cU}(hw:(cm l).1=0)(hp:l'.Perm l)(hr:gy l')(r:qF):(uA (cZ l') r).1=if rD l r=true then 1 else 0:=by obtain⟨Z5,hg,hd⟩:=vB hw;rw[Pn r (λp h=>hg p (hp.mem_iff.1 h)) (by rw[hp.length_eq];exact Z5) hr,Lb hp,Lc hd]
end Kn
def c13:LF:= ⟨39,[.tmp 0],(.seq (.ai [qu 0 (.aN (qb false))]) (.seq (.ai [qu 4 (.build [qd 0,qd 0,qd 0,qd 0,qd 0,qd 0,qd 0,(.ah (.val (.string ⟨#[]⟩))),.aM] [(1,1,qi 8)]),qu 5 (.build [qd 0,qd 0,qd 0,qd 0,qd 0,qd 0,qd 0,(.ah (.val (.string ⟨#[]⟩))),.aM] [(1,1,qi 9),(2,1,qi 1),(6,1,qi 5)]),qu 6 (.build [qd 0,qd 0,qd 0,qd 0,qd 0,qd 0,qd 0,(.ah (.val (.string ⟨#[]⟩))),.aM] [(1,1,qi 18)]),qu 7 (.nI 9 [qd 0,qd 0,qd 0,qd 0,qd 0,qd 0,qd 0,(.ah (.val (.string ⟨#[]⟩))),.aM] 3 [(0,4),(1,5),(2,6)]),qu 8 (qc 14 [qe,7]),qm 3 8,qu 9 (.ext 3 0),qu 10 (.ext 3 1),qm 1 9,qm 2 10]) (.seq (.ai [qm 11 2,qu 12 (.aL .eql 11 (qi 0)),qm 13 12,qg 14 (.aN 1) 13 true,qg 15 (.len 1 14) 13 true,qg 16 (.aL .eql 15 (qi 5)) 13 true,qu 17 (.pick 13 16 (qb false)),qm 18 17,qg 19 (.aN 1) 18 true,qg 20 (.cw 8 19 (qi 1)) 18 true,qg 21 (.load true 8 20) 18 true,qg 22 (.build [qd 0,qd 0,qd 0,qd 0,qd 0,qd 0,qd 0,qd 0] [(0,1,qi 1),(2,1,qi 1),(3,1,qi 3),(5,1,qi 1),(6,1,qi 5)]) 18 true,qg 23 (.PY false [.i,.i,.i,.i,.i,.i,.i,.i] 21 22) 18 true,qu 24 (.pick 18 23 (qb false)),qm 25 24,qg 26 (.aN 1) 25 true,qg 27 (.cw 8 26 (qi 4)) 25 true,qg 28 (.bY 3 27) 25 true,qg 29 (.load false 1 28) 25 true,qg 30 (.aL .eql 29 (qi 2)) 25 true,qu 31 (.pick 25 30 (qb false)),qm 32 31,qg 33 (.aN 1) 32 true,qg 34 (.cw 8 33 (qi 2)) 32 true,qg 35 (.bY 1 34) 32 true,qg 36 (.load false 1 35) 32 true,qg 37 (.aL .eql 36 (qi 1)) 32 true,qu 38 (.pick 32 37 (qb false)),qm 0 38]) .ret)))⟩
namespace Kn
theorem PK{l l1 l2:List cU}(hw:(cm l).1=0)(TJ:l1.Perm l)(sr:gy l1)(yJ:l2.Perm l)(rk:gy l2)(k:Kr)(c:Cl):gF (cZ l1) k c=gF (cZ l2) k c:=by unfold gF;rw[yz hw TJ sr,yz hw yJ rk]
theorem I2{l l1 l2:List cU}(hw:(cm l).1=0)(TJ:l1.Perm l)(sr:gy l1)(yJ:l2.Perm l)(rk:gy l2):∀(cs:List Cl)(k:Kr),kS (cZ l1) k cs=kS (cZ l2) k cs
 | [],_=>rfl
 |c::r,k=>by show kS (cZ l1) (gF (cZ l1) k c).1 r=kS (cZ l2) (gF (cZ l2) k c).1 r;rw[PK hw TJ sr yJ rk];exact I2 hw TJ sr yJ rk r _
theorem VG:(cm []).1=0:=by kernel_rfl
def csG:List Cl:=[{clN with ag:=8},{clN with ag:=9,fd:=1,aY:=5},{clN with ag:=18}]
theorem ac7:(kH (cZ []) g0 0 csG).out=[⟨0,0,1,3,0,0,4095,0⟩,⟨1,0,1,3,0,1,5,0⟩,⟨2,1,0,3,0,0,4095,0⟩,⟨2,1,1,3,0,1,5,0⟩,⟨2,0,2,2,-1,0,3200,1⟩]:=by kernel_rfl
theorem l13:bz prog f13=some c13.er:=by kernel_rfl
theorem Cf:body prog c13 [] [] (λr m=>r=aF true):=by
 refine pS (qx:=[eK [],pG csG]) (m':=[.aU]) (View.o 1 [0] [0] ?_ (.aU (.nil _))) ?_
 .refine .put (.rv (.one (.fT (.aM 2)))) (.put (.rv (.one (.fT (hC.fT (Z:=λk=>bD [0] k=true) ?_ rfl rfl)))) .nil)
  repeat(first|exact kN.nil|exact hC.nil|refine hC.cons ?_ ?_|refine kN.cons ?_ ?_|exact .ah _|exact .aM 1)
 refine EC [] csG ⟨by decide,by decide⟩ (λh=>absurd VG h) (λ_ h=>absurd h (by decide)) λ_ _ l' hp hr=>?_
 rw[List.Perm.eq_nil hp,ac7];exact rfl
theorem Hv{m:Mem}{K:CV->Mem->Prop}(h:K (aF true) m):aq prog 13 [] m K:=
 vl func13 l13 rfl (aap rfl) Cf rfl rfl h
end Kn
namespace Kn
structure Fr(T:Nat->Nat->Prop)(k x:Kr):Prop where
 ps:∀(t:Nat)y',x.ps[t]? =some y'->y'.aO=true->∀(i:Nat)s,y'.aQ[i]? =some s->s.has=true->T t i\/∃y,k.ps[t]? =some y/\y.aO=true/\y.aQ[i]? =some s
 ops:∀(n:Nat)o,k.ops[n]? =some o->0<=o.bp->∃o',x.ops[n]? =some o'/\o'.bp=o.bp
theorem Fr.refl(T:Nat->Nat->Prop)(k:Kr):Fr T k k:=⟨λt y hy hl i s hs _=>.inr ⟨y,hy,hl,hs⟩,λn o ho _=>⟨o,ho,rfl⟩⟩
theorem Fr.of(T:Nat->Nat->Prop){k x:Kr}(hp:x.ps=k.ps)(ho:x.ops=k.ops):Fr T k x:=
 ⟨λt y hy hl i s hs _=>.inr ⟨y,hp▸hy,hl,hs⟩,λn o h _=>⟨o,ho▸h,rfl⟩⟩
theorem Fr.mono{T T':Nat->Nat->Prop}{k x:Kr}(h:Fr T k x)(hT:∀t i,T t i->T' t i):Fr T' k x:=
 ⟨λt y hy hl i s hs hh=>(h.ps t y hy hl i s hs hh).imp (hT t i) id,h.ops⟩
theorem Fr.trans{T:Nat->Nat->Prop}{a b c:Kr}(h:Fr T a b)(g:Fr T b c):Fr T a c:=
 ⟨λt y hy hl i s hs hh=>(g.ps t y hy hl i s hs hh).elim .inl λ⟨z,h1,h2,h3⟩=>h.ps t z h1 h2 i s h3 hh,λn o ho h0=>by
  obtain⟨o1,g1,g2⟩:=h.ops n o ho h0;obtain⟨o2,g3,g4⟩:=g.ops n o1 g1 (by rw[g2];exact h0)
  exact⟨o2,g3,g4.trans g2⟩⟩
theorem Cg{l:List eA}{o r:Int}(h:(fw l o r).2.2=0):∃j:Nat,(fw l o r).2.1=j/\(fw l o r).1[j]? =some ⟨true,o,r⟩/\∀(i:Nat)s,(fw l o r).1[i]? =some s->i=j\/l[i]? =some s:=by
 have Nl:∀s:eA,Iq (i7 s)=s:=λs=>rfl
 have Lv:∀i:Nat,((l.map i7)[i]?).map Iq=l[i]? :=λi=>by rw[Tr];cases l[i]? <;>rfl
 unfold fw at h|-;simp only[]at h|-;unfold Tb.iS at h|-;split at h
 .cases h
 .rename_i h1;simp only[if_neg h1];split at h
  .rename_i j hj;have kM:=(aaV.1 hj).1;refine⟨j,rfl,?_,λi s hs=>?_⟩
   .rw[Tr,TK kM];rfl
   .by_cases e:j=i
    .exact .inl e.symm
    .rw[Tr,U9 e,Lv]at hs;exact .inr hs
  .split at h
   .cases h
   .rename_i h2;simp only[if_neg h2];have E4:(l.map i7).length=l.length:=aC;refine⟨l.length,by rw[E4],?_,λi s hs=>?_⟩
    .rw[Tr,<-E4,Y5 (Yj _)];simp;rfl
    .rcases adj i l.length with e|e|e
     .rw[Tr,aad om,Lv]at hs;exact .inr hs
     .exact .inl e
     .rw[Tr,aaH (by simp;omega)]at hs;cases hs
theorem PL{l:List eA}{fd:Int}{i:Nat}{s:eA}(hs:(rn l fd).1[i]? =some s)(hh:s.has=true):l[i]? =some s:=by
 have Lv:∀i:Nat,((l.map i7)[i]?).map Iq=l[i]? :=λi=>by rw[Tr];cases l[i]? <;>rfl
 unfold rn Tb.mL at hs;split at hs
 .rw[Tr]at hs;cases h1:(((l.map i7).set fd.toNat Tb.pi).take (Tb.qC ((l.map i7).set fd.toNat Tb.pi)))[i]? with
  |none=>rw[h1]at hs;cases hs
  |some t=>
   rw[h1]at hs;have h2:=(yh h1).1;by_cases e:fd.toNat=i
   .subst e;have aD:fd.toNat<(l.map i7).length:=by have:=(Ki.1 h2).1;simpa using this
    rw[TK aD]at h2;cases h2;cases hs;cases hh
   .rw[U9 e]at h2;rw[<-Lv,h2];exact hs
 .simp at hs
theorem VH{l:List eA}{fd:Int}(h:(ur l fd).2.2=0):(c7 l fd).2=0/\∃j:Nat,(ur l fd).2.1=j/\(ur l fd).1[j]? =some ⟨true,(c7 l fd).1.1,(c7 l fd).1.2⟩/\∀(i:Nat)s,(ur l fd).1[i]? =some s->i=j\/l[i]? =some s:=by
 unfold ur Tb.sN at h|-;split at h
 .rename_i h1;simp only[if_pos h1];exact⟨h1,Cg (l:=l) (o:=(Tb.du (l.map i7) fd).1.dG) (r:=(Tb.du (l.map i7) fd).1.bX) h⟩
 .rename_i h1;exact absurd h h1
theorem VI{l:List eA}{fd n:Int}(h:(vU l fd n).2=0):(c7 l fd).2=0/\Tb.fc n (c7 l fd).1.2=true/\∃j:Nat,fd=j/\(vU l fd n).1[j]? =some ⟨true,(c7 l fd).1.1,n⟩/\∀(i:Nat)s,(vU l fd n).1[i]? =some s->i=j\/l[i]? =some s:=by
 have Lv:∀i:Nat,((l.map i7)[i]?).map Iq=l[i]? :=λi=>by rw[Tr];cases l[i]? <;>rfl
 unfold vU Tb.xG at h|-;split at h
 .rename_i h1;obtain⟨j,t,hj,h3,h4,h5,h6⟩:=jN (l:=l) (fd:=fd) h1;split at h
  .cases h
  rename_i h2;split at h
  .cases h
  rename_i h9;simp only[if_pos h1,if_neg h2,if_neg h9];have kM:j<(l.map i7).length:=by simpa using(Ki.1 h3).1
  refine⟨h1,by simpa[c7]using h9,j,hj,?_,λi s hs=>?_⟩
  .rw[Tr,hj,ZW,TK kM];rfl
  .by_cases e:j=i
   .exact .inl e.symm
   .rw[Tr,hj,ZW,U9 e,Lv]at hs;exact .inr hs
 .rename_i h1;exact absurd h h1
theorem Fr.cS{k:Kr}{p:Nat}{y:bl}(hp:k.ps[p]? =some y)(bK:y.aO=true){S:List eA}{T:Nat->Nat->Prop}(hS:∀(i:Nat)s,S[i]? =some s->s.has=true->T p i\/y.aQ[i]? =some s){l:List Obj}:Fr T k ⟨l,k.ops,cS k.ps p S⟩:=by
 refine⟨λt y' hy hl i s hs hh=>?_,λn o ho _=>⟨o,ho,rfl⟩⟩
 have Sm:(Go.Proofs.YtodckkkbiidffaaGreatDoor.cS k.ps p S)[t]? =some y':=hy;clear hy;rw[jQ hp]at Sm;split at Sm
 .rename_i e;subst e;cases Sm;exact(hS i s hs hh).imp id λh=>⟨y,hp,bK,h⟩
 .exact .inr ⟨y',Sm,hl,hs⟩
theorem Fr.mQ{k:Kr}{p:Nat}{y:bl}(hp:k.ps[p]? =some y)(bK:y.aO=true){bp bX:Int}(he:(aE k p bp bX).2.2=0):∃j:Nat,(aE k p bp bX).2.1=j/\Fr (λt i=>t=p/\i=j) k (aE k p bp bX).1/\
  ∃z,(aE k p bp bX).1.ps[p]? =some z/\z.aO=true/\z.aQ[j]? =some ⟨true,cY k.ops,bX⟩:=by
 have ui:ap k.ps p=y.aQ:=by rw[ap,hp]
 obtain⟨i0,S,O⟩:=ji hp he;unfold aE at he O|-;split at he
 .cases he
 rename_i h1;rw[if_neg h1]at O|-;split at he
 .rename_i h2;exact absurd he h2
 rename_i h2;rw[if_neg h2]at O|-;have h2:(fw (ap k.ps p) (cY k.ops) bX).2.2=0:=Yl h2;rw[ui]at h2 O|-;obtain⟨j,g1,g2,g3⟩:=Cg h2;refine⟨j,g1,⟨λt y' hy hl i s hs hh=>?_,λn o ho h0=>?_⟩,⟨_,fz hp _,bK,g2⟩⟩
 .have Sm:(Go.Proofs.YtodckkkbiidffaaGreatDoor.cS k.ps p _)[t]? =some y':=hy;clear hy;rw[jQ hp]at Sm;split at Sm
  .rename_i e;subst e;cases Sm;exact(g3 i s hs).imp (λe=>⟨rfl,e⟩) λh=>⟨y,hp,bK,h⟩
  .exact .inr ⟨y',Sm,hl,hs⟩
 .refine⟨o,?_,rfl⟩;rw[O.o,if_neg λe=>?_]
  .exact ho
  .subst e;have:=O.yP o ho;omega
theorem Fr.io(T:Nat->Nat->Prop)(k:Kr)(z n:Int):Fr T k (Kn.io k (gD k z n)).1:=by
 unfold Kn.io;show Fr T k (if _ then _ else _)
 split
 .unfold gD;split
  .rename_i h1 h2;rw[gD,if_pos h2]at h1;cases h1
  .split
   .rename_i h1 h2 h3;rw[gD,if_neg h2,if_pos h3]at h1;cases h1
   .refine⟨λt y' hy hl i s hs hh=>?_,λn o ho _=>⟨o,ho,rfl⟩⟩
    have hy:(k.ps.set z.toNat _)[t]? =some y':=hy;by_cases e:z.toNat=t
    .subst e;have aD:z.toNat<k.ps.length:=by simpa using(Ki.1 hy).1
     rw[TK aD]at hy;cases hy;cases hl
    .rw[U9 e]at hy;exact .inr ⟨y',hy,hl,hs⟩
 .exact .refl _ _
theorem Fr.YQ(T:Nat->Nat->Prop)(k:Kr)(p:Nat):Fr T k ⟨k.l,k.ops,lP k.ps p⟩:=by
 refine⟨λt y' hy hl i s hs hh=>?_,λn o ho _=>⟨o,ho,rfl⟩⟩
 have hy:(lP k.ps p)[t]? =some y':=hy;unfold lP at hy;split at hy
 .rename_i x hx;by_cases e:p=t
  .subst e;rw[TK (Ki.1 hx).1]at hy;cases hy;exact .inr ⟨x,hx,hl,hs⟩
  .rw[U9 e]at hy;exact .inr ⟨y',hy,hl,hs⟩
 .exact .inr ⟨y',hy,hl,hs⟩
theorem Ch(k:Kr)(l:List Obj)(e:Int):(bF k l e).ops=k.ops:=by unfold bF;split<;>rfl
theorem yA(k:Kr)(f:R4)(o:Obj):(ce k f o).1.ops=k.ops:=by
 unfold ce;split
 .rfl
 .exact Ch _ _ _
theorem Hw(k:Kr)(c:Cl)(f:R4):(bW k c f).1.ops=k.ops:=by
 unfold bW;split
 .rfl
 split
 .split
  .rfl
  .exact yA _ _ _
 split<;>rfl
def Zj(c:Cl)(p:Nat)(a:An)(t i:Nat):Prop:=
 (t=p/\(c.ag=2\/c.ag=3\/c.ag=8\/c.ag=15)/\(i:Int)=a.n)\/(t=p/\c.ag=9/\(i:Int)=c.fd)\/(t=p/\(c.ag=15\/c.ag=17\/c.ag=18)/\(i:Int)=a.m)\/(c.ag=18/\(t:Int)=a.n)
theorem tq{k:Kr}{p:Nat}{y:bl}(hp:k.ps[p]? =some y)(bK:y.aO=true){c:Cl}{ar:Int}{ay:Bool}(he:(eO k p c ar ay).2.fp=0):
  Fr (λt i=>t=p/\(i:Int)=(eO k p c ar ay).2.n) k (eO k p c ar ay).1/\∃(z:bl)(j:Nat)(s:eA),(eO k p c ar ay).1.ps[p]? =some z/\z.aO=true/\(eO k p c ar ay).2.n=j/\z.aQ[j]? =some s/\s.has=true/\s.bX=c.aY:=by
 unfold eO jd at he|-;split at he
 .rename_i h1;exact absurd he h1
 rename_i h1;rw[if_neg h1];have e1:=Hw k c (gV k ar c.cE ay true);have e2:=Ll k c (gV k ar c.cE ay true);generalize bW k c (gV k ar c.cE ay true)=X at*
 split at he
 .rename_i h2;exact absurd he h2
 rename_i h2;rw[if_neg h2];have h2:=Yl h2;obtain⟨j,g1,g2,z,g3,g4,g5⟩:=Fr.mQ (k:=X.1) (by rw[e2];exact hp) bK h2
 have u9:Fr (λt i=>t=p/\i=j) k (aE X.1 p X.2.1 c.aY).1:=(Fr.of _ e2 e1).trans g2
 have d9:∀(x:Kr)(a:An),x.ps=(aE X.1 p X.2.1 c.aY).1.ps->x.ops=(aE X.1 p X.2.1 c.aY).1.ops->a.n=(aE X.1 p X.2.1 c.aY).2.1->
   Fr (λt i=>t=p/\(i:Int)=a.n) k x/\∃(z:bl)(j:Nat)(s:eA),x.ps[p]? =some z/\z.aO=true/\a.n=j/\z.aQ[j]? =some s/\s.has=true/\s.bX=c.aY:=λx a h3 h4 h5=>
  ⟨(u9.mono λt i⟨a1,a2⟩=>⟨a1,by rw[h5,g1,a2]⟩).trans (.of _ h3 h4),z,j,_,by rw[h3];exact g3,g4,h5.trans g1,g5,rfl,rfl⟩
 split
 .exact d9 _ _ rfl rfl rfl
 .exact d9 _ _ rfl rfl rfl
end Kn
namespace Kn
theorem Sn{k:Kr}{p:Nat}{y:bl}(hp:k.ps[p]? =some y)(bK:y.aO=true){c:Cl}(he:(fx k p c).2.fp=0):
  Fr (λt i=>t=p/\(i:Int)=(fx k p c).2.n) k (fx k p c).1/\(∃(z:bl)(j:Nat)(s:eA),(fx k p c).1.ps[p]? =some z/\z.aO=true/\(fx k p c).2.n=j/\z.aQ[j]? =some s/\s.has=true/\s.bX=c.aY)/\
   (c.ag≠2->(c7 (ap k.ps p) c.fd).2=0/\Tb.fc (lL c) (c7 (ap k.ps p) c.fd).1.2=true):=by
 unfold fx at he|-;split at he
 .cases he
 rename_i h1;rw[if_neg h1];split at he
 .rename_i h2;rw[if_pos h2];exact⟨(tq hp bK he).1,(tq hp bK he).2,λh=>absurd h2 h⟩
 rename_i h2;rw[if_neg h2];split at he
 .rename_i h3;exact absurd he h3
 rename_i h3;rw[if_neg h3];obtain⟨w1,_,_,w4⟩:=uM (Yl h3);exact⟨(tq hp bK he).1,(tq hp bK he).2,λ_=>⟨w1,w4⟩⟩
theorem So{k:Kr}{p:Nat}{y:bl}(hp:k.ps[p]? =some y)(bK:y.aO=true)(he:(gX k p).2.fp=0):
  Fr (λt i=>t=p/\((i:Int)=(gX k p).2.n\/(i:Int)=(gX k p).2.m)) k (gX k p).1:=by
 unfold Kn.gX yb at he|-;split at he
 .rename_i h1;exact absurd he h1
 rename_i h1;rw[if_neg h1];generalize fG k.l=P at*
 unfold td at he|-;split at he
 .rename_i h2;exact absurd he h2
 rename_i h2;rw[if_neg h2];obtain⟨j1,g1,g2,z,g3,g4,g5⟩:=Fr.mQ (k:=⟨P.1,k.ops,k.ps⟩) hp bK (Yl h2);split at he
 .rename_i h3;exact absurd he h3
 rename_i h3;rw[if_neg h3];obtain⟨j2,q1,q2,_⟩:=Fr.mQ g3 g4 (Yl h3);exact Fr.trans (b:=⟨P.1,k.ops,k.ps⟩) (Fr.of _ rfl rfl) (Fr.trans (g2.mono λt i(h:t=p/\i=j1)=>⟨h.1,.inl (by rw[h.2];exact g1.symm)⟩) (q2.mono λt i(h:t=p/\i=j2)=>⟨h.1,.inr (by rw[h.2];exact q1.symm)⟩))
theorem Sq{k:Kr}{p:Nat}{y:bl}(hp:k.ps[p]? =some y)(bK:y.aO=true){c:Cl}(he:(gW k p c).2.fp=0):
  Fr (λt i=>t=p/\(i:Int)=(gW k p c).2.m) k (gW k p c).1:=by
 have ui:ap k.ps p=y.aQ:=by rw[ap,hp]
 unfold Kn.gW ya at he|-;split at he
 .rename_i h1;exact absurd he h1
 rename_i h1;rw[if_neg h1];generalize fM k.l _=r at*
 unfold x9 at he|-;split at he
 .rename_i h2;exact absurd he h2
 rename_i h2;rw[if_neg h2];split at he
 .rename_i h3;rw[if_pos h3];split at he
  .rename_i h4;exact absurd he h4
  rename_i h4;rw[if_neg h4];rw[ui]at h4|-;obtain⟨j,g1,g2,g3⟩:=Cg (Yl h4);unfold vy;rw[eC,if_pos rfl,bF,if_pos rfl];refine Fr.cS hp bK λi s hs hh=>?_
  rcases g3 i s hs with e|e
  .exact .inl ⟨rfl,by rw[e];exact g1.symm⟩
  .exact .inr e
 .rename_i h3;rw[if_neg h3];unfold vy;rw[bF,if_pos rfl];exact .of _ rfl rfl
theorem Sr{k:Kr}{p:Nat}{x:bl}(hp:k.ps[p]? =some x)(bK:x.aO=true)(he:(fX k p).2.2.2=0):
  Fr (λt i=>(t:Int)=(fX k p).2.1\/(t=p/\(i:Int)=(fX k p).2.2.1)) k (fX k p).1:=by
 obtain⟨c,C⟩:=rB hp bK he;obtain⟨g1,g2,g3,g4⟩:=uD hp C.le;have HP:(gm k.ps p c)[p]? =some x:=by rw[g3 p C.ne];exact hp
 obtain⟨j,j1,j2,_⟩:=Fr.mQ (k:=⟨(aG k.l (da c)).1,k.ops,gm k.ps p c⟩) HP bK C.eo;rw[C.R];refine Fr.trans (b:=⟨(aG k.l (da c)).1,k.ops,gm k.ps p c⟩) ⟨λt y' hy hl i s hs hh=>?_,λn o ho _=>⟨o,ho,rfl⟩⟩ (j2.mono λt i⟨a,b⟩=>.inr ⟨a,by rw[b];exact j1.symm⟩)
 by_cases e:t=c
 .exact .inl (.inl (by rw[e]))
 .have hy:(gm k.ps p c)[t]? =some y':=hy;rw[g3 t e]at hy;exact .inr ⟨y',hy,hl,hs⟩
theorem Ss{k:Kr}{p:Nat}{y:bl}(hp:k.ps[p]? =some y)(bK:y.aO=true){c:Cl}(he:(iI k p c).2.fp=0)(hk:c.ag=7\/c.ag=8\/c.ag=9):
  Fr (Zj c p (iI k p c).2) k (iI k p c).1/\(c.ag≠7->(c7 (ap k.ps p) c.fd).2=0/\∃(z:bl)(j:Nat)(s:eA),(iI k p c).1.ps[p]? =some z/\z.aO=true/\(j:Int)=(if c.ag=8 then(iI k p c).2.n else c.fd)/\z.aQ[j]? =some s/\s.has=true/\Tb.fc s.bX (c7 (ap k.ps p) c.fd).1.2=true):=by
 have ui:ap k.ps p=y.aQ:=by rw[ap,hp]
 have hn:(iI k p c).2.n=(jg y.aQ c).2.1:=by rw[<-ui];rfl
 have he:(jg (ap k.ps p) c).2.2=0:=he;show Fr (Zj c p (D6 k p (jg (ap k.ps p) c)).2) k (eC k p _ _)/\(_->_/\∃z j s,(eC k p _ _).ps[p]? =some z/\_);rw[eC,if_pos he];rw[ui]at he|-;have Zk:∀r:Int,Tb.fc r r=true:=λr=>by rw[Hr];apply BitVec.eq_of_getLsbD_eq;intro i hi;simp[hi]
 unfold jg at he|-;rcases hk with h7|h8|h9
 .rw[if_pos h7]at he|-;refine⟨Fr.cS hp bK λi s hs hh=>.inr (PL hs hh),λh=>absurd h7 h⟩
 .rw[if_neg om,if_pos h8]at he|-;obtain⟨w1,j,g1,g2,g3⟩:=VH he;exact⟨Fr.cS hp bK λi s hs hh=>(g3 i s hs).imp (λe=>.inl ⟨rfl,.inr (.inr (.inl h8)),by rw[e];exact g1.symm⟩) id,λ_=>⟨w1,_,j,_,fz hp _,bK,by rw[if_pos h8,hn,jg,if_neg om,if_pos h8];exact g1.symm,g2,rfl,Zk _⟩⟩
 .rw[if_neg om,if_neg om]at he|-;obtain⟨w1,w2,j,g1,g2,g3⟩:=VI he;exact⟨Fr.cS hp bK λi s hs hh=>(g3 i s hs).imp (λe=>.inr (.inl ⟨rfl,h9,by rw[e];exact g1.symm⟩)) id,λ_=>⟨w1,_,j,_,fz hp _,bK,by rw[if_neg om];exact g1.symm,g2,rfl,w2⟩⟩
theorem Ci{k:Kr}{p:Nat}{c:Cl}(T:Nat->Nat->Prop):Fr T k (gd k p c).1:=by
 refine⟨λt y hy hl i s hs _=>.inr ⟨y,by rw[<-Pz k p c];exact hy,hl,hs⟩,λn o ho _=>?_⟩
 have Mo:∀z a:Int,∃o',(pA k z a).ops[n]? =some o'/\o'.bp=o.bp:=λz a=>by
  unfold pA;show ∃o',(match k.ops[z.toNat]? with|some o=>k.ops.set z.toNat {o with dp:=a}|none=>k.ops)[n]? =some o'/\o'.bp=o.bp
  split
  .rename_i q hq;by_cases e:z.toNat=n
   .subst e;rw[TK (Ki.1 hq).1];rw[ho]at hq;cases hq;exact⟨_,rfl,rfl⟩
   .rw[U9 e];exact⟨o,ho,rfl⟩
  .exact⟨o,ho,rfl⟩
 unfold gd kF;repeat' split
 all_goals first
  |exact⟨o,ho,rfl⟩
  |(unfold pB;split<;>first|exact⟨o,ho,rfl⟩|exact Mo _ _)
  |(unfold mP;split<;>first|exact⟨o,ho,rfl⟩|exact Mo _ _)
  |(unfold oc;split<;>first|exact⟨o,ho,rfl⟩|exact Mo _ _)
theorem PM(k:Kr)(p:Nat)(c:Cl):(iJ k p c).1.ops=k.ops:=by
 unfold iJ OL im;show(if _ then _ else _:Kr×Int).1.ops=_
 split
 .rfl
 unfold mC;repeat' split
 all_goals first
  |rfl
  |exact Ch _ _ _
  |exact yA _ _ _
theorem PN(k:Kr)(p:Nat)(c:Cl):(iK k p c).1.ops=k.ops:=by
 unfold iK vu;split
 .rfl
 unfold ta kh;repeat' split
 all_goals first
  |rfl
  |exact Ch _ _ _
theorem PQ{k:Kr}{p:Nat}{y:bl}(hp:k.ps[p]? =some y)(bK:y.aO=true){c:Cl}(he:(dR k p c).2.fp=0):
  Fr (λt i=>c.ag=18/\((t:Int)=(dR k p c).2.n\/(t=p/\(i:Int)=(dR k p c).2.m))) k (dR k p c).1:=by
 unfold dR at he|-;split at he
 .rename_i h1;rw[if_pos h1];exact .YQ _ _ _
 rename_i h1;rw[if_neg h1];split at he
 .rename_i h2;rw[if_pos h2];exact .refl _ _
 rename_i h2;rw[if_neg h2];split at he
 .rename_i h3;rw[if_pos h3];unfold pD at he|-;split at he
  .rename_i h4;exact absurd he h4
  .rename_i h4;rw[if_neg h4];exact(Sr hp bK (Yl h4)).mono λt i h=>⟨h3,h⟩
 rename_i h3;rw[if_neg h3];split
 .exact .io _ _ _ _
 generalize br k p c.fd (if c.ag=20 then 2048 else 1024)=w
 unfold lQ;split
 .exact .refl _ _
 unfold rx;split
 .exact .refl _ _
 split
 .split<;>exact .refl _ _
 .exact .io _ _ _ _
theorem TQ{k:Kr}{p:Nat}{y:bl}(hp:k.ps[p]? =some y)(bK:y.aO=true){c:Cl}(he:(fE k p c).2.fp=0):Fr (Zj c p (fE k p c).2) k (fE k p c).1:=by
 unfold fE at he|-;split at he
 .rename_i a;rw[if_pos a];exact(Sn hp bK he).1.mono λt i⟨e1,e2⟩=>.inl ⟨e1,a.elim .inl λh=>.inr (.inl h),e2⟩
 rename_i a;rw[if_neg a];split at he
 .rename_i a2;rw[if_pos a2];exact Ci _
 rename_i a2;rw[if_neg a2];split at he
 .rename_i a3;rw[if_pos a3];exact(Ss hp bK he a3).1
 rename_i a3;rw[if_neg a3];split at he
 .rename_i a4;rw[if_pos a4];exact .refl _ _
 rename_i a4;rw[if_neg a4];split at he
 .rename_i a5;rw[if_pos a5];exact .of _ (R2 k p c) (PM k p c)
 rename_i a5;rw[if_neg a5];split at he
 .rename_i a6;rw[if_pos a6];exact(So hp bK he).mono λt i⟨e1,e2⟩=>e2.elim (λe=>.inl ⟨e1,.inr (.inr (.inr a6)),e⟩) λe=>.inr (.inr (.inl ⟨e1,.inl a6,e⟩))
 rename_i a6;rw[if_neg a6];split at he
 .rename_i a7;rw[if_pos a7];exact .of _ (R3 k p c) (PN k p c)
 rename_i a7;rw[if_neg a7];split at he
 .rename_i a8;rw[if_pos a8];exact(Sq hp bK he).mono λt i⟨e1,e2⟩=>.inr (.inr (.inl ⟨e1,.inr (.inl a8),e2⟩))
 rename_i a8;rw[if_neg a8];exact(PQ hp bK he).mono λt i⟨e1,e2⟩=>e2.elim (λe=>.inr (.inr (.inr ⟨e1,e⟩))) λe=>.inr (.inr (.inl ⟨e.1,.inr (.inr e1),e.2⟩))
theorem VJ{x:Kr}(h:KI x){z r:Int}(hc:fP (fa x) z r):dM (fa x).ops z=dM x.ops z:=by
 obtain⟨_,n,o,rfl,ho,j,_,hj,_⟩:=hc;have:=Si h ho (by rw[hj];omega)
 unfold dM;rw[ZW,ho,this]
theorem Zl{prog:List dv}{k:Kr}(h:KI k){c:Cl}(he:(gF prog k c).2.fp=0){t:Nat}{y':bl}(hy:(gF prog k c).1.ps[t]? =some y')(hl:y'.aO=true){i:Nat}{s:eA}(hs:y'.aQ[i]? =some s)(hh:s.has=true):
  Zj c c.be.toNat (gF prog k c).2 t i\/∃y,k.ps[t]? =some y/\y.aO=true/\y.aQ[i]? =some s/\dM (gF prog k c).1.ops s.dG=dM k.ops s.dG:=by
 obtain⟨p,hc,hp,bK,_,_,ho,e⟩:=uJ he;have EZ:c.be.toNat=p:=by rw[hc];rfl
 rw[EZ];have LK:=vR hp;have EU:=h.op LK bK ho;have ES:=EU.O8;rw[e]at hy|-;have hy1:(fa (fE k p c).1).ps[t]? =some y':=hy;have hx:=(Es EU).2 t y' hy1 hl;have bg:=ES.cap y' (Tu hy1) s (Tu hs) hh;rcases(TQ LK bK ho).ps t y' hx hl i s hs hh with g|⟨y,g1,g2,g3⟩
 .exact .inl g
 refine .inr ⟨y,g1,g2,g3,?_⟩;show dM (fa (fE k p c).1).ops s.dG=_;rw[VJ EU bg];obtain⟨_,n,o,en,h1,j,_,hj,_⟩:=h.cap y (Tu g1) s (Tu g3) hh;obtain⟨o',h2,h3⟩:=(TQ LK bK ho).ops n o h1 (by rw[hj];omega)
 unfold dM;rw[en,ZW,h1,h2];exact h3
end Kn
namespace Kn
abbrev Mp:=List ((Int×Int)×Sp)
def uO(x:Int×Int)(v:Sp):Mp->Mp
 | []=>[(x,v)]
 |e::r=>if x=e.1 then(x,v)::r else e::uO x v r
def Cy(x:Int×Int):Mp->Option Sp
 | []=>none
 |e::r=>if x=e.1 then some e.2 else Cy x r
theorem I3(x:Int×Int)(v:Sp):∀M:Mp,Cy x (uO x v M)=some v
 | []=>by rw[uO,Cy,if_pos rfl]
 |e::r=>by
  rw[uO];split
  .rw[Cy,if_pos rfl]
  .rename_i h;rw[Cy,if_neg h];exact I3 x v r
theorem yB{x z:Int×Int}(dy:z≠x)(v:Sp):∀M:Mp,Cy z (uO x v M)=Cy z M
 | []=>by simp[uO,Cy,dy]
 |e::r=>by
  rw[uO];split
  .rename_i h;rw[Cy,Cy,if_neg dy,if_neg (by rw[<-h];exact dy)]
  .rw[Cy,Cy,yB dy v r]
def zg(s:Sp):Int×Int:=(s.p,s.s)
def tt:List Sp->Mp->Mp
 | [],M=>M
 |s::r,M=>tt r (uO (zg s) s M)
theorem pK:∀(a b:List Sp)(M:Mp),tt (a++b) M=tt b (tt a M)
 | [],_,_=>rfl
 |s::r,b,M=>pK r b (uO (zg s) s M)
theorem ED(x:Int×Int):∀(L:List Sp)(M:Mp),(∃s,s∈L/\zg s=x/\Cy x (tt L M)=some s)\/((∀s,s∈L->zg s≠x)/\Cy x (tt L M)=Cy x M)
 | [],M=>.inr ⟨λs h=>(by cases h),rfl⟩
 |s::r,M=>by
  rcases ED x r (uO (zg s) s M)with⟨v,h1,h2,h3⟩|⟨h1,h2⟩
  .exact .inl ⟨v,abN _ h1,h2,h3⟩
  .by_cases e:zg s=x
   .refine .inl ⟨s,adW,e,h2.trans ?_⟩;rw[e];exact I3 x s M
   .exact .inr ⟨λv hv=>(aaL.1 hv).elim (λh=>h▸e) (h1 v),h2.trans (yB (λh=>e h.symm) s M)⟩
def TL(k:Kr)(M:Mp):Prop:=∀(t:Nat)y,k.ps[t]? =some y->y.aO=true->∀(i:Nat)s,y.aQ[i]? =some s->s.has=true->∃v,Cy ((t:Int),(i:Int)) M=some v/\v.r=s.bX/\v.o=dM k.ops s.dG
def M0:Mp:=[((0,0),⟨0,0,0,0,0,0,4095,0⟩)]
theorem TL.Lr:TL cH M0:=λt y hy hl i s hs hh=>by
 match t,hy with
 |0,hy=>
  have hy:some (⟨true,false,0,[⟨true,0,4095⟩]⟩:bl)=some y:=hy;cases hy
  match i,hs with
  |0,hs=>cases hs;exact⟨_,rfl,rfl,rfl⟩
  |n+1,hs=>cases hs
 |n+1,hy=>cases hy
theorem Su{l:List eA}{i:Nat}{s:eA}(h:l[i]? =some s)(hh:s.has=true):c7 l (i:Int)=((s.dG,s.bX),0):=by
 have e:Tb.du (l.map i7) (i:Int)=(⟨s.dG,s.bX⟩,0):=by
  rw[Tb.du,if_pos om,ZW,Tr,h];show(if s.has=true then _ else _)=_
  rw[if_pos hh];rfl
 rw[c7,e]
theorem og{ps:List bl}{t:Nat}{y:bl}(h:ps[t]? =some y):ap ps t=y.aQ:=by rw[ap,h]
theorem PR{k:Kr}{c:Int}{p:Nat}{fd h f g:Int}{s:Sp}(hs:s∈d7 k c p fd h f g):(c7 (ap k.ps p) fd).2=0/\s=⟨c,p,fd,h,f,g,(c7 (ap k.ps p) fd).1.2,dM k.ops (c7 (ap k.ps p) fd).1.1⟩:=by
 unfold d7 at hs;split at hs
 .cases hs
 .rename_i h1;exact⟨Yl h1,ab5.1 hs⟩
theorem jj{k:Kr}{t:Nat}{i:Int}(h:(c7 (ap k.ps t) i).2=0)(c h1 f g:Int):∃s,s∈d7 k c t i h1 f g/\zg s=((t:Int),i):=by
 unfold d7;rw[if_neg (by rw[h];simp)]
 exact⟨_,ab5.2 rfl,rfl⟩
theorem PS{k:Kr}{c:Int}{n:Nat}{f:Int}{L:List Int}{s:Sp}(hs:s∈fQ k c n f L):∃fd,fd∈L/\s∈d7 k c n fd 3 f fd:=by unfold fQ at hs;obtain⟨y,h1,h2⟩:=List.mem_flatMap.1 hs;exact⟨y,h1,h2⟩
def Val(k:Kr)(s:Sp):Prop:=∃t:Nat,s.p=t/\(c7 (ap k.ps t) s.s).2=0/\s.r=(c7 (ap k.ps t) s.s).1.2/\s.o=dM k.ops (c7 (ap k.ps t) s.s).1.1
theorem kn{k:Kr}{c:Int}{p:Nat}{fd h f g:Int}{s:Sp}(hs:s∈d7 k c p fd h f g):Val k s:=by obtain⟨h1,rfl⟩:=PR hs;exact⟨p,rfl,h1,rfl,rfl⟩
theorem PT{k:Kr}{c:Int}{n:Nat}{f:Int}{L:List Int}{s:Sp}(hs:s∈fQ k c n f L):Val k s:=by obtain⟨fd,_,h⟩:=PS hs;exact kn h
theorem Lw{n:Int}{p:Nat}{c:Cl}{a:An}{b k:Kr}{W:Wt}{s:Sp}(hs:s∈(dV n p c a b k W).2):Val k s:=by
 unfold dV at hs;split at hs
 .exact kn hs
 split at hs
 .exact kn hs
 split at hs
 .exact kn hs
 split at hs
 .exact(abD.1 hs).elim kn kn
 split at hs
 .cases hs
 split at hs
 .split at hs
  .split at hs
   .exact kn hs
   .cases hs
  .cases hs
 split at hs
 .exact(abD.1 hs).elim PT kn
 .cases hs
theorem EE:∀(l:List Tb.bS)(n i:Nat)(s:Tb.bS),l[i]? =some s->s.has=true->((n+i:Nat):Int)∈Tb.nY n l
 | [],_,_,_,h,_=>by cases h
 |x::r,n,0,s,h,hh=>by cases h;rw[Tb.nY,if_pos hh];exact adW
 |x::r,n,i+1,s,h,hh=>by
  have:=EE r (n+1) i s h hh;rw[show n+1+i=n+(i+1) by omega]at this
  rw[Tb.nY];split
  .exact abN _ this
  .exact this
theorem PU{l:List eA}{i:Nat}{s:eA}(h:l[i]? =some s)(hh:s.has=true):(i:Int)∈B7 l:=by
 have:=EE (l.map i7) 0 i (i7 s) (by rw[Tr,h];rfl) hh
 rwa [aa6]at this
theorem Sv{n:Int}{p:Nat}{c:Cl}{a:An}{b k:Kr}{W:Wt}{t i:Nat}(hT:Zj c p a t i)(hg:(c7 (ap k.ps t) i).2=0)(ac9:c.ag=17->∃x r,gG (lV b p c.fd) W=some (x::r))(hch:c.ag=18->(t:Int)=a.n->(i:Int)∈B7 (ap b.ps p)):∃s,s∈(dV n p c a b k W).2/\zg s=((t:Int),(i:Int)):=by
 unfold dV;rcases hT with⟨rfl,hk,hi⟩|⟨rfl,hk,hi⟩|⟨rfl,hk,hi⟩|⟨hk,ht⟩
 .rw[hi]at hg|-;rcases hk with hk|hk|hk|hk
  .rw[if_pos hk];exact jj hg _ _ _ _
  .rw[if_neg om,if_pos (.inl hk)];exact jj hg _ _ _ _
  .rw[if_neg om,if_pos (.inr hk)];exact jj hg _ _ _ _
  .rw[if_neg om,if_neg om,if_neg om,if_pos hk];obtain⟨s,h1,h2⟩:=jj hg n 2 (-1) 0;exact⟨s,adO _ h1,h2⟩
 .rw[hi]at hg|-;rw[if_neg om,if_neg om,if_pos hk];exact jj hg _ _ _ _
 .rcases hk with hk|hk|hk
  .rw[hi]at hg|-;rw[if_neg om,if_neg om,if_neg om,if_pos hk];obtain⟨s,h1,h2⟩:=jj hg n 2 (-1) 0;exact⟨s,List.mem_append_right _ h1,h2⟩
  .rw[if_neg om,if_neg om,if_neg om,if_neg om,if_neg om,if_pos hk];obtain⟨x,r,hw⟩:=ac9 hk;rw[hw];show ∃s,s∈(if a.m>=0 then d7 k n t a.m 3 x.1 x.2 else [])/\_
   rw[if_pos om];rw[hi]at hg|-;exact jj hg _ _ _ _
  .rw[hi]at hg|-;rw[if_neg om,if_neg om,if_neg om,if_neg om,if_neg om,if_neg om,if_pos hk];obtain⟨s,h1,h2⟩:=jj hg n 2 (-1) 0;exact⟨s,List.mem_append_right _ h1,h2⟩
 .have hm:=hch hk ht;rw[if_neg om,if_neg om,if_neg om,if_neg om,if_neg om,if_neg om,if_pos hk];obtain⟨s,h1,h2⟩:=jj hg n 3 c.be i;refine⟨s,adO _ ?_,h2⟩;unfold fQ;rw[<-ht,ZW];exact List.mem_flatMap.2 ⟨i,hm,h1⟩
def I4(prog:List dv)(i:Nat)(c:Cl)(g:Gs):List Sp:=if(gF prog g.k c).2.fp=0 then(dV i c.be.toNat c (gF prog g.k c).2 g.k (gF prog g.k c).1 g.W).2 else []
theorem Lx(prog:List dv)(i:Nat)(c:Cl)(g:Gs):(km prog i c g).out=g.out++I4 prog i c g:=by
 unfold km I4;simp only;split<;>rfl
theorem EF{prog:List dv}{k:Kr}(h:KI k)(hs:LY k){c:Cl}(he:(gF prog k c).2.fp=0)(hk:c.ag=18):∃n:Nat,(gF prog k c).2.n=n/\n≠c.be.toNat/\ap (gF prog k c).1.ps n=ap k.ps c.be.toNat:=by
 obtain⟨p,hc,hp,bK,_,_,ho,e⟩:=uJ he;have EZ:c.be.toNat=p:=by rw[hc];rfl
 rw[EZ];have LK:=vR hp;have ht:Ax c.ag:= .inr (.inr (.inr (.inr (.inr (.inr hk)))));obtain⟨n,a1,a2,a3⟩:=(Cd h LK bK ho ht).2.2 hk;refine⟨n,by rw[e];exact a1,a2,?_⟩
 have hz:(gF prog k c).1.ps[n]? =some ⟨true,k.ps[p].fenced,0,k.ps[p].aQ⟩:=by rw[e];show(fa (fE k p c).1).ps[n]? =_;rw[Az (prog:=prog) h hs hp bK ho ht];exact Er a3 rfl
 rw[og hz,og LK]
theorem TL.step{prog:List dv}{g:Gs}(hG:GI g.k g.W){M:Mp}(hT:TL g.k M)(i:Nat)(c:Cl):TL (km prog i c g).k (tt (I4 prog i c g) M):=by
 show TL (gF prog g.k c).1 _;unfold I4;by_cases he:(gF prog g.k c).2.fp=0
 .rw[if_pos he];have iU:=hG.in_ (prog:=prog) he;intro t y' hy hl j s hs hh;have ku:c7 (ap (gF prog g.k c).1.ps t) j=((s.dG,s.bX),0):=by rw[og hy];exact Su hs hh
  rcases ED ((t:Int),(j:Int)) (dV i c.be.toNat c (gF prog g.k c).2 g.k (gF prog g.k c).1 g.W).2 M with⟨v,h1,h2,h3⟩|⟨h1,h2⟩
  .obtain⟨t',e1,e2,e3,e4⟩:=Lw h1;have k1:v.p=t:=congrArg Prod.fst h2;have k2:v.s=j:=congrArg Prod.snd h2;have:t'=t:=om;subst this;rw[k2,ku]at e3 e4;exact⟨v,h3,e3,e4⟩
  .rcases Zl hG.ki he hy hl hs hh with g1|⟨y,g1,g2,g3,g4⟩
   .obtain⟨v,v1,v2⟩:=Sv (n:=i) (b:=g.k) (W:=g.W) g1 (by rw[ku]) iU.got (λhk ht=>by obtain⟨n,n1,_,n3⟩:=EF (prog:=prog) hG.ki hG.sw he hk;have:t=n:=om;subst this;rw[<-n3,og hy];exact PU hs hh)
    exact absurd v2 (h1 v v1)
   .obtain⟨v,v1,v2,v3⟩:=hT t y g1 g2 j s g3 hh;exact⟨v,h2.trans v1,v2,v3.trans g4.symm⟩
 .rw[if_neg he];obtain⟨e,h2⟩:=B5 he;rw[h2];exact hT
theorem TL.run{prog:List dv}:∀(cs:List Cl){g:Gs}(i:Nat),GI g.k g.W->TL g.k (tt g.out M0)->TL (kH prog g i cs).k (tt (kH prog g i cs).out M0)
 | [],_,_,_,h=>h
 |c::r,g,i,hG,h=>by refine TL.run r (g:=km prog i c g) (i+1) (hG.step i c) ?_;rw[Lx,pK];exact TL.step hG h i c
end Kn
namespace Kn
theorem PV(prog:List dv)(cs:List Cl):TL (kS prog cH cs) (tt (kH prog g0 0 cs).out M0):=by have:=TL.run (prog:=prog) cs (g:=g0) 0 GI.Lr TL.Lr;rwa [PB]at this
end Kn
namespace Kn
def aK(x:Int×Int):Value:= .agg #[.int .i64 x.1,.int .i64 x.2]
def mM(f:Sp->RV)(e:(Int×Int)×Sp):ME:=⟨aK e.1,f e.2⟩
theorem TR(x z:Int×Int):gz (aK x) (aK z)=some (decide (x=z)):=by
 show some (x.1==z.1&&x.2==z.2)=_;congr 1;obtain⟨a,b⟩:=x;obtain⟨c,d⟩:=z;by_cases h1:a=c
 .by_cases h2:b=d
  .subst h1 h2;simp
  .simp[h2]
 .simp[h1]
theorem I5(f:Sp->RV)(x:Int×Int):∀M:Mp,oh (aK x) (M.map (mM f))=some ((Cy x M).map f)
 | []=>rfl
 |e::r=>by
  rw[aaR,oh,show gz (aK x) (mM f e).key=some (decide (x=e.1))from TR x e.1,Cy];by_cases h:x=e.1
  .rw[decide_eq_true h,if_pos h];rfl
  .rw[decide_eq_false h,if_neg h];exact I5 f x r
theorem PW(f:Sp->RV)(x:Int×Int)(v:Sp):∀M:Mp,wt (aK x) (f v) (M.map (mM f))=some ((uO x v M).map (mM f))
 | []=>rfl
 |e::r=>by
  have ih:=PW f x v r;rw[aaR,wt,show gz (aK x) (mM f e).key=some (decide (x=e.1))from TR x e.1,uO];by_cases h:x=e.1
  .rw[decide_eq_true h,if_pos h];rfl
  .rw[decide_eq_false h,if_neg h];simp only;rw[ih];rfl
theorem lX{Y:Nat->Nat}{f:Sp->RV}(hf:∀s,(f s).bh Y=f s)(M:Mp):(Bk.mp (M.map (mM f))).bh Y= .mp (M.map (mM f)):=by
 have e:(M.map (mM f)).map (λe=>(⟨e.key,e.val.bh Y⟩:ME))=M.map (mM f):=by rw[abJ];exact acU λe _=>by show(⟨aK e.1,(f e.2).bh Y⟩:ME)=⟨aK e.1,f e.2⟩;rw[hf]
 show Bk.mp _=Bk.mp _;exact congrArg _ e
theorem yC(l:List ME):Bk.mp l≠.aU:=by intro h;cases h
theorem Zm{L:List Sp}{i:Nat}(h:i<L.length):dA (L.map Sp.enc) (i:Nat)=some (L[i].enc):=by rw[bG,Tr,vR h];rfl
theorem Ly{A:List Sp}{i:Nat}(h:i<A.length)(M:Mp):tt (A.take (i+1)) M=uO (zg A[i]) A[i] (tt (A.take i) M):=by rw[adE h,pK];rfl
def fS(s:Sp):RV:= .agg (s.enc.map .ah)
theorem rG(Y:Nat->Nat)(s:Sp):(fS s).bh Y=fS s:=rfl
end Kn
def c6:LF:= ⟨134,[.tmp 4],(.seq (.ai [qu 4 (.aN (qb false))]) (.seq (.seq (.ai [qu 20 (qc 13 []),qu 21 (.un .not 20)]) (.cond 21 (.seq (.ai [qu 4 (.aN (qb false))]) .ret) .skip)) (.seq (.ai [qm 23 0,qm 24 1,qu 25 (qc 14 [23,24]),qm 22 25,qu 26 (.ext 22 0),qu 27 (.ext 22 1),qm 5 26,qm 6 27]) (.seq (.ai [qm 29 0,qm 30 1,qu 31 (qc 11 [29,30]),qm 28 31,qu 32 (.ext 28 0),qu 33 (.ext 28 1),qu 34 (.ext 28 2),qu 7 (.alloc [.aM,.aM,.aM]),qw (.store 3 7 32),qm 8 33,qm 9 34]) (.seq (.seq (.ai [qm 35 6,qu 36 (.aL .neq 35 (qi 0)),qm 37 36,qg 38 (.aN 9) 37 false,qg 39 (.aL .neq 38 (qi 0)) 37 false,qu 40 (.pick 37 (qb true) 39)]) (.cond 40 (.seq (.ai [qm 41 6,qm 42 9,qu 43 (.aL .eql 41 42),qm 4 43]) .ret) .skip)) (.seq (.ai [qu 44 (.rM),qu 45 (.build [qd 0,qd 0] [(0,1,qi 0),(1,1,qi 0)]),qu 46 (.build [qd 0,qd 0,qd 0,qd 0,qd 0,qd 0,qd 0,qd 0] [(6,1,qi 4095)]),qw (.tz (.a2 .i64) 44 45 46),qm 47 44,qm 10 47]) (.seq (.seq (.ai [qm 48 5,qu 49 (.len 1 48),qu 50 (.aN (qi 0))]) (.block 0 (.loop (.seq (.ai [qu 51 (.aL .lss 50 49)]) (.seq (.cond 51 .skip (.exit 0)) (.seq (.block 1 (.seq (.ai [qu 52 (.cw 8 48 50),qL 53 8 52,qu 12 (.alloc [qd 0,qd 0,qd 0,qd 0,qd 0,qd 0,qd 0,qd 0]),qw (.store 8 12 53)]) (.ai [qm 54 10,qf 55 1 12,ql 56 55,qf 57 2 12,ql 58 57,qu 59 (.build [qd 0,qd 0] [(0,1,56),(1,1,58)]),qL 60 8 12,qw (.tz (.a2 .i64) 54 59 60)]))) (.ai [qu 61 (.aL .add 50 (qi 1)),qm 50 61]))))))) (.seq (.seq (.ai [qf 62 2 7,ql 63 62,qu 64 (.len 1 63),qu 65 (.aN (qi 0))]) (.block 2 (.loop (.seq (.ai [qu 66 (.aL .lss 65 64)]) (.seq (.cond 66 .skip (.exit 2)) (.seq (.block 3 (.seq (.ai [qm 67 65,qu 68 (.cw 4 63 65),qL 69 4 68,qu 14 (.alloc [(.ah (.val (.bool false))),(.ah (.val (.bool false))),qd 0,.aM]),qm 13 67,qw (.store 4 14 69)]) (.seq (.ai [qf 70 3 14,ql 71 70,qu 72 (.len 1 71),qu 73 (.aN (qi 0))]) (.block 4 (.loop (.seq (.ai [qu 74 (.aL .lss 73 72)]) (.seq (.cond 74 .skip (.exit 4)) (.seq (.block 5 (.seq (.ai [qm 75 73,qm 15 75]) (.seq (.ai [qf 77 3 14,ql 78 77,qm 79 15,qu 80 (qc 16 [78,79]),qm 76 80,qu 81 (.ext 76 0),qu 82 (.ext 76 1),qu 16 (.alloc [qd 0,qd 0]),qw (.store 2 16 81),qm 17 82]) (.seq (.seq (.ai [qm 83 17,qu 84 (.aL .neq 83 (qi 0)),qm 85 84,qg 86 (.bY 0 14) 85 false,qg 87 (.load false 1 86) 85 false,qg 88 (.un .not 87) 85 false,qu 89 (.pick 85 (qb true) 88)]) (.cond 89 (.exit 5) .skip)) (.seq (.ai [qm 91 10,qm 92 13,qm 93 15,qu 94 (.build [qd 0,qd 0] [(0,1,92),(1,1,93)]),qu 95 (.yN (.agg [qd 0,qd 0,qd 0,qd 0,qd 0,qd 0,qd 0,qd 0]) (.a2 .i64) 91 94 true),qm 90 95,qu 96 (.ext 90 0),qu 97 (.ext 90 1),qu 18 (.alloc [qd 0,qd 0,qd 0,qd 0,qd 0,qd 0,qd 0,qd 0]),qw (.store 8 18 96),qm 19 97]) (.seq (.bV [qm 98 19,qu 99 (.un .not 98),qm 100 99,qg 101 (.bY 6 18) 100 false,qg 102 (.load false 1 101) 100 false,qg 103 (.bY 1 16) 100 false,qg 104 (.load false 1 103) 100 false,qg 105 (.aL .neq 102 104) 100 false,qu 106 (.pick 100 (qb true) 105),qm 107 106,qg 108 (.bY 0 16) 107 false,qg 109 (.load false 1 108) 107 false,qg 110 (.aL .lss 109 (qi 0)) 107 false,qu 111 (.pick 107 (qb true) 110),qm 112 111,qg 113 (.bY 0 16) 112 false,qg 114 (.load false 1 113) 112 false,qg 115 (.bY 1 7) 112 false,qg 116 (.load false 1 115) 112 false,qg 117 (.len 1 116) 112 false,qg 118 (.aL .geq 114 117) 112 false,qu 119 (.pick 112 (qb true) 118),qm 120 119,qg 121 (.bY 7 18) 120 false,qg 122 (.load false 1 121) 120 false,qg 123 (.bY 1 7) 120 false,qg 124 (.load false 1 123) 120 false,qg 125 (.bY 0 16) 120 false,qg 126 (.load false 1 125) 120 false,qg 127 (.cw 2 124 126) 120 false,qg 128 (.bY 0 127) 120 false,qg 129 (.load false 1 128) 120 false,qg 130 (.aL .neq 122 129) 120 false,qu 131 (.pick 120 (qb true) 130)] [eE 34 0 .nil]) (.cond 131 (.seq (.ai [qu 4 (.aN (qb false))]) .ret) .skip))))))) (.ai [qu 132 (.aL .add 73 (qi 1)),qm 73 132]))))))))) (.ai [qu 133 (.aL .add 65 (qi 1)),qm 65 133]))))))) (.seq (.ai [qu 4 (.aN (qb true))]) .ret)))))))))⟩
namespace Kn
theorem l6a:bz prog Tryz.f6=some c6.er:=by kernel_rfl
theorem VK{ps:List bl}{i:Nat}(h:i<ps.length):dA (ps.map bl.enc) (i:Nat)=some (ps[i].enc):=by rw[bG,Tr,vR h];rfl
theorem PX(l:List eA)(fd:Int){m:Mem}{K:CV->Mem->Prop}(h:K (.bx [Rt (c7 l fd).1,cG (c7 l fd).2]) m):aq prog 16 [ma l,an .i64 fd] m K:=by
 have:=Tb.Q9 (l.map i7) fd (m:=m) (K:=K) h;rw[show Tb.dE (l.map i7)=ma l from congrArg (λd=>CV.rv (.one (.ah d))) (uh l)]at this
 exact this
theorem Lz(l:List cU)(cs:List Cl)(eL:Ep cs):body Tryz.prog c6 [eK l,pG cs] [] (λr m=>r=aF true):=by
 refine Hv ?_;refine EC l cs eL (λhw=>?_) (λhw yK=>?_) (λhw yK l1 TJ sr=>?_)
 .refine B4 l cs eL (λh1=>?_) (λh=>absurd h hw) (λh=>absurd h hw)
  refine bv (λh=>?_) (λh=>absurd h hw)
  show aF ((cm l).1==(cm l).1)=aF true;rw[beq_self_eq_true]
 .refine B4 l cs eL (λh=>absurd hw h) (λ_ _=>?_) (λ_ h=>absurd yK om)
  exact rfl
 refine B4 l cs eL (λh=>absurd hw h) (λ_ h=>absurd h om) (λ_ _ l2 yJ rk=>?_)
 rw[I2 hw yJ rk TJ sr];have hT:=PV (cZ l1) cs;have hK:KI (kS (cZ l1) cH cs):=KI.kS cs B3;have hlA:(kH (cZ l1) g0 0 cs).out.length<=1048576:=by have:=yy (prog:=cZ l1) (g:=g0) 0 cs GI.Lr;have h0:g0.out.length=0:=rfl;omega
 generalize (kH (cZ l1) g0 0 cs).out=A at hT hlA|-;generalize kS (cZ l1) cH cs=k at hT hK|-;refine ba (λi=>i<=A.length) [48,49] (λi=>[(7,.rv (.one (.ptr 0 0))),(10,.rv (.one (.map 1))),(50,an .i64 (i:Nat))]) (λi=>[kB k,.mp ((tt (A.take i) M0).map (mM fS))]) (λi=>A.length-i) 0 (aav _) ?_ (λi hi=>?_)
 .refine View.o1 2 [0,1] [] ?_
  .exact .au
 have hi:i<=A.length:=hi;refine aP (λh=>?_) (λh=>?_)
 .have aD:i<A.length:=by have h:(i:Int)<((A.map Sp.enc).length:Int):=h;rw[N7]at h;omega
  refine af (Zm aD) ?_;refine af (PW fS (zg A[i]) A[i] _) ?_;refine⟨i+1,aD,(show A.length-(i+1)<A.length-i by omega),View.o2 3 [0,1] [] ?_⟩
  .exact .pt rfl rfl (.eq rfl (fF _)) (.pt rfl rfl (.eq (by rw[Ly aD];exact lX (rG _) _) (yC _)) (.nil _))
 have lY:i=A.length:=by have h:¬(i:Int)<((A.map Sp.enc).length:Int):=h;rw[N7]at h;omega
 subst lY;rw[aaZ];generalize tt A M0=M at hT|-;refine ba (λj=>j<=k.ps.length) [63,64] (λj=>[(7,.rv (.one (.ptr 0 0))),(10,.rv (.one (.map 1))),(65,an .i64 (j:Nat))]) (λj=>[kB k,.mp (M.map (mM fS))]) (λj=>k.ps.length-j) 0 (aav _) ?_ (λj hj=>?_)
 .refine View.o1 2 [0,1] [] ?_
  .exact .pt rfl rfl (.eq rfl (fF _)) (.pt rfl rfl (.eq (lX (rG _) _) (yC _)) (.nil _))
 have hj:j<=k.ps.length:=hj;refine aP (λh2=>?_) (λh2=>?_)
 rotate_left
 .exact rfl
 have kM:j<k.ps.length:=by have h2:(j:Int)<((k.ps.map bl.enc).length:Int):=h2;rw[N7]at h2;omega
 have Zr:=hK.lp;refine af (VK kM) ?_;refine ba (λi=>i<=k.ps[j].aQ.length) [63,64,71,72] (λi=>[(7,.rv (.one (.ptr 0 0))),(10,.rv (.one (.map 1))),(13,an .i64 (j:Nat)),(14,.rv (.one (.ptr 2 0))),(65,an .i64 (j:Nat)),(73,an .i64 (i:Nat))])
  (λi=>[kB k,.mp (M.map (mM fS)),.var (k.ps[j].enc.map .ah)]) (λi=>k.ps[j].aQ.length-i) 0 (aav _) ?_ (λi eW=>?_)
 .refine View.o1 3 [0,1,2] [] ?_
  .exact .pt rfl rfl (.eq rfl (fF _)) (.pt rfl rfl (.eq (lX (rG _) _) (yC _)) (.pt rfl rfl (.ju rfl) (.nil _)))
 have eW:i<=k.ps[j].aQ.length:=eW;refine aP (λh3=>?_) (λh3=>?_)
 rotate_left
 .refine⟨j+1,kM,(show k.ps.length-(j+1)<k.ps.length-j by omega),View.o2 3 [0,1] [] ?_⟩
  .exact .pt rfl rfl (.eq rfl (fF _)) (.pt rfl rfl (.eq (lX (rG _) _) (yC _)) (.nil _))
 have vI:i<k.ps[j].aQ.length:=by have h3:(i:Int)<((k.ps[j].aQ.map eA.enc).length:Int):=h3;rw[N7]at h3;omega
 have yU:=hK.sl _ (aay kM);refine PX _ (i:Nat) ?_;have hg:= @jN k.ps[j].aQ (i:Int);generalize hW:c7 k.ps[j].aQ (i:Int)=w at hg|-;obtain⟨⟨o,r⟩,e⟩:=w;refine bv (λhe=>?_) (λhe=>?_)
 .refine⟨i+1,vI,(show k.ps[j].aQ.length-(i+1)<k.ps[j].aQ.length-i by omega),View.o2 4 [0,1,2] [] ?_⟩
  .exact .pt rfl rfl (.eq rfl (fF _)) (.pt rfl rfl (.eq (lX (rG _) _) (yC _)) (.pt rfl rfl (.ju rfl) (.nil _)))
 have he:e=0:=he;subst he;refine aJ (λh4=>?_) (λh4=>?_)
 .refine⟨i+1,vI,(show k.ps[j].aQ.length-(i+1)<k.ps[j].aQ.length-i by omega),View.o2 4 [0,1,2] [] ?_⟩
  .exact .pt rfl rfl (.eq rfl (fF _)) (.pt rfl rfl (.eq (lX (rG _) _) (yC _)) (.pt rfl rfl (.ju rfl) (.nil _)))
 have bK:k.ps[j].aO=true:=by have h4:(!k.ps[j].aO)=false:=h4;simpa using h4
 obtain⟨i',s,e1,s1,s2,s3,_⟩:=hg rfl;have e1:i=i':=om;subst e1;have s3:(o,r)=(s.dG,s.bX):=s3;obtain⟨v,v1,v2,v3⟩:=hT j _ (vR kM) bK i s s1 s2;obtain⟨_,n,op,n1,n2,_⟩:=hK.cap _ (aay kM) s (Tu s1) s2;have eo:o=n:=(congrArg Prod.fst s3).trans n1;have er:v.r=r:=v2.trans (congrArg Prod.snd s3).symm;have jT:=(Ki.1 n2).1;have ev:v.o=k.ops[n].bp:=by rw[v3,n1,dM,ZW,vR jT]
 subst eo;refine af (show oh (aK ((j:Int),(i:Int))) (M.map (mM fS))=some (some (fS v)) by rw[I5,v1];rfl) ?_
 refine si (show(v.r !=r)=false by rw[er];simp) ?_
 refine si (show decide (((n:Nat):Int)>=((k.ops.map bI.enc).length:Int))=false by rw[N7];exact decide_eq_false om) ?_
 refine af (nX jT) ?_;refine si (show(v.o !=k.ops[n].bp)=false by rw[ev];simp) ?_
 refine⟨i+1,vI,(show k.ps[j].aQ.length-(i+1)<k.ps[j].aQ.length-i by omega),View.o2 5 [0,1,2] [] ?_⟩
 .exact .pt rfl rfl (.eq rfl (fF _)) (.pt rfl rfl (.eq (lX (rG _) _) (yC _)) (.pt rfl rfl (.ju rfl) (.nil _)))
theorem Sw(l:List cU)(cs:List Cl)(eL:Y8 cs):aq prog 6 [eK l,pG cs] [] (λr _=>r=aF true):=
 vl func6 l6a rfl (aap rfl) (Lz l cs ⟨eL.l,eL.d⟩) rfl rfl rfl
end Kn
end Go.Proofs.YtodckkkbiidffaaGreatDoor
