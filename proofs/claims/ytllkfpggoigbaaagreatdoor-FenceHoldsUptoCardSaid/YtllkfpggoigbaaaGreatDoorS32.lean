/- Part 32 of 35. -/
import Derived.Test.YtllkfpggoigbaaaGreatDoorS15
import Derived.Test.YtllkfpggoigbaaaGreatDoorS17
import Derived.Test.YtllkfpggoigbaaaGreatDoorS28
import Derived.Test.YtllkfpggoigbaaaGreatDoorS29
import Derived.Test.YtllkfpggoigbaaaGreatDoorS31
set_option linter.unusedVariables false
set_option linter.unusedSimpArgs false
set_option linter.unnecessarySimpa false
set_option maxRecDepth 100000
set_option maxHeartbeats 0
namespace Go.Proofs.YtllkfpggoigbaaaGreatDoor
open Proofs.Tryz
open Go.AM Go.ChangeShapes Go.WideShapes Go.ChangeAt Go.RowKit
namespace Kn
theorem tV{x:Kr}(h:KI x){n:Nat}{o:Obj}(ho:(eC x).l[n]? =some o)(hk:o.ah≠0):∃o':Obj,x.l[n]? =some o'/\o'.ah=o.ah/\o'.aQ=o.aQ/\o'.ag=o.ag/\o'.aj=o.aj/\(o.aG=o'.aG\/o.aG= -1):=by
 obtain⟨a,c,h1,h2,h3⟩:=(eP h.kr).ex;obtain⟨o',g1,g2⟩:=(yf h.kr h1 h2 h3).1.2 n o ho hk;have hp:o.aG=o'.aG\/o.aG= -1:=by
  have one:∀{x y:Kr}{en:Bool},cL x.l x.ops x.ps y.l y.ops y.ps en->KI x->∀o,y.l[n]? =some o->o.ah≠0->∃o':Obj,x.l[n]? =some o'/\o'.ah≠0/\(o.aG=o'.aG\/o.aG= -1):=λ{x y en}hx Fs o ho hk=>by
   obtain⟨b,_,hP,_⟩:=hx.ex;obtain⟨o',q1,q2⟩:=hP.get ho;rcases ig Fs.z b q1 with⟨e,_⟩|⟨_,e0,⟨e,_⟩|⟨e,_⟩⟩
   .rw[q2,e]at hk;exact absurd rfl hk
   .exact⟨o',q1,e0,.inl (by rw[q2,e])⟩
   .exact⟨o',q1,e0,.inr (by rw[q2,e])⟩
  have hc:c.l[n]? =some o:=by obtain⟨n1,n2,n3,P,_,_,_,_,e⟩:=h3.ex;rw[e]at ho;exact(y5 ho).1
  obtain⟨oa,qa,qk,qp⟩:=one h2 (h.to h1) o hc hk;have:∀(oa:Obj),a.l[n]? =some oa->oa.ah≠0->∃o':Obj,x.l[n]? =some o'/\(oa.aG=o'.aG\/oa.aG= -1):=by
   clear hc h2 h3 ho qa qk qp g1 g2
   induction h1 with
   |refl=>exact λoa q _=>⟨oa,q,.inl rfl⟩
   |step h' ho ih=>
    intro oa q qk;obtain⟨ob,b1,b2,b3⟩:=one ho (h.to h') oa q qk;obtain⟨o',c1,c2⟩:=ih ob b1 b2;exact⟨o',c1,b3.elim (λe=>c2.imp (λf=>e.trans f) λf=>e.trans f) .inr⟩
  obtain⟨o2,r1,r2⟩:=this oa qa qk;rw[g1]at r1;cases r1;exact qp.elim (λe=>r2.imp (λf=>e.trans f) λf=>e.trans f) .inr
 exact⟨o',g1,by rw[g2],by rw[g2],by rw[g2],by rw[g2],hp⟩
theorem RC.tM{x:Kr}{In S:Nat->Prop}(hx:KI x)(h:RC x In S):RC (eC x) In S:=by
 have hd:=hx.tM;have hv:∀z n,vO (eC x).l z n->vO x.l z n:=λz n⟨e,o,ho,h0⟩=>by
  obtain⟨o',h1,h2,_⟩:=tV hx ho h0;exact⟨e,o',h1,by rw[h2];exact h0⟩
 have cap:∀z,oV x S z->oV (eC x) S z:=λz hz c o e ho n zL=>by
  have h0:0<=o.obj:=by have:=zL.1;omega
  exact hz c o e (TF hx ho h0) n (hv _ n zL)
 refine⟨λt y ht hy bO s hs hh=>cap _ (h.Bl t y ?_ ((wb hx).2 t y hy bO) bO s hs hh),λi o hi ho h4 n zL=>?_,λi o hi ho z n hz zL=>?_,λi o hi ho z hz=>?_⟩
 .rcases ht with ht|⟨i,o,hi,ho,h5,hp⟩
  .exact .inl ht
  .obtain⟨o',h1,h2,h3,_⟩:=tV hx ho om;exact .inr ⟨i,o',hi,h1,om,om⟩
 .obtain⟨o',h1,h2,_,_,_,h6⟩:=tV hx ho om;rcases h6 with h6|h6
  .exact h.aG i o' hi h1 om n (by rw[<-h6];exact hv _ n zL)
  .have:=zL.1;omega
 .by_cases h0:o.ah=0
  .rw[hd.z o (Vm ho) h0]at hz;exact absurd hz (noE rfl z)
  .obtain⟨o',h1,_,_,h4,_⟩:=tV hx ho h0;refine h.TG i o' hi h1 z n ?_ (hv _ n zL);obtain⟨nm,hm⟩:=hz;exact⟨nm,by rw[h4];exact hm⟩
 .by_cases h0:o.ah=0
  .rw[hd.z o (Vm ho) h0]at hz;exact absurd hz (noQ rfl z)
  .obtain⟨o',h1,_,_,_,h5,_⟩:=tV hx ho h0;refine cap _ (h.Vn i o' hi h1 z ?_);obtain⟨q,hq,r⟩:=hz;exact⟨q,by rw[h5];exact hq,r⟩
def LF(N:Nat->Prop)(a b:List aL):Prop:=∀(t:Nat)y,b[t]? =some y->y.aF=true->N t\/∃x,a[t]? =some x/\x.aF=true/\(x.fenced=true->y.fenced=true)
theorem PE.lf{N:Nat->Prop}{a b:List aL}(h:PE a b):LF N a b:=λt y hy hl=>by
 obtain⟨x,h1,h2,h3⟩:=h t y hy;exact .inr ⟨x,h1,by rw[h2];exact hl,λe=>by rw[<-h3];exact e⟩
theorem LF.eq{N:Nat->Prop}{a b:List aL}(h:b=a):LF N a b:=λt y hy hl=>.inr ⟨y,h▸hy,hl,id⟩
theorem LF.gI(N:Nat->Prop)(k:Kr)(z n:Int):LF N k.ps (Kn.gI k (gg k z n)).1.ps:=by
 unfold Kn.gI;show LF N k.ps (if _ then _ else _:Kr).ps
 split
 .unfold gg;split
  .rename_i h1 h2;rw[gg,if_pos h2]at h1;cases h1
  .split
   .rename_i h1 h2 h3;rw[gg,if_neg h2,if_pos h3]at h1;cases h1
   .intro t y hy hl;have hy:(k.ps.set z.toNat _)[t]? =some y:=hy;by_cases e:z.toNat=t
    .subst e;have ax:z.toNat<k.ps.length:=by simpa using(Lw.1 hy).1
     rw[aaj ax]at hy;cases hy;cases hl
    .rw[aam e]at hy;exact .inr ⟨y,hy,hl,id⟩
 .exact .eq rfl
theorem abn{k:Kr}{p:Nat}(hp:p<k.ps.length)(bO:k.ps[p].aF=true)(hf:k.ps[p].fenced=true){c:Cl}(he:(gM k p c).2.gz=0):
  LF (λt=>c.ah=18/\(t:Int)=(gM k p c).2.n) k.ps (gM k p c).1.ps/\(c.ah=18->∀(t:Nat)y,(t:Int)=(gM k p c).2.n->(gM k p c).1.ps[t]? =some y->y.fenced=true):=by
 have s7:=wy hp;unfold gM at he|-;split at he
 .rename_i a;rw[if_pos a];exact⟨(PE.Qy k p c).lf,λh=>om⟩
 rename_i a;rw[if_neg a];split at he
 .rename_i a2;rw[if_pos a2];exact⟨.eq (Qz k p c),λh=>om⟩
 rename_i a2;rw[if_neg a2];split at he
 .rename_i a3;rw[if_pos a3];exact⟨(PE.fR k p _ _).lf,λh=>om⟩
 rename_i a3;rw[if_neg a3];split at he
 .rename_i a4;rw[if_pos a4];exact⟨.eq rfl,λh=>om⟩
 rename_i a4;rw[if_neg a4];split at he
 .rename_i a5;rw[if_pos a5];exact⟨.eq (TD k p c),λh=>om⟩
 rename_i a5;rw[if_neg a5];split at he
 .rename_i a6;rw[if_pos a6];exact⟨(PE.ES k p).lf,λh=>om⟩
 rename_i a6;rw[if_neg a6];split at he
 .rename_i a7;rw[if_pos a7];exact⟨.eq (TE k p c),λh=>om⟩
 rename_i a7;rw[if_neg a7];split at he
 .rename_i a8;rw[if_pos a8];exact⟨(PE.recv k p c).lf,λh=>om⟩
 rename_i a8;rw[if_neg a8];unfold fc at he|-;split at he
 .rename_i h1;rw[if_pos h1];refine⟨λt y hy hl=>?_,λh=>om⟩
  have hy:(kU k.ps p)[t]? =some y:=hy;unfold kU at hy;rw[s7]at hy;by_cases e:p=t
  .subst e;have hy:(k.ps.set p {k.ps[p]with fenced:=true})[p]? =some y:=hy
   rw[aaj hp]at hy;cases hy;exact .inr ⟨_,s7,bO,λ_=>rfl⟩
  .have hy:(k.ps.set p {k.ps[p]with fenced:=true})[t]? =some y:=hy
   rw[aam e]at hy;exact .inr ⟨y,hy,hl,id⟩
 rename_i h1;rw[if_neg h1];split at he
 .rename_i h2;rw[if_pos h2];exact⟨.eq rfl,λh=>om⟩
 rename_i h2;rw[if_neg h2];split at he
 .rename_i h3;rw[if_pos h3];unfold rq at he|-;split at he
  .rename_i h4;exact absurd he h4
  .rename_i h4;rw[if_neg h4];obtain⟨c',C⟩:=sb s7 bO (aah h4);obtain⟨g1,g2,g3,g4⟩:=uV s7 C.le;have hPE:=PE.iu ⟨(aM k.l (dN c')).1,k.ops,il k.ps p c'⟩ p (aM k.l (dN c')).2.1 3200;rw[C.R];refine⟨λt y hy hl=>?_,λ_ t y ht hy=>?_⟩
   .obtain⟨x,q1,q2,q3⟩:=hPE t y hy;by_cases e:t=c'
    .exact .inl ⟨h3,by rw[e]⟩
    .have q1:(il k.ps p c')[t]? =some x:=q1;rw[g3 t e]at q1;exact .inr ⟨x,q1,by rw[q2];exact hl,λf=>by rw[<-q3];exact f⟩
   .have e:t=c':=by have ht:(t:Int)=(c':Int):=ht;omega
    subst e;obtain⟨x,q1,q2,q3⟩:=hPE t y hy;have q1:(il k.ps p t)[t]? =some x:=q1;rw[g2]at q1;cases q1;rw[<-q3];exact hf
 rename_i h3;rw[if_neg h3];split at he
 .rename_i h4;rw[if_pos h4];exact⟨.gI _ _ _ _,λh=>om⟩
 rename_i h4;rw[if_neg h4];refine⟨?_,λh=>om⟩
 generalize bC k p c.fd (if c.ah=20 then 2048 else 1024)=w
 unfold mq;split
 .exact .eq rfl
 unfold rY;split
 .exact .eq rfl
 split
 .split<;>exact .eq rfl
 .exact .gI _ _ _ _
end Kn
namespace Kn
structure FS(k:Kr)(In S:Nat->Prop):Prop where
 ki:KI k
 sw:Ro k
 rc:RC k In S
 fe:∀(t:Nat)y,In t->k.ps[t]? =some y->y.aF=true->y.fenced=true
def XB(c:Cl)(a:An)(t:Nat):Prop:=c.ah=18/\a.gz=0/\(t:Int)=a.n
theorem FS.do_{prog:List eQ}{k:Kr}{In S:Nat->Prop}(h:FS k In S){c:Cl}(hI:∀p:Nat,c.aQ=p->In p):
  FS (np prog k c).1 (λt=>In t\/XB c (np prog k c).2 t) (S2 k S)/\Ou k In S (np prog k c).1:=by
 by_cases he:(np prog k c).2.gz=0
 .obtain⟨p,hc,hp,bO,_,_,ho,e⟩:=Xy he;have hIp:=hI p hc;have s7:=wy hp;have hf:=h.fe p _ hIp s7 bO;have h2:c.ah≠2:=λh2=>by
   have:=Ih (prog:=prog) (k:=k) (c:=c) (by rw[hc];simp[fa,hp,bO]) (by rw[hc,aal];simp[jy,s7,hf]) h2
   rw[this]at he;cases he
  have X0:=abm h.ki h.rc hp bO hIp h2 ho;have hx:=h.ki.op s7 bO ho;have hIn:∀t,(In t\/XB c (np prog k c).2 t)↔Vo In c (gM k p c).2 t:=λt=>by unfold XB Vo;rw[e];exact or_congr Iff.rfl ⟨λq=>⟨q.1,q.2.2⟩,λq=>⟨q.1,ho,q.2⟩⟩
  have hrc:RC (eC (gM k p c).1) (Vo In c (gM k p c).2) (S2 k S):=X0.rc.tM hx;obtain⟨l1,l2⟩:=abn hp bO hf ho;have jE:(λt=>In t\/XB c (np prog k c).2 t)=Vo In c (gM k p c).2:=funext λt=>propext (hIn t)
  rw[jE,e];refine⟨⟨hx.tM,hx.Jh,hrc,λt y ht hy hl=>?_⟩,X0.ou.tM h.ki h.sw h.rc hx⟩
  have hy:=(wb hx).2 t y hy hl;rcases l1 t y hy hl with⟨q1,q2⟩|⟨x,q1,q2,q3⟩
  .exact l2 q1 t y q2 hy
  .rcases ht with ht|⟨r1,r2⟩
   .exact q3 (h.fe t x ht q1 q2)
   .exact l2 r1 t y r2 hy
 .obtain⟨e,h2⟩:=TB he;have jE:(λt=>In t\/XB c (np prog k c).2 t)=In:=funext λt=>propext ⟨λq=>q.elim id λq=>absurd q.2.1 he,.inl⟩
  rw[jE,h2];refine⟨⟨h.ki,h.sw,?_,h.fe⟩,.refl _ _ _⟩;exact(FI.start h.ki h.rc λt ht=>.inl ht).rc
def hS(prog:List eQ):Kr×List Int->List Cl->Kr×List Int
 |s,[]=>s
 |s,c::r=>if c.aQ∈s.2 then hS prog ((np prog s.1 c).1,if c.ah=18/\(np prog s.1 c).2.gz=0 then s.2++ [(np prog s.1 c).2.n]else s.2) r else hS prog s r
def Vp(pl:List Int)(t:Nat):Prop:=(t:Int)∈pl
theorem TI(pl:List Int)(c:Cl)(a:An):(λt=>Vp pl t\/XB c a t)=Vp (if c.ah=18/\a.gz=0 then pl++ [a.n]else pl):=by
 refine funext λt=>propext ?_
 unfold Vp XB;by_cases h:c.ah=18/\a.gz=0
 .rw[if_pos h,abH,abQ];exact or_congr Iff.rfl ⟨λq=>q.2.2,λq=>⟨h.1,h.2,q⟩⟩
 .rw[if_neg h];exact⟨λq=>q.elim id λq=>absurd ⟨q.1,q.2.1⟩ h,.inl⟩
theorem zi(prog:List eQ):∀(cs:List Cl)(s:Kr×List Int)(S:Nat->Prop),FS s.1 (Vp s.2) S->∀j,UO s.1 S j->(hS prog s cs).1.l[j]? =s.1.l[j]?
 | [],_,_,_,_,_=>rfl
 |c::r,s,S,h,j,hj=>by
  rw[hS];split
  .rename_i hc;have hI:∀p:Nat,c.aQ=p->Vp s.2 p:=λp hp=>by unfold Vp;rw[<-hp];exact hc
   obtain⟨h1,h2⟩:=h.do_ (prog:=prog) hI;rw[TI]at h1;have k6:UO (np prog s.1 c).1 (S2 s.1 S) j:=by
    refine⟨?_,λq=>q.elim hj.2 λq=>q hj.1⟩
    rw[h2.o j hj];exact hj.1
   exact(zi prog r _ _ h1 j k6).trans (h2.o j hj)
  .exact zi prog r s S h j hj
end Kn
namespace Kn
def lfB(ps:List aL)(t:Nat):Bool:=match ps[t]? with
 |some x=>x.aF&&x.fenced
 |none=>false
def o9(ps:List aL)(i:Nat):List Nat:=(List.range i).filter (lfB ps)
theorem QE{ps:List aL}{i:Nat}{x:aL}(h:ps[i]? =some x):o9 ps (i+1)=o9 ps i++(if(x.aF&&x.fenced)=true then [i]else []):=by
 have e:lfB ps i=(x.aF&&x.fenced):=by rw[lfB,h]
 rw[o9,ads,acx,ad9,e,List.filter_nil,o9]
theorem J3(ps:List aL)(i:Nat):(o9 ps i).length<=i:=abJ (acn _ _) aD
theorem wT{ops:List aT}{c:Nat}{o:aT}(h:ops[c]? =some o):Fe.dO ops (c:Nat)=o.obj:=by rw[Fe.dO,if_pos om,aal,h]
theorem J4{ops:List aT}{ps:List aL}{t:Nat}{y:aL}(h:ps[t]? =some y)(hl:y.aF=true){s:dJ}(hs:s∈y.an)(hh:s.has=true):Fe.dO ops s.b8∈Fe.gd ops ps (t:Nat):=by rw[Fe.gd,if_pos om,aal,h];simp only[hl,if_true];exact abl.2 ⟨s,acD.2 ⟨hs,hh⟩,rfl⟩
theorem XC{k:Kr}{pl:List Int}{L:List Nat}(h:Fe.zZ k.l k.ops k.ps pl L):RC k (Vp pl) (·∈L):=by
 have hc:=h.clo;have cap:∀z,(∀n,vO k.l (Fe.dO k.ops z) n->n∈L)->oV k (·∈L) z:=λz hz c o e ho n hv=>by
  subst e;exact hz n (by rw[wT ho];exact hv)
 refine⟨λt y hr hy hl s hs hh=>cap _ λn hv=>?_,λi o hi ho h4 n hv=>hc.s i o hi ho o.aG (by unfold Fe.Qg;rw[if_pos h4];simp) n hv,λi o hi ho z n hz hv=>?_,λi o hi ho z hz=>?_⟩
 .rcases hr with hr|⟨i,o,hi,ho,h5,e⟩
  .exact hc.r _ (List.mem_flatMap.2 ⟨_,hr,J4 hy hl hs hh⟩) n hv
  .refine hc.s i o hi ho _ ?_ n hv;unfold Fe.Qg;rw[if_pos h5,e];exact acW _ (aen _ (J4 hy hl hs hh))
 .obtain⟨nm,hm⟩:=hz;refine hc.s i o hi ho z ?_ n hv;unfold Fe.Qg;exact acW _ (acW _ (aen _ (abl.2 ⟨_,abl.2 ⟨_,hm,rfl⟩,rfl⟩)))
 .obtain⟨q,hq,hh,rfl⟩:=hz;refine cap _ λn hv=>hc.s i o hi ho _ ?_ n hv
  unfold Fe.Qg;exact acW _ (acW _ (acW _ (abl.2 ⟨q,acD.2 ⟨hq,hh⟩,rfl⟩)))
theorem QF{k:Kr}(hk:KI k)(hs:Ro k){L:List Nat}(h:Fe.zZ k.l k.ops k.ps (Fe.nZ (o9 k.ps k.ps.length)) L):FS k (Vp (Fe.nZ (o9 k.ps k.ps.length))) (·∈L):=by
 refine⟨hk,hs,XC h,λt y ht hy _=>?_⟩
 obtain⟨n,hn,e⟩:=abl.1 (show(t:Int)∈Fe.nZ (o9 k.ps k.ps.length)from ht);have e:n=t:=om;subst e;have hb:=(acD.1 hn).2;rw[lfB,hy]at hb;simp only[aaL]at hb;exact hb.2
theorem CS(prog:List eQ):∀(cs:List Cl)(s:Kr×List Int)(c:Cl),hS prog s (cs++ [c])=hS prog (hS prog s cs) [c]
 | [],_,_=>rfl
 |x::r,s,c=>by
  have e1:hS prog s (x::(r++ [c]))=if x.aQ∈s.2 then hS prog ((np prog s.1 x).1,if x.ah=18/\(np prog s.1 x).2.gz=0 then s.2++ [(np prog s.1 x).2.n]else s.2) (r++ [c])else hS prog s (r++ [c]):=by rw[hS]
  have e2:hS prog s (x::r)=if x.aQ∈s.2 then hS prog ((np prog s.1 x).1,if x.ah=18/\(np prog s.1 x).2.gz=0 then s.2++ [(np prog s.1 x).2.n]else s.2) r else hS prog s r:=by rw[hS]
  rw[ad8,e1,e2];split
  .exact CS prog r _ c
  .exact CS prog r s c
theorem QG(prog:List eQ):∀(cs:List Cl)(s:Kr×List Int),KI s.1->KI (hS prog s cs).1
 | [],_,h=>h
 |c::r,s,h=>by
  rw[hS];split
  .exact QG prog r _ (h.do_ prog c)
  .exact QG prog r s h
theorem Ii(prog:List eQ):∀(cs:List Cl)(s:Kr×List Int),(hS prog s cs).2.length<=s.2.length+cs.length
 | [],s=>by simp[hS]
 |c::r,s=>by
  rw[hS];split
  .have:=Ii prog r ((np prog s.1 c).1,if c.ah=18/\(np prog s.1 c).2.gz=0 then s.2++ [(np prog s.1 c).2.n]else s.2)
   have h2:(if c.ah=18/\(np prog s.1 c).2.gz=0 then s.2++ [(np prog s.1 c).2.n]else s.2).length<=s.2.length+1:=by
    split
    .simp
    .omega
   simp only[aa2]at this|-;omega
  .have:=Ii prog r s;simp only[aa2];omega
theorem KI.fsz{k:Kr}(h:KI k):Fe.FSz k.l k.ops k.ps:=
 ⟨by have:=h.ll;omega,λo ho=>⟨_,(h.en o ho).eq⟩,λo ho=>⟨by have:=(h.sm o ho).e;omega,by have:=(h.sm o ho).q;omega⟩,λp hp=>by have:=h.sl p hp;omega⟩
def wB:List Obj:=[⟨2,[],[bP (⟨#[100]⟩,1)],⟨#[]⟩,0,[],0,0,0⟩,⟨2,[],[bP (⟨#[102]⟩,2)],⟨#[]⟩,0,[],0,0,0⟩,⟨1,[],[],⟨#[]⟩,0,[],0,0,0⟩]
def oe:List aL:=[⟨true,true,0,[⟨true,0,0⟩]⟩,⟨true,false,0,[]⟩]
def og:List aT:=[⟨1,0⟩]
theorem J5:Fe.FSz wB og oe:=⟨by decide,λo ho=>by
 simp only[wB,abI,acm,or_false]at ho;rcases ho with rfl|rfl|rfl
 .exact⟨[_],rfl⟩
 .exact⟨[_],rfl⟩
 .exact⟨[],rfl⟩,by decide,by decide⟩
theorem afy:Fe.zZ wB og oe [0] [1,2]:=by
 refine⟨⟨by decide,λn hn=>?_,λS hS n hn=>?_⟩,⟨λz hz n hv=>?_,λi o hi ho z hz n hv=>?_⟩⟩
 .simp only[abI,acm,or_false]at hn;rcases hn with rfl|rfl
  .exact⟨rfl,_,rfl,by decide⟩
  .exact⟨rfl,_,rfl,by decide⟩
 .have h1:S 1:=hS.r 1 (by decide) 1 ⟨rfl,_,rfl,by decide⟩
  simp only[abI,acm,or_false]at hn;rcases hn with rfl|rfl
  .exact h1
  .exact hS.s 1 _ h1 rfl 2 (by show(2:Int)∈ [(2:Int)];simp) 2 ⟨rfl,_,rfl,by decide⟩
 .have hz:z∈ [(1:Int)]:=hz;have:=hv.1;simp at hz|-;omega
 .simp only[abI,acm,or_false]at hi;rcases hi with rfl|rfl
  .cases ho;have hz:z∈ [(2:Int)]:=hz;have:=hv.1;simp at hz|-;omega
  .cases ho;have hz:z∈([]:List Int):=hz;cases hz
theorem abo:Fe.zZ wB og oe [1] []:=by
 refine⟨⟨by decide,λn hn=>(by cases hn),λS hS n hn=>(by cases hn)⟩,⟨λz hz n hv=>?_,λi o hi=>(by cases hi)⟩⟩
 have hz:z∈([]:List Int):=hz;cases hz
theorem TJ{L:List Nat}(h:Fe.zZ wB og oe [0] L):Fe.my 3 L 3=[1,2]:=by
 have e:∀n,n∈L↔n∈ [1,2]:=h.cO afy;show(List.range 3).filter _=_;have:(List.range 3).filter (λn=>decide (n∈L))=(List.range 3).filter (λn=>decide (n∈ [1,2])):=aeO λn _=>decide_eq_decide.2 (e n)
 exact this.trans (by decide)
theorem TK{L:List Nat}(h:Fe.zZ wB og oe [1] L):Fe.my 3 L 3=[]:=by
 have e:∀n,n∈L↔n∈ []:=h.cO abo;have:(List.range 3).filter (λn=>decide (n∈L))=(List.range 3).filter (λn=>decide (n∈([]:List Nat))):=aeO λn _=>decide_eq_decide.2 (e n)
 exact this.trans (by decide)
theorem abp:Fe.Xn wB og oe [0]:=by
 refine⟨λj pr hj hp hm=>?_,λL L' _ h' n hn _=>?_⟩
 .simp only[abI,acm,or_false]at hm;have:j=0:=om;subst this;cases hp;exact⟨rfl,rfl⟩
 .have:=(Fe.zZ.cO h' abo n).1 hn;cases this
theorem abq:¬Fe.Xn wB og oe [1]:=λh=>by
 have:=h.1 1 _ (by decide) rfl aD
 cases this.2
end Kn
end Go.Proofs.YtllkfpggoigbaaaGreatDoor
namespace Go.AM
section
variable {P:Program}
theorem MD{f:Nat}{args args0:List CV}{m:Mem}{K0 K:CV->Mem->Prop}(F:List Nat)(h:ap P f args0 [] K0)(dR:iB (sg [] m.length) m (λk=>bc F k=true) args args0)(hK:∀r m1,K0 r m1->∃(id:Nat)(xs:List Value),r= .rv (.one (.row id 1 0 none))/\m1[id]? =some (.row 1 (xs.map λx=>[.ai (.val x)]))/\(∀x,x∈xs->x≠.slice none 0 0)/\K (.rv (.one (.ai (.sl 1 (xs.map λx=>[.val x]))))) m):ap P f args m K:=by
 refine⟨h.1,λρ w vs hM vz ZB=>?_⟩
 have gQ:∀i,sg [] m.length i<m.length->i<0:=λi h=>by simp[sg,dh]at h;omega
 obtain⟨mC,hC0,_⟩:=wJ (n0:=0) (Y:=sg [] m.length) (Z:=λk=>bc F k=true) (m':=[]) hM (λi h=>absurd h (abE i)) (λi j h _ _=>absurd h (abE i)) gQ (λi b' h=>by simp at h)
 refine(h.2 _ w vs mC (vz.trans dR.len.symm) λi c hi=>?_).mono λe w'⟨v,r,m1,ρ1,he,hk,xL,wI,hx⟩=>?_
 .obtain⟨c0,IJ,hv⟩:=dR.get i c hi;obtain⟨v,zG,hd⟩:=ZB i c0 IJ;exact⟨v,zG,hv.lR hM gQ hd⟩
 .obtain⟨id,xs,rfl,hid,eF,IN⟩:=hK r m1 hk;have k8:∀k,¬Live (ρ.vw (sg [] m.length) (λk=>bc F k=true) m 0) [] k:=λk h=>by have:=h.gO;simp at this
  have KV:eT w w':=⟨λb hb=>hx.frame b hb λk hk=>absurd hk (k8 k),hx.size,hx.os,hx.tape,hx.output⟩
  obtain⟨h1,h2⟩:=hM.IY KV;let ρ2:bX:={ρ with S:=λb=>ρ.S b\/(0<(ρ1.aV (.ay id)).cap/\(ρ1.aV (.ay id)).b=b)}
  have uk:0<(ρ1.aV (.ay id)).cap->w.heap.size<=(ρ1.aV (.ay id)).b/\(ρ1.aV (.ay id)).b<w'.heap.size:=λhc=>by
   have hl:Live ρ1 m1 (.ay id):=⟨_,hid,aD,λ_=>hc⟩
   exact⟨(hx.aF _ hl).elim (λh=>h) λ⟨k0,h0,_⟩=>absurd h0 (k8 k0),(xL.aF _ hl).1⟩
  have g:jC ρ w' ρ2 w':=⟨aai _,λ_ _=>rfl,λb hb=>.inl hb,λ_ _=>rfl⟩
  have bO:∀k,Live ρ2 m k↔Live ρ m k:=λk=>by cases k<;>rfl
  have DI:aK ρ2 m w':=⟨h1.n,λb hb=>hb.elim (h1.S b) λ⟨hc,e⟩=>e▸(uk hc).2,λk hk=>⟨(h1.aF k ((bO k).1 hk)).1,λhS=>hS.elim (h1.aF k ((bO k).1 hk)).2 λ⟨hc,e⟩=>by have a:=(hM.aF k ((bO k).1 hk)).1;have b:=(uk hc).1;have e:(ρ1.aV (.ay id)).b=(ρ.aV k).b:=e;omega⟩,λk k' hk iG=>h1.inj k k' ((bO k).1 hk) ((bO k').1 iG),λi b hb=>(h1.bk i b hb).cY g (by rw[h1.n];exact(Lw.1 hb).1) (λ_ _=>rfl),λi a b s e ho hc=>(h1.iJ i a b s e ho hc).cY g rfl⟩
  refine⟨v,_,m,ρ2,he,IN,DI,?_,⟨h2.n,h2.aV,λb hb=>.inl (h2.S b hb),λb hb=>hb.elim (h2.S' b) λ⟨hc,e⟩=>.inr (.inl (e▸(uk hc).1)),λk hk=>h2.aF k ((bO k).1 hk),h2.frame,h2.size,h2.os,h2.tape,h2.output⟩⟩
  obtain⟨_,_,_,_,_,a,rfl,ha⟩:=wI;obtain⟨b1,b2,b3,_,b4⟩:=xL.bk id _ hid;simp only[O9]at b1;show dx ρ2.S w' (.sl 1 (xs.map λx=>[.val x])) _
  have e0:(Option.none.getD (ρ1.aV (.ay id)).len)-0=(xs.map λx=>[Dt.val x]).length:=by simp[b1]
  rw[e0,acY];cases X1:xs with
  |nil=>exact .nil _ _ _ b3
  |cons x r=>
   have hc:0<(ρ1.aV (.ay id)).cap:=by rw[X1]at b1;simp at b1;omega
   rw[ha hc,<-X1];obtain⟨cur,c1,c2,c3⟩:=b4 hc;have cell:∀(i j:Nat)(cs:List Dt)d,(xs.map λx=>[Dt.val x])[i]? =some cs->cs[j]? =some d->∃x,xs[i]? =some x/\j=0/\d= .val x:=λi j cs d hi hj=>by
    rw[Qu]at hi;obtain⟨x,hx,rfl⟩:=abA.1 hi;cases j with
    |zero=>simp at hj;exact⟨x,hx,rfl,hj.symm⟩
    |succ n=>simp at hj
   refine .sl 1 _ (ρ1.aV (.ay id)).b _ _ (λi _=>xs.getD i .nilFunc) (.inr ⟨hc,rfl⟩) (by simp only[O9];omega) b3 (λcs fA=>by obtain⟨x,_,rfl⟩:=abl.1 fA;rfl) (λi cs j d hi hj=>?_) (λi cs j d hi hj=>?_)
   all_goals
    obtain⟨x,hx,rfl,rfl⟩:=cell i j cs d hi hj;obtain⟨u,hu,cI⟩:=c3 i [.ai (.val x)] 0 (.ai (.val x)) (by rw[Qu,hx];rfl) rfl
    have hpu:=bY (ρ:=ρ1) (w:=w') (v:=u) (x:=x) cI (eF x (Vm hx));have IP:xs.getD i .nilFunc=x:=by rw[List.getD_eq_getElem?_getD,hx];rfl
   .rw[c1.cell,IP,<-hpu.1];have e:(ρ1.aV (.ay id)).aB+0*1+i*1+0=(ρ1.aV (.ay id)).aB+i*1+0:=om;rw[e];exact hu
   .rw[IP];exact .val x hpu.2
end
end Go.AM
namespace Go.Proofs.YtllkfpggoigbaaaGreatDoor
open Proofs.Tryz
open Go.AM Go.ChangeShapes Go.WideShapes Go.ChangeAt Go.RowKit
def c5:LF:=Cq prog Tryz.f5 [[2]] []
def c7:LF:=Cq prog Tryz.f7 [] []
namespace Kn
theorem l7N:bs prog Tryz.f7=some c7.er:=by kernel_rfl
theorem MF:body prog c7 [] [] (λr m=>cH m r (gh Tz)):=by
 refine ar (λi=>i<=22) [] (λi=>[(2,al .i64 ((i:Nat)+1)),(1,.rv (.one (.row 0 2 0 none)))]) (λi=>[.row 2 (aa ((Xw i).map dC.enc))]) (λi=>22-i) 0 (WG _) ?_ (λi hi=>?_)
 .refine View.trans (View.bt 1 2 0 rfl rfl rfl) (View.o1 1 [0] [] ?_)
  .exact .au
 have hi:i<=22:=hi;refine am (λh=>?_) (λh=>?_)
 .have ax:i<22:=by have h:((i:Int)+1)<=22:=h;omega
  refine⟨by simp only[bA,Xw,aa,O9,List.length_range,aa2,abO];omega,?_⟩
  refine⟨i+1,ax,(show 22-(i+1)<22-i by omega),View.o 3 [2] [] ?_ ?_⟩
  .repeat(first|exact .nil|refine .aH ?_|refine .put (.aN (br (k:=i+1) om).symm) ?_|refine .eq rfl ?_)
  .rw[show Xw (i+1)=Xw i++ [⟨(i:Int)+1,[]⟩] by simp[Xw,ads]]
   exact .pt rfl rfl (TA (Xw i) _ rfl) (.nil _)
 .have iw:i=22:=by have h:¬((i:Int)+1)<=22:=h;omega
  subst iw;exact cH.rv (.one (d7.da (ds:=(Xw 22).map dC.enc) rfl 0 none))
theorem TL{m:Mem}{K:CV->Mem->Prop}(h:K (gh Tz) m):ap prog 7 [] m K:=
 aR (lA func7 l7N rfl (aav rfl) MF) aD λr m1 hf=>⟨_,hf,h⟩
theorem afz{m:Mem}{K:CV->Mem->Prop}(pl:List Int)(eF:pl.length<=4194304)(z:Int)(hm:m[1]? =some (.row 1 (aa (pl.map Fe.iE))))(h:K (aq (decide (z∈pl))) m):ap prog 11 [.rv (.one (.row 1 1 0 none)),al .i64 z] m K:=
 xR (K0:=λr _=>r=aq (decide (z∈pl))) [1] (lV func11 Fe.l11 rfl (aav rfl) (Fe.E0 pl eF z)) (.put (.rv (.one (.dG (cS.da (Z:=λk=>bc [1] k=true) (ds:=pl.map Fe.iE) rfl hm 0 none)))) (.eq rfl .nil)) λr m1 e=>⟨by rw[e];rfl,by rw[e];exact h⟩
theorem XD{m:Mem}{K:CV->Mem->Prop}{k:Kr}(hk:KI k)(pl:List Int)(eF:pl.length<=4194304)(hm:m[1]? =some (.row 1 (aa (pl.map Fe.iE))))(h:∀L,Fe.zZ k.l k.ops k.ps pl L->K (Fe.Bi (Fe.my k.l.length L k.l.length)) m):ap prog 10 [cA k.l k.ops k.ps,.rv (.one (.row 1 1 0 none))] m K:=
 MD (K0:=λr m=>∃L,Fe.zZ k.l k.ops k.ps pl L/\Fe.Xl m r (Fe.my k.l.length L k.l.length)) [1] (lV func10 Fe.l10 rfl (aav rfl) (Fe.v8 k.l k.ops k.ps pl hk.fsz.hl hk.fsz.l4 hk.fsz.dQ eF hk.fsz.i3)) (.eq rfl (.put (.rv (.one (.dG (cS.da (Z:=λk=>bc [1] k=true) (ds:=pl.map Fe.iE) rfl hm 0 none)))) .nil)) λr m1⟨L,hL,id,e,hr⟩=>
  ⟨id,(Fe.my k.l.length L k.l.length).map λn:Nat=>.int .i64 (n:Nat),e,by rw[hr];simp[aa,Fe.nI],λx hx=>by obtain⟨n,_,rfl⟩:=abl.1 hx;simp,by have:=h L hL;rw[acf];exact this⟩
theorem l5N:bs prog Tryz.f5=some c5.er:=by kernel_rfl
theorem Fb:body prog c5 [] [] (λr m=>r=aq true):=by
 refine cj [] [(1,.rv (.one (.ptr 0 0)))] [.var [.ai (cT wB),.ai (de og),.ai (dZ oe)]] (View.o1 7 [6] [0,1,2,3,4,5] ?_) ?_
 .refine .pt rfl rfl (dy.var (.cons (.dG (jj.dG (Z:=λk=>bc [0,1,2,3,4,5] k=true) ?_ rfl rfl)) (.cons (.dG (jj.dG (Z:=λk=>bc [0,1,2,3,4,5] k=true) ?_ rfl rfl)) (.cons (.dG (jj.dG (Z:=λk=>bc [0,1,2,3,4,5] k=true) ?_ rfl rfl)) .nil)))) (.nil _)
  all_goals repeat(first|exact mb.nil|exact jj.nil|refine jj.cons ?_ ?_|refine mb.cons ?_ ?_|exact .ai _|exact .bt 1|exact .bt 2|exact .bt 3|exact .bt 4|exact cS.da (Z:=λk=>bc [0,1,2,3,4,5] k=true) (ds:=[bP (⟨#[100]⟩,1)]) rfl rfl 0 none|exact cS.da (Z:=λk=>bc [0,1,2,3,4,5] k=true) (ds:=[bP (⟨#[102]⟩,2)]) rfl rfl 0 none|exact cS.da (Z:=λk=>bc [0,1,2,3,4,5] k=true) (ds:=[dJ.enc ⟨true,0,0⟩]) rfl rfl 0 none)
 have c4:([0]:List Int).length<=4194304:=by decide
 refine ek (iQ:=[cA wB og oe,Fe.iY [0]]) (m':=[.var [.ai (cT wB),.ai (de og),.ai (dZ oe)],.aE]) (View.o 2 [0,1] [1] (.eq rfl (.put (.rv (.one (.dG (cS.da (Z:=λk=>bc [1] k=true) (ds:=[Fe.iE 0]) rfl rfl 0 none)))) .nil)) (.pe rfl rfl rfl (.aE (.nil _)))) ?_
 refine Fe.qM wB og oe [0] J5 c4 λL hL=>?_
 rw[show Fe.my wB.length L wB.length=[1,2]from TJ hL];refine ek (iQ:=[cA wB og oe,Fe.iY [0]]) (m':=[.var [.ai (cT wB),.ai (de og),.ai (dZ oe)],.aE,.aE]) (View.o 3 [0,1,2] [2] (.eq rfl (.put (.rv (.one (.dG (cS.da (Z:=λk=>bc [2] k=true) (ds:=[Fe.iE 0]) rfl rfl 0 none)))) .nil)) (.pe rfl rfl rfl (.aE (.aE (.nil _))))) ?_
 refine Fe.Bj wB og oe [0] J5 (by decide) c4 λb1 h1=>?_
 have h1:b1=true:=h1.2 abp;subst h1;refine ek (iQ:=[cA wB og oe,Fe.iY [1]]) (m':=[.var [.ai (cT wB),.ai (de og),.ai (dZ oe)],.aE,.aE,.aE]) (View.o 4 [0,1,2,3] [3] (.eq rfl (.put (.rv (.one (.dG (cS.da (Z:=λk=>bc [3] k=true) (ds:=[Fe.iE 1]) rfl rfl 0 none)))) .nil)) (.pe rfl rfl rfl (.aE (.aE (.aE (.nil _)))))) ?_
 refine Fe.Bj wB og oe [1] J5 (by decide) (by decide) λb2 h2=>?_
 have h2:b2=false:=by
  cases b2 with
  |false=>rfl
  |true=>exact absurd (h2.1 rfl) abq
 subst h2;refine ek (iQ:=[cA wB og oe,Fe.iY [1]]) (m':=[.var [.ai (cT wB),.ai (de og),.ai (dZ oe)],.aE,.aE,.aE,.aE]) (View.o 5 [0,1,2,3,4] [4] (.eq rfl (.put (.rv (.one (.dG (cS.da (Z:=λk=>bc [4] k=true) (ds:=[Fe.iE 1]) rfl rfl 0 none)))) .nil)) (.pe rfl rfl rfl (.aE (.aE (.aE (.aE (.nil _))))))) ?_
 refine Fe.qM wB og oe [1] J5 (by decide) λL2 Yh=>?_
 rw[show Fe.my wB.length L2 wB.length=[]from TK Yh];exact rfl
theorem MG{m:Mem}{K:CV->Mem->Prop}(h:K (aq true) m):ap prog 5 [] m K:=
 vJ func5 l5N rfl (aav rfl) Fb rfl rfl h
end Kn
def PrK(m:Nat)(x:aL):Prop:=EU m x.an/\(x.aF=false->x.an=[])
theorem Br(z:Nat)(h:z<6):∃v:Int,(0<=v/\v<=4095)/\dh [[CC.ai (.val (.int .i64 4095))],[.ai (.val (.int .i64 255))],[.ai (.val (.int .i64 1))],[.ai (.val (.int .i64 768))],[.ai (.val (.int .i64 3072))],[.ai (.val (.int .i64 9))]] z=some [.ai (.val (.int .i64 v))]:=by
 match z,h with
 |0,_=>exact⟨_,by decide,rfl⟩
 |1,_=>exact⟨_,by decide,rfl⟩
 |2,_=>exact⟨_,by decide,rfl⟩
 |3,_=>exact⟨_,by decide,rfl⟩
 |4,_=>exact⟨_,by decide,rfl⟩
 |5,_=>exact⟨_,by decide,rfl⟩
theorem TM{ops:List aT}{w:Nat}(hn:((ops.map aT.enc).length:Int)>0)(h:(1:Int)<=((ops.map aT.enc).length:Int)->(w:Int)<((ops.map aT.enc).length:Int)):w<ops.length:=by rw[O9]at hn h;have:=h om;omega
theorem J6(b:List Int)(hb:t6 b)(n:Nat)(l:List Obj)(g:GB n l)(ops:List aT)(Qf:Tf l.length ops)(po:1<=n)(Ri:n<=3):
  aw prog 0 (l5 (oK V9)) (ow (aw prog 0 Wa) EKN) ⟨i5 299 [(2,.rv (.one (.ptr 0 0))),(3,.rv (.one (.ptr 1 0))),(19,.rv (.one (.ptr 2 0))),(20,al .i64 (n:Nat))],[.var z3,qD b,.var [.ai (ia (bN l)),.ai (de ops),.bt]]⟩:=by
 have Ij:∀(ps:List aL)(sl:List dJ),EU ops.length sl->∀(L F:Bool)(c:Int),(L=false->sl=[])->(∀x,x∈ps->PrK ops.length x)->∀x,x∈ps++ [⟨L,F,c,sl⟩]->PrK ops.length x:=by
  intro ps sl h L F c h1 h2 x hx;rcases abH.1 hx with hx|hx
  .exact h2 x hx
  .rw[abQ.1 hx];exact⟨h,h1⟩
 refine ar (λ(a:adQ)=>a.p<=n/\t6 a.b/\a.ps.length=a.p/\(∀x,x∈a.ps->PrK ops.length x)/\(0<a.p->∃q,a.ps[0]? =some q/\q.aF=true)) [2,3,19,20,184] (λa=>[(185,al .i64 (a.p:Nat))])
  (λa=>match a.ps with
   | []=>[.var z3,qD a.b,.var [.ai (ia (bN l)),.ai (de ops),.bt]]
   |x::r=>[.var z3,qD a.b,.var [.ai (ia (bN l)),.ai (de ops),.row 3 4 0 none],.row 4 (aa ((x::r).map aL.enc))]) (λa=>n-a.p) ⟨0,b,[]⟩ ⟨WG _,hb,rfl,aD,λh=>absurd h (ad1 0)⟩ ?_ (λa ha=>?_)
 .refine View.o1 3 [0,1,2] [] ?_
  .exact .au
 obtain⟨p,b1,ps⟩:=a;obtain⟨hp,vu,eF,i3,DJ⟩:=ha;have hp:p<=n:=hp;have vu:t6 b1:=vu;have eF:ps.length=p:=eF;have i3:∀x,x∈ps->PrK ops.length x:=i3;have DJ:0<p->∃q,ps[0]? =some q/\q.aF=true:=DJ;cases ps with
 |nil=>
  have yc:p=0:=by simpa using eF.symm
  subst yc;refine bV (decide_eq_true (show((0:Nat):Int)<(n:Int) by omega)) ?_
  have fP:0<n:=om;refine bU b1 vu 2 1 rfl λfy b2 kG _ _ _=>?_
  refine bU b2 kG 5 1 rfl λq b3 Rg _ _ _=>?_
  refine ar (λ(a:ZQ)=>a.j<=q/\t6 a.b/\EU ops.length a.sl) [2,3,19,20,26,27,184,185,200] (λa=>[(201,al .i64 (a.j:Nat))]) (λa=>[.var z3,qD a.b,.var [.ai (ia (bN l)),.ai (de ops),.bt],.var [.ai (.val (.bool true)),.ai (.val (.bool ((((fy:Nat):Int))==1))),.ai (.val (.int .i64 0)),.ai (gL a.sl)]]) (λa=>q-a.j) ⟨0,b3,[]⟩ ⟨WG _,by assumption,(EU.nil _)⟩ ?_ (λa ha=>?_)
  .refine View.o1 4 [0,1,2,3] [] ?_
   .exact .pe rfl rfl rfl (.pt rfl rfl (.eq rfl (fO _)) (.pe rfl rfl rfl (.pt rfl rfl (dy.var (.cons (.aN (.ai _)) (.cons (.aN (.ai _)) (.cons (.aN (.ai _)) (.cons (.dG (.bt 3)) .nil))))) (.nil _))))
  obtain⟨j,bj,sl⟩:=a;obtain⟨hj,wU,nf⟩:=ha;have hj:j<=q:=hj;have wU:t6 bj:=wU;have nf:EU ops.length sl:=nf;refine am (λf4=>?_) (λf4=>?_)
  .have bQ:j<q:=by have h:(j:Int)<(q:Int):=f4;omega
   refine am (λhn=>?_) (λhn=>?_)
   .skip
    refine⟨?_,?_⟩
    .refine bU bj wU _ 1 rfl λw bw Po zx _ _=>?_
     have zx:=TM hn zx;refine⟨⟨rfl,trivial⟩,?_⟩;refine⟨?_,?_⟩
     .refine⟨⟨rfl,rfl,rfl,trivial⟩,?_⟩;refine bU bw Po 6 1 rfl λz bz MH hz _ _=>?_
      have hz:=hz om;refine⟨⟨rfl,trivial⟩,?_⟩;refine af (bJ (k:=z) (by simp[lenOf];omega)) ?_
      obtain⟨v,C4,hv⟩:=Br z om;refine af hv ?_;refine od sl nf _ v ⟨C4,w,rfl,zx⟩ λy fd e hy=>?_
      refine⟨trivial,?_⟩;refine ba (λhe=>?_) (λhe=>?_)
      .subst he;refine⟨⟨j+1,bz,y⟩,⟨bQ,by assumption,by first|assumption|exact hy rfl|omega⟩,(show q-(j+1)<q-j by omega),View.o2 5 [0,1,2,3] [] ?_⟩
       .exact .au
      .skip
       refine⟨⟨j+1,bz,sl⟩,⟨bQ,by assumption,by first|assumption|exact hy rfl|omega⟩,(show q-(j+1)<q-j by omega),View.o2 5 [0,1,2,3] [] ?_⟩
       .exact .au
     .skip
      refine bU bw Po 6 1 rfl λz bz MH hz _ _=>?_
      have hz:=hz om;refine⟨⟨rfl,trivial⟩,?_⟩;refine⟨⟨rfl,rfl,rfl,trivial⟩,?_⟩;refine af (bJ (k:=z) (by simp[lenOf];omega)) ?_
      obtain⟨v,C4,hv⟩:=Br z om;refine af hv ?_;refine od sl nf _ v ⟨C4,w,rfl,zx⟩ λy fd e hy=>?_
      refine⟨trivial,?_⟩;refine ba (λhe=>?_) (λhe=>?_)
      .subst he;refine⟨⟨j+1,bz,y⟩,⟨bQ,by assumption,by first|assumption|exact hy rfl|omega⟩,(show q-(j+1)<q-j by omega),View.o2 5 [0,1,2,3] [] ?_⟩
       .exact .au
      .skip
       refine⟨⟨j+1,bz,sl⟩,⟨bQ,by assumption,by first|assumption|exact hy rfl|omega⟩,(show q-(j+1)<q-j by omega),View.o2 5 [0,1,2,3] [] ?_⟩
       .exact .au
    .refine⟨⟨rfl,rfl,rfl,trivial⟩,?_⟩;refine bU bj wU _ 1 rfl λw bw Po zx _ _=>?_
     have zx:=TM hn zx;refine⟨⟨rfl,trivial⟩,?_⟩;refine bU bw Po 6 1 rfl λz bz MH hz _ _=>?_
     have hz:=hz om;refine⟨⟨rfl,trivial⟩,?_⟩;refine af (bJ (k:=z) (by simp[lenOf];omega)) ?_
     obtain⟨v,C4,hv⟩:=Br z om;refine af hv ?_;refine od sl nf _ v ⟨C4,w,rfl,zx⟩ λy fd e hy=>?_
     refine⟨trivial,?_⟩;refine ba (λhe=>?_) (λhe=>?_)
     .subst he;refine⟨⟨j+1,bz,y⟩,⟨bQ,by assumption,by first|assumption|exact hy rfl|omega⟩,(show q-(j+1)<q-j by omega),View.o2 5 [0,1,2,3] [] ?_⟩
      .exact .au
     .skip
      refine⟨⟨j+1,bz,sl⟩,⟨bQ,by assumption,by first|assumption|exact hy rfl|omega⟩,(show q-(j+1)<q-j by omega),View.o2 5 [0,1,2,3] [] ?_⟩
      .exact .au
   .skip
    refine⟨⟨j+1,bj,sl⟩,⟨bQ,by assumption,by first|assumption|exact hy rfl|omega⟩,(show q-(j+1)<q-j by omega),View.o2 4 [0,1,2,3] [] ?_⟩
    .exact .au
  .skip
   refine⟨by simp[bA]<;>omega,?_⟩
   refine⟨⟨0+1,bj,([⟨true,((((fy:Nat):Int))==1),0,sl⟩])⟩,⟨fP,by assumption,by simp at eF|-<;>omega,Ij [] sl nf _ _ _ (λh=>by cases h) i3,λ_=>⟨_,rfl,rfl⟩⟩,(show n-(0+1)<n-0 by omega),View.o2 6 [0,1,2,5] [] ?_⟩
   .exact .pe rfl rfl rfl (.pt rfl rfl (.eq rfl (fO _)) (.pe rfl rfl rfl (.pt rfl rfl (Ja [] ⟨true,((((fy:Nat):Int))==1),0,sl⟩ (.aN (.ai _)) (by simp[bA,aa,CC.aN])) (.nil _))))
 |cons x r=>
  refine am (λh=>?_) (λh=>?_)
  .have fP:p<n:=by have h:(p:Int)<(n:Int):=h;omega
   have I9:0<p:=by simp at eF;omega
   have X9:∀y:aL,(0<p+1->∃q,(x::r++ [y])[0]? =some q/\q.aF=true):=λy _=>by
    obtain⟨q,h1,h2⟩:=DJ I9;exact⟨q,by simpa using h1,h2⟩
   refine gG (t:=(((p:Nat):Int)==0)) (by rw[beq_eq_false_iff_ne];omega) ?_
   refine bU b1 vu 5 1 rfl λlx b2 kG _ _ _=>?_
   refine bU b2 kG 2 1 rfl λfy b3 Rg _ _ _=>?_
   refine bU b3 Rg 5 1 rfl λq b4 WH _ _ _=>?_
   refine ar (λ(a:ZQ)=>a.j<=q/\t6 a.b/\EU ops.length a.sl) [2,3,19,20,26,27,184,185,200] (λa=>[(201,al .i64 (a.j:Nat))]) (λa=>[.var z3,qD a.b,.var [.ai (ia (bN l)),.ai (de ops),.row 3 4 0 none],.row 4 (aa ((x::r).map aL.enc)),.var [.ai (.val (.bool (decide ((((lx:Nat):Int))>0)))),.ai (.val (.bool ((((fy:Nat):Int))==1))),.ai (.val (.int .i64 0)),.ai (gL a.sl)]]) (λa=>q-a.j) ⟨0,b4,[]⟩ ⟨WG _,by assumption,(EU.nil _)⟩ ?_ (λa ha=>?_)
   .refine View.o1 5 [0,1,2,3,4] [] ?_
    .exact .pe rfl rfl rfl (.pt rfl rfl (.eq rfl (fO _)) (.pe rfl rfl rfl (.pr rfl rfl rfl (.pt rfl rfl (dy.var (.cons (.aN (.ai _)) (.cons (.aN (.ai _)) (.cons (.aN (.ai _)) (.cons (.dG (.bt 3)) .nil))))) (.nil _)))))
   obtain⟨j,bj,sl⟩:=a;obtain⟨hj,wU,nf⟩:=ha;have hj:j<=q:=hj;have wU:t6 bj:=wU;have nf:EU ops.length sl:=nf;refine am (λf4=>?_) (λf4=>?_)
   .have bQ:j<q:=by have h:(j:Int)<(q:Int):=f4;omega
    refine am (λhn=>?_) (λhn=>?_)
    .skip
     refine aA (λ_=>?_) (λ_=>?_)
     .skip
      refine⟨?_,?_⟩
      .refine bU bj wU _ 1 rfl λw bw Po zx _ _=>?_
       have zx:=TM hn zx;refine⟨⟨rfl,trivial⟩,?_⟩;refine⟨?_,?_⟩
       .refine⟨⟨rfl,rfl,rfl,trivial⟩,?_⟩;refine bU bw Po 6 1 rfl λz bz MH hz _ _=>?_
        have hz:=hz om;refine⟨⟨rfl,trivial⟩,?_⟩;refine af (bJ (k:=z) (by simp[lenOf];omega)) ?_
        obtain⟨v,C4,hv⟩:=Br z om;refine af hv ?_;refine od sl nf _ v ⟨C4,w,rfl,zx⟩ λy fd e hy=>?_
        refine⟨trivial,?_⟩;refine ba (λhe=>?_) (λhe=>?_)
        .subst he;refine⟨⟨j+1,bz,y⟩,⟨bQ,by assumption,by first|assumption|exact hy rfl|omega⟩,(show q-(j+1)<q-j by omega),View.o2 6 [0,1,2,3,4] [] ?_⟩
         .exact .au
        .skip
         refine⟨⟨j+1,bz,sl⟩,⟨bQ,by assumption,by first|assumption|exact hy rfl|omega⟩,(show q-(j+1)<q-j by omega),View.o2 6 [0,1,2,3,4] [] ?_⟩
         .exact .au
       .skip
        refine bU bw Po 6 1 rfl λz bz MH hz _ _=>?_
        have hz:=hz om;refine⟨⟨rfl,trivial⟩,?_⟩;refine⟨⟨rfl,rfl,rfl,trivial⟩,?_⟩;refine af (bJ (k:=z) (by simp[lenOf];omega)) ?_
        obtain⟨v,C4,hv⟩:=Br z om;refine af hv ?_;refine od sl nf _ v ⟨C4,w,rfl,zx⟩ λy fd e hy=>?_
        refine⟨trivial,?_⟩;refine ba (λhe=>?_) (λhe=>?_)
        .subst he;refine⟨⟨j+1,bz,y⟩,⟨bQ,by assumption,by first|assumption|exact hy rfl|omega⟩,(show q-(j+1)<q-j by omega),View.o2 6 [0,1,2,3,4] [] ?_⟩
         .exact .au
        .skip
         refine⟨⟨j+1,bz,sl⟩,⟨bQ,by assumption,by first|assumption|exact hy rfl|omega⟩,(show q-(j+1)<q-j by omega),View.o2 6 [0,1,2,3,4] [] ?_⟩
         .exact .au
      .refine⟨⟨rfl,rfl,rfl,trivial⟩,?_⟩;refine bU bj wU _ 1 rfl λw bw Po zx _ _=>?_
       have zx:=TM hn zx;refine⟨⟨rfl,trivial⟩,?_⟩;refine bU bw Po 6 1 rfl λz bz MH hz _ _=>?_
       have hz:=hz om;refine⟨⟨rfl,trivial⟩,?_⟩;refine af (bJ (k:=z) (by simp[lenOf];omega)) ?_
       obtain⟨v,C4,hv⟩:=Br z om;refine af hv ?_;refine od sl nf _ v ⟨C4,w,rfl,zx⟩ λy fd e hy=>?_
       refine⟨trivial,?_⟩;refine ba (λhe=>?_) (λhe=>?_)
       .subst he;refine⟨⟨j+1,bz,y⟩,⟨bQ,by assumption,by first|assumption|exact hy rfl|omega⟩,(show q-(j+1)<q-j by omega),View.o2 6 [0,1,2,3,4] [] ?_⟩
        .exact .au
       .skip
        refine⟨⟨j+1,bz,sl⟩,⟨bQ,by assumption,by first|assumption|exact hy rfl|omega⟩,(show q-(j+1)<q-j by omega),View.o2 6 [0,1,2,3,4] [] ?_⟩
        .exact .au
     .skip
      refine⟨⟨j+1,bj,sl⟩,⟨bQ,by assumption,by first|assumption|exact hy rfl|omega⟩,(show q-(j+1)<q-j by omega),View.o2 5 [0,1,2,3,4] [] ?_⟩
      .exact .au
    .skip
     refine⟨⟨j+1,bj,sl⟩,⟨bQ,by assumption,by first|assumption|exact hy rfl|omega⟩,(show q-(j+1)<q-j by omega),View.o2 5 [0,1,2,3,4] [] ?_⟩
     .exact .au
   .skip
    refine aA (λ_=>?_) (λcZ=>?_)
    .refine bU bj wU 9 1 rfl λcd b5 hb5 _ _ _=>?_
     refine⟨by have e:=aJ ((x::r).map aL.enc);simp only[O9,aa2]at e eF;simp only[bA,aa2,abO];omega,?_⟩
     refine⟨⟨p+1,b5,((x::r)++ [⟨false,false,(cd:Nat),[]⟩])⟩,⟨fP,by assumption,by simp at eF|-<;>omega,Ij (x::r) [] (EU.nil _) _ _ _ (λ_=>rfl) i3,X9 _⟩,(show n-(p+1)<n-p by omega),View.o2 7 [0,1,2,6] [] ?_⟩
     .exact .pe rfl rfl rfl (.pt rfl rfl (.eq rfl (fO _)) (.pe rfl rfl rfl (.pt rfl rfl (Ja (x::r) ⟨false,false,(cd:Nat),[]⟩ (.dG (.bt 3)) (by simp[bA,aa,CC.aN])) (.nil _))))
    .skip
     refine⟨by have e:=aJ ((x::r).map aL.enc);simp only[O9,aa2]at e eF;simp only[bA,aa2,abO];omega,?_⟩
     refine⟨⟨p+1,bj,((x::r)++ [⟨(decide ((((lx:Nat):Int))>0)),((((fy:Nat):Int))==1),0,sl⟩])⟩,⟨fP,by assumption,by simp at eF|-<;>omega,Ij (x::r) sl nf _ _ _ (λh=>by rw[h]at cZ;exact absurd cZ (by decide)) i3,X9 _⟩,(show n-(p+1)<n-p by omega),View.o2 7 [0,1,2,6] [] ?_⟩
     .exact .pe rfl rfl rfl (.pt rfl rfl (.eq rfl (fO _)) (.pe rfl rfl rfl (.pt rfl rfl (Ja (x::r) ⟨(decide ((((lx:Nat):Int))>0)),((((fy:Nat):Int))==1),0,sl⟩ (.aN (.ai _)) (by simp[bA,aa,CC.aN])) (.nil _))))
  .have vy:p=n:=by have h:¬(p:Int)<(n:Int):=h;omega
   refine cj [2,3,19] [] [.var z3,qD b1,.var [.ai (ia (bN l)),.ai (de ops),.ai (dZ (x::r))]] (View.o1 4 [0,1,2] [3] ?_) ?_
   .exact .pe rfl rfl rfl (.pt rfl rfl (.eq rfl (fO _)) (.pt rfl rfl (dy.var (.cons (.aN (.ai _)) (.cons (.aN (.ai _)) (.cons (.dG (cS.da (Z:=λk=>bc [3] k=true) rfl rfl 0 none)) .nil)))) (.nil _)))
   exact Tj b1 vu l g ops (x::r) Qf ⟨om,po,Ri,λy hy=>(i3 y hy).1.1,λy hy=>(i3 y hy).2,λy hy s hs=>((i3 y hy).1.2 s hs).2⟩
def Rr(n:Nat)(o:aT):Prop:=(∃j:Nat,o.obj=j/\j<n)/\0<=o.di/\o.di<=64
theorem TN{n p:Nat}(h:p<n)(h3:n<=3):Mn n (Nb (p:Nat)):=
 ⟨λl=>⟨⟨⟨⟨[],rfl⟩,⟨[],rfl⟩,by simp[Nb]⟩,by simp[Nb],by simp[Nb],by simp[Nb],by simp[Nb]⟩,by simp[Nb],rfl,rfl,by simp[Nb],rfl,rfl,λ_=>rfl,λ_=>⟨p,rfl,by show p<3;omega⟩⟩,λ_=>by show(p:Int)<n;omega⟩
structure XE where
 i:Nat
 b:List Int
 ops:List aT
theorem TO(b:List Int)(hb:t6 b)(n:Nat)(l:List Obj)(g:GB n l)(h15:l.length<=15)(po:1<=n)(Ri:n<=3):
  aw prog 0 (l5 (oK ZP)) (ow (aw prog 0 V9) EKN) ⟨i5 299 [(2,.rv (.one (.ptr 0 0))),(3,.rv (.one (.ptr 1 0))),(19,.rv (.one (.ptr 2 0))),(20,al .i64 (n:Nat))],[.var z3,qD b,.var [.ai (ia (bN l)),.bt,.bt]]⟩:=by
 have Cj:=g.len;refine ar (λ(a:XE)=>a.i<=l.length/\t6 a.b/\a.ops.length<=2*a.i/\∀o,o∈a.ops->Rr l.length o) [2,3,19,20,165] (λa=>[(166,al .i64 (a.i:Nat))])
  (λa=>match a.ops with
   | []=>[.var z3,qD a.b,.var [.ai (ia (bN l)),.bt,.bt]]
   |x::r=>[.var z3,qD a.b,.var [.ai (ia (bN l)),.row 3 2 0 none,.bt],.row 2 (aa ((x::r).map aT.enc))]) (λa=>l.length-a.i) ⟨0,b,[]⟩ ⟨WG _,hb,aD,aD⟩ ?_ (λa ha=>?_)
 .refine View.o1 3 [0,1,2] [] ?_
  .exact .au
 obtain⟨i,b1,ops⟩:=a;obtain⟨hi,vu,i7,tY⟩:=ha;have hi:i<=l.length:=hi;have vu:t6 b1:=vu;have i7:ops.length<=2*i:=i7;have tY:∀o,o∈ops->Rr l.length o:=tY;cases ops with
 |nil=>
  refine am (λh=>?_) (λh=>?_)
  .have ax:i<l.length:=by have h:(i:Int)<(((bN l).map Ob.enc).length:Int):=h;rw[O9,fp]at h;omega
   have D0:∀(z:Nat),z<4->∀{os:List aT},(∀o,o∈os->Rr l.length o)->∀o,o∈os++ [⟨(i:Nat),(z:Nat)⟩]->Rr l.length o:=λz hz os h o ho=>by
    rcases abH.1 ho with ho|ho
    .exact h o ho
    .rw[abQ.1 ho];exact⟨⟨i,rfl,ax⟩,(show(0:Int)<=(z:Nat) by omega),(show((z:Nat):Int)<=64 by omega)⟩
   refine bU b1 vu 3 1 rfl λq b2 kG hq _ _=>?_
   have hq:=hq om;refine ar (λ(a:XE)=>a.i<=q/\t6 a.b/\a.ops.length<=2*i+a.i/\∀o,o∈a.ops->Rr l.length o) [2,3,19,20,25,165,166,170] (λa=>[(171,al .i64 (a.i:Nat))]) (λa=>match a.ops with
      | []=>[.var z3,qD a.b,.var [.ai (ia (bN l)),.bt,.bt]]
      |x::r=>[.var z3,qD a.b,.var [.ai (ia (bN l)),.row 3 2 0 none,.bt],.row 2 (aa ((x::r).map aT.enc))]) (λa=>q-a.i) ⟨0,b2,[]⟩ ⟨WG _,kG,by simp at i7|-<;>omega,tY⟩ ?_ (λa ha=>?_)
   .refine View.o1 3 [0,1,2] [] ?_
    .exact .au
   clear i7 tY;obtain⟨j,bj,ops⟩:=a;obtain⟨hj,wU,i7,tY⟩:=ha;have hj:j<=q:=hj;have wU:t6 bj:=wU;have i7:ops.length<=2*i+j:=i7;have tY:∀o,o∈ops->Rr l.length o:=tY;cases ops with
   |nil=>
    refine am (λf4=>?_) (λf4=>?_)
    .have bQ:j<q:=by have h:(j:Int)<(q:Int):=f4;omega
     refine bU bj wU 4 1 rfl λz bz MH hz _ _=>?_
     refine⟨⟨rfl,trivial⟩,⟨rfl,trivial⟩,?_⟩;refine⟨by simp[bA]<;>omega,trivial,trivial,?_⟩
     refine⟨⟨j+1,bz,[⟨(i:Nat),(z:Nat)⟩]⟩,⟨bQ,MH,by simp at i7|-<;>omega,D0 z (by have:=hz (by omega);omega) tY⟩,(show q-(j+1)<q-j by omega),View.o2 5 [0,1,2,4] [] ?_⟩
     .exact .pe rfl rfl rfl (.pt rfl rfl (.eq rfl (fO _)) (.pe rfl rfl rfl (.pt rfl rfl (.bn (by simp[bA,aa,aT.enc])) (.nil _))))
    .have rJ:j=q:=by have h:¬(j:Int)<(q:Int):=f4;omega
     refine⟨⟨i+1,bj,[]⟩,⟨ax,wU,by simp at i7|-<;>omega,tY⟩,(show l.length-(i+1)<l.length-i by omega),View.o2 3 [0,1,2] [] ?_⟩
     .exact .au
   |cons y t=>
    have Jf:t.length<=100:=by simp at i7;omega
    refine am (λf4=>?_) (λf4=>?_)
    .have bQ:j<q:=by have h:(j:Int)<(q:Int):=f4;omega
     refine bU bj wU 4 1 rfl λz bz MH hz _ _=>?_
     refine⟨⟨rfl,trivial⟩,⟨rfl,trivial⟩,?_⟩;refine⟨by simp[bA,aJ]at i7|-<;>omega,trivial,trivial,?_⟩
     refine⟨⟨j+1,bz,(y::t)++ [⟨(i:Nat),(z:Nat)⟩]⟩,⟨bQ,MH,by simp at i7|-<;>omega,D0 z (by have:=hz (by omega);omega) tY⟩,(show q-(j+1)<q-j by omega),View.o2 6 [0,1,2,5] [] ?_⟩
     .exact .pe rfl rfl rfl (.pt rfl rfl (.eq rfl (fO _)) (.pe rfl rfl rfl (.pt rfl rfl (.bn (by simp[bA,aa,aT.enc])) (.nil _))))
    .have rJ:j=q:=by have h:¬(j:Int)<(q:Int):=f4;omega
     refine⟨⟨i+1,bj,(y::t)⟩,⟨ax,wU,by simp at i7|-<;>omega,tY⟩,(show l.length-(i+1)<l.length-i by omega),View.o2 4 [0,1,2,3] [] ?_⟩
     .exact .au
  .refine cj [2,3,19,20] [] [.var z3,qD b1,.var [.ai (ia (bN l)),.ai (de []),.bt]] (View.o1 3 [0,1,2] [] ?_) ?_
   .exact .pe rfl rfl rfl (.pt rfl rfl (.eq rfl (fO _)) (.pt rfl rfl (dy.var (.cons (.aN (.ai _)) (.cons (.dG (.bt 2)) (.cons (.aN .bt) .nil)))) (.nil _)))
   exact J6 b1 vu n l g [] ⟨aD,tY⟩ po Ri
 |cons x r=>
  have hrl:r.length<=100:=by simp at i7;omega
  refine am (λh=>?_) (λh=>?_)
  .have ax:i<l.length:=by have h:(i:Int)<(((bN l).map Ob.enc).length:Int):=h;rw[O9,fp]at h;omega
   have D0:∀(z:Nat),z<4->∀{os:List aT},(∀o,o∈os->Rr l.length o)->∀o,o∈os++ [⟨(i:Nat),(z:Nat)⟩]->Rr l.length o:=λz hz os h o ho=>by
    rcases abH.1 ho with ho|ho
    .exact h o ho
    .rw[abQ.1 ho];exact⟨⟨i,rfl,ax⟩,(show(0:Int)<=(z:Nat) by omega),(show((z:Nat):Int)<=64 by omega)⟩
   refine bU b1 vu 3 1 rfl λq b2 kG hq _ _=>?_
   have hq:=hq om;refine ar (λ(a:XE)=>a.i<=q/\t6 a.b/\a.ops.length<=2*i+a.i/\∀o,o∈a.ops->Rr l.length o) [2,3,19,20,25,165,166,170] (λa=>[(171,al .i64 (a.i:Nat))]) (λa=>match a.ops with
      | []=>[.var z3,qD a.b,.var [.ai (ia (bN l)),.bt,.bt]]
      |x::r=>[.var z3,qD a.b,.var [.ai (ia (bN l)),.row 3 2 0 none,.bt],.row 2 (aa ((x::r).map aT.enc))]) (λa=>q-a.i) ⟨0,b2,(x::r)⟩ ⟨WG _,kG,by simp at i7|-<;>omega,tY⟩ ?_ (λa ha=>?_)
   .refine View.o1 4 [0,1,2,3] [] ?_
    .exact .au
   clear i7 tY;obtain⟨j,bj,ops⟩:=a;obtain⟨hj,wU,i7,tY⟩:=ha;have hj:j<=q:=hj;have wU:t6 bj:=wU;have i7:ops.length<=2*i+j:=i7;have tY:∀o,o∈ops->Rr l.length o:=tY;cases ops with
   |nil=>
    refine am (λf4=>?_) (λf4=>?_)
    .have bQ:j<q:=by have h:(j:Int)<(q:Int):=f4;omega
     refine bU bj wU 4 1 rfl λz bz MH hz _ _=>?_
     refine⟨⟨rfl,trivial⟩,⟨rfl,trivial⟩,?_⟩;refine⟨by simp[bA]<;>omega,trivial,trivial,?_⟩
     refine⟨⟨j+1,bz,[⟨(i:Nat),(z:Nat)⟩]⟩,⟨bQ,MH,by simp at i7|-<;>omega,D0 z (by have:=hz (by omega);omega) tY⟩,(show q-(j+1)<q-j by omega),View.o2 5 [0,1,2,4] [] ?_⟩
     .exact .pe rfl rfl rfl (.pt rfl rfl (.eq rfl (fO _)) (.pe rfl rfl rfl (.pt rfl rfl (.bn (by simp[bA,aa,aT.enc])) (.nil _))))
    .have rJ:j=q:=by have h:¬(j:Int)<(q:Int):=f4;omega
     refine⟨⟨i+1,bj,[]⟩,⟨ax,wU,by simp at i7|-<;>omega,tY⟩,(show l.length-(i+1)<l.length-i by omega),View.o2 3 [0,1,2] [] ?_⟩
     .exact .au
   |cons y t=>
    have Jf:t.length<=100:=by simp at i7;omega
    refine am (λf4=>?_) (λf4=>?_)
    .have bQ:j<q:=by have h:(j:Int)<(q:Int):=f4;omega
     refine bU bj wU 4 1 rfl λz bz MH hz _ _=>?_
     refine⟨⟨rfl,trivial⟩,⟨rfl,trivial⟩,?_⟩;refine⟨by simp[bA,aJ]at i7|-<;>omega,trivial,trivial,?_⟩
     refine⟨⟨j+1,bz,(y::t)++ [⟨(i:Nat),(z:Nat)⟩]⟩,⟨bQ,MH,by simp at i7|-<;>omega,D0 z (by have:=hz (by omega);omega) tY⟩,(show q-(j+1)<q-j by omega),View.o2 6 [0,1,2,5] [] ?_⟩
     .exact .pe rfl rfl rfl (.pt rfl rfl (.eq rfl (fO _)) (.pe rfl rfl rfl (.pt rfl rfl (.bn (by simp[bA,aa,aT.enc])) (.nil _))))
    .have rJ:j=q:=by have h:¬(j:Int)<(q:Int):=f4;omega
     refine⟨⟨i+1,bj,(y::t)⟩,⟨ax,wU,by simp at i7|-<;>omega,tY⟩,(show l.length-(i+1)<l.length-i by omega),View.o2 4 [0,1,2,3] [] ?_⟩
     .exact .au
  .refine cj [2,3,19,20] [] [.var z3,qD b1,.var [.ai (ia (bN l)),.ai (de (x::r)),.bt]] (View.o1 4 [0,1,2] [3] ?_) ?_
   .exact .pe rfl rfl rfl (.pt rfl rfl (.eq rfl (fO _)) (.pt rfl rfl (dy.var (.cons (.aN (.ai _)) (.cons (.dG (cS.da (Z:=λk=>bc [3] k=true) rfl rfl 0 none)) (.cons (.aN .bt) .nil)))) (.nil _)))
   exact J6 b1 vu n l g (x::r) ⟨by simp at i7|-<;>omega,tY⟩ po Ri
structure Vq where
 i:Nat
 l:List Obj
theorem TQ(b:List Int)(hb:t6 b)(l:List Obj)(g:GB 0 l)(Fo:l.length<=12):
  aw prog 0 ZO EKN ⟨i5 299 [(2,.rv (.one (.ptr 0 0))),(3,.rv (.one (.ptr 1 0))),(19,.rv (.one (.ptr 2 0)))],[.var z3,qD b,.var [.ai (ia (bN l)),.bt,.bt]]⟩:=by
 refine bU b hb 3 1 rfl λx b1 vu hx _ _=>?_
 have hx:=hx om;have hw:IntKind.i64.wrap (1+(x:Int))=((1+x:Nat):Int):=by
  rw[show(1+(x:Int))=((1+x:Nat):Int) by omega,lW om]
 refine ar (λ(a:Vq)=>a.i<=1+x/\GB (1+x) a.l/\a.l.length<=12+a.i) [2,3,19] (λa=>[(146,al .i64 (a.i:Nat)),(145,al .i64 (1+x:Nat)),(20,al .i64 (1+x:Nat))]) (λa=>[.var z3,qD b1,.var [.ai (ia (bN a.l)),.bt,.bt]]) (λa=>1+x-a.i) ⟨0,l⟩ ⟨WG _,g.mono om,by simpa using Fo⟩ ?_ (λa ha=>?_)
 .refine View.o 3 [0,1,2] [] ?_ ?_
  .repeat(first|exact .nil|refine .aH ?_|refine .eq (congrArg (λx=>al .i64 x) hw.symm) ?_|refine .eq rfl ?_)
  .exact .au
 obtain⟨p,l1⟩:=a;obtain⟨hp,g1,rH⟩:=ha;have hp:p<=1+x:=hp;have g1:GB (1+x) l1:=g1;have rH:l1.length<=12+p:=rH;refine am (λh=>?_) (λh=>?_)
 .have ax:p<1+x:=by have h:(p:Int)<((1+x:Nat):Int):=h;omega
  refine am (λh=>?_) (λh=>?_)
  .refine jd (Ti _ _) (CK g1.nz om (Nb (p:Nat)) ?_);refine⟨⟨p+1,l1++ [Nb (p:Nat)]⟩,⟨ax,g1.uy om (TN om om),(show(l1++ [Nb (p:Nat)]).length<=12+(p+1) by simp;omega)⟩,(show 1+x-(p+1)<1+x-p by omega),View.o2 3 [0,1,2] [] ?_⟩
   .exact .au
  .refine⟨⟨p+1,l1⟩,⟨ax,g1,(show l1.length<=12+(p+1) by omega)⟩,(show 1+x-(p+1)<1+x-p by omega),View.o2 3 [0,1,2] [] ?_⟩
   .exact .au
 .refine cj [2,3,19,20] [] [.var z3,qD b1,.var [.ai (ia (bN l1)),.bt,.bt]] (View.o1 3 [0,1,2] [] ?_) ?_
  .exact .au
  exact TO b1 vu (1+x) l1 g1 om om om
theorem TR(b:List Int)(hb:t6 b)(l:List Obj)(g:GB 0 l)(h8:l.length<=8):
  aw prog 0 (l5 (oK V8)) (ow (aw prog 0 (bi V8)) EKN) ⟨i5 299 [(2,.rv (.one (.ptr 0 0))),(3,.rv (.one (.ptr 1 0))),(4,fX (bN l))],[.var z3,qD b]⟩:=by
 refine bU b hb 3 1 rfl λx b1 vu hx _ _=>?_
 have hx:=hx om;refine ar (λ(a:Vq)=>a.i<=x/\GB 0 a.l/\a.l.length<=8+2*a.i) [2,3,127] (λa=>[(128,al .i64 (a.i:Nat)),(4,fX (bN a.l))]) (λa=>[.var z3,qD b1]) (λa=>x-a.i) ⟨0,l⟩ ⟨WG _,g,by simpa using h8⟩ ?_ (λa ha=>?_)
 .refine View.o1 2 [0,1] [] ?_
  .exact .au
 obtain⟨i,l1⟩:=a;obtain⟨hi,g1,rH⟩:=ha;have hi:i<=x:=hi;have g1:GB 0 l1:=g1;have rH:l1.length<=8+2*i:=rH;refine am (λh=>?_) (λh=>?_)
 .have ax:i<x:=by have h:(i:Int)<(x:Int):=h;omega
  refine Qe g1.nz om ?_;refine⟨⟨i+1,l1++ [bg ((l1.length+1:Nat):Int),bg (l1.length:Int)]⟩,⟨ax,g1.ES om,(show(l1++ [bg ((l1.length+1:Nat):Int),bg (l1.length:Int)]).length<=8+2*(i+1) by simp;omega)⟩,(show x-(i+1)<x-i by omega),View.o2 3 [0,1] [] ?_⟩
  .exact .au
 .refine cj [2,3,19] [] [.var z3,qD b1,.var [.ai (ia (bN l1)),.bt,.bt]] (View.o1 3 [0,1,2] [] ?_) ?_
  .exact .au
  exact TQ b1 vu l1 g1 om
end Go.Proofs.YtllkfpggoigbaaaGreatDoor
