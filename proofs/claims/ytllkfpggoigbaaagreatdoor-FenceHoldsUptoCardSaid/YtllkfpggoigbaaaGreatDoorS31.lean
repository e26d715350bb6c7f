/- Part 31 of 35. -/
import Derived.Test.YtllkfpggoigbaaaGreatDoorS15
import Derived.Test.YtllkfpggoigbaaaGreatDoorS20
import Derived.Test.YtllkfpggoigbaaaGreatDoorS21
import Derived.Test.YtllkfpggoigbaaaGreatDoorS23
import Derived.Test.YtllkfpggoigbaaaGreatDoorS30
set_option linter.unusedVariables false
set_option linter.unusedSimpArgs false
set_option linter.unnecessarySimpa false
set_option maxRecDepth 100000
set_option maxHeartbeats 0
namespace Go.Proofs.YtllkfpggoigbaaaGreatDoor
open Proofs.Tryz
open Go.AM Go.ChangeShapes Go.WideShapes Go.ChangeAt Go.RowKit
def c6:LF:=Cq prog Tryz.f6 [] [[(.cons 0 none (.cons 1 none (.cons 2 (some []) .nil)))]]
def c18:LF:=Cq prog f18 [] []
def c19:LF:=Cq prog f19 [] []
def c53:LF:=Cq prog f53 [] [[(d9 13 0 (.cons 13 (some []) (d9 3 14 .nil)))]]
def c54:LF:=Cq prog f54 [] []
def c95:LF:=Cq prog f95 [] [[(d9 14 0 (.cons 14 (some []) (.cons 15 none (.cons 16 none .nil))))],[(d9 15 0 (.cons 15 (some []) (.cons 16 none (.cons 17 (some []) .nil))))]]
def c104:LF:=Cq prog f104 [] []
theorem l18:bs prog f18=some c18:=by kernel_rfl
theorem l19:bs prog f19=some c19:=by kernel_rfl
theorem l53:bs prog f53=some c53:=by kernel_rfl
theorem l54:bs prog f54=some c54:=by kernel_rfl
theorem l95:bs prog f95=some c95:=by kernel_rfl
theorem l104:bs prog f104=some c104:=by kernel_rfl
theorem l6:bs prog Tryz.f6=some c6:=by kernel_rfl
theorem Tv{m:Mem}{K:CV->Mem->Prop}(h:K (al .i64 0) m):ap prog 104 [al .u64 0] m K:=
 bu (r0:=al .i64 0) func104 l104 rfl (aav rfl) (show body prog c104 [al .u64 0] [] (λr m=>r=al .i64 0)from rfl) rfl rfl h
theorem Xt{m:Mem}{K:CV->Mem->Prop}(h:K (al .i64 0) m):ap prog 54 [al .u64 0] m K:=
 bu (r0:=al .i64 0) func54 l54 rfl (aav rfl) (show body prog c54 [al .u64 0] [] (λr m=>r=al .i64 0)from Tv rfl) rfl rfl h
theorem abf{m:Mem}{K:CV->Mem->Prop}(h:K (.bG []) m):ap prog 95 [gh [],al .i64 0,al .i64 0,.rv (.one (.fn 20 []))] m K:=by
 refine bu (r0:= .bG []) func95 l95 rfl (aav rfl) ?_ rfl rfl h;refine ar (λ_:Nat=>True) [0,1,2,3,8] (λ_=>[]) (λ_=>[]) (λ_=>0) 0 trivial ?_ (λ_ _=>?_)
 .refine View.o1 0 [] [] (.nil _)
 .rfl
theorem abg{m:Mem}{K:CV->Mem->Prop}(h:K (.bG []) m):ap prog 53 [gh [],al .i64 0,al .i64 0,al .i64 0,.rv (.one (.fn 20 []))] m K:=by
 refine bu (r0:= .bG []) func53 l53 rfl (aav rfl) ?_ rfl rfl h;refine ar (λ_:Nat=>True) [0,1,2,3,4,10,11] (λ_=>[]) (λ_=>[]) (λ_=>0) 0 trivial ?_ (λ_ _=>?_)
 .refine View.o1 0 [] [] (.nil _)
 .refine abf ?_;rfl
theorem Tw{m:Mem}{K:CV->Mem->Prop}(h:K (.bG []) m):ap prog 19 [gh [],.rv (.one (.fn 20 []))] m K:=by refine bu (r0:= .bG []) func19 l19 rfl (aav rfl) ?_ rfl rfl h;refine Xt ?_;refine abg ?_;rfl
theorem E9(l:List dC)(hl:l.length<=4194304):body prog c18 [gh l] [] (λr m=>cH m r (gh l)):=by
 have mU:((([]:List (List CC)).length+((l.map dC.enc).map λds=>ds.map CC.ai).length)*32)<=140737488355328:=by simp;omega
 refine aA (λh=>?_) (λh=>?_)
 .have hd:l=[]:=aaX (by simpa using aa1 h)
  subst hd;exact⟨.rv (.one (.bt 2)),mU,.rv (.one (d7.da rfl 0 none))⟩
 .exact⟨mU,.rv (.one (d7.da rfl 0 none))⟩
theorem MA(l:List dC)(hl:l.length<=4194304){m:Mem}{K:CV->Mem->Prop}(h:K (gh l) m):ap prog 18 [gh l] m K:=
 aR (aP func18 l18 (E9 l hl)) (by simp[gh,CV.cW,CC.cW]) λr m1 hf=>⟨_,hf,h⟩
theorem CQ(l:List dC)(fG:l≠[])(hl:l.length<=4194304):body prog c18 [gh l] [] (λr m=>∃r' m',View 0 ⟨[r],m⟩ ⟨[r'],m'⟩/\r'= .rv (.one (.row 0 2 0 none))/\m'=[.row 2 (aa (l.map dC.enc))]):=by
 have mU:((([]:List (List CC)).length+((l.map dC.enc).map λds=>ds.map CC.ai).length)*32)<=140737488355328:=by simp;omega
 refine gG ?_ ?_
 .have:(l.map dC.enc).length≠0:=by simp[fG]
  cases h:Nat.beq (l.map dC.enc).length 0 with
  |false=>rfl
  |true=>exact absurd (aa1 h) this
 .refine⟨mU,_,_,View.o 2 [1] [] (.eq rfl .nil) (.pt rfl rfl (.bn (by simp[aa,bA])) (.nil _)),rfl,rfl⟩
theorem Ig(l:List dC)(fG:l≠[])(hl:l.length<=4194304){m:Mem}{K:CV->Mem->Prop}(h:K (.rv (.one (.row m.length 2 0 none))) (m++ [.row 2 (aa (l.map dC.enc))])):ap prog 18 [gh l] m K:=by
 refine be [] m.length rfl rfl rfl rfl (args0:=[gh l]) rfl (λi b' hi=>by simp at hi) (K0:=λr m=>r= .rv (.one (.row 0 2 0 none))/\m=[.row 2 (aa (l.map dC.enc))])
  (bK (aP func18 l18 (CQ l fG hl)) λr m1 h=>h) (λr m1 hr=>?_)
 obtain⟨rfl,rfl⟩:=hr;refine⟨WG _,?_⟩;show K (.rv (.one (.row (m.length+(0-0)) 2 0 none))) (fT m [Bk.aN _ _]);rw[cf,Bk.ei];exact h
theorem Qv{m:Mem}{a b:RV}{f:Int×Int}(h:dE m a b):cH m (.bG [a,.agg [.ai (.val (.int .i64 f.1)),.ai (.val (.int .i64 f.2))]]) (.bG [b,.agg [.ai (.val (.int .i64 f.1)),.ai (.val (.int .i64 f.2))]]):=by
 refine .bG rfl λi r r' h1 h2=>?_
 match i,h1,h2 with
 |0,h1,h2=>cases h1;cases h2;exact h
 |1,h1,h2=>cases h1;cases h2;exact dE.self rfl
def Tx(l:List eQ)(f:Int×Int):CV:= .bG [.one (.ai (aaM l)),.agg [.ai (.val (.int .i64 f.1)),.ai (.val (.int .i64 f.2))]]
theorem MB(l:List dC):body prog c6 [gh l] [] (λr m=>((fF l).1≠0->cH m r (Tx [] (fF l)))/\((fF l).1=0->∃l',l'.Perm l/\zg l'/\cH m r (Tx (E5 l') (0,0)))):=by
 refine Qp l ?_;refine bF (λh=>?_) (λh=>?_)
 .refine⟨trivial,?_⟩;have h:(fF l).1≠0:=h;exact⟨λ_=>Qv (.one (.bt 4)),λh0=>absurd h0 h⟩
 have h:(fF l).1=0:=h;obtain⟨h30,hg,hd⟩:=E6 h;have Vv:∀l':List dC,l'.Perm l->(1+(((iF l'.length l').map eQ.enc).map λds=>ds.map CC.ai).length)*32<=140737488355328:=by
  intro l' hp;have:=sf (n:=l'.length) (l:=l') (λp hp'=>(hg p (hp.mem_iff.1 hp')).2.2.1) (by rw[hp.length_eq];exact h30) (aai _)
  simp;omega
 by_cases fG:l=[]
 .subst fG;refine MA [] (by decide) ?_
  refine Tw ?_;refine J0 0 [] (by decide) (by decide) aD ?_
  refine⟨by decide,λh0=>absurd h h0,λ_=>⟨[],.refl _,.nil,Qv (f:=(0,0)) (.one (d7.da (ds:=(E5 []).map eQ.enc) rfl 0 none))⟩⟩
 .refine Ig l fG om ?_;refine Qt l fG om rfl λl' hp hs=>?_
  have hr:=My hs (z6 hp hd);have Du:l'.length<=30:=by rw[hp.length_eq];exact h30
  refine ek (iQ:=[gh l']) (m':=[.var [.ai (.val (.int .i64 0)),.ai (.val (.int .i64 0))],.var [.ai (.val (.int .i64 (fF l).1)),.ai (.val (.int .i64 (fF l).2))],.aE,.row 4 [[.ai (.val (.int .i64 1)),.ai (.val (.int .i64 0)),.ai (.val (.int .i64 0)),.ai (.val (.int .i64 0))]]])
   (View.o 4 [0,1,2,3] [2] (.put (sq.dG 2 (l'.map dC.enc) rfl rfl) .nil) (.pe rfl rfl rfl (.pe rfl rfl rfl (.aE (.pm rfl rfl rfl))))) ?_
  refine J0 l'.length l' (aai _) Du (λp hp'=>(hg p (hp.mem_iff.1 hp')).2.2.1) ?_
  refine⟨Vv l' hp,λh0=>absurd h h0,λ_=>⟨l',hp,hr,Qv (f:=(0,0)) (.one (d7.da (ds:=(E5 l').map eQ.enc) ?_ 0 none))⟩⟩
  rfl
theorem Ty(l:List dC){m:Mem}{K:CV->Mem->Prop}(h1:(fF l).1≠0->K (Tx [] (fF l)) m)(h2:(fF l).1=0->∀l':List dC,l'.Perm l->zg l'->K (Tx (E5 l') (0,0)) m):ap prog 6 [gh l] m K:=by
 refine aR (aP func6 l6 (MB l)) (by simp[gh,CV.cW,CC.cW]) λr m1 hf=>?_
 by_cases h:(fF l).1=0
 .obtain⟨l',hp,hr,hz⟩:=hf.2 h;exact⟨_,hz,h2 h l' hp hr⟩
 .exact⟨_,hf.1 h,h1 h⟩
namespace Kn
def abh(cs:List Cl):CV:= .rv (.one (.ai (.sl 9 (cs.map Cl.enc))))
theorem Xu{cs:List Cl}{i:Nat}(h:i<cs.length):cm (cs.map Cl.enc) (i:Nat)=some (cs[i].enc):=by rw[aU,Qu,wy h];rfl
end Kn
namespace Kn
def Tz:List dC:=(List.range 22).map λ(i:Nat)=>⟨(i:Int)+1,[]⟩
theorem Xv:(fF Tz).1=0:=by kernel_rfl
def Xw(n:Nat):List dC:=(List.range n).map λ(i:Nat)=>⟨(i:Int)+1,[]⟩
theorem TA{Y:Nat->Nat}{m:Mem}{Z:Nat->Prop}{id:Nat}(R:List dC)(k:Int){es:List (List CC)}(h:es=aa (R.map dC.enc)):
  oC Y m Z id (.row 2 (es++ [[.ai (.val (.int .i64 k)),.bt]])) (.row 2 (aa ((R++ [(⟨k,[]⟩:dC)]).map dC.enc))):=by
 rw[h,abM,bZ];refine oC.uy (s:=2) (by rw[aa,acf];exact acE λx _=>by simp[CC.aN]) rfl λj c c' h1 h2=>?_
 match j,h1,h2 with
 |0,h1,h2=>cases h1;cases h2;exact .aN (.ai _)
 |1,h1,h2=>cases h1;cases h2;exact .dG (.bt 2)
 |n+2,h1,h2=>simp at h1
end Kn
namespace Kn
def kE(k:Kr):List Dt:=kC k.l k.ops k.ps
structure Xx(cs:List Cl):Prop where
 l:cs.length<=1048576
 d:∀c,c∈cs->c.data.length<=4194304
end Kn
namespace Kn
theorem TB{prog:List eQ}{k:Kr}{c:Cl}(h:(np prog k c).2.gz≠0):∃e,np prog k c=(k,An.no e):=by
 unfold np at h|-;split
 .exact⟨_,rfl⟩
 rename_i h1;rw[if_neg h1]at h;split
 .exact⟨_,rfl⟩
 rename_i h2;rw[if_neg h2]at h;split
 .exact⟨_,rfl⟩
 rename_i h3;rw[if_neg h3]at h;unfold Rl at h|-;split
 .exact⟨_,rfl⟩
 rename_i h4;rw[if_neg h4]at h;exact absurd h h4
end Kn
namespace Kn
def nE(k v:Int):ME:=⟨.int .i64 k,.one (.ai (.val (.int .i64 v)))⟩
theorem Xy{prog:List eQ}{k:Kr}{c:Cl}(h:(np prog k c).2.gz=0):∃p:Nat,c.aQ=p/\∃hp:p<k.ps.length,k.ps[p].aF=true/\1<=c.ah/\c.ah<=22/\(gM k p c).2.gz=0/\np prog k c=(eC (gM k p c).1,(gM k p c).2):=by
 unfold np at h|-;split at h
 .cases h
 rename_i h1;split at h
 .cases h
 rename_i h2;split at h
 .cases h
 rename_i h3;obtain⟨p,hc,hp,hl⟩:=pP (by simpa using h1)
 unfold Rl at h|-;split at h
 .rename_i h4;exact absurd h h4
 rename_i h4;rw[hc,aal]at h h3 h4;rw[hc]at h1;refine⟨p,hc,hp,hl,om,om,h,?_⟩;rw[hc,if_neg h1,if_neg h2,aal,if_neg h3,if_neg h4]
end Kn
namespace Kn
def Ro(k:Kr):Prop:=eC k=k
theorem KI.Jh{k:Kr}(h:KI k):Ro (eC k):=by obtain⟨a,c,h1,h2,h3⟩:=(eP h.kr).ex;obtain⟨b,hb⟩:=h2.left;obtain⟨a2,c2,g1,g2,g3⟩:=(eP h.tM.kr).ex;exact h3.Jh hb g1 g2 g3
theorem J1{k:Kr}(h:KI k):∃(y:Kr)(en:Bool),cL k.l k.ops k.ps y.l y.ops y.ps en:=by
 obtain⟨a,c,h1,h2,h3⟩:=(eP h.kr).ex;rcases Cc h1 with rfl|⟨x,hx,_⟩
 .exact⟨c,_,h2⟩
 .exact⟨x,_,hx⟩
theorem Ro.left{k:Kr}(hs:Ro k)(h:KI k):∃b,Left k b:=by obtain⟨a,c,h1,h2,h3⟩:=(eP h.kr).ex;unfold Ro at hs;rw[hs]at h3;obtain⟨b,hb⟩:=h2.left;obtain⟨y,en,hy⟩:=J1 h;obtain⟨e1,e2,e3,rfl⟩:=h3.zU hb hy;rw[e1,e2,e3]at hy;exact hy.left
theorem KI.ahi{x:Kr}(h:KI x)(hm:∀b,gm x.l x.ops x.ps b->(∀(i:Nat)o,x.l[i]? =some o->o.ah≠0->dv b.O i)/\(∀(i:Nat)o,x.ops[i]? =some o->¬dv b.P i->o=⟨-1,0⟩))(he:∀(t:Nat)y,x.ps[t]? =some y->jY x.l t y=false):eC x=GS x:=by
 obtain⟨y,en,hy⟩:=J1 h;have hid:y.l=x.l/\y.ops=x.ops/\y.ps=x.ps/\en=false:=by
  obtain⟨bd,hbd,hP1,AW⟩:=hy.ex;obtain⟨m1,m2⟩:=hm bd hbd;have lh:∀i,dH bd x.l i=false:=λi=>by
   unfold dH;cases hi:x.l[i]? with
   |none=>rfl
   |some o=>
    by_cases hk:o.ah=0
    .simp[hk]
    .have:bd.O[i]? =some true:=m1 i o hi hk;simp[this]
  have hL:y.l=x.l:=hP1.id λt o _=>by
   unfold cF;rw[lh t];have:lg bd x.l x.l.length o.aG=false:=by unfold lg;rw[lh];simp
   rw[this];simp
  have nS:=hy.pr;have l4:=hy.en;rw[hL]at nS l4;refine⟨hL,AW.id λt o ho=>?_,nS.id λt o ho=>?_,?_⟩
  .unfold zT;split
   .rename_i hh;have hn:¬dv bd.P t:=by intro OL;have OL:bd.P[t]? =some true:=OL;simp[OL]at hh
    exact(m2 t o ho hn).symm
   .rfl
  .simp[wM,he t o ho]
  .rw[l4];cases pb:iT x.l x.ps x.ps.length with
   |false=>rfl
   |true=>
    unfold iT at pb;rw[abP]at pb;obtain⟨t,ht,Ca⟩:=pb;have Jf:t<x.ps.length:=by simpa using ht
    rw[wy Jf]at Ca;have Ca:jY x.l t x.ps[t]=true:=Ca;rw[he t _ (wy Jf)]at Ca;cases Ca
 obtain⟨e1,e2,e3,rfl⟩:=hid;rw[e1,e2,e3]at hy;exact GQ.zK (eP h.kr) ⟨x,x,.refl,hy,yi x⟩
theorem Qw{x:Kr}{t:Nat}{y:aL}(hy:x.ps[t]? =some y)(hl:y.aF=true):(GS x).ps[t]? =some y:=by
 obtain⟨n1,n2,n3,P,t1,t2,hP,t3,e⟩:=(yi x).ex;rw[e];have AV:P[t]? =some y:=by rw[hP.2 t y hy];unfold gd qZ;simp[hl]
 show(P.take n3)[t]? =some y;rcases aax t n3 with a|a
 .rw[aca a];exact AV
 .have:=t3.t.dr t y a AV;unfold qR at this;simp[hl]at this
theorem Qx{l:List dJ}{o r:Int}(h:(gx l o r).2.2=0):(⟨true,o,r⟩:dJ)∈(gx l o r).1/\∀s,s∈l->s.has=true->s∈(gx l o r).1:=by
 unfold gx at h|-;simp only[]at h|-;unfold Tb.jk at h|-;split at h
 .cases h
 rename_i h1;rw[if_neg h1];split
 .rename_i k hk;obtain⟨a1,a2,a3⟩:=abN.1 hk;refine⟨abl.2 ⟨⟨true,⟨o,r⟩⟩,List.mem_set a1 _,rfl⟩,λs hs hh=>?_⟩
  refine abl.2 ⟨pR s,?_,rfl⟩;obtain⟨i,hi⟩:=aak (aer (f:=pR) hs);refine Vm (i:=i) ?_;rw[aam λe=>?_]
  .exact hi
  .subst e;rw[wy a1]at hi;rw[ac3 hi]at a2;simp[pR,hh]at a2
 .rename_i hk;rw[hk]at h;simp only[]at h;split at h
  .cases h
  rename_i h2;rw[if_neg h2];refine⟨abl.2 ⟨⟨true,⟨o,r⟩⟩,aD,rfl⟩,λs hs hh=>abl.2 ⟨pR s,?_,rfl⟩⟩
  exact aen _ (aer hs)
structure abi(k:Kr)(p:Nat)(x:aL)(obj rts:Int)(R:Kr)(i:Nat)(S:List dJ):Prop where
 l:R.l=k.l
 o:∀m:Nat,R.ops[m]? =if m=i then some ⟨obj,0⟩else k.ops[m]?
 Ns:∀o,k.ops[i]? =some o->o.obj<0
 ps:R.ps=dI k.ps p S
 new:(⟨true,i,rts⟩:dJ)∈S
 old:∀s,s∈x.an->s.has=true->s∈S
 all:∀s,s∈S->s∈x.an\/s=⟨true,i,rts⟩
theorem oU{k:Kr}{p:Nat}{x:aL}(hp:k.ps[p]? =some x){obj rts:Int}(he:(aI k p obj rts).2.2=0):∃i S,abi k p x obj rts (aI k p obj rts).1 i S:=by
 have Fz:aO k.ps p=x.an:=by rw[aO,hp]
 unfold aI at he|-;split at he
 .cases he
 rename_i h1;rw[if_neg h1];split at he
 .rename_i h2;exact absurd he h2
 rename_i h2;rw[if_neg h2];have h2:(gx (aO k.ps p) (dm k.ops) rts).2.2=0:=aah h2;rw[Fz]at h2|-;obtain⟨c1,c2,c3⟩:=mz h2;obtain⟨d1,d2⟩:=Qx h2;refine⟨dm k.ops,(gx x.an (dm k.ops) rts).1,rfl,λn=>?_,λo hx=>?_,rfl,d1,d2,c3⟩
 .show(jL k.ops (dm k.ops) ⟨obj,0⟩)[n]? =_;unfold jL;split
  .rename_i e;rw[e];by_cases hn:n=k.ops.length
   .subst hn;rw[if_pos rfl,aaS (aai _)];simp
   .rw[if_neg hn];rcases aax n k.ops.length with a|a
    .exact aaW a
    .rw[aaS a,abj a];cases e2:n-k.ops.length with
     |zero=>omega
     |succ m=>rfl
  .rename_i e;have hi:dm k.ops<k.ops.length\/dm k.ops=k.ops.length:=by
    unfold dm;cases hf:Fy k.ops with
    |none=>exact .inr rfl
    |some i=>exact .inl (Ci hf)
   have ax:dm k.ops<k.ops.length:=om;by_cases hn:n=dm k.ops
   .subst hn;rw[if_pos rfl,aaj ax]
   .rw[if_neg hn,aam (λa=>hn a.symm)]
 .unfold dm at hx;cases hf:Fy k.ops with
  |none=>
   rw[hf]at hx;rw[show(none:Option Nat).getD k.ops.length=k.ops.length from rfl,abj (aai _)]at hx;cases hx
  |some i=>
   rw[hf]at hx;obtain⟨a1,a2,_⟩:=abN.1 hf;rw[show(some i).getD k.ops.length=i from rfl,wy a1]at hx;cases hx;simpa using a2
theorem Fa{ps:List aL}{p t:Nat}(h:t≠p)(l:List dJ):(dI ps p l)[t]? =ps[t]? :=by
 unfold dI;split
 .exact aam λe=>h e.symm
 .rfl
end Kn
namespace Kn
def PE(a b:List aL):Prop:=∀(t:Nat)y,b[t]? =some y->∃x,a[t]? =some x/\x.aF=y.aF/\x.fenced=y.fenced
theorem PE.refl(a:List aL):PE a a:=λ_ y h=>⟨y,h,rfl,rfl⟩
theorem PE.nil(a:List aL):PE a []:=λ_ y h=>by simp at h
theorem PE.trans{a b c:List aL}(h:PE a b)(g:PE b c):PE a c:=λt z hz=>by obtain⟨y,hy,e1,e2⟩:=g t z hz;obtain⟨x,hx,f1,f2⟩:=h t y hy;exact⟨x,hx,f1.trans e1,f2.trans e2⟩
theorem PE.dI(ps:List aL)(p:Nat)(l:List dJ):PE ps (Go.Proofs.YtllkfpggoigbaaaGreatDoor.dI ps p l):=λt y hy=>by
 by_cases e:t=p
 .subst e;cases hx:ps[t]? with
  |none=>unfold Go.Proofs.YtllkfpggoigbaaaGreatDoor.dI at hy;rw[hx]at hy;rw[show ps[t]? =some y from hy]at hx;cases hx
  |some x=>rw[tU hx]at hy;cases hy;exact⟨x,rfl,rfl,rfl⟩
 .rw[Fa e]at hy;exact⟨y,hy,rfl,rfl⟩
theorem PE.iu(k:Kr)(p:Nat)(o r:Int):PE k.ps (aI k p o r).1.ps:=by
 unfold aI;split
 .exact .nil _
 split
 .exact .nil _
 .exact .dI _ _ _
theorem PE.fR(k:Kr)(p:Nat)(l:List dJ)(e:Int):PE k.ps (Kn.fR k p l e).ps:=by
 unfold Kn.fR;split
 .exact .dI _ _ _
 .exact .refl _
theorem u3(k:Kr)(l:List Obj)(e:Int):(cu k l e).ps=k.ps:=by unfold cu;split<;>rfl
theorem u4(k:Kr)(f:R4)(o:Obj):(cQ k f o).1.ps=k.ps:=by
 unfold cQ;split
 .rfl
 .exact u3 _ _ _
theorem Bq(k:Kr)(c:Cl)(f:R4):(cz k c f).1.ps=k.ps:=by
 unfold cz;split
 .rfl
 split
 .split
  .rfl
  .exact u4 _ _ _
 split
 .rfl
 .rfl
theorem PE.ze(k:Kr)(p:Nat)(c:Cl)(aB:Int)(aC:Bool):PE k.ps (gD k p c aB aC).1.ps:=by
 unfold gD;have e:=Bq k c (fb k aB c.cG aC true);generalize cz k c (fb k aB c.cG aC true)=x at e;unfold js;rw[<-e];split
 .exact .refl _
 split
 .exact .refl _
 .split
  .exact .iu _ _ _ _
  .exact .iu _ _ _ _
theorem PE.Qy(k:Kr)(p:Nat)(c:Cl):PE k.ps (gX k p c).1.ps:=by
 unfold gX;split
 .exact .refl _
 split
 .exact .ze _ _ _ _ _
 split
 .exact .refl _
 .exact .ze _ _ _ _ _
theorem Qz(k:Kr)(p:Nat)(c:Cl):(gY k p c).1.ps=k.ps:=by
 unfold gY mi;split
 .rfl
 split
 .unfold rV;split<;>rfl
 split
 .unfold oR;split<;>rfl
 .unfold pZ;split<;>rfl
theorem TD(k:Kr)(p:Nat)(c:Cl):(jM k p c).1.ps=k.ps:=by
 unfold jM Rk iX;simp only[];split
 .rfl
 split
 .rfl
 unfold oc;split
 .rfl
 split
 .rfl
 split
 .split
  .rfl
  .exact u3 _ _ _
 split
 .rfl
 split
 .exact u4 _ _ _
 .exact u4 _ _ _
theorem PE.ES(k:Kr)(p:Nat):PE k.ps (jx k p).1.ps:=by
 unfold jx yW;split
 .exact .refl _
 unfold tK;split
 .exact .refl _
 split
 .exact .refl _
 .exact(PE.iu ⟨(eV k.l).1,k.ops,k.ps⟩ p _ _).trans (.iu _ _ _ _)
theorem TE(k:Kr)(p:Nat)(c:Cl):(jv k p c).1.ps=k.ps:=by
 unfold jv yT;split
 .rfl
 unfold vZ;split
 .split
  .rfl
  .exact u3 _ _ _
 .exact u3 _ _ _
theorem PE.recv(k:Kr)(p:Nat)(c:Cl):PE k.ps (jw k p c).1.ps:=by
 unfold jw yV;split
 .exact .refl _
 unfold yU;split
 .exact .refl _
 split
 .split
  .exact .refl _
  .unfold rn;rw[u3];exact .fR _ _ _ _
 .unfold rn;rw[u3];exact .refl _
theorem wb{k:Kr}(h:KI k):ji k.ps (eC k).ps:=by obtain⟨a,c,h1,h2,h3⟩:=(eP h.kr).ex;exact(yf h.kr h1 h2 h3).2.1
theorem Ih{prog:List eQ}{k:Kr}{c:Cl}(hl:fa k.ps c.aQ=true)(hf:jy k.ps c.aQ.toNat=true)(hk:c.ah=2):np prog k c=(k,An.no 9):=by
 unfold np;rw[if_neg (by rw[hl];simp),if_neg om,if_pos ⟨hf,.inr hk⟩]
end Kn
namespace Kn
def Xz(k:Kr)(p:Nat)(fd:Int):Int:=li k.ops (kT (aO k.ps p) fd).1.1
theorem MC{k:Kr}{p:Nat}{fd need:Int}(h:(bC k p fd need).2.2=0):(kT (aO k.ps p) fd).2=0/\(bC k p fd need).2.1=Xz k p fd/\(bC k p fd need).1=(kT (aO k.ps p) fd).1/\Tb.iI need (kT (aO k.ps p) fd).1.2=true:=by
 have key:(im (aO k.ps p) fd need).2=0->im (aO k.ps p) fd need=kT (aO k.ps p) fd/\Tb.iI need (kT (aO k.ps p) fd).1.2=true:=λh=>by
  unfold im Tb.o6 at h|-;split at h
  .cases h
  .rename_i hn;rw[if_neg hn];refine⟨rfl,?_⟩;cases hx:Tb.iI need (kT (aO k.ps p) fd).1.2 with
   |true=>rfl
   |false=>exact absurd ⟨h,hx⟩ hn
 unfold bC at h|-;split at h
 .rename_i hn;exact absurd h hn
 .rename_i hn;rw[if_neg hn];obtain⟨e,hw⟩:=key (aah hn);rw[e];refine⟨?_,rfl,rfl,hw⟩;rw[<-e];exact aah hn
theorem sh{ps:List aL}{t:Nat}{y:aL}(h:ps[t]? =some y):aO ps t=y.an:=by rw[aO,h]
theorem TF{k:Kr}(h:KI k){n:Nat}{o:aT}(ho:(eC k).ops[n]? =some o)(h0:0<=o.obj):k.ops[n]? =some o:=by
 obtain⟨a,c,h1,h2,h3⟩:=(eP h.kr).ex;have one:∀{x y:Kr}{en:Bool},cL x.l x.ops x.ps y.l y.ops y.ps en->∀o,y.ops[n]? =some o->0<=o.obj->x.ops[n]? =some o:=λhx o ho h0=>by
  obtain⟨b,_,_,hP⟩:=hx.ex;obtain⟨o',g1,g2⟩:=hP.get ho;unfold zT at g2;split at g2
  .rw[g2]at h0;simp at h0
  .rw[g2];exact g1
 have hc:c.ops[n]? =some o:=by obtain⟨n1,n2,n3,P,_,_,_,_,e⟩:=h3.ex;rw[e]at ho;exact(y5 ho).1
 have ha:=one h2 o hc h0;clear hc h2 h3 ho
 induction h1 with
 |refl=>exact ha
 |step h ho ih=>exact ih (one ho o ha h0)
end Kn
namespace Kn
def oV(k:Kr)(S:Nat->Prop)(z:Int):Prop:=∀(c:Nat)o,z=c->k.ops[c]? =some o->∀n,vO k.l o.obj n->S n
def Rp(k:Kr)(In S:Nat->Prop)(t:Nat):Prop:=In t\/∃(i:Nat)(o:Obj),S i/\k.l[i]? =some o/\o.ah=5/\o.aQ=t
structure RC(k:Kr)(In S:Nat->Prop):Prop where
 Bl:∀(t:Nat)y,Rp k In S t->k.ps[t]? =some y->y.aF=true->∀s,s∈y.an->s.has=true->oV k S s.b8
 aG:∀(i:Nat)o,S i->k.l[i]? =some o->o.ah=4->∀n,vO k.l o.aG n->S n
 TG:∀(i:Nat)o,S i->k.l[i]? =some o->∀z n,sE o z->vO k.l z n->S n
 Vn:∀(i:Nat)o,S i->k.l[i]? =some o->∀z,sQ o z->oV k S z
def UO(k:Kr)(S:Nat->Prop)(j:Nat):Prop:=(∃o,k.l[j]? =some o/\o.ah≠0)/\¬S j
structure Ou(k:Kr)(In S:Nat->Prop)(a:Kr):Prop where
 o:∀j,UO k S j->a.l[j]? =k.l[j]?
 p:∀(t:Nat)y,¬Rp k In S t->k.ps[t]? =some y->y.aF=true->a.ps[t]? =some y
 c:∀(n:Nat)o(j:Nat),k.ops[n]? =some o->o.obj=j->UO k S j->∃o',a.ops[n]? =some o'/\o'.obj=o.obj
theorem Ou.refl(k:Kr)(In S:Nat->Prop):Ou k In S k:=⟨λ_ _=>rfl,λ_ _ _ h _=>h,λ_ o _ h _ _=>⟨o,h,rfl⟩⟩
section
variable {k a c:Kr} {In S:Nat->Prop}
theorem Ou.vO(h:Ou k In S a){z:Int}{n:Nat}(hv:_root_.Go.Proofs.YtllkfpggoigbaaaGreatDoor.vO k.l z n)(hu:UO k S n):_root_.Go.Proofs.YtllkfpggoigbaaaGreatDoor.vO a.l z n:=by
 obtain⟨e,o,ho,hk⟩:=hv;exact⟨e,o,by rw[h.o n hu];exact ho,hk⟩
theorem Ou.XA(hk:KI k)(hs:Ro k)(hS:RC k In S)(h:Ou k In S a){b:Mk}(hb:gm a.l a.ops a.ps b):
  (∀j,UO k S j->dv b.O j)/\∀(n:Nat)o(j:Nat),k.ops[n]? =some o->o.obj=j->UO k S j->dv b.P n:=by
 obtain⟨bk,hl⟩:=hs.left hk;have v6:∀(i:Nat)o,k.l[i]? =some o->o.ah≠0->¬S i->UO k S i:=λi o ho h0 hn=>⟨⟨o,ho,h0⟩,hn⟩
 have kz:∀(i:Nat)o,k.l[i]? =some o->o.ah=0->o=dS:=λi o ho=>hk.z o (Vm ho)
 have key:=hl.ok.iC (λi=>UO k S i->dv b.O i) (λn=>∀o(j:Nat),k.ops[n]? =some o->o.obj=j->UO k S j->dv b.P n) ⟨λi o hi ho z n hz hv hu=>?_,λi o hi ho z c hz hc o' j d5 ej hu=>?_,λc o hc ho n hv hu=>?_⟩ ⟨λn hv hu=>?_,λp pr hp bO s nf hh c hc o' j d5 ej hu=>?_⟩
 .refine⟨λj hu=>?_,λn o j ho ej hu=>?_⟩
  .obtain⟨o,ho,h0⟩:=hu.1;exact key.1 j (hl.all j o ho h0) hu
  .refine key.2 n ?_ o j ho ej hu;refine aah λhn=>?_
   have:=hl.ops n o ho hn;rw[this]at ej;have ej:(-1:Int)=j:=ej;omega
 .have sj:UO k S i:=by
   refine v6 i o ho (λh0=>?_) λhSi=>hu.2 (hS.TG i o hSi ho z n hz hv)
   rw[kz i o ho h0]at hz;obtain⟨nm,hm⟩:=hz;simp[dS]at hm
  exact hb.cl.e i o (hi sj) (by rw[h.o i sj];exact ho) z n hz (h.vO hv hu)
 .have sj:UO k S i:=by
   refine v6 i o ho (λh0=>?_) λhSi=>hu.2 ?_
   .rw[kz i o ho h0]at hz;obtain⟨q,hm,_⟩:=hz;simp[dS]at hm
   .exact hS.Vn i o hSi ho z hz c o' hc.1 d5 j ⟨ej,hu.1⟩
  obtain⟨o2,h2,_⟩:=h.c c o' j d5 ej hu;exact hb.cl.q i o (hi sj) (by rw[h.o i sj];exact ho) z c hz ⟨hc.1,(Lw.1 h2).1⟩
 .have hm:=hc o n ho hv.1 hu;obtain⟨o2,h2,h3⟩:=h.c c o n ho hv.1 hu;exact hb.cl.p c o2 hm h2 n (by rw[h3];exact h.vO hv hu)
 .exact hb.nR.1 n (h.vO hv hu)
 .have t8:¬Rp k In S p:=λhr=>hu.2 (hS.Bl p pr hr hp bO s nf hh c o' hc.1 d5 j ⟨ej,hu.1⟩)
  obtain⟨o2,h2,_⟩:=h.c c o' j d5 ej hu;exact hb.nR.2 p pr (h.p p pr t8 hp bO) bO s nf hh c ⟨hc.1,(Lw.1 h2).1⟩
theorem Ou.zU(hk:KI k)(hs:Ro k)(hS:RC k In S)(h:Ou k In S a)(ha:KI a){en:Bool}(ho:cL a.l a.ops a.ps c.l c.ops c.ps en):Ou k In S c:=by
 obtain⟨b,hb,hP,AW⟩:=ho.ex;obtain⟨m1,m2⟩:=h.XA hk hs hS hb;obtain⟨bk,hl⟩:=hs.left hk;have hco:∀j,UO k S j->c.l[j]? =k.l[j]? :=λj hu=>by
  obtain⟨⟨o,hj,h0⟩,hn⟩:=hu;have hu:UO k S j:=⟨⟨o,hj,h0⟩,hn⟩;have haj:a.l[j]? =some o:=by rw[h.o j hu];exact hj
  rw[hP.2 j o haj,hj];congr 1;rcases ig ha.z b haj with⟨_,h1|h1⟩|⟨_,_,⟨h1,_⟩|⟨_,h4,j',x,e1,e2,e3⟩⟩
  .exact absurd h1 h0
  .exact absurd (m1 j hu) h1
  .exact h1
  .exfalso;rcases hk.pe j o hj h4 with e|⟨j2,x2,e,VR,hx4,hxp⟩
   .omega
   .have:j2=j':=om;subst this;have VC:UO k S j2:=⟨⟨x2,VR,om⟩,λU4=>hn (hS.aG j2 x2 U4 VR hx4 j ⟨hxp,o,hj,h0⟩)⟩
    exact e3 (m1 j2 VC)
 refine⟨hco,λt y t8 hy bO=>?_,λn o j hn ej hu=>?_⟩
 .have vK:=h.p t y t8 hy bO;rw[ho.pr.2 t y vK];congr 1;unfold wM;rw[if_neg];intro hh;rw[aaL]at hh;have hh:=hh.2;have zw:=hl.prs t y hy;unfold jY at hh zw;rw[aaL]at hh;rw[hh.1,bO,acG,acG,Bool.not_eq_false']at zw;obtain⟨i,hi⟩:=ac4.1 (abP.1 zw).choose_spec.1;have hq:=(abP.1 zw).choose_spec.2;generalize (abP.1 zw).choose=x at hi hq;have hx:x.ah=5/\x.aQ=(t:Int):=by unfold cN at hq;simpa using hq
  have hu:UO k S i:=⟨⟨x,hi,om⟩,λhSi=>t8 (.inr ⟨i,x,hSi,hi,hx.1,hx.2⟩)⟩
  have hci:c.l[i]? =some x:=by rw[hco i hu];exact hi
  have:c.l.any (cN (t:Int))=true:=abP.2 ⟨x,Vm hci,hq⟩;rw[this]at hh;simp at hh
 .obtain⟨o',h1,h2⟩:=h.c n o j hn ej hu;refine⟨o',?_,h2⟩;rw[AW.2 n o' h1];congr 1;unfold zT;rw[if_neg];have hm:b.P[n]? =some true:=m2 n o j hn ej hu;rw[hm];simp
theorem Ou.gu(h:Ou k In S c):Ou k In S (GS c):=by
 obtain⟨n1,n2,n3,P,t1,t2,hP,t3,e⟩:=(yi c).ex;have he:GS c=⟨c.l.take n1,c.ops.take n2,P.take n3⟩:=e;refine⟨λj hu=>?_,λt y t8 hy bO=>Qw (h.p t y t8 hy bO) bO,λn o j hn ej hu=>?_⟩
 .obtain⟨o,hj,h0⟩:=hu.1;have hcj:c.l[j]? =some o:=by rw[h.o j hu];exact hj
  rw[he,hj];show(c.l.take n1)[j]? =_;rcases aax j n1 with q|q
  .rw[aca q];exact hcj
  .have:=t1.t.dr j o q hcj;unfold qO at this;exact absurd (by simpa using this) h0
 .obtain⟨o',h1,h2⟩:=h.c n o j hn ej hu;refine⟨o',?_,h2⟩;rw[he];show(c.ops.take n2)[n]? =_;rcases aax n n2 with q|q
  .rw[aca q];exact h1
  .have:=t2.t.dr n o' q h1;unfold qP at this;have:o'.obj<0:=by simpa using this
   omega
theorem Ou.tM(hk:KI k)(hs:Ro k)(hS:RC k In S)(h:Ou k In S a)(ha:KI a):Ou k In S (eC a):=by
 have gj:∀b,gT a b->Ou k In S b/\KI b:=λb hb=>by
  induction hb with
  |refl=>exact⟨h,ha⟩
  |step _ ho ih=>exact⟨Ou.zU hk hs hS ih.1 ih.2 ho,ih.2.zU ho⟩
 obtain⟨b,c,h1,h2,h3⟩:=(eP ha.kr).ex;obtain⟨g1,g2⟩:=gj b h1;have g3:=Ou.zU hk hs hS g1 g2 h2;have:eC a=GS c:=GQ.zK (eP ha.kr) ⟨b,c,h1,h2,yi c⟩;rw[this];exact g3.gu
end
end Kn
namespace Kn
def Rq(l:List Obj)(j:Nat):Prop:=∃o,l[j]? =some o/\o.ah≠0
def S2(k:Kr)(S:Nat->Prop)(j:Nat):Prop:=S j\/¬Rq k.l j
structure FI(k:Kr)(In S In':Nat->Prop)(y:Kr):Prop where
 ou:Ou k In S y
 rc:RC y In' (S2 k S)
 th:∀j,Rq k.l j->Rq y.l j
theorem FI.start{k:Kr}{In S In':Nat->Prop}(hk:KI k)(hS:RC k In S)(hI:∀t,In' t->In t\/∀y,k.ps[t]? =some y->y.aF=false):FI k In S In' k:=by
 have hi:∀(i:Nat)o,S2 k S i->k.l[i]? =some o->o.ah≠0->S i:=λi o h ho h0=>h.elim id λhn=>absurd ⟨o,ho,h0⟩ hn
 have hc:∀z,oV k S z->oV k (S2 k S) z:=λz h c o e ho n hv=>.inl (h c o e ho n hv)
 have z0:∀(i:Nat)o,k.l[i]? =some o->o.ah=0->o=dS:=λi o ho=>hk.z o (Vm ho)
 refine⟨.refl k In S,⟨λt y ht hy bO s hs hh=>hc _ ?_,λi o h ho h4 n hv=>.inl (hS.aG i o (hi i o h ho om) ho h4 n hv),λi o h ho z n hz hv=>?_,λi o h ho z hz=>?_⟩,λj h=>h⟩
 .rcases ht with ht|⟨i,o,h,ho,h5,hp⟩
  .rcases hI t ht with ht|hd
   .exact hS.Bl t y (.inl ht) hy bO s hs hh
   .rw[hd y hy]at bO;cases bO
  .exact hS.Bl t y (.inr ⟨i,o,hi i o h ho om,ho,h5,hp⟩) hy bO s hs hh
 .by_cases h0:o.ah=0
  .rw[z0 i o ho h0]at hz;obtain⟨nm,hm⟩:=hz;simp[dS]at hm
  .exact .inl (hS.TG i o (hi i o h ho h0) ho z n hz hv)
 .by_cases h0:o.ah=0
  .rw[z0 i o ho h0]at hz;obtain⟨q,hm,_⟩:=hz;simp[dS]at hm
  .exact hc _ (hS.Vn i o (hi i o h ho h0) ho z hz)
section
variable {k y:Kr} {In S In':Nat->Prop}
theorem FI.q0(h:FI k In S In' y){l':List Obj}(hl:∀i,l'[i]? =y.l[i]? \/(S2 k S i/\∃o o',y.l[i]? =some o/\l'[i]? =some o'/\o.ah≠0/\o'.ah=o.ah/\o'.aQ=o.aQ/\o'.aG=o.aG/\(∀z,sE o' z->sE o z\/∀m,vO y.l z m->S2 k S m)/\(∀z,sQ o' z->sQ o z\/oV y (S2 k S) z))\/
   (¬Rq y.l i/\∃o',l'[i]? =some o'/\(o'.ah=4->∀m,vO l' o'.aG m->S2 k S m)/\(o'.ah=5->∀t:Nat,o'.aQ=t->In' t)/\(∀z,¬sE o' z)/\∀z,¬sQ o' z)):FI k In S In' ⟨l',y.ops,y.ps⟩:=by
 have new:∀i,¬Rq y.l i->S2 k S i:=λi hn=>.inr λhk=>hn (h.th i hk)
 have hv:∀z n,vO l' z n->vO y.l z n\/S2 k S n:=λz n⟨e,o',d5,h0⟩=>by
  rcases hl n with e1|⟨hs,_⟩|⟨hn,_⟩
  .exact .inl ⟨e,o',by rw[<-e1];exact d5,h0⟩
  .exact .inr hs
  .exact .inr (new n hn)
 have cap:∀z,oV y (S2 k S) z->oV ⟨l',y.ops,y.ps⟩ (S2 k S) z:=λz hz c o e ho n zL=>(hv _ n zL).elim (hz c o e ho n) id
 have rp:∀t,Rp ⟨l',y.ops,y.ps⟩ In' (S2 k S) t->Rp y In' (S2 k S) t:=λt ht=>by
  rcases ht with ht|⟨i,o',hi,d5,h5,hp⟩
  .exact .inl ht
  .have d5:l'[i]? =some o':=d5;rcases hl i with e1|⟨hs,o,o2,a1,a2,_,a3,a4,_⟩|⟨_,o2,a2,_,a3,_⟩
   .exact .inr ⟨i,o',hi,by rw[<-e1];exact d5,h5,hp⟩
   .rw[d5]at a2;cases a2;exact .inr ⟨i,o,hs,a1,by rw[<-a3];exact h5,by rw[<-a4];exact hp⟩
   .rw[d5]at a2;cases a2;exact .inl (a3 h5 t hp)
 refine⟨⟨λj hu=>?_,h.ou.p,h.ou.c⟩,⟨λt x ht hx bO s hs hh=>cap _ (h.rc.Bl t x (rp t ht) hx bO s hs hh),λi o' hi d5 h4 n zL=>?_,λi o' hi d5 z n hz zL=>?_,λi o' hi d5 z hz=>?_⟩,λj hj=>?_⟩
 .rcases hl j with e1|⟨hs,_⟩|⟨hn,_⟩
  .exact e1.trans (h.ou.o j hu)
  .exact absurd hs λhs=>hs.elim hu.2 λhn=>hn hu.1
  .exact absurd (h.th j hu.1) hn
 .have d5:l'[i]? =some o':=d5;rcases hl i with e1|⟨_,o,o2,a1,a2,a0,a3,a4,a5,_⟩|⟨_,o2,a2,a3,_⟩
  .exact(hv _ n zL).elim (h.rc.aG i o' hi (by rw[<-e1];exact d5) h4 n) id
  .rw[d5]at a2;cases a2;rw[a5]at zL;exact(hv _ n zL).elim (h.rc.aG i o hi a1 om n) id
  .rw[d5]at a2;cases a2;exact a3 h4 n zL
 .have d5:l'[i]? =some o':=d5;rcases hl i with e1|⟨_,o,o2,a1,a2,a0,a3,a4,a5,a6,_⟩|⟨_,o2,a2,_,_,a3,_⟩
  .exact(hv _ n zL).elim (h.rc.TG i o' hi (by rw[<-e1];exact d5) z n hz) id
  .rw[d5]at a2;cases a2;rcases a6 z hz with hz|hz
   .exact(hv _ n zL).elim (h.rc.TG i o hi a1 z n hz) id
   .exact(hv _ n zL).elim (hz n) id
  .rw[d5]at a2;cases a2;exact absurd hz (a3 z)
 .have d5:l'[i]? =some o':=d5;rcases hl i with e1|⟨_,o,o2,a1,a2,a0,a3,a4,a5,_,a6⟩|⟨_,o2,a2,_,_,_,a3⟩
  .exact cap _ (h.rc.Vn i o' hi (by rw[<-e1];exact d5) z hz)
  .rw[d5]at a2;cases a2;rcases a6 z hz with hz|hz
   .exact cap _ (h.rc.Vn i o hi a1 z hz)
   .exact cap _ hz
  .rw[d5]at a2;cases a2;exact absurd hz (a3 z)
 .obtain⟨o,ho,h0⟩:=h.th j hj;rcases hl j with e1|⟨_,o1,o2,a1,a2,a0,a3,_⟩|⟨hn,_⟩
  .exact⟨o,by rw[<-ho];exact e1,h0⟩
  .exact⟨o2,a2,by rw[a3];exact a0⟩
  .exact absurd ⟨o,ho,h0⟩ hn
theorem FI.set(h:FI k In S In' y){n:Nat}{o o':Obj}(hn:y.l[n]? =some o)(hs:S2 k S n)(h0:o.ah≠0)(hk:o'.ah=o.ah/\o'.aQ=o.aQ/\o'.aG=o.aG)(he:∀z,sE o' z->sE o z\/∀m,vO y.l z m->S2 k S m)(hq:∀z,sQ o' z->sQ o z\/oV y (S2 k S) z):
  FI k In S In' ⟨y.l.set n o',y.ops,y.ps⟩:=by
 refine h.q0 λi=>?_
 by_cases e:n=i
 .subst e;exact .inr (.inl ⟨hs,o,o',hn,aaj (Lw.1 hn).1,h0,hk.1,hk.2.1,hk.2.2,he,hq⟩)
 .exact .inl (aam e)
theorem FI.tS(h:FI k In S In' y){oy:List aL}(hp:∀t:Nat,oy[t]? =y.ps[t]? \/((Rp k In S t\/∀x,k.ps[t]? =some x->x.aF=false)/\∀z,oy[t]? =some z->z.aF=true->∀s,s∈z.an->s.has=true->(∃x,y.ps[t]? =some x/\x.aF=true/\s∈x.an)\/oV y (S2 k S) s.b8)):
  FI k In S In' ⟨y.l,y.ops,oy⟩:=by
 refine⟨⟨h.ou.o,λt x hn hx bO=>?_,h.ou.c⟩,⟨λt z ht hz bO s hs hh=>?_,h.rc.aG,h.rc.TG,h.rc.Vn⟩,h.th⟩
 .rcases hp t with e|⟨e|e,_⟩
  .exact e.trans (h.ou.p t x hn hx bO)
  .exact absurd e hn
  .rw[e x hx]at bO;cases bO
 .have ht:Rp y In' (S2 k S) t:=ht;have hz:oy[t]? =some z:=hz;show oV y (S2 k S) s.b8;rcases hp t with e|⟨_,e⟩
  .exact h.rc.Bl t z ht (by rw[<-e];exact hz) bO s hs hh
  .rcases e z hz bO s hs hh with⟨x,x1,x2,x3⟩|e
   .exact h.rc.Bl t x ht x1 x2 s x3 hh
   .exact e
theorem FI.Qk(h:FI k In S In' y){kW:List aT}(ho:∀n:Nat,kW[n]? =y.ops[n]? \/(∃o o',y.ops[n]? =some o/\kW[n]? =some o'/\o'.obj=o.obj)\/((∀o,y.ops[n]? =some o->o.obj<0)/\∀o',kW[n]? =some o'->∀m,vO y.l o'.obj m->S2 k S m)):
  FI k In S In' ⟨y.l,kW,y.ps⟩:=by
 have cap:∀z,oV y (S2 k S) z->oV ⟨y.l,kW,y.ps⟩ (S2 k S) z:=λz hz c o' e d5 n hv=>by
  have d5:kW[c]? =some o':=d5;rcases ho c with e1|⟨o,o2,a1,a2,a3⟩|⟨_,a1⟩
  .exact hz c o' e (by rw[<-e1];exact d5) n hv
  .rw[d5]at a2;cases a2;rw[a3]at hv;exact hz c o e a1 n hv
  .exact a1 o' d5 n hv
 refine⟨⟨h.ou.o,h.ou.p,λn o j hn ej hu=>?_⟩,⟨λt z ht hz bO s hs hh=>cap _ (h.rc.Bl t z ht hz bO s hs hh),h.rc.aG,h.rc.TG,λi o hi d5 z hz=>cap _ (h.rc.Vn i o hi d5 z hz)⟩,h.th⟩
 obtain⟨o1,h1,h2⟩:=h.ou.c n o j hn ej hu;rcases ho n with e1|⟨o3,o2,a1,a2,a3⟩|⟨a1,_⟩
 .exact⟨o1,e1.trans h1,h2⟩
 .rw[h1]at a1;cases a1;exact⟨o2,a2,a3.trans h2⟩
 .have:=a1 o1 h1;omega
theorem FI.an(h:FI k In S In' y){p:Nat}{x:aL}(hx:y.ps[p]? =some x)(bO:x.aF=true)(hp:Rp k In S p){L:List dJ}(hL:∀s,s∈L->s.has=true->s∈x.an\/oV y (S2 k S) s.b8):FI k In S In' ⟨y.l,y.ops,dI y.ps p L⟩:=by
 refine h.tS λt=>?_
 by_cases e:t=p
 .subst e;refine .inr ⟨.inl hp,λz hz _ s hs hh=>?_⟩
  rw[tU hx]at hz;cases hz;exact(hL s hs hh).imp (λh=>⟨x,hx,bO,h⟩) id
 .exact .inl (Fa e L)
theorem FI.iu(h:FI k In S In' y){p:Nat}{x:aL}(hx:y.ps[p]? =some x)(bO:x.aF=true)(hp:Rp k In S p){obj rts:Int}(ho:∀m,vO y.l obj m->S2 k S m)(he:(aI y p obj rts).2.2=0):FI k In S In' (aI y p obj rts).1:=by
 obtain⟨i,L,O⟩:=oU hx he;generalize (aI y p obj rts).1=R at O;obtain⟨rl,ro,rp⟩:=R;have e1:rl=y.l:=O.l;have e2:rp=dI y.ps p L:=O.ps;have e3:∀m:Nat,ro[m]? =if m=i then some ⟨obj,0⟩else y.ops[m]? :=O.o
 subst e1 e2;have h1:FI k In S In' ⟨y.l,ro,y.ps⟩:=h.Qk λn=>by
  rw[e3];by_cases e:n=i
  .subst e;refine .inr (.inr ⟨λo hn=>O.Ns o hn,λo' d5 m hv=>?_⟩)
   rw[if_pos rfl]at d5;cases d5;exact ho m hv
  .rw[if_neg e];exact .inl rfl
 refine h1.an (p:=p) (x:=x) hx bO hp λs hs hh=>?_
 rcases O.all s hs with e|rfl
 .exact .inl e
 .refine .inr λc o e hc n hv=>?_
  have e:(i:Int)=c:=e;have hc:ro[c]? =some o:=hc;rw[e3,if_pos om]at hc;cases hc;exact ho n hv
theorem FI.ND(h:FI k In S In' y)(z a:Int):FI k In S In' (rm y z a):=by
 unfold rm;refine h.Qk λn=>?_
 split
 .rename_i q hq;by_cases e:z.toNat=n
  .subst e;exact .inr (.inl ⟨q,_,hq,aaj (Lw.1 hq).1,rfl⟩)
  .exact .inl (aam e)
 .exact .inl rfl
theorem FI.gI(h:FI k In S In' y){z:Int}(hz:∀t:Nat,z=t->Rp k In S t)(n:Int):FI k In S In' (Kn.gI y (gg y z n)).1:=by
 unfold Kn.gI;show FI k In S In' (if _ then _ else _)
 split
 .unfold gg;split
  .rename_i h1 h2;rw[gg,if_pos h2]at h1;cases h1
  .rename_i h2;split
   .rename_i h1 h3;rw[gg,if_neg h2,if_pos h3]at h1;cases h1
   .refine h.tS λt=>?_
    by_cases e:z.toNat=t
    .have CZ:z=t:=by
      have:fa y.ps z=true:=by simpa using h2
      unfold fa at this;have:0<=z:=by
       refine Int.not_lt.1 λWq=>?_
       simp[show ¬0<=z by omega]at this
      omega
     refine .inr ⟨.inl (hz t CZ),λx hx bO=>?_⟩
     subst e;have ax:z.toNat<y.ps.length:=by simpa using(Lw.1 hx).1
     rw[aaj ax]at hx;cases hx;cases bO
    .exact .inl (aam e)
 .exact h
theorem FI.fen(h:FI k In S In' y){p:Nat}(hp:Rp k In S p):FI k In S In' ⟨y.l,y.ops,kU y.ps p⟩:=by
 refine h.tS λt=>?_
 unfold kU;split
 .rename_i x hx;by_cases e:p=t
  .subst e;refine .inr ⟨.inl hp,λz hz bO s hs hh=>?_⟩
   rw[aaj (Lw.1 hx).1]at hz;cases hz;exact .inl ⟨x,hx,bO,hs⟩
  .exact .inl (aam e)
 .exact .inl rfl
end
end Kn
namespace Kn
theorem QA{o:Obj}{z:Int}(h:sE o z):∃e,e∈df o/\e.2=z:=by obtain⟨nm,hm⟩:=h;exact⟨(nm,z),abl.2 ⟨bP (nm,z),hm,rfl⟩,rfl⟩
theorem CR{k:Kr}(h:KI k){i:Nat}{o:Obj}(ho:k.l[i]? =some o){e:NE}(he:e∈df o):sE o e.2:=
 ⟨e.1,by rw[(h.en o (Vm ho)).eq];exact abl.2 ⟨e,he,rfl⟩⟩
inductive Bn(l:List Obj)(b:Nat):Nat->Prop
 |aB:Bn l b b
 |step {i j:Nat} {o:Obj} {e:NE} (h:Bn l b i) (ho:l[i]? =some o) (he:e∈df o) (hj:e.2=(j:Nat)):Bn l b j
section
variable {k y:Kr} {In S In':Nat->Prop}
theorem Bn.in_(hk:KI k)(hS:RC k In S){b a:Nat}(hb:S b)(h:Bn k.l b a):S a:=by
 induction h with
 |aB=>exact hb
 | @step i j o e _ ho he hj ih=>
  obtain⟨_,j',x,e1,e2,e3⟩:=(hk.en _ (Vm ho)).to _ he;refine hS.TG _ _ ih ho _ _ (CR hk ho he) ⟨hj,x,?_,e3⟩;have:j'=j:=om;rw[<-this];exact e2
theorem Bn.up(hk:KI k){b a:Nat}(h:Bn k.l b a)(ha:(mf (k.l.map Obj.ob) a).ah=2)(fG:a≠b):Bn k.l b (A3 (k.l.map Obj.ob) a):=by
 cases h with
 |aB=>exact absurd rfl fG
 |step h ho he hj=>
  rename_i i o e;obtain⟨j,x,e1,_,e3,_,_,e6⟩:=hk.p5.tr i (t7 o) e (gE ho) he;have:j=a:=by have:=e1.symm.trans hj;exact aeB this
  subst this;obtain⟨q,hq,rfl⟩:=oT e3;rw[JO hq]at ha;have hu:q.up=(i:Int):=e6 ha;rw[P5 hq,hu,aal];exact h
theorem J2(hk:KI k)(hS:RC k In S){b:Nat}(hb:S b)(s:bT.dP)(follow:Bool):(fb k (b:Nat) s true follow).gz=0->
  ((fb k (b:Nat) s true follow).obj= -1\/∃m:Nat,(fb k (b:Nat) s true follow).obj=m/\S m)/\((fb k (b:Nat) s true follow).name=[]\/∃d:Nat,(fb k (b:Nat) s true follow).dir=d/\S d):=by
 refine Be (A:=λa=>Bn k.l b a) (Q:=λr=>r.gz=0->(r.obj= -1\/∃m:Nat,r.obj=m/\S m)/\(r.name=[]\/∃d:Nat,r.dir=d/\S d)) (λe he h0=>absurd h0 he)
  (λa ha _=>⟨.inr ⟨a,rfl,ha.in_ hk hS hb⟩,.inl rfl⟩) (λa w ha _ _ _=>⟨.inl rfl,.inr ⟨a,rfl,ha.in_ hk hS hb⟩⟩) (λa w ha h2 hf _=>?_) (λa ha h2 hn=>ha.up hk h2 λe=>hn ⟨rfl,by rw[e];rfl⟩) (λa w ha h2 hf=>?_) (λh=>by cases h) (λn hn _ _=>?_)
 .obtain⟨o,ho,_⟩:=P4 (l:=k.l) (n:=a) (by rw[h2];decide)
  obtain⟨e,e1,_,e3⟩:=CJ ho hf;refine⟨.inr ⟨(mG (k.l.map Obj.ob) a w).toNat,by show mG _ _ _=_;omega,?_⟩,.inr ⟨a,rfl,ha.in_ hk hS hb⟩⟩
  exact Bn.in_ hk hS hb (ha.step ho e1 (by rw[<-e3];omega))
 .obtain⟨o,ho,_⟩:=P4 (l:=k.l) (n:=a) (by rw[h2];decide)
  obtain⟨e,e1,_,e3⟩:=CJ ho hf;exact ha.step ho e1 (by rw[<-e3];omega)
 .have:n=b:=om;subst this;exact .aB
theorem zh(hk:KI k)(hS:RC k In S){p:Nat}(hp:p<k.ps.length)(bO:k.ps[p].aF=true)(hI:In p){fd:Int}(h:(kT (aO k.ps p) fd).2=0):
  oV k S (kT (aO k.ps p) fd).1.1/\∃(n j:Nat)(o:aT)(x:Obj),(kT (aO k.ps p) fd).1.1=n/\k.ops[n]? =some o/\o.obj=j/\Xz k p fd=j/\k.l[j]? =some x/\x.ah≠0/\S j:=by
 have s7:=wy hp;obtain⟨i,s,_,h1,h2,h3,_⟩:=qN h;rw[sh s7]at h1;have hc:=hS.Bl p _ (.inl hI) s7 bO s (Vm h1) h2;obtain⟨_,n,o,e1,e2,j,x,e3,e4,e5⟩:=hk.cap _ (aaR hp) s (Vm h1) h2;have e0:(kT (aO k.ps p) fd).1.1=s.b8:=by rw[h3]
 refine⟨by rw[e0];exact hc,n,j,o,x,by rw[e0];exact e1,e2,e3,?_,e4,e5,hc n o e1 e2 j ⟨e3,x,e4,e5⟩⟩
 rw[Xz,e0,e1,li,aal,e2];exact e3
theorem qQ(hk:KI k)(hS:RC k In S){p:Nat}(hp:p<k.ps.length)(bO:k.ps[p].aF=true)(hI:In p){fd need:Int}(h:(bC k p fd need).2.2=0):
  ∃(n j:Nat)(o:aT)(x:Obj),(bC k p fd need).1.1=n/\k.ops[n]? =some o/\o.obj=j/\(bC k p fd need).2.1=j/\k.l[j]? =some x/\x.ah≠0/\S j:=by
 obtain⟨w1,w2,w3,_⟩:=MC h;obtain⟨_,n,j,o,x,e1,e2,e3,e4,e5⟩:=zh hk hS hp bO hI w1;exact⟨n,j,o,x,by rw[w3];exact e1,e2,e3,by rw[w2];exact e4,e5⟩
theorem noE{o:Obj}(h:o.ag=[])(z:Int):¬sE o z:=λ⟨nm,hm⟩=>by rw[h]at hm;cases hm
theorem noQ{o:Obj}(h:o.aj=[])(z:Int):¬sQ o z:=λ⟨q,hm,_⟩=>by rw[h]at hm;cases hm
theorem FI.make(h:FI k In S In' y)(hl:y.l.length<=40){o:Obj}(he:(aM y.l o).2.2=0)(h1:o.ag=[])(h2:o.aj=[])(h4:o.ah≠4)(h5:o.ah=5->∀t:Nat,o.aQ=t->In' t):
  FI k In S In' ⟨(aM y.l o).1,y.ops,y.ps⟩/\∃j:Nat,(aM y.l o).2.1=j/\S2 k S j:=by
 obtain⟨j,e1,e2,e3,e4,_⟩:=gq he hl;have hn:¬Rq y.l j:=λ⟨d,hd,h0⟩=>h0 (e4 d hd)
 refine⟨h.q0 λi=>?_,j,e1,.inr λhk=>hn (h.th j hk)⟩
 by_cases e:i=j
 .subst e;exact .inr (.inr ⟨hn,o,e2,λh=>absurd h h4,h5,noE h1,noQ h2⟩)
 .exact .inl (e3 i e)
theorem FI.enter(h:FI k In S In' y)(hy:KI y){b:Bool}{dir obj:Int}{name:ByteArray}(tZ:∀(p:Nat)q,obj=p->y.l[p]? =some q->q.ak=0)(hd:b=true->∀n:Nat,dir=n->S2 k S n)(hp:∀p:Nat,obj=p->S2 k S p)(he:(cr b y.l dir name obj).2=0):
  FI k In S In' ⟨(cr b y.l dir name obj).1,y.ops,y.ps⟩:=by
 obtain⟨n,p,o,q,rfl,rfl,hn,hq,FC,km,i7,hb,_,_,hR⟩:=m7 he;have t8:n≠p:=λe=>by subst e;rw[hn]at hq;cases hq;exact i7 (tZ n o rfl hn)
 rw[hR];obtain⟨g1,g2,g3,_⟩:=qK hn hq t8 name;refine h.q0 λi=>?_
 by_cases e1:i=n
 .subst e1;refine .inr (.inl ⟨hd hb i rfl,o,_,hn,g1,om,rfl,rfl,rfl,λz hz=>?_,λz hz=>.inl hz⟩)
  obtain⟨e,F0,pb⟩:=QA hz;have F0:e∈fW (name,(p:Int)) (df o):=by have:df (ru o name p)=fW (name,(p:Int)) (df o):=ib _;rw[<-this];exact F0
  rcases pJ F0 with h1|h1
  .rw[<-pb];exact .inl (CR hy hn h1)
  .refine .inr λm hv=>?_
   have:m=p:=by
    have hz:z=(p:Int):=by rw[<-pb,h1]
    have:=hv.1;omega
   subst this;exact hp m rfl
 by_cases e2:i=p
 .subst e2;exact .inr (.inl ⟨hp i rfl,q,_,hq,g2,FC,rfl,rfl,rfl,λz hz=>.inl hz,λz hz=>.inl hz⟩)
 .exact .inl (g3 i e1 e2)
theorem FI.y0(h:FI k In S In' y)(hy:KI y){dir:Int}{name:ByteArray}(hd:∀n:Nat,dir=n->S2 k S n)(he:(db y.l dir name).2.2=0):FI k In S In' ⟨(db y.l dir name).1,y.ops,y.ps⟩:=by
 obtain⟨n,p,o,q,rfl,hn,km,hf,hp,Mh,hR,_⟩:=tN he;obtain⟨e0,vR,RM,hep⟩:∃e0,e0∈df o/\e0.1.toList=name.toList/\e0.2=(p:Int):=by
  rcases gS (df o) name with⟨e,a1,a2,a3⟩|⟨a3,_⟩
  .exact⟨e,a1,a2,om⟩
  .omega
 have t8:n≠p:=λe=>by
  subst e;rw[hn]at hp;cases hp;have:o.ag=[]:=aaX (by have:=λh=>Mh ⟨km,h⟩;omega)
  rw[df,this]at vR;cases vR
 obtain⟨_,j',x,j1,j2,j3⟩:=(hy.en o (Vm hn)).to e0 vR;have:j'=p:=om;subst this;rw[hp]at j2;cases j2;have zO:S2 k S j':=h.rc.TG n o (hd n rfl) hn _ j' (CR hy hn vR) ⟨hep,q,hp,j3⟩;rw[hR];obtain⟨g1,g2,g3,_⟩:=Bh hn hp t8 name;refine h.q0 λi=>?_
 by_cases e1:i=n
 .subst e1;refine .inr (.inl ⟨hd i rfl,o,_,hn,g1,om,rfl,rfl,rfl,λz hz=>.inl ?_,λz hz=>.inl hz⟩)
  obtain⟨e,F0,pb⟩:=QA hz;have F0:e∈(df o).filter λe=>decide (e.1.toList≠name.toList):=by
   have:df (tO o name)=(df o).filter λe=>decide (e.1.toList≠name.toList):=ib _
   rw[<-this];exact F0
  rw[<-pb];exact CR hy hn (acD.1 F0).1
 by_cases e2:i=j'
 .subst e2;exact .inr (.inl ⟨zO,q,_,hp,g2,j3,rfl,rfl,rfl,λz hz=>.inl hz,λz hz=>.inl hz⟩)
 .exact .inl (g3 i e1 e2)
theorem FI.p8(h:FI k In S In' y)(hy:KI y){f:R4}{o:Obj}(ho:H7 o)(hd:f.name=[]\/∃d:Nat,f.dir=d/\S2 k S d)(he:(cQ y f o).2.2=0):FI k In S In' (cQ y f o).1/\∃j:Nat,(cQ y f o).2.1=j/\S2 k S j:=by
 obtain⟨j,C⟩:=tT hy.ll he;have Yd:=ho.Xo y;obtain⟨g1,j',e1,g2⟩:=h.make hy.ll C.em (show(ic o).ag=[]from Yd.e) Yd.q (show o.ah≠4 by have:=ho.k;omega) (λh5=>by have h5:o.ah=5:=h5;have:=ho.k;omega)
 have:j'=j:=by have:=C.ej;omega
 subst this;have hy2:=hy.make Yd C.em;obtain⟨j2,e1',e2,_⟩:=gq C.em hy.ll;rw[C.R];refine⟨FI.enter g1 hy2 (λp q hp hq=>?_) (λhb n hn=>?_) (λp hp=>?_) C.ee,j',rfl,g2⟩
 .have:p=j2:=om;subst this;rw[e2]at hq;cases hq;exact Yd.l
 .rcases hd with hd|⟨d,hd,hs⟩
  .rw[hd]at hb;exact absurd hb (by decide)
  .have:d=n:=om;subst this;exact hs
 .have:p=j':=om;subst this;exact g2
end
end Kn
namespace Kn
section
variable {k y:Kr} {In S In':Nat->Prop}
theorem FI.ze(h:FI k In S In' k)(hk:KI k)(hS:RC k In S){p:Nat}(hp:p<k.ps.length)(bO:k.ps[p].aF=true)(hI:In p){c:Cl}{b:Nat}(hb:S b)(he:(gD k p c (b:Nat) true).2.gz=0):FI k In S In' (gD k p c (b:Nat) true).1:=by
 have s7:=wy hp;unfold gD js at he|-;split at he
 .rename_i h1;exact absurd he h1
 rename_i h1;rw[if_neg h1];have e2:=Bq k c (fb k (b:Nat) c.cG true true);have hX:FI k In S In' (cz k c (fb k (b:Nat) c.cG true true)).1/\∃j:Nat,(cz k c (fb k (b:Nat) c.cG true true)).2.1=j/\S2 k S j/\Rq (cz k c (fb k (b:Nat) c.cG true true)).1.l j:=by
  have h1:=aah h1;unfold cz at h1|-;split at h1
  .rename_i g;exact absurd h1 g
  rename_i g;rw[if_neg g];obtain⟨l1,l2⟩:=J2 hk hS hb c.cG true (aah g);have l3:=hk.Tc (b:Nat) c.cG true true (aah g);split at h1
  .rename_i g2;rw[if_pos g2];split at h1
   .cases h1
   rename_i g3;rw[if_neg g3];obtain⟨q1,j,q2,q3⟩:=FI.p8 h hk CO (l2.imp id λ⟨d,a,b⟩=>⟨d,a,.inl b⟩) h1
   obtain⟨_,⟨j',x,e1,e2,e3⟩,_⟩:=hk.p8 CO h1;have:j'=j:=om;subst this;exact⟨q1,j',q2,q3,x,e2,e3⟩
  rename_i g2;rw[if_neg g2];have gu:∃j:Nat,(fb k (b:Nat) c.cG true true).obj=j/\S2 k S j/\Rq k.l j:=by
   rcases l1 with e|⟨m,e,hm⟩
   .rw[e]at g2;exact absurd (by decide) g2
   .rcases l3 with e2|⟨j',x,e1,e2,e3⟩
    .rw[e2]at g2;exact absurd (by decide) g2
    .have:j'=m:=om;subst this;exact⟨j',e,.inl hm,x,e2,e3⟩
  split at h1
  .cases h1
  rename_i g3;rw[if_neg g3];exact⟨h,gu⟩
 generalize cz k c (fb k (b:Nat) c.cG true true)=X at*
 obtain⟨hX,j,hj,hjs,xj,hxj,Xb⟩:=hX;split at he
 .rename_i h2;exact absurd he h2
 rename_i h2;rw[if_neg h2];have hx:X.1.ps[p]? =some k.ps[p]:=by rw[e2];exact s7
 have hO:=hX.iu hx bO (.inl hI) (obj:=X.2.1) (rts:=c.aZ) (λm hv=>by
  have:m=j:=by have:=hv.1;omega
  subst this;exact hjs) (aah h2)
 obtain⟨_,_,O⟩:=oU hx (aah h2);have Yn:=O.l;clear O;generalize aI X.1 p X.2.1 c.aZ=R at hO Yn|-;split
 .show FI k In S In' ⟨nj R.1.l X.2.1,R.1.ops,R.1.ps⟩;unfold nj;rw[hj,aal,Yn,hxj];have:=hO.set (n:=j) (o:=xj) (o':={xj with data:=[]}) (by rw[Yn];exact hxj) hjs Xb ⟨rfl,rfl,rfl⟩ (λz hz=>.inl hz) λz hz=>.inl hz
  rw[Yn]at this;exact this
 .exact hO
theorem FI.Qy(h:FI k In S In' k)(hk:KI k)(hS:RC k In S){p:Nat}(hp:p<k.ps.length)(bO:k.ps[p].aF=true)(hI:In p){c:Cl}(h2:c.ah≠2)(he:(gX k p c).2.gz=0):FI k In S In' (gX k p c).1:=by
 unfold gX at he|-;split at he
 .cases he
 rename_i h1;rw[if_neg h1,if_neg h2]at*
 split at he
 .rename_i h3;exact absurd he h3
 rename_i h3;rw[if_neg h3];obtain⟨_,j,_,_,_,_,_,e4,_,_,hj⟩:=qQ hk hS hp bO hI (aah h3);rw[e4]at he|-;exact h.ze hk hS hp bO hI hj he
theorem FI.bytes(h:FI k In S In' k)(hk:KI k)(hS:RC k In S){p:Nat}(hp:p<k.ps.length)(bO:k.ps[p].aF=true)(hI:In p){c:Cl}(he:(gY k p c).2.gz=0):FI k In S In' (gY k p c).1:=by
 unfold gY mi at he|-;split at he
 .rename_i h1;exact absurd he h1
 rename_i h1;rw[if_neg h1];obtain⟨n,j,o,x,e1,e2,e3,e4,e5,e6,hj⟩:=qQ hk hS hp bO hI (aah h1);have pK:j9 k.l (Kn.bC k p c.fd (o7 c.ah)).2.1=x:=by rw[e4,j9,aal,e5];rfl
 rw[pK]at he|-;split at he
 .rename_i h4;rw[if_pos h4];unfold rV;split
  .exact h
  .exact h.ND _ _
 rename_i h4;rw[if_neg h4];split at he
 .rename_i h5;rw[if_pos h5];unfold oR at he|-;split at he
  .rename_i h6;exact absurd he h6
  rename_i h6;rw[if_neg h6];obtain⟨_,_,_,_,_,w6⟩:=tH (hk.sm x (Vm e5)) (aah h6);refine FI.ND ?_ _ _;rw[e4,setObj,aal];exact h.set e5 (.inl hj) e6 (by rw[w6];exact⟨rfl,rfl,rfl⟩) (λz hz=>.inl (by rw[w6]at hz;exact hz)) λz hz=>.inl (by rw[w6]at hz;exact hz)
 .rename_i h5;rw[if_neg h5];unfold pZ;split
  .exact h
  .exact h.ND _ _
theorem FI.abk(h:FI k In S In' k)(hk:KI k)(hS:RC k In S){p:Nat}(hp:p<k.ps.length)(bO:k.ps[p].aF=true)(hI:In p){c:Cl}(he:(n9 k p c).2.gz=0):FI k In S In' (n9 k p c).1:=by
 have s7:=wy hp;have he:(n8 (aO k.ps p) c).2.2=0:=he;show FI k In S In' (fR k p _ _);rw[fR,if_pos he];rw[sh s7]at he|-;obtain⟨_,h2⟩:=wa (hk.sl _ (aaR hp)) he;refine h.an s7 bO (.inl hI) λs hs hh=>?_
 rcases h2 s hs hh with h3|⟨t,t1,t2,t3,_⟩
 .exact .inl h3
 .refine .inr ?_;rw[t3];exact λc o e ho n hv=>.inl (hS.Bl p _ (.inl hI) s7 bO t t1 t2 c o e ho n hv)
theorem FI.name(h:FI k In S In' k)(hk:KI k)(hS:RC k In S){p:Nat}(hp:p<k.ps.length)(bO:k.ps[p].aF=true)(hI:In p){c:Cl}(he:(jM k p c).2.gz=0):FI k In S In' (jM k p c).1:=by
 have he:(iX k c (Kn.bC k p c.fd (vY c))).2=0:=he;show FI k In S In' (iX k c (Kn.bC k p c.fd (vY c))).1;unfold iX at he|-;split at he
 .rename_i h1;exact absurd he h1
 rename_i h1;rw[if_neg h1];obtain⟨_,j,_,_,_,_,_,e4,_,_,hj⟩:=qQ hk hS hp bO hI (aah h1);split at he
 .rename_i h2;exact absurd he h2.2
 rename_i h2;rw[if_neg h2];rw[e4]at he|-;unfold oc at he|-;split at he
 .rename_i h3;exact absurd he h3
 rename_i h3;rw[if_neg h3];obtain⟨l1,l2⟩:=J2 hk hS hj c.cG false (aah h3);split at he
 .cases he
 rename_i h4;rw[if_neg h4];obtain⟨d,hd,F3⟩:=l2.resolve_left h4;split at he
 .rename_i h5;rw[if_pos h5];split at he
  .cases he
  rename_i h6;rw[if_neg h6];have he:(EJ k (fb k (j:Nat) c.cG true false)).2.2=0:=he;show FI k In S In' (cu k _ _);rw[cu,if_pos he];exact h.y0 hk (λn hn=>by have:d=n:=om;subst this;exact .inl F3) he
 rename_i h5;rw[if_neg h5];split at he
 .cases he
 rename_i h6;rw[if_neg h6];split at he
 .rename_i h7;rw[if_pos h7];exact(FI.p8 h hk (JX _) (.inr ⟨d,hd,.inl F3⟩) he).1
 .rename_i h7;rw[if_neg h7];exact(FI.p8 h hk Qm (.inr ⟨d,hd,.inl F3⟩) he).1
theorem FI.jx(h:FI k In S In' k)(hk:KI k){p:Nat}(hp:p<k.ps.length)(bO:k.ps[p].aF=true)(hI:In p)(he:(jx k p).2.gz=0):FI k In S In' (jx k p).1:=by
 have s7:=wy hp;unfold Kn.jx yW at he|-;split at he
 .rename_i h1;exact absurd he h1
 rename_i h1;rw[if_neg h1];obtain⟨_,a,b,_,C,_⟩:=y6 hk.ll (aah h1);have na:¬Rq k.l a:=λ⟨d,hd,h0⟩=>h0 (C.za d hd)
 have nb:¬Rq k.l b:=λ⟨d,hd,h0⟩=>h0 (C.zb d hd)
 have hX:FI k In S In' ⟨(eV k.l).1,k.ops,k.ps⟩:=by
  refine h.q0 λi=>?_
  by_cases ea:i=a
  .subst ea;refine .inr (.inr ⟨na,_,C.ga,λ_ m hv=>.inr ?_,λe=>(by cases e),noE rfl,noQ rfl⟩)
   have:m=b:=by have:=hv.1;exact(aeB this).symm
   subst this;exact nb
  by_cases eb:i=b
  .subst eb;refine .inr (.inr ⟨nb,_,C.gb,λ_ m hv=>.inr ?_,λe=>(by cases e),noE rfl,noQ rfl⟩)
   have:m=a:=by have:=hv.1;exact(aeB this).symm
   subst this;exact na
  .exact .inl (C.go i ea eb)
 have hea:=C.ea;have heb:=C.eb;generalize eV k.l=P at*
 unfold tK at he|-;split at he
 .rename_i h2;exact absurd he h2
 rename_i h2;rw[if_neg h2];have hO1:=hX.iu (p:=p) s7 bO (.inl hI) (obj:=P.2.1.1) (rts:=896) (λm hv=>by
  have:m=a:=by have:=hv.1;omega
  subst this;exact .inr na) (aah h2)
 obtain⟨_,L,O⟩:=oU (k:=⟨P.1,k.ops,k.ps⟩) s7 (aah h2);have hpx:(aI ⟨P.1,k.ops,k.ps⟩ p P.2.1.1 896).1.ps[p]? =some {k.ps[p]with an:=L}:=by rw[O.ps];exact tU s7 L
 split at he
 .rename_i h3;exact absurd he h3
 rename_i h3;rw[if_neg h3];exact hO1.iu hpx bO (.inl hI) (obj:=P.2.1.2) (rts:=896) (λm hv=>by
  have:m=b:=by have:=hv.1;omega
  subst this;exact .inr nb) (aah h3)
theorem FI.jv(h:FI k In S In' k)(hk:KI k)(hS:RC k In S){p:Nat}(hp:p<k.ps.length)(bO:k.ps[p].aF=true)(hI:In p){c:Cl}(he:(jv k p c).2.gz=0):FI k In S In' (jv k p c).1:=by
 have key:∀r:List Obj×Int,(lj k c r).2.gz=0->r.2=0:=λr hr=>by
  unfold lj at hr;by_cases h1:r.2=0
  .exact h1
  .rw[if_pos h1]at hr;exact absurd hr h1
 unfold Kn.jv yT at he|-;split at he
 .rename_i h1;exact absurd he h1
 rename_i h1;rw[if_neg h1];obtain⟨_,j,_,_,_,_,_,e4,_,_,hj⟩:=qQ hk hS hp bO hI (aah h1);rw[e4]at he|-;have gu:∀(m:cy),(m.has=true->oV k S m.b8)->(lj k c (eW k.l (j:Nat) m)).2.gz=0->FI k In S In' (lj k c (eW k.l (j:Nat) m)).1:=λm hm hr=>by
  have h1:=key _ hr;obtain⟨n,q,o,qo,e1,e2,e3,e5,e6,e7,_,_,e9⟩:=y7 h1;have:n=j:=om;subst this;have hq:S q:=hS.aG n o hj e2 e3 q ⟨e5,qo,e6,om⟩;show FI k In S In' (cu k _ _);rw[cu,if_pos h1];show FI k In S In' ⟨(eW k.l _ _).1,k.ops,k.ps⟩;rw[e9];refine h.set e6 (.inl hq) om ⟨rfl,rfl,rfl⟩ (λz hz=>.inl hz) λz⟨q',hq',hh,hz⟩=>?_
  rcases abH.1 hq' with hq'|hq'
  .exact .inl ⟨q',hq',hh,hz⟩
  .rw[abQ.1 hq']at hh hz;rw[<-hz];exact .inr λc o e ho n hv=>.inl (hm hh c o e ho n hv)
 unfold vZ at he|-;split at he
 .rename_i h2;rw[if_pos h2];split at he
  .rename_i h3;exact absurd he h3
  rename_i h3;rw[if_neg h3];exact gu _ (λ_=>(zh hk hS hp bO hI (aah h3)).1) he
 .rename_i h2;rw[if_neg h2];exact gu _ (λh=>by cases h) he
theorem FI.jw(h:FI k In S In' k)(hk:KI k)(hS:RC k In S){p:Nat}(hp:p<k.ps.length)(bO:k.ps[p].aF=true)(hI:In p){c:Cl}(he:(jw k p c).2.gz=0):FI k In S In' (jw k p c).1:=by
 have s7:=wy hp;unfold Kn.jw yV at he|-;split at he
 .rename_i h1;exact absurd he h1
 rename_i h1;rw[if_neg h1];obtain⟨_,j,_,_,_,_,_,e4,_,_,hj⟩:=qQ hk hS hp bO hI (aah h1);rw[e4]at he|-;unfold yU at he|-;split at he
 .rename_i h2;exact absurd he h2
 rename_i h2;rw[if_neg h2];obtain⟨n,o,x,r,e1,e2,e3,e5,e6,e7⟩:=r9 (aah h2);have:n=j:=om;subst this;have hl:∀{y:Kr},FI k In S In' y->y.l=k.l->FI k In S In' ⟨(fH k.l (n:Nat)).1,y.ops,y.ps⟩:=λ{y}hy Z3=>by
  rw[e6];have:=hy.set (n:=n) (o:=o) (o':={o with aj:=r}) (by rw[Z3];exact e2) (.inl hj) om ⟨rfl,rfl,rfl⟩ (λz hz=>.inl hz) λz⟨q,hq,hh,hz⟩=>.inl ⟨q,by rw[e5];exact adh _ hq,hh,hz⟩
  rw[Z3]at this;exact this
 split at he
 .rename_i h3;rw[if_pos h3];split at he
  .rename_i h4;exact absurd he h4
  rename_i h4;rw[if_neg h4];unfold rn;rw[fR,if_pos rfl,cu,if_pos rfl];refine hl (y:=⟨k.l,k.ops,Go.Proofs.YtllkfpggoigbaaaGreatDoor.dI k.ps p _⟩) ?_ rfl;obtain⟨_,_,q3⟩:=mz (aah h4);refine h.an s7 bO (.inl hI) λs hs hh=>?_
  rcases q3 s hs with q|q
  .rw[sh s7]at q;exact .inl q
  .refine .inr ?_;rw[q];show oV k (S2 k S) (fH k.l (n:Nat)).2.1.b8;rw[e7];rw[e7]at h3;exact λc op e ho m hv=>.inl (hS.Vn n o hj e2 x.b8 ⟨x,by rw[e5];exact List.mem_cons_self,h3,rfl⟩ c op e ho m hv)
 .rename_i h3;rw[if_neg h3];unfold rn;rw[cu,if_pos rfl];exact hl h rfl
end
def Vo(In:Nat->Prop)(c:Cl)(a:An)(t:Nat):Prop:=In t\/(c.ah=18/\(t:Int)=a.n)
theorem TH{k:Kr}{In S In':Nat->Prop}(hk:KI k)(hS:RC k In S){p:Nat}{x:aL}(hp:k.ps[p]? =some x)(bO:x.aF=true)(hI:In p)(he:(jm k p).2.2.2=0)(hIn:∀t:Nat,In' t↔In t\/(t:Int)=(jm k p).2.1):FI k In S In' (jm k p).1:=by
 obtain⟨c,C⟩:=sb hp bO he;obtain⟨g1,g2,g3,g4⟩:=uV hp C.le;have lh:∀y,k.ps[c]? =some y->y.aF=false:=λy hy=>by have:=C.aE (Lw.1 hy).1;unfold tt at this;rw[hy]at this;have this:(!y.aF&& !(k.l.any (cN (c:Nat))))=true:=this;rw[aaL]at this;simpa using this.1
 have hc:∀t:Nat,In' t↔In t\/t=c:=λt=>by rw[hIn,C.R];exact or_congr Iff.rfl ⟨λh=>aeB h,λh=>by rw[h]⟩
 have h0:FI k In S In' k:=FI.start hk hS λt ht=>((hc t).1 ht).imp id λe=>by rw[e];exact lh
 obtain⟨h1,j,hj,hjs⟩:=h0.make hk.ll C.em rfl rfl (by simp[dN]) λ_ t ht=>(hc t).2 (.inr (by have ht:(c:Int)=(t:Int):=ht;omega))
 have h2:FI k In S In' ⟨(aM k.l (dN c)).1,k.ops,il k.ps p c⟩:=by
  refine h1.tS λt=>?_
  by_cases e:t=c
  .subst e;refine .inr ⟨.inr lh,λz hz _ s hs hh=>.inr ?_⟩
   rw[g2]at hz;cases hz;exact h1.rc.Bl p x (.inl ((hc p).2 (.inl hI))) hp bO s hs hh
  .exact .inl (g3 t e)
 rw[C.R];refine h2.iu (p:=p) (x:=x) (by show(il k.ps p c)[p]? =some x;rw[g3 p C.ne];exact hp) bO (.inl hI) (λm hv=>?_) C.eo
 have:m=j:=by have:=hv.1;omega
 subst this;exact hjs
theorem QB{k:Kr}{In S:Nat->Prop}(hk:KI k)(hS:RC k In S){p:Nat}(hp:p<k.ps.length)(bO:k.ps[p].aF=true)(hI:In p){c:Cl}(he:(fc k p c).2.gz=0):FI k In S (Vo In c (fc k p c).2) (fc k p c).1:=by
 have s7:=wy hp;have h0:c.ah≠18->∀a,FI k In S (Vo In c a) k:=λh a=>FI.start hk hS λt ht=>ht.elim .inl λe=>absurd e.1 h
 unfold fc at he|-;split at he
 .rename_i h1;rw[if_pos h1];exact(h0 om _).fen (.inl hI)
 rename_i h1;rw[if_neg h1];split at he
 .rename_i h2;rw[if_pos h2];exact h0 om _
 rename_i h2;rw[if_neg h2];split at he
 .rename_i h3;rw[if_pos h3];unfold rq at he|-;split at he
  .rename_i h4;exact absurd he h4
  .rename_i h4;rw[if_neg h4];exact TH hk hS s7 bO hI (aah h4) λt=>or_congr Iff.rfl ⟨λh=>h.2,λh=>⟨h3,h⟩⟩
 rename_i h3;rw[if_neg h3];split at he
 .rename_i h4;rw[if_pos h4];exact(h0 h3 _).gI (λt ht=>by have:p=t:=om;subst this;exact .inl hI) _
 rename_i h4;rw[if_neg h4];generalize (if c.ah=20 then(2048:Int)else 1024)=nd at he|-
 unfold mq at he|-;split at he
 .rename_i h5;exact absurd he h5
 rename_i h5;rw[if_neg h5];obtain⟨_,j,_,x,_,_,_,e4,e5,_,hj⟩:=qQ hk hS hp bO hI (aah h5);have pK:j9 k.l (Kn.bC k p c.fd nd).2.1=x:=by rw[e4,j9,aal,e5];rfl
 rw[pK]at he|-;unfold rY at he|-;split at he
 .cases he
 rename_i h6;rw[if_neg h6];have h6:x.ah=5:=aah h6;split at he
 .rename_i h7;rw[if_pos h7];split
  .exact h0 h3 _
  .exact h0 h3 _
 .rename_i h7;rw[if_neg h7];exact(h0 h3 _).gI (λt ht=>.inr ⟨j,x,hj,e5,h6,ht⟩) _
theorem abm{k:Kr}{In S:Nat->Prop}(hk:KI k)(hS:RC k In S){p:Nat}(hp:p<k.ps.length)(bO:k.ps[p].aF=true)(hI:In p){c:Cl}(h2:c.ah≠2)(he:(gM k p c).2.gz=0):FI k In S (Vo In c (gM k p c).2) (gM k p c).1:=by
 have h0:c.ah≠18->∀a,FI k In S (Vo In c a) k:=λh a=>FI.start hk hS λt ht=>ht.elim .inl λe=>absurd e.1 h
 unfold gM at he|-;split at he
 .rename_i a;rw[if_pos a];exact(h0 om _).Qy hk hS hp bO hI h2 he
 rename_i a;rw[if_neg a];split at he
 .rename_i a2;rw[if_pos a2];exact(h0 om _).bytes hk hS hp bO hI he
 rename_i a2;rw[if_neg a2];split at he
 .rename_i a3;rw[if_pos a3];exact(h0 om _).abk hk hS hp bO hI he
 rename_i a3;rw[if_neg a3];split at he
 .rename_i a4;rw[if_pos a4];exact h0 om _
 rename_i a4;rw[if_neg a4];split at he
 .rename_i a5;rw[if_pos a5];exact(h0 om _).name hk hS hp bO hI he
 rename_i a5;rw[if_neg a5];split at he
 .rename_i a6;rw[if_pos a6];exact(h0 om _).jx hk hp bO hI he
 rename_i a6;rw[if_neg a6];split at he
 .rename_i a7;rw[if_pos a7];exact(h0 om _).jv hk hS hp bO hI he
 rename_i a7;rw[if_neg a7];split at he
 .rename_i a8;rw[if_pos a8];exact(h0 om _).jw hk hS hp bO hI he
 rename_i a8;rw[if_neg a8];exact QB hk hS hp bO hI he
end Kn
end Go.Proofs.YtllkfpggoigbaaaGreatDoor
