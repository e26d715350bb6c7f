/- Part 16 of 16. -/
import Derived.Test.YtodckkkbiidffaaGreatDoorG11
import Derived.Test.YtodckkkbiidffaaGreatDoorG12
import Derived.Test.YtodckkkbiidffaaGreatDoorG15
set_option linter.unusedVariables false
set_option linter.unusedSimpArgs false
set_option maxRecDepth 100000
set_option maxHeartbeats 0
namespace Go.Proofs.YtodckkkbiidffaaGreatDoor
open Go.AM Go.ChangeShapes Go.WideShapes Go.ChangeAt Go.RowKit
namespace Kn
def N3(k:Kr):Prop:=gK k=k
theorem KI.Mm{k:Kr}(h:KI k):N3 (gK k):=by obtain⟨a,c,h1,h2,h3⟩:=(ii h.kr).ex;obtain⟨b,hb⟩:=h2.left;obtain⟨a2,c2,g1,g2,g3⟩:=(ii h.RQ.kr).ex;exact h3.Mm hb g1 g2 g3
theorem HN{k:Kr}(h:KI k):∃(y:Kr)(en:Bool),cT k.l k.ops k.ps y.l y.ops y.ps en:=by
 obtain⟨a,c,h1,h2,h3⟩:=(ii h.kr).ex;rcases AK h1 with rfl|⟨x,hx,_⟩
 .exact⟨c,_,h2⟩
 .exact⟨x,_,hx⟩
theorem N3.left{k:Kr}(hs:N3 k)(h:KI k):∃b,Left k b:=by obtain⟨a,c,h1,h2,h3⟩:=(ii h.kr).ex;unfold N3 at hs;rw[hs]at h3;obtain⟨b,hb⟩:=h2.left;obtain⟨y,en,hy⟩:=HN h;obtain⟨e1,e2,e3,rfl⟩:=h3.IP hb hy;rw[e1,e2,e3]at hy;exact hy.left
theorem KI.Xx{x:Kr}(h:KI x)(hm:∀b,gJ x.l x.ops x.ps b->(∀(i:Nat)o,x.l[i]? =some o->o.ah≠0->dg b.O i)/\(∀(i:Nat)o,x.ops[i]? =some o->¬dg b.P i->o=⟨-1,0⟩))(he:∀(t:Nat)y,x.ps[t]? =some y->iu x.l t y=false):gK x=IU x:=by
 obtain⟨y,en,hy⟩:=HN h;have hid:y.l=x.l/\y.ops=x.ops/\y.ps=x.ps/\en=false:=by
  obtain⟨bd,ZT,ZU,BK⟩:=hy.ex;obtain⟨m1,m2⟩:=hm bd ZT;have i3:∀i,eI bd x.l i=false:=λi=>by
   unfold eI;cases hi:x.l[i]? with
   |none=>rfl
   |some o=>
    by_cases hk:o.ah=0
    .simp[hk]
    .have:bd.O[i]? =some true:=m1 i o hi hk;simp[this]
  have hL:y.l=x.l:=ZU.id λt o _=>by
   unfold cC;rw[i3 t];have:lW bd x.l x.l.length o.aG=false:=by unfold lW;rw[i3];simp
   rw[this];simp
  have uW:=hy.pr;have pO:=hy.en;rw[hL]at uW pO;refine⟨hL,BK.id λt o ho=>?_,uW.id λt o ho=>?_,?_⟩
  .unfold BJ;split
   .rename_i hh;have hn:¬dg bd.P t:=by intro Mj;have Mj:bd.P[t]? =some true:=Mj;simp[Mj]at hh
    exact(m2 t o ho hn).symm
   .rfl
  .simp[xT,he t o ho]
  .rw[pO];cases jY:i5 x.l x.ps x.ps.length with
   |false=>rfl
   |true=>
    unfold i5 at jY;rw[abm]at jY;obtain⟨t,ht,AI⟩:=jY;have GM:t<x.ps.length:=by simpa using ht
    rw[uX GM]at AI;have AI:iu x.l t x.ps[t]=true:=AI;rw[he t _ (uX GM)]at AI;cases AI
 obtain⟨e1,e2,e3,rfl⟩:=hid;rw[e1,e2,e3]at hy;exact IQ.Ah (ii h.kr) ⟨x,x,.refl,hy,E8 x⟩
theorem N4{x:Kr}{t:Nat}{y:bl}(hy:x.ps[t]? =some y)(hl:y.aQ=true):(IU x).ps[t]? =some y:=by
 obtain⟨n1,n2,n3,P,t1,t2,hP,t3,e⟩:=(E8 x).ex;rw[e];have zc:P[t]? =some y:=by rw[hP.2 t y hy];unfold sM qZ;simp[hl]
 show(P.take n3)[t]? =some y;rcases aad t n3 with a|a
 .rw[abT a];exact zc
 .have:=t3.t.dr t y a zc;unfold qR at this;simp[hl]at this
theorem xE{l:List fk}{o r:Int}(h:(fQ l o r).2.2=0):(⟨true,o,r⟩:fk)∈(fQ l o r).1/\∀s,s∈l->s.has=true->s∈(fQ l o r).1:=by
 unfold fQ at h|-;simp only[]at h|-;unfold Tb.iJ at h|-;split at h
 .cases h
 rename_i h1;rw[if_neg h1];split
 .rename_i k hk;obtain⟨a1,a2,a3⟩:=abc.1 hk;refine⟨aak.2 ⟨⟨true,⟨o,r⟩⟩,List.mem_set a1 _,rfl⟩,λs hs hh=>?_⟩
  refine aak.2 ⟨mf s,?_,rfl⟩;obtain⟨i,hi⟩:=Xt (ac0 (f:=mf) hs);refine RD (i:=i) ?_;rw[WE λe=>?_]
  .exact hi
  .subst e;rw[uX a1]at hi;rw[acF hi]at a2;simp[mf,hh]at a2
 .rename_i hk;rw[hk]at h;simp only[]at h;split at h
  .cases h
  rename_i h2;rw[if_neg h2];refine⟨aak.2 ⟨⟨true,⟨o,r⟩⟩,aC,rfl⟩,λs hs hh=>aak.2 ⟨mf s,?_,rfl⟩⟩
  exact List.mem_append_left _ (ac0 hs)
structure RY(k:Kr)(p:Nat)(x:bl)(bn b9:Int)(R:Kr)(i:Nat)(S:List fk):Prop where
 l:R.l=k.l
 o:∀m:Nat,R.ops[m]? =if m=i then some ⟨bn,0⟩else k.ops[m]?
 zU:∀o,k.ops[i]? =some o->o.bn<0
 ps:R.ps=dk k.ps p S
 new:(⟨true,i,b9⟩:fk)∈S
 old:∀s,s∈x.aV->s.has=true->s∈S
 all:∀s,s∈S->s∈x.aV\/s=⟨true,i,b9⟩
theorem kH{k:Kr}{p:Nat}{x:bl}(hp:k.ps[p]? =some x){bn b9:Int}(he:(aI k p bn b9).2.2=0):∃i S,RY k p x bn b9 (aI k p bn b9).1 i S:=by
 have zi:ay k.ps p=x.aV:=by rw[ay,hp]
 unfold aI at he|-;split at he
 .cases he
 rename_i h1;rw[if_neg h1];split at he
 .rename_i h2;exact absurd he h2
 rename_i h2;rw[if_neg h2];have h2:(fQ (ay k.ps p) (cW k.ops) b9).2.2=0:=Z5 h2;rw[zi]at h2|-;obtain⟨c1,c2,c3⟩:=nB h2;obtain⟨d1,d2⟩:=xE h2;refine⟨cW k.ops,(fQ x.aV (cW k.ops) b9).1,rfl,λn=>?_,λo hx=>?_,rfl,d1,d2,c3⟩
 .show(i7 k.ops (cW k.ops) ⟨bn,0⟩)[n]? =_;unfold i7;split
  .rename_i e;rw[e];by_cases hn:n=k.ops.length
   .subst hn;rw[if_pos rfl,WH (Ts _)];simp
   .rw[if_neg hn];rcases aad n k.ops.length with a|a
    .exact Yf a
    .rw[WH a,aaZ a];cases e2:n-k.ops.length with
     |zero=>omega
     |succ m=>rfl
  .rename_i e;have hi:cW k.ops<k.ops.length\/cW k.ops=k.ops.length:=by
    unfold cW;cases hf:DW k.ops with
    |none=>exact .inr rfl
    |some i=>exact .inl (AR hf)
   have aD:cW k.ops<k.ops.length:=om;by_cases hn:n=cW k.ops
   .subst hn;rw[if_pos rfl,Tr aD]
   .rw[if_neg hn,WE (λa=>hn a.symm)]
 .unfold cW at hx;cases hf:DW k.ops with
  |none=>
   rw[hf]at hx;rw[show(none:Option Nat).getD k.ops.length=k.ops.length from rfl,aaZ (Ts _)]at hx;cases hx
  |some i=>
   rw[hf]at hx;obtain⟨a1,a2,_⟩:=abc.1 hf;rw[show(some i).getD k.ops.length=i from rfl,uX a1]at hx;cases hx;simpa using a2
theorem jM{ps:List bl}{p t:Nat}(h:t≠p)(l:List fk):(dk ps p l)[t]? =ps[t]? :=by
 unfold dk;split
 .exact WE λe=>h e.symm
 .rfl
theorem KI.Xy{k:Kr}(h:KI k){b:Mk}(hb:gJ k.l k.ops k.ps b){c:Nat}(hc:dg b.P c){o:bD}(ho:k.ops[c]? =some o):0<=o.bn:=by
 have cap:∀(z r:Int),fG k z r->∀c,vP k.ops z c->∀o,k.ops[c]? =some o->0<=o.bn:=λz r hz c hv o ho=>by obtain⟨-,n,o',rfl,h1,j,x,h2,-⟩:=hz;have e:(n:Int)=c:=hv.1;have:n=c:=om;subst this;rw[h1]at ho;cases ho;omega
 have iS:=hb.nK (λ_=>True) (λc=>∀o,k.ops[c]? =some o->0<=o.bn) ⟨λ_ _ _ _ _ _ _ _=>trivial,λi o _ ho z c hz hv=>?_,λ_ _ _ _ _ _=>trivial⟩ ⟨λ_ _=>trivial,λp pr hp b7 s hs hh c hv=>?_⟩
 .exact iS.2 c hc o ho
 .obtain⟨q,hq,hh,rfl⟩:=hz;exact cap _ _ (h.qu o (RD ho) q hq hh) c hv
 .exact cap _ _ (h.cap pr (RD hp) s hs hh) c hv
end Kn
namespace Kn
theorem Qt{prog:List dA}{k:Kr}(h:KI k)(hs:N3 k)(c:Cl):N3 (lI prog k c).1:=by
 by_cases he:(lI prog k c).2.fC=0
 .obtain⟨p,hc,hp,hl,-,-,ho,e⟩:=Bp he;rw[e];exact(h.op (uX hp) hl (c:=c) ho).Mm
 .obtain⟨e,h2⟩:=HM he;rw[h2];exact hs
theorem N5:N3 ef:=by unfold N3;kernel_rfl
end Kn
namespace Kn
structure Sp where
 c:Int
 p:Int
 s:Int
 h:Int
 f:Int
 g:Int
 r:Int
 o:Int
def Sp.enc(x:Sp):List Dt:=[.val (.int .i64 x.c),.val (.int .i64 x.p),.val (.int .i64 x.s),.val (.int .i64 x.h),.val (.int .i64 x.f),.val (.int .i64 x.g),.val (.int .i64 x.r),.val (.int .i64 x.o)]
abbrev Wt:=List (Int×List (Int×Int))
def wE(e:Int×Int):List Dt:=[.val (.int .i64 e.1),.val (.int .i64 e.2)]
def wM(e:Int×List (Int×Int)):MO:=⟨.int .i64 e.1,.dV (e.2.map wE)⟩
def oU(W:Wt):List MO:=W.map wM
def gv(x:Int):Wt->Option (List (Int×Int))
 | []=>none
 |e::r=>if x=e.1 then some e.2 else gv x r
def D0(x:Int):Wt->Nat->Option (Nat×List (Int×Int))
 | [],_=>none
 |e::r,n=>if x=e.1 then some (n,e.2)else D0 x r (n+1)
def js(x:Int)(v:List (Int×Int)):Wt->Wt
 | []=>[(x,v)]
 |e::r=>if x=e.1 then(x,v)::r else e::js x v r
def fO(l:List Obj)(x:Int):Bool:=match l[x.toNat]? with|some o=>decide (o.ah=4)|none=>false
def sB(l:List Obj)(W:Wt):Wt:=W.filter λe=>fO l e.1
def eQ(k:Kr)(c:Int)(p:Nat)(fd h f g:Int):List Sp:=
 if(fv (ay k.ps p) fd).2≠0 then []else [⟨c,p,fd,h,f,g,(fv (ay k.ps p) fd).1.2,fE k.ops (fv (ay k.ps p) fd).1.1⟩]
def lq(l:List Obj)(z:Int):Int:=match l[z.toNat]? with|some o=>o.aG|none=>0
def lJ(k:Kr)(p:Nat)(fd:Int):Int:=fE k.ops (fv (ay k.ps p) fd).1.1
def Gm(l:List fk):List Int:=Tb.pB 0 (l.map mf)
def fT(k:Kr)(c:Int)(n:Nat)(f:Int)(L:List Int):List Sp:=L.flatMap λfd=>eQ k c n fd 3 f fd
def eA(i:Int)(p:Nat)(c:Cl)(a:An)(b k:Kr)(W:Wt):Wt×List Sp:=
 if c.ah=2 then(W,eQ k i p a.n 1 (-1) 0)
 else if c.ah=3\/c.ah=8 then(W,eQ k i p a.n 3 c.aA c.fd)
 else if c.ah=9 then(W,eQ k i p c.fd 3 c.aA c.fd)
 else if c.ah=15 then(W,eQ k i p a.n 2 (-1) 0++eQ k i p a.m 2 (-1) 0)
 else if c.ah=16 then(js (lq b.l (lJ b p c.fd)) ((gv (lq b.l (lJ b p c.fd)) W).getD []++ [(c.aA,c.fD)]) W,[])
 else if c.ah=17 then
  (match gv (lJ b p c.fd) W with
   |some (x::r)=>(js (lJ b p c.fd) r W,if a.m>=0 then eQ k i p a.m 3 x.1 x.2 else [])
   |_=>(W,[]))
 else if c.ah=18 then(W,fT k i a.n.toNat c.aA (Gm (ay b.ps p))++eQ k i p a.m 2 (-1) 0)
 else(W,[])
structure Gs where
 k:Kr
 W:Wt
 out:List Sp
def gF(prog:List dA)(i:Nat)(c:Cl)(g:Gs):Gs:=
 let d:=lI prog g.k c;let s:=if d.2.fC=0 then eA i c.aA.toNat c d.2 g.k d.1 g.W else(g.W,[])
 ⟨d.1,sB d.1.l s.1,g.out++s.2⟩
def gg(prog:List dA)(g:Gs):Nat->List Cl->Gs
 |_,[]=>g
 |i,c::r=>gg prog (gF prog i c g) (i+1) r
theorem zL(prog:List dA):∀(cs:List Cl)(g:Gs)(i:Nat)(c:Cl),gg prog g i (cs++ [c])=gF prog (i+cs.length) c (gg prog g i cs)
 | [],g,i,c=>rfl
 |x::r,g,i,c=>by
  show gg prog (gF prog i x g) (i+1) (r++ [c])=_;rw[zL prog r];show gF prog (i+1+r.length) c _=gF prog (i+(r.length+1)) c _;rw[show i+1+r.length=i+(r.length+1) by omega]
  rfl
theorem sC(x:Int):∀(W:Wt)(n:Nat),iA (.int .i64 x) (oU W) n=some ((D0 x W n).map λe=>(e.1,.dV (e.2.map wE)))
 | [],n=>rfl
 |e::r,n=>by
  have hq:jA (.int .i64 x) (wM e).key=some (x==e.1):=rfl;show(match jA (.int .i64 x) (wM e).key with|some true=>some (some (n,(wM e).val))|some false=>iA (.int .i64 x) (oU r) (n+1)|none=>none)=_
  rw[hq];by_cases h:x=e.1
  .rw[show(x==e.1)=true by simpa using h,D0,if_pos h];rfl
  .rw[show(x==e.1)=false by simpa using h,D0,if_neg h]
   exact sC x r (n+1)
theorem Bq(x:Int):∀(W:Wt)(n:Nat),(D0 x W n).map (·.2)=gv x W
 | [],_=>rfl
 |e::r,n=>by
  rw[D0,gv];split
  .rfl
  .exact Bq x r (n+1)
theorem Br(x:Int):∀(W:Wt)(n i:Nat)(v:List (Int×Int)),D0 x W n=some (i,v)->n<=i/\W[i-n]? =some (x,v)
 | [],_,_,_,h=>by cases h
 |e::r,n,i,v,h=>by
  rw[D0]at h;split at h
  .rename_i hx;cases h;exact⟨Ts _,by obtain⟨a,b⟩:=e;simp at hx|-;exact hx.symm⟩
  .obtain⟨h1,h2⟩:=Br x r (n+1) i v h;exact⟨om,by rw[show i-n=(i-(n+1))+1 by omega];exact h2⟩
theorem HO(x:Int)(v:List (Int×Int)):∀W:Wt,mw (.int .i64 x) (.dV (v.map wE)) (oU W)=some (oU (js x v W))
 | []=>rfl
 |e::r=>by
  have ih:=HO x v r;rw[oU]at ih;rw[oU,aa9,js,mw,show jA (.int .i64 x) (wM e).key=some (x==e.1)from rfl];by_cases h:x=e.1
  .rw[show(x==e.1)=true by simpa using h,if_pos h];rfl
  .rw[show(x==e.1)=false by simpa using h,if_neg h]
   simp only;rw[ih];rfl
theorem Bs(x:Int)(v:List (Int×Int))(m:MV):∀(W:Wt)(n i:Nat)(u:List (Int×Int)),D0 x W n=some (i,u)->
  mw (.int .i64 x) (.dV (v.map wE)) ((oU W).set (i-n) ⟨.int .i64 x,m⟩)=some (oU (js x v W))
 | [],_,_,_,h=>by cases h
 |e::r,n,i,u,h=>by
  rw[D0]at h;split at h
  .rename_i hx;cases h;rw[ack,oU,aa9,ac5,js,if_pos hx,mw,show jA (.int .i64 x) (.int .i64 x)=some (x==x)from rfl,show(x==x)=true by simp]
   rfl
  .rename_i hx;obtain⟨h1,h2⟩:=Br x r (n+1) i u h;have ih:=Bs x v m r (n+1) i u h;rw[oU]at ih;rw[oU,aa9,show i-n=(i-(n+1))+1 by omega,List.set_cons_succ,js,if_neg hx,mw,show jA (.int .i64 x) (wM e).key=some (x==e.1)from rfl,show(x==e.1)=false by simpa using hx]
   simp only;rw[ih];rfl
theorem DC(x:Int)(m:MV):∀(W:Wt)(n i:Nat)(u:List (Int×Int)),D0 x W n=some (i,u)->iA (.int .i64 x) ((oU W).set (i-n) ⟨.int .i64 x,m⟩) n=some (some (i,m))
 | [],_,_,_,h=>by cases h
 |e::r,n,i,u,h=>by
  rw[D0]at h;split at h
  .rename_i hx;cases h;rw[ack,oU,aa9,ac5,iA,show jA (.int .i64 x) (.int .i64 x)=some (x==x)from rfl,show(x==x)=true by simp]
  .rename_i hx;obtain⟨h1,h2⟩:=Br x r (n+1) i u h;have ih:=DC x m r (n+1) i u h;rw[oU]at ih;rw[oU,aa9,show i-n=(i-(n+1))+1 by omega,List.set_cons_succ,iA,show jA (.int .i64 x) (wM e).key=some (x==e.1)from rfl,show(x==e.1)=false by simpa using hx]
   exact ih
end Kn
end Go.Proofs.YtodckkkbiidffaaGreatDoor
namespace Go.Proofs.YtodckkkbiidffaaGreatDoor
open Proofs.Tryz
open Go.AM Go.ChangeShapes Go.WideShapes Go.ChangeAt Go.RowKit
def c42:LF:= ⟨60,[],(.seq (.ai [qm 17 0,qu 18 (.aP 17),qf 19 0 18,qf 20 2 19,ql 21 20,qm 22 2,qu 23 (.cw 4 21 22),qf 24 3 23,ql 25 24,qm 26 3,qu 27 (qc 73 [25,26]),qm 16 27,qu 28 (.ext 16 0),qu 29 (.ext 16 1),qu 14 (.alloc [qd 0,qd 0]),qw (.store 2 14 28),qm 15 29]) (.seq (.seq (.ai [qm 30 15,qu 31 (.aJ .neq 30 (qi 0))]) (.cond 31 .ret .skip)) (.bR [qm 32 0,qm 33 0,qu 34 (.aP 33),qf 35 4 34,ql 36 35,qm 37 1,qm 38 2,qm 39 3,qm 40 4,qm 41 5,qm 42 6,qf 43 1 14,ql 44 43,qm 45 0,qu 46 (.aP 45),qf 47 0 46,qf 48 1 47,ql 49 48,qf 50 0 14,ql 51 50,qu 52 (.cw 2 49 51),qf 53 0 52,ql 54 53,qu 55 (.build [qd 0,qd 0,qd 0,qd 0,qd 0,qd 0,qd 0,qd 0] [(0,1,37),(1,1,38),(2,1,39),(3,1,40),(4,1,41),(5,1,42),(6,1,44),(7,1,54)]),qu 56 (.nC 8 [qd 0,qd 0,qd 0,qd 0,qd 0,qd 0,qd 0,qd 0] 1 [(0,55)]),qu 57 (.oZ 8 64 36 56),qu 58 (.aP 32),qf 59 4 58,qw (.store 1 59 57)] [(.cons 0 none (.cons 1 none (.cons 2 none (.cons 3 none (.cons 4 none (.cons 5 none (.cons 6 none (.cons 7 none (.cons 8 none (.cons 9 none (.cons 10 none (.cons 11 none (.cons 12 none (.cons 13 none (.cons 14 none (.cons 15 none (.cons 16 none (.cons 17 none (.cons 18 none (.cons 19 none (.cons 20 none (.cons 21 none (.cons 22 none (.cons 23 none (.cons 24 (some [4]) (.cons 25 (some []) (.cons 26 none (.cons 27 none (.cons 28 (some []) .nil)))))))))))))))))))))))))))))])))⟩
def c43:LF:= ⟨42,[.tmp 6,.tmp 7],(.seq (.ai [qu 6 (.aK (qi 0)),qu 7 (.aK (qi 0))]) (.seq (.ai [qm 12 0,qu 13 (.aP 12),qf 14 2 13,ql 15 14,qm 16 1,qu 17 (.cw 4 15 16),qf 18 3 17,ql 19 18,qm 20 2,qu 21 (qc 73 [19,20]),qm 11 21,qu 22 (.ext 11 0),qu 23 (.ext 11 1),qu 8 (.alloc [qd 0,qd 0]),qw (.store 2 8 22),qm 9 23]) (.seq (.bR [qm 24 0,qu 25 (.aP 24),qf 26 1 25,ql 27 26,qf 28 0 8,ql 29 28,qu 30 (.cw 2 27 29),qf 31 0 30,ql 32 31,qm 10 32] [(.cons 0 none (.cons 1 none (.cons 2 none (.cons 3 none (.cons 4 none (.cons 5 none (.cons 6 none (.cons 7 none (.cons 8 none (.cons 9 none .nil))))))))))]) (.seq (.bR [qm 33 10,qm 34 0,qu 35 (.aP 34),qf 36 0 35,ql 37 36,qm 38 10,qu 39 (.cw 9 37 38),qf 40 4 39,ql 41 40,qm 6 33,qm 7 41] [(.cons 0 none (.cons 1 none (.cons 2 none (.cons 3 none (.cons 4 none (.cons 5 none (.cons 6 none (.cons 7 none (.cons 8 none (.cons 9 none (.cons 10 none .nil)))))))))))]) .ret))))⟩
namespace Kn
def gB(k:Kr)(i j:Nat):Bk:= .var [.aa (db k.l),.aa (eN k.ops),.aa (gd k.ps),.map i,.row j 8 0 none]
def eK(l:List Sp):Bk:= .row 8 (af (l.map Sp.enc))
theorem ja(k:Kr)(i j:Nat):gB k i j≠.aS:=by intro h;cases h
theorem KI.fv{k:Kr}(hk:KI k){p:Nat}(hp:p<k.ps.length){fd:Int}(h:(fv (ay k.ps p) fd).2=0):∃(n j:Nat),(Kn.fv (ay k.ps p) fd).1.1=n/\n<k.ops.length/\fE k.ops n=j/\j<k.l.length:=by
 obtain⟨i,s,_,hs,hh,he,_⟩:=mZ h;have hs:=RD hs;rw[d5 hp]at hs;obtain⟨_,n,o,h1,h2,h3⟩:=hk.cap _ (aal hp) s hs hh;obtain⟨j,h4,h5⟩:∃j:Nat,o.bn=j/\j<k.l.length:=by obtain⟨j,x,h4,h5,_⟩:=h3;exact⟨j,h4,(I4.1 h5).1⟩
 refine⟨n,j,by rw[he];exact h1,(I4.1 h2).1,?_,h5⟩
 rw[fE,aac,h2];exact h4
def lu(W:Wt):Bk:= .mo 2 (oU W) none
theorem HP(Y:Nat->Nat)(W:Wt):(oU W).map (MO.aU Y)=oU W:=by rw[oU,abM];rfl
theorem fm(Y:Nat->Nat)(W:Wt):(lu W).aU Y=lu W:=by show Bk.mo 2 ((oU W).map (MO.aU Y)) none=_;rw[HP];rfl
theorem ju(W:Wt):lu W≠.aS:=by intro h;cases h
def CQ(k:Kr)(W:Wt)(l:List Sp)(T:List Sp)(r:CV)(m:Mem):Prop:=
 ∃r' m',View 3 ⟨[r],m⟩ ⟨[r'],m'⟩/\r'= .bz []/\((T=[]/\m'=[gB k 1 2,lu W,eK l])\/(∃x,T=[x]/\m'=[gB k 1 3,lu W,.aS,eK (l++ [x])]))
theorem l42:bu prog f42=some c42.er:=by kernel_rfl
theorem JZ(k:Kr)(hk:KI k)(W:Wt)(l:List Sp)(hl:l.length<=100000)(c:Int)(p:Nat)(hp:p<k.ps.length)(fd h f g:Int):
  body prog c42 [.rv (.one (.ptr 0 0)),an .i64 c,an .i64 (p:Nat),an .i64 fd,an .i64 h,an .i64 f,an .i64 g] [gB k 1 2,lu W,eK l] (CQ k W l (eQ k c p fd h f g)):=by
 have hg:=dz hp;rw[<-d5 hp]at hg;have hc:eQ k c p fd h f g=if(fv (ay k.ps p) fd).2≠0 then []else [⟨c,p,fd,h,f,g,(fv (ay k.ps p) fd).1.2,fE k.ops (fv (ay k.ps p) fd).1.1⟩]:=rfl
 rw[hc];clear hc;have hh:= @KI.fv k hk p hp fd;refine ag hg ?_;refine Ba _ fd ?_;generalize fv (ay k.ps p) fd=w at hh|-;obtain⟨⟨o,r⟩,e⟩:=w;refine bs (λhe=>?_) (λhe=>?_)
 .have he:e≠0:=he;rw[if_pos he];exact⟨_,_,View.o 4 [0,1,2] [] (.eq rfl .nil) (.pt rfl rfl (.eq rfl (ja _ _ _)) (.pt rfl rfl (.eq (fm _ _) (ju _)) (.pn rfl rfl rfl))),rfl,.inl ⟨rfl,rfl⟩⟩
 .have he:e=0:=he;subst he;rw[if_neg aC];obtain⟨n,j,h1,h2,h3,h4⟩:=hh rfl;have h1:o=n:=h1;subst h1;have ho:fE k.ops (n:Int)=k.ops[n].bn:=by rw[fE,aac,uX h2]
  refine ag (pg h2) ?_;refine⟨⟨rfl,trivial⟩,?_⟩;refine⟨by simp only[bV,af,ML,aah,abv];omega,trivial,trivial,?_⟩
  rw[show fE k.ops ((n:Int),r).1=k.ops[n].bn from ho];refine⟨_,[gB k 1 3,lu W,.aS,eK (l++ [⟨c,p,fd,h,f,g,r,k.ops[n].bn⟩])],View.o 6 [0,1,2,5] [] (.eq rfl .nil) (.pt rfl rfl (.eq rfl (ja _ _ _)) (.pt rfl rfl (.eq (fm _ _) (ju _)) (.aS (.pt rfl rfl ?_ (.nil _))))),rfl,.inr ⟨_,rfl,rfl⟩⟩;rw[eK,abw];exact .bI (dj (List.map Sp.enc l) (List.map Sp.enc [⟨c,p,fd,h,f,g,r,k.ops[n].bn⟩])).symm
theorem l43:bu prog f43=some c43.er:=by kernel_rfl
theorem N6(b:Kr)(hk:KI b)(p:Nat)(hp:p<b.ps.length)(fd:Int)(he:(fv (ay b.ps p) fd).2=0):
  body prog c43 [.rv (.one (.ptr 0 0)),an .i64 (p:Nat),an .i64 fd] [kB b] (λr m=>r= .bz [cK (lJ b p fd),cK (lq b.l (lJ b p fd))]/\∃ex,m=kB b::ex):=by
 have hg:=dz hp;rw[<-d5 hp]at hg;rw[lJ];have hh:= @KI.fv b hk p hp fd he;refine ag hg ?_;refine Ba _ fd ?_;generalize fv (ay b.ps p) fd=w at hh he|-;obtain⟨⟨o,r⟩,e⟩:=w;have he:e=0:=he;subst he;obtain⟨n,j,h1,h2,h3,h4⟩:=hh;have h1:o=n:=h1;subst h1;have ho:fE b.ops (n:Int)=b.ops[n].bn:=by rw[fE,aac,uX h2]
 have X9:b.ops[n].bn=(j:Int):=by rw[<-ho];exact h3
 have x5:lq b.l (j:Nat)=b.l[j].aG:=by rw[lq,aac,uX h4]
 refine ag (pg h2) ?_;have hj:=AA h4;rw[<-X9]at hj;refine ag hj ?_;show _=CV.bz [cK (fE b.ops (n:Int)),cK (lq b.l (fE b.ops (n:Int)))]/\_;rw[h3,x5,X9];exact⟨rfl,_,rfl⟩
end Kn
def c20:LF:= ⟨200,[],(.seq (.ai [qm 18 2,qu 19 (.aP 18),qf 20 0 19,ql 21 20,qm 10 21]) (.seq (.ai [qm 22 2,qu 23 (.aP 22),qf 24 1 23,ql 25 24]) (.block 0 (.seq (.ai [qu 27 (.aJ .eql 25 (qi 2)),qm 26 27]) (.cond 26 (.ai [qm 28 0,qm 29 1,qm 30 10,qm 31 3,qu 32 (.aP 31),qf 33 1 32,ql 34 33,qu 35 (qc 42 [28,29,30,34,qi 1,(qi (-1)),qi 0])]) (.seq (.seq (.ai [qu 37 (.aJ .eql 25 (qi 3)),qm 36 37]) (.cond 36 .skip (.ai [qu 38 (.aJ .eql 25 (qi 8)),qm 36 38]))) (.cond 36 (.bR [qm 39 0,qm 40 1,qm 41 10,qm 42 3,qu 43 (.aP 42),qf 44 1 43,ql 45 44,qm 46 10,qm 47 2,qu 48 (.aP 47),qf 49 2 48,ql 50 49,qu 51 (qc 42 [39,40,41,45,qi 3,46,50])] [(.cons 0 none (.cons 1 none (.cons 2 none (.cons 3 none (.cons 4 none (.cons 5 none (.cons 6 none (.cons 7 none (.cons 8 none (.cons 9 none (.cons 10 none (.cons 11 none (.cons 12 (some []) .nil)))))))))))))]) (.seq (.ai [qu 53 (.aJ .eql 25 (qi 9)),qm 52 53]) (.cond 52 (.bR [qm 54 0,qm 55 1,qm 56 10,qm 57 2,qu 58 (.aP 57),qf 59 2 58,ql 60 59,qm 61 10,qm 62 2,qu 63 (.aP 62),qf 64 2 63,ql 65 64,qu 66 (qc 42 [54,55,56,60,qi 3,61,65])] [(.cons 0 none (.cons 1 none (.cons 2 none (.cons 3 none (.cons 4 none (.cons 5 none (.cons 6 none (.cons 7 none (.cons 8 none (.cons 9 none (.cons 10 none (.cons 11 none (.cons 12 (some []) .nil)))))))))))))]) (.seq (.ai [qu 68 (.aJ .eql 25 (qi 15)),qm 67 68]) (.cond 67 (.seq (.ai [qm 69 0,qm 70 1,qm 71 10,qm 72 3,qu 73 (.aP 72),qf 74 1 73,ql 75 74,qu 76 (qc 42 [69,70,71,75,qi 2,(qi (-1)),qi 0])]) (.ai [qm 77 0,qm 78 1,qm 79 10,qm 80 3,qu 81 (.aP 80),qf 82 2 81,ql 83 82,qu 84 (qc 42 [77,78,79,83,qi 2,(qi (-1)),qi 0])])) (.seq (.ai [qu 86 (.aJ .eql 25 (qi 16)),qm 85 86]) (.cond 85 (.seq (.ai [qm 88 4,qm 89 10,qm 90 2,qu 91 (.aP 90),qf 92 2 91,ql 93 92,qu 94 (qc 43 [88,89,93]),qm 87 94,qu 95 (.ext 87 0),qu 96 (.ext 87 1),qm 11 95,qm 12 96]) (.bR [qm 97 0,qu 98 (.aP 97),qf 99 3 98,ql 100 99,qm 101 12,qm 102 0,qu 103 (.aP 102),qf 104 3 103,ql 105 104,qm 106 12,qu 107 (.zQ (.one .aO) (.i .i64) 105 106 false),qm 108 10,qm 109 2,qu 110 (.aP 109),qf 111 3 110,ql 112 111,qu 113 (.build [qd 0,qd 0] [(0,1,108),(1,1,112)]),qu 114 (.nC 2 [qd 0,qd 0] 1 [(0,113)]),qu 115 (.oZ 2 16 107 114),qw (.vm (.i .i64) 100 101 115)] [(.cons 0 none (.cons 1 none (.cons 2 none (.cons 3 none (.cons 4 none (.cons 5 none (.cons 6 none (.cons 7 none (.cons 8 none (.cons 9 none (.cons 11 none (.cons 12 none (.cons 13 none (.cons 14 none (.cons 15 none (.cons 16 none (.vn (.cons 10 (some [15,3]) (.cons 17 (some [8,3]) (.cons 18 (some [3]) (.cons 19 (some []) .nil)))) (.cons 17 (some [8,3]) (.cons 10 (some [15,3]) (.cons 18 (some [3]) (.cons 19 (some []) .nil)))))))))))))))))))))])) (.seq (.ai [qu 117 (.aJ .eql 25 (qi 17)),qm 116 117]) (.cond 116 (.seq (.ai [qm 119 4,qm 120 10,qm 121 2,qu 122 (.aP 121),qf 123 2 122,ql 124 123,qu 125 (qc 43 [119,120,124]),qm 118 125,qu 126 (.ext 118 0),qu 127 (.ext 118 1),qm 13 126,qm 14 127]) (.seq (.ai [qm 128 0,qu 129 (.aP 128),qf 130 3 129,ql 131 130,qm 132 13,qu 133 (.zQ (.one .aO) (.i .i64) 131 132 false),qu 134 (.cw 2 133 (qi 0)),qL 135 2 134,qu 15 (.alloc [qd 0,qd 0]),qw (.store 2 15 135)]) (.seq (.bR [qm 136 0,qu 137 (.aP 136),qf 138 3 137,ql 139 138,qm 140 13,qm 141 0,qu 142 (.aP 141),qf 143 3 142,ql 144 143,qm 145 13,qu 146 (.zQ (.one .aO) (.i .i64) 144 145 false),qu 147 (.nR 2 146 (some (qi 1)) none none),qw (.vm (.i .i64) 139 140 147)] [(.cons 0 none (.cons 1 none (.cons 2 none (.cons 3 none (.cons 4 none (.cons 5 none (.cons 6 none (.cons 7 none (.cons 8 none (.cons 9 none (.cons 10 (some [3]) (.cons 11 none (.cons 12 (some []) .nil)))))))))))))]) (.seq (.ai [qm 148 3,qu 149 (.aP 148),qf 150 2 149,ql 151 150,qu 152 (.aJ .geq 151 (qi 0))]) (.cond 152 (.bR [qm 153 0,qm 154 1,qm 155 10,qm 156 3,qu 157 (.aP 156),qf 158 2 157,ql 159 158,qf 160 0 15,ql 161 160,qf 162 1 15,ql 163 162,qu 164 (qc 42 [153,154,155,159,qi 3,161,163])] [(.cons 0 none (.cons 1 none (.cons 2 none (.cons 3 none (.cons 4 none (.cons 5 none (.cons 6 none (.cons 7 none (.cons 8 none (.cons 9 none (.cons 10 none (.cons 11 (some []) .nil))))))))))))]) .skip))))) (.seq (.ai [qu 166 (.aJ .eql 25 (qi 18)),qm 165 166]) (.cond 165 (.seq (.seq (.ai [qm 167 4,qu 168 (.aP 167),qf 169 2 168,ql 170 169,qm 171 10,qu 172 (.cw 4 170 171),qf 173 3 172,ql 174 173,qu 175 (qc 44 [174]),qu 176 (.len 1 175),qu 177 (.aK (qi 0))]) (.block 1 (.loop (.seq (.ai [qu 178 (.aJ .lss 177 176)]) (.seq (.cond 178 .skip (.exit 1)) (.seq (.block 2 (.seq (.ai [qu 179 (.cw 1 175 177),ql 180 179,qm 17 180]) (.ai [qm 181 0,qm 182 1,qm 183 3,qu 184 (.aP 183),qf 185 1 184,ql 186 185,qm 187 17,qm 188 10,qm 189 17,qu 190 (qc 42 [181,182,186,187,qi 3,188,189])]))) (.ai [qu 191 (.aJ .add 177 (qi 1)),qm 177 191]))))))) (.ai [qm 192 0,qm 193 1,qm 194 10,qm 195 3,qu 196 (.aP 195),qf 197 2 196,ql 198 197,qu 199 (qc 42 [192,193,194,198,qi 2,(qi (-1)),qi 0])])) .skip)))))))))))))))))⟩
namespace Kn
def aB(a:An):Bk:= .var (a.enc.map .aa)
theorem xF(a:An):aB a≠.aS:=by intro h;cases h
theorem iR(k:Kr):kB k≠.aS:=by intro h;cases h
theorem xG(Y:Nat->Nat)(l:List Sp):(eK l).aU Y=eK l:=Bk.jk _ _
theorem jy(k:Kr)(hk:KI k)(W:Wt)(l:List Sp)(hl:l.length<=100000)(c:Int)(z:Int)(p:Nat)(hz:z=p)(hp:p<k.ps.length)(fd h f g:Int){m:Mem}(R n:Nat)(hn:m.length=n)(hd:fJ [0,1,R]=true)(ha:eG n [0,1,R]=true)(h0:cD m 0=some (gB k 1 R))(h1:cD m 1=some (lu W))(h2:cD m R=some (eK l)){K:CV->Mem->Prop}(SH:eQ k c p fd h f g=[]->K (.bz []) (cV m [0,1,R] [gB k 1 R,lu W,eK l]))(hK2:∀x,eQ k c p fd h f g=[x]->K (.bz []) (cV m [0,1,R] [gB k 1 n,lu W,.aS,eK (l++ [x])])):
  aq prog 42 [.rv (.one (.ptr 0 0)),an .i64 c,an .i64 z,an .i64 fd,an .i64 h,an .i64 f,an .i64 g] m K:=by
 subst hz;refine bq [0,1,R] n hn rfl hd ha (args0:=[.rv (.one (.ptr 0 0)),an .i64 c,an .i64 (p:Nat),an .i64 fd,an .i64 h,an .i64 f,an .i64 g]) rfl (λi b' hi=>?_)
  (bG (b8 func42 l42 (JZ k hk W l hl c p hp fd h f g)) λr m1⟨r',m',hv,hq⟩=>⟨r',m',hv,hq⟩) (λr1 m1 rC=>?_)
 .rw[aT]at h0 h1 h2
  match i,hi with
  |0,hi=>cases hi;exact .inr ⟨λh=>h,_,h0,.eq rfl (ja _ _ _)⟩
  |1,hi=>cases hi;exact .inr ⟨λh=>h,_,h1,.eq (fm _ _) (ju _)⟩
  |2,hi=>cases hi;exact .inr ⟨λh=>h,_,h2,.bI rfl⟩
  |i+3,hi=>simp at hi
 .obtain⟨rfl,⟨he,rfl⟩|⟨x,he,rfl⟩⟩:=rC
  .refine⟨Ts _,?_⟩;have:mL (sg [0,1,R] n) [gB k 1 2,lu W,eK l]=[gB k 1 R,lu W,eK l]:=by simp only[mL,fm,xG];rfl
   rw[this];exact SH he
  .refine⟨aC,?_⟩;have:mL (sg [0,1,R] n) [gB k 1 3,lu W,.aS,eK (l++ [x])]=[gB k 1 n,lu W,.aS,eK (l++ [x])]:=by simp only[mL,fm,xG];rfl
   rw[this];exact hK2 x he
theorem N7(b:Kr)(hk:KI b)(z:Int)(p:Nat)(hz:z=p)(hp:p<b.ps.length)(fd:Int)(he:(fv (ay b.ps p) fd).2=0){m:Mem}(id:Nat)(hb:cD m id=some (kB b)){K:CV->Mem->Prop}(hK:K (.bz [cK (lJ b p fd),cK (lq b.l (lJ b p fd))]) m):
  aq prog 43 [.rv (.one (.ptr id 0)),an .i64 z,an .i64 fd] m K:=by
 subst hz;exact ff (args0:=[.rv (.one (.ptr 0 0)),an .i64 (p:Nat),an .i64 fd]) (cs:=kC b.l b.ops b.ps) id hb rfl rfl
  (λ_ hK=>eH rfl (b8 func43 l43 (N6 b hk p hp fd he)) hK) hK
theorem Qu(l:List fk)(hl:l.length<=2097152){m:Mem}{K:CV->Mem->Prop}(h:K (Tb.My (Gm l)) m):aq prog 44 [mS l] m K:=by
 rw[tL];exact Tb.S9 _ (by simpa using hl) h
def DD(x:Int):Prop:=x=2\/x=3\/x=8\/x=9\/x=15\/x=17\/x=18
structure Bt(c:Cl)(a:An)(b k:Kr)(W:Wt)(p:Nat):Prop where
 kb:KI b
 kk:KI k
 pc:c.aA=p
 pb:p<b.ps.length
 pk:DD c.ah->p<k.ps.length
 Xz:c.ah=16\/c.ah=17->(fv (ay b.ps p) c.fd).2=0
 ws:∀e,e∈W->e.2.length<=100000
 got:c.ah=17->∃x r,gv (lJ b p c.fd) W=some (x::r)
 XA:c.ah=18->∃n:Nat,a.n=n/\n<k.ps.length
def SQ(c:Cl)(a:An)(b k:Kr)(out:List Sp)(x:Wt×List Sp)(r:CV)(m:Mem):Prop:=
 ∃r' m',View 6 ⟨[r],m⟩ ⟨[r'],m'⟩/\r'= .bz []/\m'=[gB k 1 6,lu x.1,.aS,cB c,aB a,kB b,eK (out++x.2)]
theorem gX{c:Cl}{a:An}{b k:Kr}{W:Wt}{out:List Sp}{ex:Mem}(hx:eG (6+ex.length) [0,1,2,3,4,5]=true):SQ c a b k out (W,[]) (.bz []) ([gB k 1 2,lu W,eK out,cB c,aB a,kB b]++ex):=by
 refine⟨_,[gB k 1 6,lu W,.aS,cB c,aB a,kB b,eK out],View.of2 (6+ex.length) 2 [0,1,2,3,4,5] (by simp;omega) rfl rfl rfl rfl hx rfl rfl (.eq rfl .nil)
  (.pt rfl rfl (.eq rfl (ja _ _ _)) (.pt rfl rfl (.eq (fm _ _) (ju _)) (.aS (.pt rfl rfl (.eq rfl (cf _)) (.pt rfl rfl (.eq rfl (xF _)) (.pt rfl rfl (.eq rfl (iR _)) (.pn rfl rfl rfl))))))),rfl,?_⟩
 rw[abO]
theorem ml{c:Cl}{a:An}{b k:Kr}{W:Wt}{out T:List Sp}{m:Mem}(N M:Nat)(hm:m.length=M)(hd:fJ [0,1,2,3,4,5,N]=true)(ha:eG M [0,1,2,3,4,5,N]=true)(h0:cD m 0=some (gB k 1 N))(h1:cD m 1=some (lu W))(h3:cD m 3=some (cB c))(h4:cD m 4=some (aB a))(h5:cD m 5=some (kB b))(h6:cD m N=some (eK (out++T))):SQ c a b k out (W,T) (.bz []) m:=
 ⟨_,[gB k 1 6,lu W,.aS,cB c,aB a,kB b,eK (out++T)],View.of M [0,1,2,3,4,5,N] [] hm rfl rfl rfl hd ha (.eq rfl .nil)
  (.put (dy rfl) h0 (.eq rfl (ja _ _ _)) (.put (dy rfl) h1 (.eq (fm _ _) (ju _)) (.aS (.put (dy rfl) h3 (.eq rfl (cf _)) (.put (dy rfl) h4 (.eq rfl (xF _)) (.put (dy rfl) h5 (.eq rfl (iR _)) (.put (dy rfl) h6 (.bI rfl) (.nil _)))))))),rfl,rfl⟩
theorem l20:bu prog Tryz.f20=some c20.er:=by kernel_rfl
theorem tK(i:Int)(c:Cl)(a:An)(b k:Kr)(W:Wt)(out:List Sp)(ho:out.length<=90000)(p:Nat)(h:Bt c a b k W p):
  body prog c20 [.rv (.one (.ptr 0 0)),an .i64 i,.rv (.one (.ptr 3 0)),.rv (.one (.ptr 4 0)),.rv (.one (.ptr 5 0))] [gB k 1 2,lu W,eK out,cB c,aB a,kB b] (SQ c a b k out (eA i p c a b k W)):=by
 have Kv:=h.pc;refine bp (λh2=>?_) (λh2=>?_)
 .have h2:c.ah=2:=h2;have Gn:=h.pk (.inl h2);rw[eA,if_pos h2];refine jy (m:=[gB k 1 2,lu W,eK out,cB c,aB a,kB b]) k h.kk W out om i c.aA p Kv Gn a.n 1 (-1) 0 2 6 rfl rfl rfl rfl rfl rfl (λhe=>?_) (λx he=>?_)
  .rw[he];exact gX (ex:=[]) rfl
  .rw[he];exact ml 6 7 rfl rfl rfl rfl rfl rfl rfl rfl rfl
 have h2:¬c.ah=2:=h2;have s38:∀(hk:c.ah=3\/c.ah=8),eA i p c a b k W=(W,eQ k i p a.n 3 c.aA c.fd):=λhk=>by rw[eA,if_neg h2,if_pos hk]
 refine bp (λh3=>?_) (λh3=>?_)
 .have Gn:=h.pk (.inr (.inl h3));rw[s38 (.inl h3)];refine jy (m:=[gB k 1 2,lu W,eK out,cB c,aB a,kB b]) k h.kk W out om i c.aA p Kv Gn a.n 3 c.aA c.fd 2 6 rfl rfl rfl rfl rfl rfl (λhe=>⟨trivial,?_⟩) (λx he=>⟨trivial,?_⟩)
  .rw[he];exact gX (ex:=[]) rfl
  .rw[he];exact ml 6 7 rfl rfl rfl rfl rfl rfl rfl rfl rfl
 have h3:¬c.ah=3:=h3;refine bp (λh8=>?_) (λh8=>?_)
 .have Gn:=h.pk (.inr (.inr (.inl h8)));rw[s38 (.inr h8)];refine jy (m:=[gB k 1 2,lu W,eK out,cB c,aB a,kB b]) k h.kk W out om i c.aA p Kv Gn a.n 3 c.aA c.fd 2 6 rfl rfl rfl rfl rfl rfl (λhe=>⟨trivial,?_⟩) (λx he=>⟨trivial,?_⟩)
  .rw[he];exact gX (ex:=[]) rfl
  .rw[he];exact ml 6 7 rfl rfl rfl rfl rfl rfl rfl rfl rfl
 have h8:¬c.ah=8:=h8;clear s38;have UI:¬(c.ah=3\/c.ah=8):=λh=>h.elim h3 h8
 refine bp (λh9=>?_) (λh9=>?_)
 .have Gn:=h.pk (.inr (.inr (.inr (.inl h9))));rw[eA,if_neg h2,if_neg UI,if_pos h9];refine jy (m:=[gB k 1 2,lu W,eK out,cB c,aB a,kB b]) k h.kk W out om i c.aA p Kv Gn c.fd 3 c.aA c.fd 2 6 rfl rfl rfl rfl rfl rfl (λhe=>⟨trivial,?_⟩) (λx he=>⟨trivial,?_⟩)
  .rw[he];exact gX (ex:=[]) rfl
  .rw[he];exact ml 6 7 rfl rfl rfl rfl rfl rfl rfl rfl rfl
 have h9:¬c.ah=9:=h9;refine bp (λQv=>?_) (λQv=>?_)
 .have Gn:=h.pk (.inr (.inr (.inr (.inr (.inl Qv)))));rw[eA,if_neg h2,if_neg UI,if_neg h9,if_pos Qv];refine jy (m:=[gB k 1 2,lu W,eK out,cB c,aB a,kB b]) k h.kk W out om i c.aA p Kv Gn a.n 2 (-1) 0 2 6 rfl rfl rfl rfl rfl rfl (λhe=>?_) (λx he=>?_)
  .refine jy (m:=[gB k 1 2,lu W,eK out,cB c,aB a,kB b]) k h.kk W out om i c.aA p Kv Gn a.m 2 (-1) 0 2 6 rfl rfl rfl rfl rfl rfl (λjY=>?_) (λy jY=>?_)
   .rw[he,jY];exact gX (ex:=[]) rfl
   .rw[he,jY];exact ml 6 7 rfl rfl rfl rfl rfl rfl rfl rfl rfl
  .refine jy (m:=[gB k 1 6,lu W,.aS,cB c,aB a,kB b,eK (out++ [x])]) k h.kk W (out++ [x]) (by simp;omega) i c.aA p Kv Gn a.m 2 (-1) 0 6 7 rfl rfl rfl rfl rfl rfl (λjY=>?_) (λy jY=>?_)
   .rw[he,jY];exact ml 6 7 rfl rfl rfl rfl rfl rfl rfl rfl rfl
   .rw[he,jY];have e:out++([x]++ [y])=out++ [x]++ [y]:=aC;refine ml 7 8 rfl rfl rfl rfl rfl rfl rfl rfl ?_;rw[e];rfl
 have Qv:¬c.ah=15:=Qv;refine bp (λGp=>?_) (λGp=>?_)
 .rw[eA,if_neg h2,if_neg UI,if_neg h9,if_neg Qv,if_pos Gp];refine N7 b h.kb c.aA p Kv h.pb c.fd (h.Xz (.inl Gp)) 5 rfl ?_;generalize lq b.l (lJ b p c.fd)=q;have hF:=sC q W 0;have hG:=Bq q W 0;cases hx:D0 q W 0 with
  |none=>
   rw[hx]at hF hG;have hG:none=gv q W:=hG;rw[<-hG];have hS:=HO q [(c.aA,c.fD)] W;refine⟨?_,?_⟩
   .refine ag hF ?_;refine⟨⟨rfl,rfl,trivial⟩,⟨rfl,rfl,trivial⟩,(show(0+1)*16<=140737488355328 by decide),⟨rfl,trivial⟩,?_⟩
    exact⟨[wE (c.aA,c.fD)],_,rfl,hS,trivial,gX (ex:=[.aS,.aS]) rfl⟩
   .refine⟨⟨rfl,rfl,trivial⟩,?_⟩;refine ag hF ?_;refine⟨⟨rfl,rfl,trivial⟩,(show(0+1)*16<=140737488355328 by decide),⟨rfl,trivial⟩,?_⟩
    exact⟨[wE (c.aA,c.fD)],_,rfl,hS,trivial,gX (ex:=[.aS,.aS]) rfl⟩
  |some r=>
   obtain⟨j,v⟩:=r;rw[hx]at hF hG;have hG:some v=gv q W:=hG;rw[<-hG];obtain⟨_,EI⟩:=Br q W 0 j v hx;have hv:v.length<=100000:=h.ws _ (RD EI);have hS:∀n,mw (.int .i64 q) (.dV ((v++ [(c.aA,c.fD)]).map wE)) (aW (oU W) j ⟨.int .i64 q,.row n⟩)=some (oU (js q (v++ [(c.aA,c.fD)]) W)):=λn=>by rw[a8];exact Bs q _ (.row n) W 0 j v hx
   have hR:bV ((v.map wE).map λds=>ds.map CC.aa) 0 none++bV [[CC.aa (.val (.int .i64 c.aA)),CC.aa (.val (.int .i64 c.fD))]] 0 none=((v++ [(c.aA,c.fD)]).map wE).map λd=>d.map CC.aa:=by rw[abw,abw];rfl
   have dn:((bV ((v.map wE).map λds=>ds.map CC.aa) 0 none).length+(bV [[CC.aa (.val (.int .i64 c.aA)),CC.aa (.val (.int .i64 c.fD))]] 0 none).length)*16<=140737488355328:=by simp only[bV,ML,aah,abv];omega
   refine⟨?_,?_⟩
   .refine ag hF ?_;refine⟨⟨rfl,rfl,trivial⟩,⟨rfl,rfl,trivial⟩,dn,⟨rfl,trivial⟩,?_⟩;exact⟨(v++ [(c.aA,c.fD)]).map wE,_,hR,hS 6,trivial,gX (ex:=[.aS,.aS,.aS]) rfl⟩
   .refine⟨⟨rfl,rfl,trivial⟩,?_⟩;refine ag hF ?_;refine⟨⟨rfl,rfl,trivial⟩,dn,⟨rfl,trivial⟩,?_⟩;exact⟨(v++ [(c.aA,c.fD)]).map wE,_,hR,hS 7,trivial,gX (ex:=[.aS,.aS,.aS]) rfl⟩
 have Gp:¬c.ah=16:=Gp;refine bp (λDE=>?_) (λDE=>?_)
 .have Gn:=h.pk (.inr (.inr (.inr (.inr (.inr (.inl DE))))));obtain⟨x,r,hw⟩:=h.got DE;obtain⟨T,hT⟩:∃T,T=if a.m>=0 then eQ k i p a.m 3 x.1 x.2 else []:=⟨_,rfl⟩
  rw[show eA i p c a b k W=(js (lJ b p c.fd) r W,T) by rw[eA,if_neg h2,if_neg UI,if_neg h9,if_neg Qv,if_neg Gp,if_pos DE,hw,hT]]
  refine N7 b h.kb c.aA p Kv h.pb c.fd (h.Xz (.inr DE)) 5 rfl ?_;generalize lq b.l (lJ b p c.fd)=q0;generalize lJ b p c.fd=q at hw|-;have hF:=sC q W 0;have hG:=Bq q W 0;rw[hw]at hG;obtain⟨⟨j,v⟩,hx,hv⟩:=aao.1 hG;have hv:v=x::r:=hv;subst hv;rw[hx]at hF;have hFT:iA (.int .i64 q) (aW (oU W) j ⟨.int .i64 q,.row 6⟩) 0=some (some (j,.row 6)):=by rw[a8];exact DC q (.row 6) W 0 j _ hx
  have hS:mw (.int .i64 q) (.dV (bV ((x::r).map wE) 1 (some (List.length (((x::r).map wE).map λds=>ds.map CC.aa))))) (aW (oU W) j ⟨.int .i64 q,.row 6⟩)=some (oU (js q r W)):=by
   rw[a8,show bV ((x::r).map wE) 1 (some (List.length (((x::r).map wE).map λds=>ds.map CC.aa)))=r.map wE by simp[bV];rw[abN aC]]
   exact Bs q r (.row 6) W 0 j _ hx
  refine ag hF ?_;refine ag hFT ?_;refine⟨⟨rfl,trivial⟩,?_⟩;refine cA (by simp[lenOf]) ?_
  refine⟨(x::r).map wE,_,rfl,hS,trivial,?_⟩;refine aL (λhm=>?_) (λhm=>?_)
  .have hm:a.m>=0:=hm;rw[if_pos hm]at hT;subst hT;refine jy (m:=[gB k 1 2,lu (js q r W),eK out,cB c,aB a,kB b,.aS,.var [.aa (.val (.int .i64 x.1)),.aa (.val (.int .i64 x.2))]]) k h.kk (js q r W) out om i c.aA p Kv Gn a.m 3 x.1 x.2 2 8 rfl rfl rfl rfl rfl rfl (λhe=>⟨trivial,?_⟩) (λy he=>⟨trivial,?_⟩)
   .rw[he];exact gX (ex:=[.aS,.var _]) rfl
   .rw[he];exact ml 8 9 rfl rfl rfl rfl rfl rfl rfl rfl rfl
  .have hm:¬a.m>=0:=hm;rw[if_neg hm]at hT;subst hT;exact gX (ex:=[.aS,.var _]) rfl
 have DE:¬c.ah=17:=DE;refine bp (λOL=>?_) (λOL=>?_)
 .have Gn:=h.pk (.inr (.inr (.inr (.inr (.inr (.inr OL))))));obtain⟨n,hn,ZC⟩:=h.XA OL;rw[eA,if_neg h2,if_neg UI,if_neg h9,if_neg Qv,if_neg Gp,if_neg DE,if_pos OL,show a.n.toNat=n by rw[hn];rfl]
  have hg:=dz h.pb;rw[<-d5 h.pb,<-Kv]at hg;have yK:(ay b.ps p).length<=10:=by rw[d5 h.pb];exact h.kb.sl _ (aal h.pb)
  have hL:(Gm (ay b.ps p)).length<=10:=by have:=Tb.rT ((ay b.ps p).map mf) 0;rw[ML]at this;exact abH this yK
  refine ag hg ?_;refine Qu _ om ?_;generalize Gm (ay b.ps p)=L at hL|-;have OY:∀(m:List Int),(fT k i n c.aA m).length<=m.length:=λm=>by
   induction m with
   |nil=>simp[fT]
   |cons y r ih=>
    have h1:fT k i n c.aA (y::r)=eQ k i n y 3 c.aA y++fT k i n c.aA r:=by simp[fT]
    have h2:(eQ k i n y 3 c.aA y).length<=1:=by unfold eQ;split<;>simp
    rw[h1,aba,aah];omega
  refine bb (λj=>j<=L.length) [0,1,3,10,175,176] (λj=>[(177,an .i64 (j:Nat))])
   (λj=>[gB k 1 6,lu W,.aS,cB c,aB a,kB b,eK (out++fT k i n c.aA (L.take j))]) (λj=>L.length-j) 0 (aaj _) ?_ (λj hj=>?_)
  .refine View.of2 6 2 [0,1,2,3,4,5] rfl rfl rfl rfl rfl rfl rfl rfl ?_ (.pt rfl rfl (.eq rfl (ja _ _ _)) (.pt rfl rfl (.eq (fm _ _) (ju _)) (.aS (.pt rfl rfl (.eq rfl (cf _)) (.pt rfl rfl (.eq rfl (xF _)) (.pt rfl rfl (.eq rfl (iR _)) (.pt rfl rfl (.bI ?_) (.nil _))))))))
   .repeat(first|exact .nil|refine .ap ?_|refine .eq rfl ?_)
   .simp[fT]
  have hj:j<=L.length:=hj;refine aL (λaD=>?_) (λaD=>?_)
  .have aD:j<L.length:=by have aD:(j:Int)<((Tb.oD L).length:Int):=aD;rw[Tb.oD,ML]at aD;omega
   have lD:dx (Tb.oD L) ((j:Nat):Int)=some [.val (.int .i64 L[j])]:=by rw[bA,Tb.oD,RA,uX aD];rfl
   have ht:fT k i n c.aA (L.take (j+1))=fT k i n c.aA (L.take j)++eQ k i n L[j] 3 c.aA L[j]:=by rw[fT,fT,rL (uX aD),List.flatMap_append,List.flatMap_cons,List.flatMap_nil,abO]
   have yB:=OY (L.take j);rw[aan]at yB;refine ag lD ?_;refine jy (m:=[gB k 1 6,lu W,.aS,cB c,aB a,kB b,eK (out++fT k i n c.aA (L.take j))]) k h.kk W (out++fT k i n c.aA (L.take j)) (by rw[aba];omega) i a.n n hn ZC L[j] 3 c.aA L[j] 6 7 rfl rfl rfl rfl rfl rfl (λhe=>?_) (λx he=>?_)
   .refine⟨j+1,aD,(show L.length-(j+1)<L.length-j by omega),View.o 7 [0,1,2,3,4,5,6] [] ?_ (.pt rfl rfl (.eq rfl (ja _ _ _)) (.pt rfl rfl (.eq (fm _ _) (ju _)) (.aS (.pt rfl rfl (.eq rfl (cf _)) (.pt rfl rfl (.eq rfl (xF _)) (.pt rfl rfl (.eq rfl (iR _)) (.pt rfl rfl (.bI ?_) (.nil _))))))))⟩
    .repeat(first|exact .nil|refine .ap ?_|refine .put (.aU (aN om).symm) ?_|refine .eq rfl ?_)
    .rw[ht,he,abO]
   .refine⟨j+1,aD,(show L.length-(j+1)<L.length-j by omega),View.o 8 [0,1,2,3,4,5,7] [] ?_ (.pt rfl rfl (.eq rfl (ja _ _ _)) (.pt rfl rfl (.eq (fm _ _) (ju _)) (.aS (.pt rfl rfl (.eq rfl (cf _)) (.pt rfl rfl (.eq rfl (xF _)) (.pt rfl rfl (.eq rfl (iR _)) (.pt rfl rfl (.bI ?_) (.nil _))))))))⟩
    .repeat(first|exact .nil|refine .ap ?_|refine .put (.aU (aN om).symm) ?_|refine .eq rfl ?_)
    .rw[ht,he,aca]
  .have GL:j=L.length:=by have aD:¬(j:Int)<((Tb.oD L).length:Int):=aD;rw[Tb.oD,ML]at aD;omega
   subst GL;rw[abe];have yB:=OY L;refine jy (m:=[gB k 1 6,lu W,.aS,cB c,aB a,kB b,eK (out++fT k i n c.aA L)]) k h.kk W (out++fT k i n c.aA L) (by rw[aba];omega) i c.aA p Kv Gn a.m 2 (-1) 0 6 7 rfl rfl rfl rfl rfl rfl (λhe=>?_) (λx he=>?_)
   .rw[he,abO];exact ml 6 7 rfl rfl rfl rfl rfl rfl rfl rfl rfl
   .rw[he];refine ml 7 8 rfl rfl rfl rfl rfl rfl rfl rfl ?_;rw[<-aca];rfl
 have OL:¬c.ah=18:=OL;rw[eA,if_neg h2,if_neg UI,if_neg h9,if_neg Qv,if_neg Gp,if_neg DE,if_neg OL];exact gX (ex:=[]) rfl
theorem A6(i:Int)(c:Cl)(a:An)(b k:Kr)(W:Wt)(out:List Sp)(ho:out.length<=90000)(p:Nat)(h:Bt c a b k W p)(X:Bk)(x:Wt×List Sp)(hx:x=eA i p c a b k W){K:CV->Mem->Prop}(hK:K (.bz []) [gB k 1 7,lu x.1,.aS,cB c,aB a,kB b,X,eK (out++x.2)]):
  aq prog 20 [.rv (.one (.ptr 0 0)),an .i64 i,.rv (.one (.ptr 3 0)),.rv (.one (.ptr 4 0)),.rv (.one (.ptr 5 0))] [gB k 1 2,lu W,eK out,cB c,aB a,kB b,X] K:=by
 refine bq [0,1,2,3,4,5] 7 rfl rfl rfl rfl (args0:=[.rv (.one (.ptr 0 0)),an .i64 i,.rv (.one (.ptr 3 0)),.rv (.one (.ptr 4 0)),.rv (.one (.ptr 5 0))]) rfl (λj b' hi=>?_)
  (bG (b8 func20 l20 (tK i c a b k W out ho p h)) λr m1⟨r',m',hv,hq⟩=>⟨r',m',hv,hq⟩) (λr1 m1 rC=>?_)
 .match j,hi with
  |0,hi=>cases hi;exact .inr ⟨λh=>h,_,rfl,.eq rfl (ja _ _ _)⟩
  |1,hi=>cases hi;exact .inr ⟨λh=>h,_,rfl,.eq (fm _ _) (ju _)⟩
  |2,hi=>cases hi;exact .inr ⟨λh=>h,_,rfl,.bI rfl⟩
  |3,hi=>cases hi;exact .inr ⟨λh=>h,_,rfl,.eq rfl (cf _)⟩
  |4,hi=>cases hi;exact .inr ⟨λh=>h,_,rfl,.eq rfl (xF _)⟩
  |5,hi=>cases hi;exact .inr ⟨λh=>h,_,rfl,.eq rfl (iR _)⟩
  |j+6,hi=>simp at hi
 .obtain⟨rfl,rfl⟩:=rC;refine⟨aC,?_⟩;rw[<-hx];have:mL (sg [0,1,2,3,4,5] 7) [gB k 1 6,lu x.1,.aS,cB c,aB a,kB b,eK (out++x.2)]=[gB k 1 7,lu x.1,.aS,cB c,aB a,kB b,eK (out++x.2)]:=by simp only[mL,fm,xG];rfl
  rw[this];exact hK
end Kn
end Go.Proofs.YtodckkkbiidffaaGreatDoor
namespace Go.Proofs.YtodckkkbiidffaaGreatDoor
open Go.AM Go.ChangeShapes Go.WideShapes Go.ChangeAt Go.RowKit
namespace Kn
def wL(L:List ((Int×List (Int×Int))×Nat)):Wt:=L.map (·.1)
theorem N8(x:Int):∀(W:Wt)(n i:Nat)(e:Int×List (Int×Int)),(W.map (·.1)).Nodup->W[i]? =some e->e.1=x->D0 x W n=some (n+i,e.2)
 | [],_,_,_,_,h,_=>by simp at h
 |y::r,n,0,e,_,h,he=>by simp only[ab5,aam]at h;subst h;rw[D0,if_pos he.symm];rfl
 |y::r,n,i+1,e,hn,h,he=>by
  rw[aa9,abJ]at hn;have h:r[i]? =some e:=by simpa using h
  have dt:¬x=y.1:=λh2=>hn.1 (by rw[<-h2,<-he];exact aak.2 ⟨e,RD h,rfl⟩)
  rw[D0,if_neg dt,N8 x r (n+1) i e hn.2 h he,show n+1+i=n+(i+1) by omega]
abbrev Pr:=List ((Int×List (Int×Int))×Nat)
def u3(l:List Obj)(L0:Pr)(seen:List Nat):Pr:=L0.filter λx=>fO l x.1.1|| !seen.contains x.2
theorem Qw(l:List Obj)(L0:Pr):u3 l L0 []=L0:=acq.2 aC
theorem Bu:∀{L:Pr}{x y:(Int×List (Int×Int))×Nat},(L.map (·.2)).Nodup->x∈L->y∈L->x.2=y.2->x=y
 | [],_,_,_,h,_,_=>by cases h
 |z::r,x,y,hn,hx,hy,he=>by
  rw[aa9,abJ]at hn;rcases aa1.1 hx with h1|h1<;>rcases aa1.1 hy with h2|h2
  .rw[h1,h2]
  .rw[h1]at he;exact absurd (he▸aak.2 ⟨y,h2,rfl⟩) hn.1
  .rw[h2]at he;exact absurd (he▸aak.2 ⟨x,h1,rfl⟩) hn.1
  .exact Bu hn.2 h1 h2 he
theorem HQ{α:Type}{p q:α->Bool}(h:∀z,p z=true->q z=true):∀r:List α,(r.filter p).length<=(r.filter q).length
 | []=>Ts _
 |z::r=>by
  have ih:=HQ h r;rw[abW,abW];by_cases hp:p z=true
  .rw[if_pos hp,if_pos (h z hp),aah,aah];omega
  .rw[if_neg hp];split
   .rw[aah];omega
   .exact ih
theorem Qx{l:List Obj}{L0:Pr}{seen:List Nat}{s:Nat}{x:(Int×List (Int×Int))×Nat}(hx:x∈L0)(hs:x.2=s)(hn:(L0.map (·.2)).Nodup)(hk:fO l x.1.1=true):u3 l L0 (s::seen)=u3 l L0 seen:=by
 refine ada λy hy=>?_
 by_cases h:y.2=s
 .have:=Bu hn hy hx (h.trans hs.symm);subst this;rw[hk];simp
 .congr 1;simp[h]
theorem DF:∀{L:Pr}{i:Nat}{x:(Int×List (Int×Int))×Nat},L[i]? =some x->(L.map (·.2)).Nodup->L.filter (λy=>!(y.2==x.2))=L.eraseIdx i
 | [],i,e,h,_=>by simp at h
 |x::r,0,e,h,hn=>by
  simp only[ab5,aam]at h;subst h;rw[aa9,abJ]at hn;rw[abW,if_neg aC,List.eraseIdx_zero,List.tail_cons];refine acq.2 λy hy=>?_
  have:y.2≠x.2:=λhe=>hn.1 (he▸aak.2 ⟨y,hy,rfl⟩)
  simpa using this
 |x::r,i+1,e,h,hn=>by
  simp only[abA]at h;rw[aa9,abJ]at hn;have:x.2≠e.2:=λhe=>hn.1 (he▸aak.2 ⟨e,RD h,rfl⟩)
  rw[abW,if_pos (by simpa using this),List.eraseIdx_cons_succ,DF h hn.2]
theorem Qy{l:List Obj}{L0:Pr}{seen:List Nat}{i:Nat}{x:(Int×List (Int×Int))×Nat}(hx:(u3 l L0 seen)[i]? =some x)(hn:(L0.map (·.2)).Nodup)(hk:fO l x.1.1=false):u3 l L0 (x.2::seen)=(u3 l L0 seen).eraseIdx i:=by
 have Pc:((u3 l L0 seen).map (·.2)).Nodup:=(List.filter_sublist.map _).nodup hn
 rw[<-DF hx Pc,u3,u3,List.filter_filter];have TQ:x∈L0:=(ab6.1 (RD hx)).1;refine ada λy hy=>?_
 by_cases h:y.2=x.2
 .have:=Bu hn hy TQ h;subst this;rw[hk];simp
 .simp[h]
theorem TZ{l:List Obj}{L0:Pr}{seen:List Nat}(h:∀s,s∈(u3 l L0 seen).map (·.2)->s∈seen):wL (u3 l L0 seen)=sB l (wL L0):=by
 have:u3 l L0 seen=L0.filter λx=>fO l x.1.1:=by
  refine ada λy hy=>?_
  cases hk:fO l y.1.1 with
  |true=>rfl
  |false=>
   simp only[ach];cases hc:seen.contains y.2 with
   |true=>rfl
   |false=>
    have:=h y.2 (aak.2 ⟨y,ab6.2 ⟨hy,by rw[hc];simp⟩,rfl⟩)
    rw[List.contains_eq_mem]at hc;simp at hc;exact absurd this hc
 rw[this,wL,wL,sB,List.filter_map];rfl
def left(L0:Pr)(seen:List Nat):Nat:=(L0.filter λx=>!seen.contains x.2).length
theorem Qz{L0:Pr}{seen:List Nat}{x:(Int×List (Int×Int))×Nat}(hx:x∈L0)(hs:¬x.2∈seen):left L0 (x.2::seen)<left L0 seen:=by
 unfold left
 induction L0 with
 |nil=>cases hx
 |cons y r ih=>
  have mono:(r.filter λz=>!(x.2::seen).contains z.2).length<=(r.filter λz=>!seen.contains z.2).length:=by exact HQ (λz hz=>by simp at hz|-;exact hz.2) r
  rw[abW,abW];rcases aa1.1 hx with rfl|hx
  .rw[if_neg aC,if_pos (by simpa using hs),aah]
   omega
  .have:=ih hx;by_cases h1:(!(x.2::seen).contains y.2)=true
   .have h2:(!seen.contains y.2)=true:=by simp at h1|-;exact h1.2
    rw[if_pos h1,if_pos h2,aah,aah];omega
   .rw[if_neg h1];split
    .rw[aah];omega
    .exact this
end Kn
namespace Kn
structure nW(k x:Kr):Prop where
 o:∀(i:Nat)o,k.l[i]? =some o->o.ah≠0->∃o':Obj,x.l[i]? =some o'/\o'.ah=o.ah/\o'.aA=o.aA/\(∀z,sE o z->sE o' z)/\
  (∀z,sQ o z->sQ o' z\/∃(t:Nat)(y:bl)(s:fk),x.ps[t]? =some y/\y.aQ=true/\s∈y.aV/\s.has=true/\s.dP=z)
 p:∀(c:Nat)o,k.ops[c]? =some o->0<=o.bn->∃o':bD,x.ops[c]? =some o'/\o'.bn=o.bn
 s:∀(t:Nat)y,k.ps[t]? =some y->y.aQ=true->∃y':bl,x.ps[t]? =some y'/\y'.aQ=true/\∀s,s∈y.aV->s.has=true->∃s',s'∈y'.aV/\s'.has=true/\s'.dP=s.dP
 nl:∀(i:Nat)o,x.l[i]? =some o->o.ah≠0->(∃o0,k.l[i]? =some o0/\o0.ah≠0)\/∃(t:Nat)(y:bl)(s:fk)(c:Nat)(o1:bD),x.ps[t]? =some y/\y.aQ=true/\s∈y.aV/\s.has=true/\s.dP=c/\x.ops[c]? =some o1/\o1.bn=i
 no:∀(c:Nat)o,x.ops[c]? =some o->k.ops[c]? =some o\/∃(t:Nat)(y:bl)(s:fk),x.ps[t]? =some y/\y.aQ=true/\s∈y.aV/\s.has=true/\s.dP=c
 np:∀(t:Nat)y,x.ps[t]? =some y->y.aQ=true->(∃y0,k.ps[t]? =some y0/\y0.aQ=true)\/∃o,o∈x.l/\dC (t:Int) o=true
theorem nW.vO{k x:Kr}(e:nW k x){z:Int}{n:Nat}(h:_root_.Go.Proofs.YtodckkkbiidffaaGreatDoor.vO k.l z n):_root_.Go.Proofs.YtodckkkbiidffaaGreatDoor.vO x.l z n:=by
 obtain⟨rfl,o,ho,hk⟩:=h;obtain⟨o',h1,h2,-⟩:=e.o n o ho hk;exact⟨rfl,o',h1,by rw[h2];exact hk⟩
theorem nW.Ml{k x:Kr}(e:nW k x)(hk:KI k){b b2:Mk}(hb:gJ k.l k.ops k.ps b)(hx:gJ x.l x.ops x.ps b2):
  (∀i,dg b.O i->dg b2.O i)/\∀(c:Nat),dg b.P c->∀o,k.ops[c]? =some o->0<=o.bn->dg b2.P c:=by
 have hvP:∀(c:Nat)o,k.ops[c]? =some o->0<=o.bn->∀z:Int,z=c->vP x.ops z c:=λc o ho h0 z hz=>by obtain⟨o',h1,_⟩:=e.p c o ho h0;exact⟨hz,(I4.1 h1).1⟩
 have iS:=hb.nK (λi=>dg b2.O i) (λc=>∀o,k.ops[c]? =some o->0<=o.bn->dg b2.P c) ⟨λi o hi ho z n hz hv=>?_,λi o hi ho z c hz hv o1 Sd h0=>?_,λc o hc ho n hv=>?_⟩
  ⟨λn hv=>hx.mU.1 n (e.vO hv),λp pr hp b7 s hs hh c hv o1 Sd h0=>?_⟩
 .exact⟨iS.1,iS.2⟩
 .have h0:o.ah≠0:=λh0=>by rw[hk.z o (RD ho) h0]at hz;obtain⟨nm,Lj⟩:=hz;simp[gR]at Lj
  obtain⟨o',h1,-,-,h4,-⟩:=e.o i o ho h0;exact hx.cl.e i o' hi h1 z n (h4 z hz) (e.vO hv)
 .have GX:o.ah≠0:=λh0=>by rw[hk.z o (RD ho) h0]at hz;obtain⟨q,hq,-⟩:=hz;simp[gR]at hq
  obtain⟨o',h1,-,-,-,h5⟩:=e.o i o ho GX;rcases h5 z hz with h6|⟨t,y,s,g1,g2,g3,g4,g5⟩
  .exact hx.cl.q i o' hi h1 z c h6 (hvP c o1 Sd h0 z hv.1)
  .exact hx.mU.2 t y g1 g2 s g3 g4 c (hvP c o1 Sd h0 _ (by rw[g5];exact hv.1))
 .have h0:0<=o.bn:=by have:=hv.1;omega
  obtain⟨o',h1,h2⟩:=e.p c o ho h0;exact hx.cl.p c o' (hc o ho h0) h1 n (by rw[h2];exact e.vO hv)
 .obtain⟨y',h1,h2,h3⟩:=e.s p pr hp b7;obtain⟨s',h4,h5,h6⟩:=h3 s hs hh;exact hx.mU.2 p y' h1 h2 s' h4 h5 c (hvP c o1 Sd h0 _ (by rw[h6];exact hv.1))
theorem KI.XB{k x:Kr}(h:KI k)(hs:N3 k)(hx:KI x)(e:nW k x):gK x=IU x:=by
 obtain⟨b,hb⟩:=hs.left h;refine hx.Xx (λb2 fx=>?_) (λt y hy=>?_)
 .obtain⟨m1,m2⟩:=e.Ml h hb.ok fx;have RZ:∀(t:Nat)(y:bl)(s:fk)(c:Nat),x.ps[t]? =some y->y.aQ=true->s∈y.aV->s.has=true->s.dP=c->c<x.ops.length->dg b2.P c:=λt y s c g1 g2 g3 g4 g5 g6=>
   fx.mU.2 t y g1 g2 s g3 g4 c ⟨g5,g6⟩
  refine⟨λn o ho hk=>?_,λn o ho hn=>?_⟩
  .rcases e.nl n o ho hk with⟨o0,h1,h2⟩|⟨t,y,s,c,o1,g1,g2,g3,g4,g5,g6,g7⟩
   .exact m1 n (hb.all n o0 h1 h2)
   .exact fx.cl.p c o1 (RZ t y s c g1 g2 g3 g4 g5 (I4.1 g6).1) g6 n ⟨g7,o,ho,hk⟩
  .rcases e.no n o ho with h1|⟨t,y,s,g1,g2,g3,g4,g5⟩
   .by_cases re:dg b.P n
    .exact absurd (m2 n re o h1 (h.Xy hb.ok re h1)) hn
    .exact hb.ops n o h1 re
   .exact absurd (RZ t y s n g1 g2 g3 g4 g5 (I4.1 ho).1) hn
 .cases X8:y.aQ with
  |false=>simp[iu,X8]
  |true=>
   by_cases h0:t=0
   .subst h0;simp[iu]
   have held:∃o,o∈x.l/\dC (t:Int) o=true:=by
    rcases e.np t y hy X8 with⟨y',TK,B6⟩|h1
    .have:=hb.prs t y' TK;unfold iu at this;simp only[B6,ac7,acv,decide_eq_false_iff_not,Bool.not_eq_false',abm]at this;rcases this with h3|⟨o,ho,hh⟩
     .omega
     .obtain⟨n,hn⟩:=Xt ho;obtain⟨o',g1,g2,g3,-⟩:=e.o n o hn (wA hh);refine⟨o',RD g1,?_⟩;unfold dC at hh|-;rw[g2,g3];exact hh
    .exact h1
   have ha:(x.l.any (dC (t:Int)))=true:=by rw[abm];exact held
   unfold iu;rw[ha];simp
end Kn
namespace Kn
structure OX(N:Nat->Prop)(l l':List Obj):Prop where
 m:∀(i:Nat)o,l[i]? =some o->o.ah≠0->∃o':Obj,l'[i]? =some o'/\o'.ah=o.ah/\o'.aA=o.aA/\o'.aj=o.aj
 n:∀(i:Nat)o',l'[i]? =some o'->o'.ah≠0->(∃o,l[i]? =some o/\o.ah≠0)\/(N i/\o'.aj=[])
def OE(l l':List Obj):Prop:=∀(i:Nat)o o',l[i]? =some o->o.ah≠0->l'[i]? =some o'->∀z,sE o z->sE o' z
theorem OX.refl(N:Nat->Prop)(l:List Obj):OX N l l:=⟨λi o h _=>⟨o,h,rfl,rfl,rfl⟩,λi o h hk=>.inl ⟨o,h,hk⟩⟩
theorem OE.refl(l:List Obj):OE l l:=λi o o' h _ h' z hz=>by rw[h]at h';cases h';exact hz
theorem OX.trans{N:Nat->Prop}{a b c:List Obj}(h:OX N a b)(g:OX N b c):OX N a c:=by
 refine⟨λi o ho hk=>?_,λi o ho hk=>?_⟩
 .obtain⟨o1,h1,h2,h3,h4⟩:=h.m i o ho hk;obtain⟨o2,g1,g2,g3,g4⟩:=g.m i o1 h1 (by rw[h2];exact hk)
  exact⟨o2,g1,g2.trans h2,g3.trans h3,g4.trans h4⟩
 .rcases g.n i o ho hk with⟨o1,g1,g2⟩|g1
  .rcases h.n i o1 g1 g2 with h1|⟨h1,h2⟩
   .exact .inl h1
   .obtain⟨o2,q1,_,_,q4⟩:=g.m i o1 g1 g2;rw[ho]at q1;cases q1;exact .inr ⟨h1,q4.trans h2⟩
  .exact .inr g1
theorem OE.trans{N:Nat->Prop}{a b c:List Obj}(hx:OX N a b)(h:OE a b)(g:OE b c):OE a c:=λi o o2 ho hk gV z hz=>by
 obtain⟨o1,h1,h2,_⟩:=hx.m i o ho hk;exact g i o1 o2 h1 (by rw[h2];exact hk) gV z (h i o o1 ho hk h1 z hz)
theorem OX.set(N:Nat->Prop){l:List Obj}{n:Nat}{o o':Obj}(ho:l[n]? =some o)(h:o'.ah=o.ah/\o'.aA=o.aA/\o'.aj=o.aj):OX N l (l.set n o'):=by
 have hn:=(I4.1 ho).1;refine⟨λi a ha hk=>?_,λi a ha hk=>?_⟩
 .by_cases e:n=i
  .subst e;rw[ho]at ha;cases ha;exact⟨o',Tr hn,h.1,h.2.1,h.2.2⟩
  .exact⟨a,by rw[WE e];exact ha,rfl,rfl,rfl⟩
 .by_cases e:n=i
  .subst e;rw[Tr hn]at ha;cases ha;exact .inl ⟨o,ho,by rw[<-h.1];exact hk⟩
  .rw[WE e]at ha;exact .inl ⟨a,ha,hk⟩
theorem OE.set{l:List Obj}{n:Nat}{o o':Obj}(ho:l[n]? =some o)(h:o'.ak=o.ak):OE l (l.set n o'):=λi a b ha _ hb z hz=>by
 have hn:=(I4.1 ho).1;by_cases e:n=i
 .subst e;rw[ho]at ha;cases ha;rw[Tr hn]at hb;cases hb;unfold sE;rw[h];exact hz
 .rw[WE e,ha]at hb;cases hb;exact hz
theorem OX.make{l:List Obj}{o:Obj}(h:(aF l o).2.2=0)(hl:l.length<=40)(hq:o.aj=[]):∃j:Nat,(aF l o).2.1=j/\OX (λi=>i=j) l (aF l o).1/\OE l (aF l o).1/\(aF l o).1[j]? =some o:=by
 obtain⟨j,h1,h2,h3,h4,_,_⟩:=fM h hl;have dt:∀i a,l[i]? =some a->a.ah≠0->i≠j:=λi a ha hk e=>hk (h4 a (e▸ha))
 refine⟨j,h1,⟨λi a ha hk=>⟨a,by rw[h3 i (dt i a ha hk)];exact ha,rfl,rfl,rfl⟩,λi a ha hk=>?_⟩,λi a b ha hk hb z hz=>?_,h2⟩
 .by_cases e:i=j
  .subst e;rw[h2]at ha;cases ha;exact .inr ⟨rfl,hq⟩
  .rw[h3 i e]at ha;exact .inl ⟨a,ha,hk⟩
 .rw[h3 i (dt i a ha hk),ha]at hb;cases hb;exact hz
theorem OX.two(N:Nat->Prop){l l':List Obj}{n p:Nat}{o q o' q':Obj}(hn:l[n]? =some o)(hp:l[p]? =some q)(h1:l'[n]? =some o')(h2:l'[p]? =some q')(h3:∀j,j≠n->j≠p->l'[j]? =l[j]?)(ho:o'.ah=o.ah/\o'.aA=o.aA/\o'.aj=o.aj)(hq:q'.ah=q.ah/\q'.aA=q.aA/\q'.aj=q.aj):OX N l l':=by
 refine⟨λi a ha hk=>?_,λi a ha hk=>?_⟩
 .by_cases e:i=n
  .subst e;rw[hn]at ha;cases ha;exact⟨o',h1,ho.1,ho.2.1,ho.2.2⟩
  by_cases e2:i=p
  .subst e2;rw[hp]at ha;cases ha;exact⟨q',h2,hq.1,hq.2.1,hq.2.2⟩
  .exact⟨a,by rw[h3 i e e2];exact ha,rfl,rfl,rfl⟩
 .by_cases e:i=n
  .subst e;rw[h1]at ha;cases ha;exact .inl ⟨o,hn,by rw[<-ho.1];exact hk⟩
  by_cases e2:i=p
  .subst e2;rw[h2]at ha;cases ha;exact .inl ⟨q,hp,by rw[<-hq.1];exact hk⟩
  .rw[h3 i e e2]at ha;exact .inl ⟨a,ha,hk⟩
theorem OX.enter(N:Nat->Prop){b:Bool}{l:List Obj}{cL bn:Int}{name:ByteArray}(dt:∀(p:Nat)q,bn=p->l[p]? =some q->q.am=0)(h:(cN b l cL name bn).2=0):OX N l (cN b l cL name bn).1/\OE l (cN b l cL name bn).1:=by
 obtain⟨n,p,o,q,rfl,rfl,hn,hp,hq,ho,Am,_,_,_,e⟩:=oS h;rw[e];have Bl:n≠p:=λe=>by subst e;rw[hn]at hp;cases hp;exact Am (dt n o rfl hn)
 obtain⟨g1,g2,g3,_⟩:=tU hn hp Bl name;refine⟨OX.two N hn hp g1 g2 g3 ⟨rfl,rfl,rfl⟩ ⟨rfl,rfl,rfl⟩,λi a a' ha hk RC z hz=>?_⟩
 by_cases e1:i=n
 .subst e1;rw[hn]at ha;cases ha;rw[g1]at RC;cases RC;obtain⟨nm,hm⟩:=hz;refine⟨nm,?_⟩;show fP (nm,z)∈(iG (name,((p:Nat):Int)) (dG o)).map fP;refine aak.2 ⟨(nm,z),xq ?_,rfl⟩;refine aak.2 ⟨fP (nm,z),hm,rfl⟩
 by_cases e2:i=p
 .subst e2;rw[hp]at ha;cases ha;rw[g2]at RC;cases RC;exact hz
 .rw[g3 i e1 e2,ha]at RC;cases RC;exact hz
theorem t7{k:Kr}(h:KI k){f:R4}{o:Obj}(ho:Gc o)(he:(cu k f o).2.2=0):∃j:Nat,(cu k f o).2.1=j/\OX (λi=>i=j) k.l (cu k f o).1.l/\OE k.l (cu k f o).1.l/\(cu k f o).1.ops=k.ops/\(cu k f o).1.ps=k.ps:=by
 obtain⟨j,C⟩:=sA h.ll he;obtain⟨j',e1,g1,g2,g3⟩:=OX.make C.em h.ll (show(gz o).aj=[]from(ho.Qh k).q);have:j'=j:=by have:=C.ej;omega
 subst this;obtain⟨q1,q2⟩:=OX.enter (λi=>i=j') (λp q hp hq=>by have:p=j':=om;subst this;rw[g3]at hq;cases hq;exact(ho.Qh k).l) C.ee
 rw[C.R];exact⟨j',rfl,g1.trans q1,OE.trans g1 g2 q2,rfl,rfl⟩
end Kn
namespace Kn
theorem J0{k:Kr}(h:KI k)(N:Nat->Prop){cL:Int}{name:ByteArray}(he:(cO k.l cL name).2.2=0):OX N k.l (cO k.l cL name).1:=by
 obtain⟨n,p,o,q,rfl,hn,gO,hf,hp,ND,hR,_⟩:=sy he;obtain⟨e0,zB,Lj,Yl⟩:∃e0,e0∈dG o/\e0.1.toList=name.toList/\e0.2=(p:Int):=by
  rcases iH (dG o) name with⟨e,a1,a2,a3⟩|⟨a3,_⟩
  .exact⟨e,a1,a2,om⟩
  .omega
 have Bl:n≠p:=λe=>by
  subst e;rw[hn]at hp;cases hp;have:o.ak=[]:=aag (by have:=λh=>ND ⟨gO,h⟩;omega)
  rw[dG,this]at zB;cases zB
 rw[hR];obtain⟨g1,g2,g3,_⟩:=zF hn hp Bl name;exact OX.two N hn hp g1 g2 g3 ⟨rfl,rfl,rfl⟩ ⟨rfl,rfl,rfl⟩
theorem N9(N:Nat->Prop)(l:List Obj)(z:Int):OX N l (k9 l z)/\OE l (k9 l z):=by
 unfold k9;split
 .rename_i o ho;exact⟨OX.set N ho ⟨rfl,rfl,rfl⟩,OE.set ho rfl⟩
 .exact⟨.refl _ _,.refl _⟩
theorem J1{k:Kr}(h:KI k){c:Cl}{f:R4}(hf:f.fC=0->f.bn= -1\/fS k.l f.bn)(he:(cg k c f).2.2=0):
  ∃j:Nat,(cg k c f).2.1=j/\OX (λi=>i=j) k.l (cg k c f).1.l/\OE k.l (cg k c f).1.l/\(cg k c f).1.ops=k.ops/\(cg k c f).1.ps=k.ps:=by
 unfold Kn.cg at he|-;split at he
 .rename_i h1;exact absurd he h1
 rename_i h1;rw[if_neg h1];have hf:=hf (Z5 h1);split at he
 .rename_i h2;rw[if_pos h2];split at he
  .cases he
  .rename_i h3;rw[if_neg h3];exact t7 h HG he
 .rename_i h2;rw[if_neg h2];split at he
  .cases he
  .rename_i h3;rw[if_neg h3];rcases hf with hf|⟨j,x,hj,_,_⟩
   .exact absurd (by show f.bn<0;omega) h2
   .exact⟨j,hj,.refl _ _,.refl _,rfl,rfl⟩
theorem m7{ps:List bl}{p:Nat}{y:bl}(hp:ps[p]? =some y)(S:List fk)(t:Nat):(dk ps p S)[t]? =if t=p then some {y with aV:=S}else ps[t]? :=by
 by_cases e:t=p
 .subst e;rw[if_pos rfl];exact gp hp S
 .rw[if_neg e];exact jM e S
theorem xH{k:Kr}{p:Nat}{y:bl}(hp:k.ps[p]? =some y)(b7:y.aQ=true){l1 l2:List Obj}{bn:Nat}(hox:OX (λi=>i=bn) k.l l2)(hoe:OE k.l l2){b9:Int}{R:Kr}{i:Nat}{S:List fk}(O:RY ⟨l1,k.ops,k.ps⟩ p y bn b9 R i S):nW k ⟨l2,R.ops,R.ps⟩:=by
 have eo:∀m:Nat,R.ops[m]? =if m=i then some ⟨(bn:Int),0⟩else k.ops[m]? :=O.o
 have ep:R.ps=dk k.ps p S:=O.ps;have R0:R.ps[p]? =some {y with aV:=S}:=by rw[ep];exact gp hp S
 refine⟨λj o ho hk=>?_,λm o ho h0=>?_,λt z hz hl=>?_,λj o ho hk=>?_,λm o ho=>?_,λt z hz hl=>?_⟩
 .obtain⟨o',h1,h2,h3,h4⟩:=hox.m j o ho hk;exact⟨o',h1,h2,h3,hoe j o o' ho hk h1,λz hz=>.inl (by unfold sQ;rw[h4];exact hz)⟩
 .refine⟨o,?_,rfl⟩;show R.ops[m]? =_;rw[eo,if_neg λe=>?_]
  .exact ho
  .subst e;have:=O.zU o ho;omega
 .by_cases e:t=p
  .subst e;rw[hp]at hz;cases hz;exact⟨_,R0,hl,λs hs hh=>⟨s,O.old s hs hh,hh,rfl⟩⟩
  .exact⟨z,by show R.ps[t]? =_;rw[ep,jM e];exact hz,hl,λs hs hh=>⟨s,hs,hh,rfl⟩⟩
 .rcases hox.n j o ho hk with h1|⟨rfl,_⟩
  .exact .inl h1
  .exact .inr ⟨p,_,⟨true,i,b9⟩,i,⟨(j:Int),0⟩,R0,b7,O.new,rfl,rfl,by show R.ops[i]? =_;rw[eo,if_pos rfl],rfl⟩
 .have ho:R.ops[m]? =some o:=ho;rw[eo]at ho;split at ho
  .rename_i e;subst e;exact .inr ⟨p,_,⟨true,m,b9⟩,R0,b7,O.new,rfl,rfl⟩
  .exact .inl ho
 .have hz:R.ps[t]? =some z:=hz;rw[ep,m7 hp]at hz;split at hz
  .rename_i e;subst e;exact .inl ⟨y,hp,b7⟩
  .exact .inl ⟨z,hz,hl⟩
theorem J2{k:Kr}{p:Nat}{y:bl}(hp:k.ps[p]? =some y)(b7:y.aQ=true){S:List fk}(hS:∀s,s∈y.aV->s.has=true->∃s',s'∈S/\s'.has=true/\s'.dP=s.dP):nW k ⟨k.l,k.ops,dk k.ps p S⟩:=by
 refine⟨λj o ho hk=>⟨o,ho,rfl,rfl,λ_ h=>h,λ_ h=>.inl h⟩,λm o ho h0=>⟨o,ho,rfl⟩,λt z hz hl=>?_,λj o ho hk=>.inl ⟨o,ho,hk⟩,λm o ho=>.inl ho,λt z hz hl=>?_⟩
 .by_cases e:t=p
  .subst e;rw[hp]at hz;cases hz;exact⟨_,gp hp S,hl,hS⟩
  .exact⟨z,by show(dk k.ps p S)[t]? =_;rw[jM e];exact hz,hl,λs hs hh=>⟨s,hs,hh,rfl⟩⟩
 .have hz:(dk k.ps p S)[t]? =some z:=hz;rw[m7 hp]at hz;split at hz
  .rename_i e;subst e;exact .inl ⟨y,hp,b7⟩
  .exact .inl ⟨z,hz,hl⟩
theorem zM{k:Kr}(h:KI k){p:Nat}{y:bl}(hp:k.ps[p]? =some y)(b7:y.aQ=true){c:Cl}{ar:Int}{ax:Bool}(he:(f4 k p c ar ax).2.fC=0):
  (∃N,OX N k.l (f4 k p c ar ax).1.l)/\nW k (f4 k p c ar ax).1/\∃z,(f4 k p c ar ax).1.ps[p]? =some z/\z.aQ=true:=by
 unfold f4 jq at he|-;split at he
 .rename_i h1;exact absurd he h1
 rename_i h1;rw[if_neg h1];obtain⟨j,g1,g2,g3,g4,g5⟩:=J1 h (h.Qe ar c.cJ ax true) (Z5 h1);generalize cg k c (iO k ar c.cJ ax true)=X at*
 obtain⟨K1,z,e1⟩:=X;obtain⟨l1,o1,p1⟩:=K1;have g4:o1=k.ops:=g4;have g5:p1=k.ps:=g5;have g1:z=j:=g1;subst g4 g5 g1;simp only at he h1 g2 g3|-;split at he
 .rename_i h2;exact absurd he h2
 rename_i h2;rw[if_neg h2];obtain⟨i,S,O⟩:=kH (k:=⟨l1,k.ops,k.ps⟩) hp (Z5 h2);generalize aI ⟨l1,k.ops,k.ps⟩ p (j:Nat) c.ba=RR at*
 obtain⟨⟨rl,ro,rp⟩,fd,e2⟩:=RR;have hl:rl=l1:=O.l;subst hl;have pz:∃z,rp[p]? =some z/\z.aQ=true:=⟨{y with aV:=S},by rw[show rp=dk k.ps p S from O.ps];exact gp hp S,b7⟩
 split
 .obtain⟨t1,t2⟩:=N9 (λi=>i=j) rl (j:Nat)
  exact⟨⟨_,g2.trans t1⟩,xH hp b7 (g2.trans t1) (OE.trans g2 g3 t2) O,pz⟩
 .exact⟨⟨_,g2⟩,xH hp b7 g2 g3 O,pz⟩
theorem oV{k:Kr}(h:KI k){p:Nat}{y:bl}(hp:k.ps[p]? =some y)(b7:y.aQ=true){c:Cl}(he:(gm k p c).2.fC=0):
  (∃N,OX N k.l (gm k p c).1.l)/\nW k (gm k p c).1/\∃z,(gm k p c).1.ps[p]? =some z/\z.aQ=true:=by
 unfold gm at he|-;split at he
 .cases he
 rename_i h1;rw[if_neg h1];split at he
 .rename_i h2;rw[if_pos h2];exact zM h hp b7 he
 rename_i h2;rw[if_neg h2];split at he
 .rename_i h3;exact absurd he h3
 rename_i h3;rw[if_neg h3];exact zM h hp b7 he
end Kn
namespace Kn
theorem Oa(k:Kr)(p:Nat)(l:List fk)(e:Int):(fh k p l e).l=k.l:=by unfold fh;split<;>rfl
theorem QA(k:Kr)(z a:Int):(sf k z a).l=k.l:=rfl
theorem Oc{k:Kr}(h:KI k){p:Nat}{c:Cl}(he:(hU k p c).2.fC=0):∃N,OX N k.l (hU k p c).1.l:=by
 refine⟨λ_=>False,?_⟩
 unfold hU mi at he|-;split at he
 .rename_i h1;exact absurd he h1
 rename_i h1;rw[if_neg h1];obtain⟨n,op,j,x,e1,e2,e3,e4,e5,e6,_⟩:=h.bo (Z5 h1);have OD:ld k.l (Kn.bo k p c.fd (nN c.ah)).2.1=x:=by rw[e3,ld,aac,e5];rfl
 rw[OD]at he|-;split at he
 .rename_i h4;rw[if_pos h4];unfold tN;split
  .exact .refl _ _
  .exact .refl _ _
 rename_i h4;rw[if_neg h4];split at he
 .rename_i h5;rw[if_pos h5];unfold oO at he|-;split at he
  .rename_i h6;exact absurd he h6
  rename_i h6;rw[if_neg h6];obtain⟨_,_,_,_,_,w6⟩:=sh (h.sm x (RD e5)) (Z5 h6);rw[QA,e3,setObj,aac];exact OX.set _ e5 (by rw[w6];exact⟨rfl,rfl,rfl⟩)
 .rename_i h5;rw[if_neg h5];unfold qD;split
  .exact .refl _ _
  .exact .refl _ _
theorem QB{k:Kr}(h:KI k){p:Nat}{c:Cl}(he:(j8 k p c).2.fC=0):∃N,OX N k.l (j8 k p c).1.l:=by
 have he:(iP k c (Kn.bo k p c.fd (sn c))).2=0:=he;show ∃N,OX N k.l (iP k c (Kn.bo k p c.fd (sn c))).1.l;unfold iP at he|-;split at he
 .rename_i h1;exact absurd he h1
 rename_i h1;rw[if_neg h1];split at he
 .rename_i h2;exact absurd he h2.2
 rename_i h2;rw[if_neg h2];unfold nO at he|-;split at he
 .rename_i h3;exact absurd he h3
 rename_i h3;rw[if_neg h3];split at he
 .cases he
 rename_i h4;rw[if_neg h4];split at he
 .rename_i h5;rw[if_pos h5];split at he
  .cases he
  rename_i h6;rw[if_neg h6];have he:(Dj k (iO k (Kn.bo k p c.fd (sn c)).2.1 c.cJ true false)).2.2=0:=he;show ∃N,OX N k.l (bP k _ _).l;rw[bP,if_pos he];exact⟨λ_=>False,J0 h _ he⟩
 rename_i h5;rw[if_neg h5];split at he
 .cases he
 rename_i h6;rw[if_neg h6];split at he
 .rename_i h7;rw[if_pos h7];obtain⟨j,_,g,_⟩:=t7 h (HH _) he;exact⟨_,g⟩
 .rename_i h7;rw[if_neg h7];obtain⟨j,_,g,_⟩:=t7 h NP he;exact⟨_,g⟩
theorem QE{l:List fk}{fd:Int}(h:(C9 l fd).2.2=0):∀s,s∈l->s.has=true->s∈(C9 l fd).1:=by
 unfold C9 Tb.tz at h|-;split at h
 .rename_i h1;simp only[if_pos h1];exact(xE (l:=l) (o:=(Tb.ec (l.map mf) fd).1.dP) (r:=(Tb.ec (l.map mf) fd).1.b9) h).2
 .rename_i h1;exact absurd h h1
theorem QF{l:List fk}{fd n:Int}(h:(Da l fd n).2=0):∀s,s∈l->s.has=true->∃s',s'∈(Da l fd n).1/\s'.has=true/\s'.dP=s.dP:=by
 intro s hs hh;unfold Da Tb.yk at h|-;split at h
 .rename_i h1;obtain⟨i,t,hi,h3,h4,h5,h6⟩:=mZ (l:=l) (fd:=fd) h1;split at h
  .cases h
  rename_i h2;split at h
  .cases h
  rename_i h9;simp only[if_pos h1,if_neg h2,if_neg h9];obtain⟨q,hq⟩:=Xt hs;have x4:i<l.length:=(I4.1 h3).1;have e1:(Tb.ec (l.map mf) fd).1.dP=t.dP:=by rw[h6]
  by_cases e:q=i
  .subst e;rw[h3]at hq;cases hq;refine⟨OH ⟨true,⟨(Tb.ec (l.map mf) fd).1.dP,n⟩⟩,aak.2 ⟨_,?_,rfl⟩,rfl,e1⟩;rw[hi,aac];exact List.mem_set (by simpa using x4) _
  .refine⟨s,aak.2 ⟨mf s,?_,rfl⟩,hh,rfl⟩;rw[hi,aac];refine RD (i:=q) ?_;rw[WE (λe2=>e e2.symm),RA,hq];rfl
 .rename_i h1;exact absurd h h1
theorem sD{k:Kr}{p:Nat}{y:bl}(hp:k.ps[p]? =some y)(b7:y.aQ=true){c:Cl}(he:(l4 k p c).2.fC=0)(h7:c.ah≠7):nW k (l4 k p c).1/\∃z,(l4 k p c).1.ps[p]? =some z/\z.aQ=true:=by
 have zi:ay k.ps p=y.aV:=by rw[ay,hp]
 have he:(lZ (ay k.ps p) c).2.2=0:=he;show nW k (fh k p _ _)/\∃z,(fh k p _ _).ps[p]? =some z/\z.aQ=true;rw[fh,if_pos he];refine⟨J2 hp b7 ?_,⟨_,gp hp _,b7⟩⟩;rw[zi]at he|-;unfold lZ at he|-;rw[if_neg h7]at he|-;split
 .rename_i h8;rw[if_pos h8]at he;intro s hs hh;exact⟨s,QE he s hs hh,hh,rfl⟩
 .rename_i h8;rw[if_neg h8]at he;exact QF he
theorem xI{k:Kr}(h:KI k){p:Nat}{y:bl}(hp:k.ps[p]? =some y)(b7:y.aQ=true)(he:(jL k p).2.fC=0):
  (∃N,OX N k.l (jL k p).1.l)/\nW k (jL k p).1/\∃z,(jL k p).1.ps[p]? =some z/\z.aQ=true:=by
 unfold Kn.jL zx at he|-;split at he
 .rename_i h1;exact absurd he h1
 rename_i h1;rw[if_neg h1];obtain⟨_,a,b,_,C,_⟩:=xr h.ll (Z5 h1);generalize fq k.l=P at*
 obtain⟨l1,⟨ea,eb⟩,e0⟩:=P;have hea:ea=a:=C.ea;have UC:eb=b:=C.eb;subst hea UC;unfold uH at he|-;split at he
 .rename_i h2;exact absurd he h2
 rename_i h2;rw[if_neg h2];obtain⟨i1,S1,O1⟩:=kH (k:=⟨l1,k.ops,k.ps⟩) hp (Z5 h2);simp only at he h2 O1|-;generalize aI ⟨l1,k.ops,k.ps⟩ p (a:Nat) 896=RR at*
 obtain⟨⟨l2,o2,p2⟩,fd1,e1⟩:=RR;have V2:l2=l1:=O1.l;subst V2;have gV:∀m:Nat,o2[m]? =if m=i1 then some ⟨(a:Int),0⟩else k.ops[m]? :=O1.o
 have xU:p2=dk k.ps p S1:=O1.ps;have T0:p2[p]? =some {y with aV:=S1}:=by rw[xU];exact gp hp S1
 split at he
 .rename_i h3;exact absurd he h3
 rename_i h3;rw[if_neg h3];obtain⟨i2,S2,O2⟩:=kH (k:=⟨l2,o2,p2⟩) T0 (Z5 h3);simp only at h3 O2|-;generalize aI ⟨l2,o2,p2⟩ p (b:Nat) 896=RR at*
 obtain⟨⟨l3,o3,p3⟩,fD,e2⟩:=RR;have XQ:l3=l2:=O2.l;subst XQ;have Yp:∀m:Nat,o3[m]? =if m=i2 then some ⟨(b:Int),0⟩else o2[m]? :=O2.o
 have hp3:p3=dk p2 p S2:=O2.ps;have J3:p3[p]? =some {y with aV:=S2}:=by rw[hp3];exact gp T0 S2
 have XC:i1≠i2:=λe=>by
  have:=O2.zU ⟨(a:Int),0⟩ (by show o2[i2]? =_;rw[gV,if_pos e.symm])
  have this:(a:Int)<0:=this;omega
 have T1:∀o,k.ops[i1]? =some o->o.bn<0:=O1.zU;have T2:∀o,k.ops[i2]? =some o->o.bn<0:=λo ho=>O2.zU o (by show o2[i2]? =_;rw[gV,if_neg XC.symm];exact ho)
 have dt:∀i o,k.l[i]? =some o->o.ah≠0->i≠a/\i≠b:=λi o ho hk=>⟨λe=>hk (C.za o (e▸ho)),λe=>hk (C.zb o (e▸ho))⟩
 have go:∀i,i≠a->i≠b->l3[i]? =k.l[i]? :=C.go;have ga:l3[a]? =some (bN b):=C.ga;have gb:l3[b]? =some (bN a):=C.gb;refine⟨⟨λi=>i=a\/i=b,λi o ho hk=>⟨o,by rw[go i (dt i o ho hk).1 (dt i o ho hk).2];exact ho,rfl,rfl,rfl⟩,λi o ho hk=>?_⟩,⟨λj o ho hk=>⟨o,by rw[show(Kr.mk l3 o3 p3).l=l3 from rfl,go j (dt j o ho hk).1 (dt j o ho hk).2];exact ho,rfl,rfl,λ_ h=>h,λ_ h=>.inl h⟩,λm o ho h0=>?_,λt z hz hl=>?_,λj o ho hk=>?_,λm o ho=>?_,λt z hz hl=>?_⟩,⟨_,J3,b7⟩⟩
 .by_cases e:i=a
  .subst e;rw[ga]at ho;cases ho;exact .inr ⟨.inl rfl,rfl⟩
  by_cases e2:i=b
  .subst e2;rw[gb]at ho;cases ho;exact .inr ⟨.inr rfl,rfl⟩
  .rw[go i e e2]at ho;exact .inl ⟨o,ho,hk⟩
 .refine⟨o,?_,rfl⟩;show o3[m]? =_;rw[Yp,if_neg (λe=>by subst e;have:=T2 o ho;omega),gV,if_neg (λe=>by subst e;have:=T1 o ho;omega)]
  exact ho
 .by_cases e:t=p
  .subst e;rw[hp]at hz;cases hz;exact⟨_,J3,hl,λs hs hh=>⟨s,O2.old s (O1.old s hs hh) hh,hh,rfl⟩⟩
  .exact⟨z,by show p3[t]? =_;rw[hp3,jM e,xU,jM e];exact hz,hl,λs hs hh=>⟨s,hs,hh,rfl⟩⟩
 .have ho:l3[j]? =some o:=ho;by_cases e:j=a
  .subst e;exact .inr ⟨p,_,⟨true,i1,896⟩,i1,⟨(j:Int),0⟩,J3,b7,O2.old _ O1.new rfl,rfl,rfl,by show o3[i1]? =_;rw[Yp,if_neg XC,gV,if_pos rfl],rfl⟩
  by_cases e2:j=b
  .subst e2;exact .inr ⟨p,_,⟨true,i2,896⟩,i2,⟨(j:Int),0⟩,J3,b7,O2.new,rfl,rfl,by show o3[i2]? =_;rw[Yp,if_pos rfl],rfl⟩
  .rw[go j e e2]at ho;exact .inl ⟨o,ho,hk⟩
 .have ho:o3[m]? =some o:=ho;rw[Yp]at ho;split at ho
  .rename_i e;subst e;exact .inr ⟨p,_,⟨true,m,896⟩,J3,b7,O2.new,rfl,rfl⟩
  .rw[gV]at ho;split at ho
   .rename_i e;subst e;exact .inr ⟨p,_,⟨true,m,896⟩,J3,b7,O2.old _ O1.new rfl,rfl,rfl⟩
   .exact .inl ho
 .have hz:p3[t]? =some z:=hz;rw[hp3,m7 T0]at hz;split at hz
  .rename_i e;subst e;exact .inl ⟨y,hp,b7⟩
  .rename_i e;rw[xU,jM e]at hz;exact .inl ⟨z,hz,hl⟩
end Kn
namespace Kn
theorem zN{k:Kr}{p:Nat}{fd need:Int}(h:(bo k p fd need).2.2=0):(fv (ay k.ps p) fd).2=0/\(bo k p fd need).2.1=lJ k p fd/\(bo k p fd need).1=(fv (ay k.ps p) fd).1/\Tb.gW need (fv (ay k.ps p) fd).1.2=true:=by
 have key:(gE (ay k.ps p) fd need).2=0->gE (ay k.ps p) fd need=fv (ay k.ps p) fd/\Tb.gW need (fv (ay k.ps p) fd).1.2=true:=λh=>by
  unfold gE Tb.nM at h|-;split at h
  .cases h
  .rename_i hn;rw[if_neg hn];refine⟨rfl,?_⟩;cases hx:Tb.gW need (fv (ay k.ps p) fd).1.2 with
   |true=>rfl
   |false=>exact absurd ⟨h,hx⟩ hn
 unfold bo at h|-;split at h
 .rename_i hn;exact absurd h hn
 .rename_i hn;rw[if_neg hn];obtain⟨e,hw⟩:=key (Z5 hn);rw[e];refine⟨?_,rfl,rfl,hw⟩;rw[<-e];exact Z5 hn
theorem DG{k:Kr}(h:KI k){p:Nat}{x:bl}(hp:k.ps[p]? =some x)(b7:x.aQ=true)(he:(gD k p).2.2.2=0):
  ∃c:Nat,(gD k p).2.1=c/\c≠p/\(∃N,OX N k.l (gD k p).1.l)/\nW k (gD k p).1/\(∃S,(gD k p).1.ps[p]? =some {x with aV:=S})/\(gD k p).1.ps[c]? =some ⟨true,x.fenced,0,x.aV⟩:=by
 obtain⟨c,C⟩:=xw hp b7 he;obtain⟨g1,g2,g3,g4⟩:=zG hp C.le;obtain⟨j,j1,j2,j3,j4,-,-⟩:=fM C.em h.ll;have Kb:(gT k.ps p c)[p]? =some x:=by rw[g3 p C.ne];exact hp
 obtain⟨i,S,O⟩:=kH (k:=⟨(aF k.l (dd c)).1,k.ops,gT k.ps p c⟩) Kb C.eo;have i3:∀y,k.ps[c]? =some y->y.aQ=false:=λy hy=>by have:=C.aS (I4.1 hy).1;unfold rV at this;rw[hy]at this;have this:(!y.aQ&& !(k.l.any (dC (c:Nat))))=true:=this;rw[aab]at this;simpa using this.1
 rw[C.R];refine⟨c,rfl,C.ne.symm,?_⟩;generalize (aI ⟨(aF k.l (dd c)).1,k.ops,gT k.ps p c⟩ p (aF k.l (dd c)).2.1 3200).1=R at O;have el:R.l=(aF k.l (dd c)).1:=O.l;have eo:∀m:Nat,R.ops[m]? =if m=i then some ⟨(aF k.l (dd c)).2.1,0⟩else k.ops[m]? :=O.o
 have ep:R.ps=dk (gT k.ps p c) p S:=O.ps;have hRc:R.ps[c]? =some ⟨true,x.fenced,0,x.aV⟩:=by rw[ep,jM C.ne.symm];exact g2
 have R0:R.ps[p]? =some {x with aV:=S}:=by rw[ep];exact gp Kb S
 have hRt:∀t:Nat,t≠c->t≠p->R.ps[t]? =k.ps[t]? :=λt h1 h2=>by rw[ep,jM h2,g3 t h1]
 have dt:∀(i:Nat)(o:Obj),k.l[i]? =some o->o.ah≠0->i≠j:=λi o ho hk e=>hk (j4 o (e▸ho))
 have UE:∀(i:Nat)(o:Obj),k.l[i]? =some o->o.ah≠0->R.l[i]? =some o:=λi o ho hk=>by rw[el,j3 i (dt i o ho hk)];exact ho
 refine⟨⟨λi=>i=j,λi o ho hk=>⟨o,UE i o ho hk,rfl,rfl,rfl⟩,λi o ho hk=>?_⟩,⟨λi o ho hk=>⟨o,UE i o ho hk,rfl,rfl,λ_ h=>h,λ_ h=>.inl h⟩,λm o ho h0=>?_,λt y hy hl=>?_,λn o ho hk=>?_,λm o ho=>?_,λt y hy hl=>?_⟩,⟨S,R0⟩,hRc⟩
 .rw[el]at ho;by_cases e:i=j
  .subst e;rw[j2]at ho;cases ho;exact .inr ⟨rfl,rfl⟩
  .rw[j3 i e]at ho;exact .inl ⟨o,ho,hk⟩
 .refine⟨o,?_,rfl⟩;rw[eo,if_neg λe=>?_]
  .exact ho
  .subst e;have:=O.zU o ho;omega
 .by_cases e:t=p
  .subst e;rw[hp]at hy;cases hy;exact⟨_,R0,hl,λs hs hh=>⟨s,O.old s hs hh,hh,rfl⟩⟩
  .refine⟨y,?_,hl,λs hs hh=>⟨s,hs,hh,rfl⟩⟩
   rw[hRt t (λe2=>?_) e]
   .exact hy
   .subst e2;rw[i3 y hy]at hl;cases hl
 .rw[el]at ho;by_cases e:n=j
  .subst e;exact .inr ⟨p,_,⟨true,i,3200⟩,i,⟨(aF k.l (dd c)).2.1,0⟩,R0,b7,O.new,rfl,rfl,by rw[eo,if_pos rfl],j1⟩
  .rw[j3 n e]at ho;exact .inl ⟨o,ho,hk⟩
 .rw[eo]at ho;split at ho
  .rename_i e;subst e;exact .inr ⟨p,_,⟨true,m,3200⟩,R0,b7,O.new,rfl,rfl⟩
  .exact .inl ho
 .by_cases e:t=c
  .subst e;exact .inr ⟨dd t,RD (by rw[el];exact j2),by simp[dC,dd]⟩
  .by_cases e2:t=p
   .subst e2;exact .inl ⟨x,hp,b7⟩
   .rw[hRt t e e2]at hy;exact .inl ⟨y,hy,hl⟩
theorem DH{k:Kr}(h:KI k){p:Nat}{y:bl}(hp:k.ps[p]? =some y)(b7:y.aQ=true){c:Cl}(he:(i9 k p c).2.fC=0):
  ∃(n:Nat)(o:Obj)(x:br)(r:List br),(fv (ay k.ps p) c.fd).2=0/\lJ k p c.fd=n/\k.l[n]? =some o/\o.ah=4/\o.aj=x::r/\(i9 k p c).1.l=k.l.set n {o with aj:=r}/\nW k (i9 k p c).1/\
   ∃z,(i9 k p c).1.ps[p]? =some z/\z.aQ=true:=by
 unfold Kn.i9 zw at he|-;split at he
 .rename_i h1;exact absurd he h1
 rename_i h1;rw[if_neg h1];obtain⟨w1,w2,_⟩:=zN (Z5 h1);rw[w2]at he|-;unfold zu at he|-;split at he
 .rename_i h2;exact absurd he h2
 rename_i h2;rw[if_neg h2];obtain⟨n,o,x,r,e1,e2,e3,e4,e5,e6⟩:=qI (Z5 h2);have zi:ay k.ps p=y.aV:=by rw[ay,hp]
 have jT:=(I4.1 e2).1;refine⟨n,o,x,r,w1,e1,e2,e3,e4,?_⟩;rw[e6]at he|-;have ext:∀nY,(∀(t:Nat)z,k.ps[t]? =some z->z.aQ=true->∃z':bl,nY[t]? =some z'/\z'.aQ=true/\∀s,s∈z.aV->s.has=true->∃s',s'∈z'.aV/\s'.has=true/\s'.dP=s.dP)->
   (∀(t:Nat)z,nY[t]? =some z->z.aQ=true->∃z0,k.ps[t]? =some z0/\z0.aQ=true)->
   (x.has=true->∃(t:Nat)(y:bl)(s:fk),nY[t]? =some y/\y.aQ=true/\s∈y.aV/\s.has=true/\s.dP=x.dP)->nW k ⟨k.l.set n {o with aj:=r},k.ops,nY⟩:=λnY a1 a2 a3=>by
  refine⟨λi b hb hk=>?_,λm b hb h0=>⟨b,hb,rfl⟩,a1,λi b hb hk=>?_,λm b hb=>.inl hb,λt z hz hl=>.inl (a2 t z hz hl)⟩
  .by_cases e:n=i
   .subst e;rw[e2]at hb;cases hb;refine⟨_,Tr jT,rfl,rfl,λ_ h=>h,λz⟨q,hq,hh,hz⟩=>?_⟩
    rw[e4]at hq;rcases aa1.1 hq with rfl|hq
    .obtain⟨t,y,s,b1,b2,b3,b4,b5⟩:=a3 hh;exact .inr ⟨t,y,s,b1,b2,b3,b4,b5.trans hz⟩
    .exact .inl ⟨q,hq,hh,hz⟩
   .exact⟨b,by show(k.l.set n _)[i]? =_;rw[WE e];exact hb,rfl,rfl,λ_ h=>h,λ_ h=>.inl h⟩
  .have hb:(k.l.set n {o with aj:=r})[i]? =some b:=hb
   by_cases e:n=i
   .subst e;rw[Tr jT]at hb;cases hb;exact .inl ⟨o,e2,hk⟩
   .rw[WE e]at hb;exact .inl ⟨b,hb,hk⟩
 split at he
 .rename_i h3;rw[if_pos h3];split at he
  .rename_i h4;exact absurd he h4
  rename_i h4;rw[if_neg h4];have h4:=Z5 h4;show(bP (fh k p _ 0) _ 0).l=_/\nW k (bP (fh k p _ 0) _ 0)/\∃z,(bP (fh k p _ 0) _ 0).ps[p]? =some z/\z.aQ=true;rw[bP,if_pos rfl,fh,if_pos rfl,e5];rw[zi]at h4|-;obtain⟨b1,b2⟩:=xE h4;refine⟨rfl,ext _ (λt z hz hl=>?_) (λt z hz hl=>?_) (λ_=>⟨p,_,⟨true,x.dP,x.b9⟩,gp hp _,b7,b1,rfl,rfl⟩),⟨_,gp hp _,b7⟩⟩
  .rw[m7 hp];by_cases e:t=p
   .subst e;rw[hp]at hz;cases hz;rw[if_pos rfl];exact⟨_,rfl,hl,λs hs hh=>⟨s,b2 s hs hh,hh,rfl⟩⟩
   .rw[if_neg e];exact⟨z,hz,hl,λs hs hh=>⟨s,hs,hh,rfl⟩⟩
  .rw[m7 hp]at hz;split at hz
   .rename_i e;subst e;exact⟨y,hp,b7⟩
   .exact⟨z,hz,hl⟩
 .rename_i h3;rw[if_neg h3];show(bP k _ 0).l=_/\nW k (bP k _ 0)/\∃z,(bP k _ 0).ps[p]? =some z/\z.aQ=true;rw[bP,if_pos rfl,e5];exact⟨rfl,ext k.ps (λt z hz hl=>⟨z,hz,hl,λs hs hh=>⟨s,hs,hh,rfl⟩⟩) (λt z hz hl=>⟨z,hz,hl⟩) (λhh=>absurd hh h3),⟨y,hp,b7⟩⟩
theorem Od{k:Kr}{p:Nat}{c:Cl}(he:(ke k p c).2.fC=0):
  ∃(n q:Nat)(o qo:Obj)(m:br),(fv (ay k.ps p) c.fd).2=0/\lJ k p c.fd=n/\k.l[n]? =some o/\o.aG=q/\k.l[q]? =some qo/\qo.ah=4/\(ke k p c).1.l=k.l.set q {qo with aj:=qo.aj++ [m]}:=by
 have key:∀r:List Obj×Int,(j9 k c r).2.fC=0->r.2=0:=λr hr=>by
  unfold j9 at hr;by_cases h1:r.2=0
  .exact h1
  .rw[if_pos h1]at hr;exact absurd hr h1
 unfold Kn.ke zs at he|-;split at he
 .rename_i h1;exact absurd he h1
 rename_i h1;rw[if_neg h1];obtain⟨w1,w2,_⟩:=zN (Z5 h1);rw[w2]at he|-;have iy:∀(m:br),(j9 k c (eP k.l (lJ k p c.fd) m)).2.fC=0->∃(n q:Nat)(o qo:Obj)(m':br),(fv (ay k.ps p) c.fd).2=0/\lJ k p c.fd=n/\k.l[n]? =some o/\o.aG=q/\k.l[q]? =some qo/\qo.ah=4/\(j9 k c (eP k.l (lJ k p c.fd) m)).1.l=k.l.set q {qo with aj:=qo.aj++ [m']}:=λm hr=>by have h1:=key _ hr;obtain⟨n,q,o,qo,e1,e2,_,e4,e5,e6,_,_,e9⟩:=xt h1;refine⟨n,q,o,qo,m,w1,e1,e2,e4,e5,e6,?_⟩;show(bP k _ _).l=_;rw[bP,if_pos h1];exact e9
 unfold xj at he|-;split at he
 .rename_i h2;rw[if_pos h2];split at he
  .rename_i h3;exact absurd he h3
  rename_i h3;rw[if_neg h3];exact iy _ he
 .rename_i h2;rw[if_neg h2];exact iy _ he
theorem Oe{k:Kr}(h:KI k){p:Nat}{y:bl}(hp:k.ps[p]? =some y)(b7:y.aQ=true){c:Cl}(he:(eX k p c).2.fC=0):∃N,OX N k.l (eX k p c).1.l:=by
 have hf:∀l',l'=k.l->∃N,OX N k.l l':=λl' e=>⟨λ_=>False,e▸ .refl _ _⟩
 have ex:∀z n:Int,(kg k (ij k z n)).1.l=k.l:=λz n=>by
  unfold kg;split
  .rename_i h1;unfold ij at h1|-;split
   .rename_i h2;rw[if_pos h2]at h1;cases h1
   .rename_i h2;rw[if_neg h2]at h1;split
    .rename_i h3;rw[if_pos h3]at h1;cases h1
    .rfl
  .rfl
 unfold eX at he|-;split at he
 .rename_i h1;rw[if_pos h1];exact hf _ rfl
 rename_i h1;rw[if_neg h1];split at he
 .rename_i h2;rw[if_pos h2];exact hf _ rfl
 rename_i h2;rw[if_neg h2];split at he
 .rename_i h3;rw[if_pos h3];unfold pS at he|-;split at he
  .rename_i h4;exact absurd he h4
  .rename_i h4;rw[if_neg h4];obtain⟨_,_,_,g,_⟩:=DG h hp b7 (Z5 h4);exact g
 rename_i h3;rw[if_neg h3];split
 .exact hf _ (ex _ _)
 .generalize Kn.bo k p c.fd (if c.ah=20 then 2048 else 1024)=w
  unfold mj;split
  .exact hf _ rfl
  .unfold tR;split
   .exact hf _ rfl
   .split
    .split<;>exact hf _ rfl
    .exact hf _ (ex _ _)
theorem XD{k:Kr}(h:KI k){p:Nat}{y:bl}(hp:k.ps[p]? =some y)(b7:y.aQ=true){c:Cl}(he:(fF k p c).2.fC=0)(Gp:c.ah≠16)(DE:c.ah≠17):∃N,OX N k.l (fF k p c).1.l:=by
 have hf:∀l',l'=k.l->∃N,OX N k.l l':=λl' e=>⟨λ_=>False,e▸ .refl _ _⟩
 unfold fF at he|-;split at he
 .rename_i a;rw[if_pos a];exact(oV h hp b7 he).1
 rename_i a;rw[if_neg a];split at he
 .rename_i a;rw[if_pos a];exact Oc h he
 rename_i a;rw[if_neg a];split at he
 .rename_i a;rw[if_pos a];exact hf _ (Oa _ _ _ _)
 rename_i a;rw[if_neg a];split at he
 .rename_i a;rw[if_pos a];exact hf _ rfl
 rename_i a;rw[if_neg a];split at he
 .rename_i a;rw[if_pos a];exact QB h he
 rename_i a;rw[if_neg a];split at he
 .rename_i a;rw[if_pos a];exact(xI h hp b7 he).1
 rename_i a;rw[if_neg a,if_neg Gp,if_neg DE];exact Oe h hp b7 he
theorem HR{k:Kr}(h:KI k){p:Nat}{y:bl}(hp:k.ps[p]? =some y)(b7:y.aQ=true){c:Cl}(he:(fF k p c).2.fC=0)(ht:DD c.ah):
  nW k (fF k p c).1/\(∃z,(fF k p c).1.ps[p]? =some z/\z.aQ=true)/\(c.ah=18->∃n:Nat,(fF k p c).2.n=n/\n≠p/\(fF k p c).1.ps[n]? =some ⟨true,y.fenced,0,y.aV⟩):=by
 unfold fF at he|-;rcases ht with hk|hk|hk|hk|hk|hk|hk
 .rw[if_pos (.inl hk)]at he|-;exact⟨(oV h hp b7 he).2.1,(oV h hp b7 he).2.2,λe=>om⟩
 .rw[if_pos (.inr hk)]at he|-;exact⟨(oV h hp b7 he).2.1,(oV h hp b7 he).2.2,λe=>om⟩
 .rw[if_neg om,if_neg om,if_pos om]at he|-;exact⟨(sD hp b7 he om).1,(sD hp b7 he om).2,λe=>om⟩
 .rw[if_neg om,if_neg om,if_pos om]at he|-;exact⟨(sD hp b7 he om).1,(sD hp b7 he om).2,λe=>om⟩
 .rw[if_neg om,if_neg om,if_neg om,if_neg om,if_neg om,if_pos om]at he|-;exact⟨(xI h hp b7 he).2.1,(xI h hp b7 he).2.2,λe=>om⟩
 .rw[if_neg om,if_neg om,if_neg om,if_neg om,if_neg om,if_neg om,if_neg om,if_pos om]at he|-;obtain⟨_,_,_,_,_,_,_,_,_,_,g1,g2⟩:=DH h hp b7 he;exact⟨g1,g2,λe=>om⟩
 .rw[if_neg om,if_neg om,if_neg om,if_neg om,if_neg om,if_neg om,if_neg om,if_neg om]at he|-;unfold eX at he|-;rw[if_neg om,if_neg om,if_pos hk]at he|-;unfold pS at he|-;split at he
  .rename_i h4;exact absurd he h4
  .rename_i h4;rw[if_neg h4];obtain⟨n,a1,a2,_,a3,⟨S,a4⟩,a5⟩:=DG h hp b7 (Z5 h4);exact⟨a3,⟨_,a4,b7⟩,λ_=>⟨n,a1,a2,a5⟩⟩
end Kn
namespace Kn
structure GI(k:Kr)(W:Wt):Prop where
 ki:KI k
 sw:N3 k
 nd:(W.map (·.1)).Nodup
 ky:∀e,e∈W->∃(j:Nat)(o:Obj),e.1=j/\k.l[j]? =some o/\o.ah=4
 ln:∀(j:Nat)o,k.l[j]? =some o->o.ah=4->((gv j W).getD []).length=o.aj.length
 nn:∀e,e∈W->∀x,x∈e.2->0<=x.1
theorem GI.T3:GI ef []:=by
 refine⟨Qs,N5,aC,aC,λj o ho hk=>?_,aC⟩
 have:o=gu:=by have hm:=RD ho;simpa[ef]using hm
 subst this;simp[gu]at hk
theorem HS(i j:Int)(p:Nat)(c:Cl)(a:An)(b k:Kr)(W:Wt):(eA i p c a b k W).1=(eA j p c a b k W).1:=by
 unfold eA;repeat' split
 all_goals rfl
def pV(prog:List dA)(c:Cl)(k:Kr)(W:Wt):Wt:=if(lI prog k c).2.fC=0 then(eA 0 c.aA.toNat c (lI prog k c).2 k (lI prog k c).1 W).1 else W
theorem sF{x:Int}:∀{W:Wt}{v:List (Int×Int)},gv x W=some v->(x,v)∈W
 | [],_,h=>by cases h
 |e::r,v,h=>by
  rw[gv]at h;split at h
  .rename_i hx;cases h;obtain⟨a,b⟩:=e;simp at hx;subst hx;simp
  .exact abX _ (sF h)
theorem HT{x:Int}{v:List (Int×Int)}:∀{W:Wt},(W.map (·.1)).Nodup->(x,v)∈W->gv x W=some v
 | [],_,h=>by cases h
 |e::r,hn,h=>by
  rw[aa9,abJ]at hn;rw[gv];rcases aa1.1 h with h1|h1
  .rw[<-h1,if_pos rfl]
  .have dt:¬x=e.1:=λh2=>hn.1 (h2▸aak.2 ⟨(x,v),h1,rfl⟩)
   rw[if_neg dt];exact HT hn.2 h1
theorem xJ(x:Int)(v:List (Int×Int)):∀W:Wt,gv x (js x v W)=some v
 | []=>by rw[js,gv,if_pos rfl]
 |e::r=>by
  rw[js];split
  .rw[gv,if_pos rfl]
  .rename_i h;rw[gv,if_neg h];exact xJ x v r
theorem oW{x z:Int}(dt:z≠x)(v:List (Int×Int)):∀W:Wt,gv z (js x v W)=gv z W
 | []=>by simp[js,gv,dt]
 |e::r=>by
  rw[js];split
  .rename_i h;rw[gv,gv,if_neg dt,if_neg (by rw[<-h];exact dt)]
  .rw[gv,gv,oW dt v r]
theorem m8{x:Int}{v:List (Int×Int)}:∀{W:Wt}{e:Int×List (Int×Int)},e∈js x v W->e=(x,v)\/e∈W
 | [],e,h=>by rw[js]at h;exact .inl (by simpa using h)
 |y::r,e,h=>by
  rw[js]at h;split at h
  .rcases aa1.1 h with h|h
   .exact .inl h
   .exact .inr (abX _ h)
  .rcases aa1.1 h with h|h
   .exact .inr (h▸List.mem_cons_self)
   .exact(m8 h).imp id (abX _)
theorem Bv{x:Int}{v:List (Int×Int)}:∀{W:Wt},(W.map (·.1)).Nodup->((js x v W).map (·.1)).Nodup
 | [],_=>by rw[js];simp
 |y::r,h=>by
  rw[aa9,abJ]at h;rw[js];split
  .rename_i hx;rw[aa9,abJ];exact⟨by rw[hx];exact h.1,h.2⟩
  .rename_i hx;rw[aa9,abJ];refine⟨λhm=>?_,Bv h.2⟩
   obtain⟨e,he,e1⟩:=aak.1 hm;rcases m8 he with rfl|he
   .exact hx e1
   .exact h.1 (e1▸aak.2 ⟨e,he,rfl⟩)
theorem t8{l:List Obj}{x:Int}(hk:fO l x=true):∀W:Wt,gv x (sB l W)=gv x W
 | []=>rfl
 |e::r=>by
  rw[sB,abW,gv];split
  .rename_i h1;rw[gv];split
   .rfl
   .exact t8 hk r
  .rename_i h1;rw[if_neg (λh2=>h1 (by rw[<-h2];exact hk))]
   exact t8 hk r
theorem QG{k:Kr}(h:KI k){n:Nat}{o:Obj}(ho:(gK k).l[n]? =some o)(hk:o.ah≠0):∃o':Obj,k.l[n]? =some o'/\o'.ah=o.ah/\o'.aj=o.aj:=by
 obtain⟨a,c,h1,h2,h3⟩:=(ii h.kr).ex;obtain⟨o',g1,g2⟩:=(E5 h.kr h1 h2 h3).1.2 n o ho hk;exact⟨o',g1,by rw[g2],by rw[g2]⟩
def LN(l:List Obj)(W:Wt):Prop:=∀(j:Nat)o,l[j]? =some o->o.ah=4->((gv j W).getD []).length=o.aj.length
theorem LN.ox{N:Nat->Prop}{k:Kr}{W:Wt}(h:GI k W){l':List Obj}(hx:OX N k.l l'):LN l' W:=λj o' fj fU=>by
 rcases hx.n j o' fj om with⟨o,ho,hk⟩|⟨_,hq⟩
 .obtain⟨b,g1,g2,_,g4⟩:=hx.m j o ho hk;rw[fj]at g1;cases g1;rw[g4];exact h.ln j o ho om
 .by_cases hex:∃o,k.l[j]? =some o/\o.ah=4
  .obtain⟨o,ho,hk⟩:=hex;obtain⟨b,g1,g2,_,g4⟩:=hx.m j o ho om;rw[fj]at g1;cases g1;rw[g4];exact h.ln j o ho hk
  .rw[hq];cases hw:gv j W with
   |none=>rfl
   |some v=>
    obtain⟨j',o,e1,e2,e3⟩:=h.ky _ (sF hw);have:j'=j:=by simp at e1;omega
    subst this;exact absurd ⟨o,e2,e3⟩ hex
theorem GI.op{prog:List dA}{k:Kr}{W:Wt}(h:GI k W){p:Nat}{c:Cl}(hc:c.aA=p)(hp:p<k.ps.length)(b7:k.ps[p].aQ=true)(he:(fF k p c).2.fC=0)(a:An)(k2:Kr):
  LN (fF k p c).1.l (eA 0 p c a k k2 W).1/\((eA 0 p c a k k2 W).1.map (·.1)).Nodup/\(∀e,e∈(eA 0 p c a k k2 W).1->∃j:Nat,e.1=j)/\(∀e,e∈(eA 0 p c a k k2 W).1->∀x,x∈e.2->0<=x.1)/\
   ((c.ah=16\/c.ah=17)->(fv (ay k.ps p) c.fd).2=0)/\(c.ah=17->∃x r,gv (lJ k p c.fd) W=some (x::r)):=by
 have V1:=uX hp;have XE:∀e,e∈W->∃j:Nat,e.1=j:=λe he=>by obtain⟨j,_,h1,_⟩:=h.ky e he;exact⟨j,h1⟩
 by_cases Gp:c.ah=16
 .have dH:fF k p c=ke k p c:=by unfold fF;rw[if_neg om,if_neg om,if_neg om,if_neg om,if_neg om,if_neg om,if_pos Gp]
  rw[dH]at he|-;obtain⟨n,q,o,qo,m,w1,e1,e2,e3,e4,e5,e6⟩:=Od he;have x5:lq k.l (lJ k p c.fd)=q:=by rw[e1,lq,aac,e2];exact e3
  have lw:(eA 0 p c a k k2 W).1=js (q:Nat) ((gv (q:Nat) W).getD []++ [(c.aA,c.fD)]) W:=by unfold eA;rw[if_neg om,if_neg om,if_neg om,if_neg om,if_pos Gp,x5]
  rw[lw,e6];refine⟨λj o' fj fU=>?_,Bv h.nd,λe he=>?_,λe he x hx=>?_,λ_=>w1,λe=>om⟩
  .by_cases e:q=j
   .subst e;rw[Tr (I4.1 e4).1]at fj;cases fj;rw[xJ];have:=h.ln q qo e4 e5;simp[this]
   .rw[WE e]at fj;rw[oW om];exact h.ln j o' fj fU
  .rcases m8 he with rfl|he
   .exact⟨q,rfl⟩
   .exact XE e he
  .rcases m8 he with rfl|he
   .rcases abD.1 hx with hx|hx
    .cases hw:gv (q:Nat) W with
     |none=>rw[hw]at hx;simp at hx
     |some v=>rw[hw]at hx;exact h.nn _ (sF hw) x hx
    .have:x=(c.aA,c.fD):=by simpa using hx
     rw[this,hc];show(0:Int)<=(p:Nat);omega
   .exact h.nn e he x hx
 by_cases DE:c.ah=17
 .have dH:fF k p c=i9 k p c:=by unfold fF;rw[if_neg om,if_neg om,if_neg om,if_neg om,if_neg om,if_neg om,if_neg om,if_pos DE]
  rw[dH]at he|-;obtain⟨n,o,x,r,w1,e1,e2,e3,e4,e5,_,_⟩:=DH h.ki V1 b7 he;have JV:=h.ln n o e2 e3;rw[e4]at JV;cases hw:gv (n:Nat) W with
  |none=>rw[hw]at JV;simp at JV
  |some v=>
   rw[hw]at JV;cases v with
   |nil=>simp at JV
   |cons z v=>
    have JV:v.length=r.length:=by simpa using JV
    have lw:(eA 0 p c a k k2 W).1=js (n:Nat) v W:=by unfold eA;rw[if_neg om,if_neg om,if_neg om,if_neg om,if_neg om,if_pos DE,e1,hw]
    rw[lw,e5,e1];refine⟨λj o' fj fU=>?_,Bv h.nd,λe he=>?_,λe he x hx=>?_,λ_=>w1,λ_=>⟨z,v,hw⟩⟩
    .by_cases e:n=j
     .subst e;rw[Tr (I4.1 e2).1]at fj;cases fj;rw[xJ];exact JV
     .rw[WE e]at fj;rw[oW om];exact h.ln j o' fj fU
    .rcases m8 he with rfl|he
     .exact⟨n,rfl⟩
     .exact XE e he
    .rcases m8 he with rfl|he
     .exact h.nn _ (sF hw) x (abX _ hx)
     .exact h.nn e he x hx
 .have lw:(eA 0 p c a k k2 W).1=W:=by
   unfold eA;rw[if_neg Gp,if_neg DE];repeat' split
   all_goals rfl
  rw[lw];obtain⟨N,hx⟩:=XD h.ki V1 b7 he Gp DE;exact⟨LN.ox h hx,h.nd,XE,h.nn,λe=>om,λe=>absurd e DE⟩
theorem J4{prog:List dA}{k:Kr}(h:KI k)(hs:N3 k){p:Nat}{c:Cl}(hp:p<k.ps.length)(b7:k.ps[p].aQ=true)(he:(fF k p c).2.fC=0)(ht:DD c.ah):gK (fF k p c).1=IU (fF k p c).1:=
 h.XB hs (h.op (uX hp) b7 he) (HR h (uX hp) b7 he ht).1
theorem GI.in_{prog:List dA}{k:Kr}{W:Wt}(h:GI k W){c:Cl}(he:(lI prog k c).2.fC=0):Bt c (lI prog k c).2 k (lI prog k c).1 W c.aA.toNat:=by
 obtain⟨p,hc,hp,hl,_,_,ho,e⟩:=Bp he;have Ks:c.aA.toNat=p:=by rw[hc];rfl
 rw[Ks];have Oz:=h.ki.do_ prog c;obtain⟨g1,g2,g3,g4,g5,g6⟩:=h.op (prog:=prog) hc hp hl ho (lI prog k c).2 (lI prog k c).1;have AG:=λht=>HR h.ki (uX hp) hl ho ht
 have ei:DD c.ah->∀(t:Nat)z,(fF k p c).1.ps[t]? =some z->z.aQ=true->(lI prog k c).1.ps[t]? =some z:=λht t z hz hlz=>by rw[e];show(gK (fF k p c).1).ps[t]? =some z;rw[J4 (prog:=prog) h.ki h.sw hp hl ho ht];exact N4 hz hlz
 refine⟨h.ki,Oz,hc,hp,λht=>?_,g5,λx hx=>?_,g6,λOL=>?_⟩
 .obtain⟨z,hz,hlz⟩:=(AG ht).2.1;exact(I4.1 (ei ht p z hz hlz)).1
 .obtain⟨j,o,e1,e2,e3⟩:=h.ky x hx;have hw:gv (j:Nat) W=some x.2:=HT h.nd (by rw[<-e1];exact hx)
  have:=h.ln j o e2 e3;rw[hw]at this;have hq:=(h.ki.sm o (RD e2)).q;have this:x.2.length=o.aj.length:=this;omega
 .have ht:DD c.ah:= .inr (.inr (.inr (.inr (.inr (.inr OL)))));obtain⟨n,a1,_,a2⟩:=(AG ht).2.2 OL;refine⟨n,by rw[e];exact a1,(I4.1 (ei ht n _ a2 rfl)).1⟩
theorem GI.mid{prog:List dA}{k:Kr}{W:Wt}(h:GI k W)(c:Cl):((pV prog c k W).map (·.1)).Nodup/\∀e,e∈pV prog c k W->∃j:Nat,e.1=j:=by
 unfold pV;by_cases he:(lI prog k c).2.fC=0
 .rw[if_pos he];obtain⟨p,hc,hp,hl,_,_,ho,e⟩:=Bp he;have Ks:c.aA.toNat=p:=by rw[hc];rfl
  rw[Ks];obtain⟨g1,g2,g3,g4,g5,g6⟩:=h.op (prog:=prog) hc hp hl ho (lI prog k c).2 (lI prog k c).1;exact⟨g2,g3⟩
 .rw[if_neg he];exact⟨h.nd,λe he=>by obtain⟨j,_,h1,_⟩:=h.ky e he;exact⟨j,h1⟩⟩
theorem GI.next{prog:List dA}{k:Kr}{W:Wt}(h:GI k W)(c:Cl):GI (lI prog k c).1 (sB (lI prog k c).1.l (pV prog c k W)):=by
 have hm:=h.mid (prog:=prog) c;have JV:LN (lI prog k c).1.l (pV prog c k W)/\∀e,e∈pV prog c k W->∀x,x∈e.2->0<=x.1:=by
  unfold pV;by_cases he:(lI prog k c).2.fC=0
  .rw[if_pos he];obtain⟨p,hc,hp,hl,_,_,ho,e⟩:=Bp he;have Ks:c.aA.toNat=p:=by rw[hc];rfl
   rw[Ks];obtain⟨g1,g2,g3,g4,g5,g6⟩:=h.op (prog:=prog) hc hp hl ho (lI prog k c).2 (lI prog k c).1;refine⟨λj o hj hk=>?_,g4⟩
   have hj:(gK (fF k p c).1).l[j]? =some o:=by rw[e]at hj;exact hj
   obtain⟨o',q1,q2,q3⟩:=QG (h.ki.op (uX hp) hl ho) hj om;rw[<-q3];exact g1 j o' q1 om
  .rw[if_neg he];obtain⟨e,h2⟩:=HM he;rw[h2];exact⟨h.ln,h.nn⟩
 refine⟨h.ki.do_ prog c,Qt h.ki h.sw c,(List.filter_sublist.map _).nodup hm.1,λe he=>?_,λj o ho hk=>?_,λe he=>JV.2 e (ab6.1 he).1⟩
 .obtain⟨OS,jY⟩:=ab6.1 he;obtain⟨j,hj⟩:=hm.2 e OS;rw[hj]at jY;unfold fO at jY;rw[aac]at jY;cases ho:(lI prog k c).1.l[j]? with
  |none=>rw[ho]at jY;cases jY
  |some o=>rw[ho]at jY;exact⟨j,o,hj,ho,by simpa using jY⟩
 .have oo:fO (lI prog k c).1.l (j:Nat)=true:=by unfold fO;rw[aac,ho];simpa using hk
  rw[t8 oo];exact JV.1 j o ho hk
theorem DI(k:Kr)(i:Int)(p:Nat)(fd h f g:Int):(eQ k i p fd h f g).length<=1:=by unfold eQ;split<;>simp
theorem DJ(k:Kr)(i:Int)(n:Nat)(f:Int):∀L:List Int,(fT k i n f L).length<=L.length
 | []=>by simp[fT]
 |y::r=>by
  have h1:fT k i n f (y::r)=eQ k i n y 3 f y++fT k i n f r:=by rw[fT,fT,List.flatMap_cons]
  have:=DJ k i n f r;have:=DI k i n y 3 f y;rw[h1,aba,aah];omega
theorem J5{i:Int}{c:Cl}{a:An}{b k:Kr}{W:Wt}{p:Nat}(h:Bt c a b k W p):(eA i p c a b k W).2.length<=12:=by
 have hc:=λfd h f g=>DI k i p fd h f g
 have yK:(ay b.ps p).length<=10:=by rw[d5 h.pb];exact h.kb.sl _ (aal h.pb)
 have hL:(Gm (ay b.ps p)).length<=10:=by have:=Tb.rT ((ay b.ps p).map mf) 0;rw[ML]at this;exact abH this yK
 unfold eA;split
 .have:=hc a.n 1 (-1) 0;show(eQ k i p a.n 1 (-1) 0).length<=12;omega
 split
 .have:=hc a.n 3 c.aA c.fd;show(eQ k i p a.n 3 c.aA c.fd).length<=12;omega
 split
 .have:=hc c.fd 3 c.aA c.fd;show(eQ k i p c.fd 3 c.aA c.fd).length<=12;omega
 split
 .have:=hc a.n 2 (-1) 0;have:=hc a.m 2 (-1) 0;show(eQ k i p a.n 2 (-1) 0++eQ k i p a.m 2 (-1) 0).length<=12;rw[aba];omega
 split
 .simp
 split
 .split
  .rename_i x r _;show(if a.m>=0 then eQ k i p a.m 3 x.1 x.2 else []).length<=12
   split
   .have:=hc a.m 3 x.1 x.2;omega
   .simp
  .simp
 split
 .have:=DJ k i a.n.toNat c.aA (Gm (ay b.ps p));have:=hc a.m 2 (-1) 0;show(fT k i a.n.toNat c.aA (Gm (ay b.ps p))++eQ k i p a.m 2 (-1) 0).length<=12;rw[aba];omega
 .simp
theorem QH(prog:List dA)(i:Nat)(c:Cl)(g:Gs):(gF prog i c g).W=sB (lI prog g.k c).1.l (pV prog c g.k g.W):=by
 unfold gF pV;simp only;split
 .rw[HS i 0]
 .rfl
theorem GI.step{prog:List dA}{g:Gs}(h:GI g.k g.W)(i:Nat)(c:Cl):GI (gF prog i c g).k (gF prog i c g).W:=by rw[QH];exact h.next c
theorem GI.run{prog:List dA}:∀{g:Gs}(i:Nat)(cs:List Cl),GI g.k g.W->GI (gg prog g i cs).k (gg prog g i cs).W
 |_,_,[],h=>h
 |_,i,c::r,h=>GI.run (i+1) r (h.step i c)
theorem J6{prog:List dA}{g:Gs}(h:GI g.k g.W)(i:Nat)(c:Cl):(gF prog i c g).out.length<=g.out.length+12:=by
 show(g.out++_).length<=_;rw[aba];by_cases he:(lI prog g.k c).2.fC=0
 .rw[if_pos he];have:=J5 (i:=i) (h.in_ he);omega
 .rw[if_neg he];simp
theorem xK{prog:List dA}:∀{g:Gs}(i:Nat)(cs:List Cl),GI g.k g.W->(gg prog g i cs).out.length<=g.out.length+12*cs.length
 |_,_,[],_=>by simp[gg]
 |g,i,c::r,h=>by have h1:=xK (prog:=prog) (i+1) r (h.step (prog:=prog) i c);have h2:=J6 (prog:=prog) h i c;show(gg prog (gF prog i c g) (i+1) r).out.length<=_;rw[aah];omega
end Kn
end Go.Proofs.YtodckkkbiidffaaGreatDoor
namespace Go.Proofs.YtodckkkbiidffaaGreatDoor
open Proofs.Tryz
open Go.AM Go.ChangeShapes Go.WideShapes Go.ChangeAt Go.RowKit
def c14:LF:= ⟨96,[.tmp 4,.tmp 5],(.seq (.ai [qu 4 (.aK qe),qu 5 (.aK (qi 0))]) (.seq (.ai [qm 16 0,qu 17 (qc 17 [16]),qm 15 17,qu 18 (.ext 15 0),qu 19 (.ext 15 1),qu 7 (.alloc [qd 0,qd 0]),qm 6 18,qw (.store 2 7 19)]) (.seq (.seq (.ai [qf 20 0 7,ql 21 20,qu 22 (.aJ .neq 21 (qi 0))]) (.cond 22 (.seq (.bR [qf 23 0 7,ql 24 23,qu 4 (.aK qe),qm 5 24] [(.cons 0 none (.cons 1 none (.cons 2 none (.cons 3 none .nil))))]) .ret) .skip)) (.seq (.seq (.ai [qm 25 1,qu 26 (.len 1 25),qu 27 (.aJ .gtr 26 (qi 80))]) (.cond 27 (.seq (.ai [qu 4 (.aK qe),qu 5 (.aK (qi 5))]) .ret) .skip)) (.seq (.ai [qu 28 (qc 18 []),qu 29 (.ua),qu 30 (.build [.aO,.aO,.aO,(.aa (.val (.map none))),.aO] [(0,3,28),(3,1,29)]),qu 31 (.box 30),qm 8 31]) (.seq (.seq (.ai [qm 32 1,qu 33 (.len 1 32),qu 34 (.aK (qi 0))]) (.block 0 (.loop (.seq (.ai [qu 35 (.aJ .lss 34 33)]) (.seq (.cond 35 .skip (.exit 0)) (.seq (.block 1 (.seq (.ai [qm 36 34,qu 37 (.cw 9 32 34),qL 38 9 37,qu 10 (.alloc [qd 0,qd 0,qd 0,qd 0,qd 0,qd 0,qd 0,(.aa (.val (.string ⟨#[]⟩))),.aO]),qm 9 36,qw (.store 9 10 38)]) (.seq (.ai [qm 39 8,qu 40 (.aP 39),qf 41 0 40,qL 42 3 41,qu 11 (.alloc [.aO,.aO,.aO]),qw (.store 3 11 42)]) (.seq (.bR [qm 44 6,qm 45 8,qu 46 (.aP 45),qf 47 0 46,qL 48 3 47,qL 49 9 10,qu 50 (qc 19 [44,48,49]),qm 43 50,qu 51 (.ext 43 0),qu 52 (.ext 43 1),qu 12 (.alloc [.aO,.aO,.aO]),qu 13 (.alloc [qd 0,qd 0,qd 0,.aO]),qw (.store 3 12 51),qw (.store 4 13 52)] [(.cons 0 none (.cons 1 none (.cons 2 none (.cons 3 none (.cons 4 none (.cons 5 none (.vn (.cons 6 (some []) (.cons 7 none (.cons 8 none (.cons 9 none (.vn (.cons 10 (some [5,4]) (.cons 11 (some [5,4]) (.cons 12 (some []) (.cons 13 (some []) .nil)))) (.cons 11 (some [5,4]) (.cons 10 (some [5,4]) (.cons 12 (some []) (.cons 13 (some []) .nil))))))))) (.vn (.cons 10 (some [5,4]) (.vn (.cons 6 (some []) (.cons 7 none (.cons 8 none (.cons 9 none (.cons 11 (some [5,4]) (.cons 12 (some []) (.cons 13 (some []) .nil))))))) (.cons 11 (some [5,4]) (.cons 6 (some []) (.cons 7 none (.cons 8 none (.cons 9 none (.cons 12 (some []) (.cons 13 (some []) .nil))))))))) (.cons 11 (some [5,4]) (.vn (.cons 6 (some []) (.cons 7 none (.cons 8 none (.cons 9 none (.cons 10 (some [5,4]) (.cons 12 (some []) (.cons 13 (some []) .nil))))))) (.cons 10 (some [5,4]) (.cons 6 (some []) (.cons 7 none (.cons 8 none (.cons 9 none (.cons 12 (some []) (.cons 13 (some []) .nil)))))))))))))))))]) (.cS (.seq (.ai [qm 53 8,qL 54 3 12,qu 55 (.aP 53),qf 56 0 55,qw (.store 3 56 54)]) (.seq (.seq (.ai [qf 57 0 13,ql 58 57,qu 59 (.aJ .eql 58 (qi 0))]) (.cond 59 (.ai [qm 60 8,qm 61 9,qu 62 (qc 20 [60,61,10,13,11])]) .skip)) (.cS (.seq (.ai [qm 63 8,qu 64 (.aP 63),qf 65 3 64,ql 66 65,qu 67 (.UN 66)]) (.block 2 (.loop (.seq (.ai [qu 68 (.sH 67),qu 69 (.ext 68 0)]) (.seq (.cond 69 .skip (.exit 2)) (.block 3 (.seq (.ai [qu 70 (.UO 67),qu 71 (.ext 70 0),qm 14 71]) (.seq (.ai [qm 72 14,qf 73 0 12,ql 74 73,qu 75 (.len 1 74),qu 76 (.aJ .geq 72 75),qm 77 76,qg 78 (.cj 0 12) 77 false,qg 79 (.load false 1 78) 77 false,qg 80 (.aK 14) 77 false,qg 81 (.cw 9 79 80) 77 false,qg 82 (.cj 0 81) 77 false,qg 83 (.load false 1 82) 77 false,qg 84 (.aJ .neq 83 (qi 4)) 77 false,qu 85 (.pick 77 (qb true) 84)]) (.cond 85 (.ai [qm 86 8,qu 87 (.aP 86),qf 88 3 87,ql 89 88,qm 90 14,qw (.Kz (.i .i64) 89 90)]) .skip))))))))))))))))) (.ai [qu 91 (.aJ .add 34 (qi 1)),qm 34 91]))))))) (.seq (.ai [qm 92 8,qu 93 (.aP 92),qf 94 4 93,ql 95 94,qm 4 95,qu 5 (.aK (qi 0))]) .ret)))))))⟩
namespace Kn
def abd(L:List Sp):Dt:= .sl 8 (L.map Sp.enc)
def mq(L:List Sp)(e:Int):CV:= .bz [.one (.aa (abd L)),cK e]
theorem DK{m:Mem}{e:Int}:cQ m (.bz [.one .aO,cK e]) (mq [] e):=by
 refine .bz rfl λi r r' h1 h2=>?_
 match i,h1,h2 with
 |0,h1,h2=>cases h1;cases h2;exact .one (.aO 8)
 |1,h1,h2=>cases h1;cases h2;exact e7.self rfl
 |n+2,h1,h2=>simp at h1
def g0:Gs:=⟨ef,[],[]⟩
def TrQ(l:List cR)(cs:List Cl)(r:CV)(m:Mem):Prop:=((cG l).1≠0->cQ m r (mq [] (cG l).1))/\((cG l).1=0->cs.length>80->cQ m r (mq [] 5))/\
   ((cG l).1=0->cs.length<=80->∃l',l'.Perm l/\gq l'/\cQ m r (mq (gg (dm l') g0 0 cs).out 0))
theorem Yq(Y:Nat->Nat)(m:Mem)(Z:Nat->Prop)(id:Nat)(W:Wt)(so:Option (List Nat×Nat)):l9 Y m Z id (.mo 2 (oU W) so) (.mo 2 (oU W) so):=by have:=l9.mo (Y:=Y) (m:=m) (Z:=Z) (id:=id) 2 (oU W) so;rwa [HP]at this
theorem J7(W:Wt)(i:Nat):(oU W).eraseIdx i=oU (W.eraseIdx i):=(Go.ChangeMaps.map_eraseIdx _ _ _).symm
theorem zO{Y:Nat->Nat}{m:Mem}(c:Cl)(a2:An)(k k2:Kr)(W:Wt)(out:List Sp)(h0:cD m (Y 0)=some (.var [.aa (db k.l),.aa (eN k.ops),.aa (gd k.ps),.map (Y 1),.row (Y 2) 8 0 none]))(h1:cD m (Y 1)=some (lu W))(h2:cD m (Y 2)=some (eK out))(h3:cD m (Y 3)=some (cB c))(h4:cD m (Y 4)=some (aB a2))(h5:cD m (Y 5)=some (kB k))(h6:cD m (Y 6)=some (kB k2)):e8 Y m (λk=>bw [] k=true) 0 [gB k 1 2,lu W,eK out,cB c,aB a2,kB k,kB k2]:=
 .put (dy rfl) h0 (.eq rfl (ja _ _ _)) (.put (dy rfl) h1 (.eq (fm _ _) (ju _)) (.put (dy rfl) h2 (.bI rfl) (.put (dy rfl) h3 (.eq rfl (cf _)) (.put (dy rfl) h4 (.eq rfl (xF _)) (.put (dy rfl) h5 (.eq rfl (iR _)) (.put (dy rfl) h6 (.eq rfl (iR _)) (.nil _)))))))
theorem l14:bu prog Tryz.f14=some c14.er:=by kernel_rfl
theorem Gq(l:List cR)(cs:List Cl)(eB:xD cs):body Tryz.prog c14 [eJ l,oT cs] [] (TrQ l cs):=by
 refine Qq l (λhw=>?_) (λhw l' hp hr=>?_)
 .refine bs (λhe=>?_) (λhe=>absurd he hw)
  exact⟨λ_=>DK,λh=>absurd h hw,λh=>absurd h hw⟩
 .generalize hpg:dm l'=prog;refine aL (λOf=>?_) (λOf=>?_)
  .have Of:cs.length>80:=by have Of:((cs.map Cl.enc).length:Int)>80:=Of;rw[ML]at Of;omega
   exact⟨λh=>absurd hw h,λ_ _=>DK,λ_ h=>om⟩
  have Of:cs.length<=80:=by have Of:¬((cs.map Cl.enc).length:Int)>80:=Of;rw[ML]at Of;omega
  refine Qr ?_;refine bb (λi=>i<=cs.length) [6,32,33] (λi=>[(34,an .i64 (i:Nat)),(8,.rv (.one (.ptr 0 0)))])
   (λi=>[gB (gg prog g0 0 (cs.take i)).k 1 2,lu (gg prog g0 0 (cs.take i)).W,eK (gg prog g0 0 (cs.take i)).out]) (λi=>cs.length-i) 0 (aaj _) ?_ (λi hi=>?_)
  .refine View.trans (View.ZD 2 4 8 3 rfl rfl rfl rfl) (View.o1 4 [2,1,3] [] ?_)
   .exact .pt rfl rfl (.eq rfl (ja _ _ _)) (.pt rfl rfl (.Zw 2) (.pn rfl rfl rfl))
  have hi:i<=cs.length:=hi;refine aL (λh=>?_) (λh=>?_)
  .have aD:i<cs.length:=by have h:(i:Int)<((cs.map Cl.enc).length:Int):=h;rw[ML]at h;omega
   have hgi:=GI.run (prog:=prog) (g:=g0) 0 (cs.take i) GI.T3;have B4:=xK (prog:=prog) (g:=g0) 0 (cs.take i) GI.T3;have ht:cs.take (i+1)=cs.take i++ [cs[i]]:=rL (uX aD);have Yr:=zL prog (cs.take i) g0 0 cs[i];rw[<-ht,aan,abb,acr hi]at Yr;rw[aan]at B4;have B4:(gg prog g0 0 (cs.take i)).out.length<=960:=by have:g0.out.length=0:=rfl;omega
   have iS:=GI.in_ (prog:=prog) hgi (c:=cs[i]);have rQ:=GI.mid (prog:=prog) hgi cs[i];have hd:=eB.d _ (aal aD);refine ag (TY aD) ?_;generalize cs[i]=c at*
   generalize gg prog g0 0 (cs.take i)=g at*
   obtain⟨k,W,out⟩:=g;have XF:∀{m:Mem}{K:CV->Mem->Prop},K (UG (lI prog k c)) m->aq Tryz.prog 19 [.rv (.one (.aa (xl prog))),d9 k.l k.ops k.ps,c.cv] m K:=λhK=>TR prog k hgi.ki c hd hK
   unfold gF at Yr;unfold pV at rQ;generalize lI prog k c=D at*
   obtain⟨k2,a2⟩:=D;refine⟨XF ⟨trivial,⟨⟨rfl,rfl,trivial⟩,⟨rfl,rfl,trivial⟩,trivial,trivial,⟨km 96 [(6,.rv (.one (.aa (xl prog)))),(8,.rv (.one (.ptr 0 0))),(9,an .i64 (i:Nat)),(10,.rv (.one (.ptr 3 0))),(11,.rv (.one (.ptr 5 0))),(12,.rv (.one (.ptr 6 0))),(13,.rv (.one (.ptr 4 0))),(32,oT cs),(33,an .i64 ((cs.map Cl.enc).length:Nat)),(34,an .i64 (i:Nat))],[gB k 1 2,lu W,eK out,cB c,aB a2,kB k,kB k2]⟩,?v1,?rest⟩,⟨⟨rfl,rfl,trivial⟩,⟨rfl,rfl,trivial⟩,trivial,trivial,⟨km 96 [(6,.rv (.one (.aa (xl prog)))),(8,.rv (.one (.ptr 0 0))),(9,an .i64 (i:Nat)),(10,.rv (.one (.ptr 3 0))),(11,.rv (.one (.ptr 5 0))),(12,.rv (.one (.ptr 6 0))),(13,.rv (.one (.ptr 4 0))),(32,oT cs),(33,an .i64 ((cs.map Cl.enc).length:Nat)),(34,an .i64 (i:Nat))],[gB k 1 2,lu W,eK out,cB c,aB a2,kB k,kB k2]⟩,?v2,?rest⟩⟩,⟨⟨rfl,rfl,trivial⟩,XF ⟨trivial,⟨rfl,rfl,trivial⟩,trivial,trivial,⟨km 96 [(6,.rv (.one (.aa (xl prog)))),(8,.rv (.one (.ptr 0 0))),(9,an .i64 (i:Nat)),(10,.rv (.one (.ptr 3 0))),(11,.rv (.one (.ptr 5 0))),(12,.rv (.one (.ptr 6 0))),(13,.rv (.one (.ptr 4 0))),(32,oT cs),(33,an .i64 ((cs.map Cl.enc).length:Nat)),(34,an .i64 (i:Nat))],[gB k 1 2,lu W,eK out,cB c,aB a2,kB k,kB k2]⟩,?v3,?rest⟩,⟨⟨rfl,rfl,trivial⟩,XF ⟨trivial,trivial,trivial,⟨km 96 [(6,.rv (.one (.aa (xl prog)))),(8,.rv (.one (.ptr 0 0))),(9,an .i64 (i:Nat)),(10,.rv (.one (.ptr 3 0))),(11,.rv (.one (.ptr 5 0))),(12,.rv (.one (.ptr 6 0))),(13,.rv (.one (.ptr 4 0))),(32,oT cs),(33,an .i64 ((cs.map Cl.enc).length:Nat)),(34,an .i64 (i:Nat))],[gB k 1 2,lu W,eK out,cB c,aB a2,kB k,kB k2]⟩,?v4,?rest⟩⟩⟩,⟨⟨rfl,rfl,trivial⟩,XF ⟨trivial,⟨rfl,rfl,trivial⟩,trivial,trivial,⟨km 96 [(6,.rv (.one (.aa (xl prog)))),(8,.rv (.one (.ptr 0 0))),(9,an .i64 (i:Nat)),(10,.rv (.one (.ptr 3 0))),(11,.rv (.one (.ptr 5 0))),(12,.rv (.one (.ptr 6 0))),(13,.rv (.one (.ptr 4 0))),(32,oT cs),(33,an .i64 ((cs.map Cl.enc).length:Nat)),(34,an .i64 (i:Nat))],[gB k 1 2,lu W,eK out,cB c,aB a2,kB k,kB k2]⟩,?v5,?rest⟩,⟨⟨rfl,rfl,trivial⟩,XF ⟨trivial,trivial,trivial,⟨km 96 [(6,.rv (.one (.aa (xl prog)))),(8,.rv (.one (.ptr 0 0))),(9,an .i64 (i:Nat)),(10,.rv (.one (.ptr 3 0))),(11,.rv (.one (.ptr 5 0))),(12,.rv (.one (.ptr 6 0))),(13,.rv (.one (.ptr 4 0))),(32,oT cs),(33,an .i64 ((cs.map Cl.enc).length:Nat)),(34,an .i64 (i:Nat))],[gB k 1 2,lu W,eK out,cB c,aB a2,kB k,kB k2]⟩,?v6,?rest⟩⟩⟩⟩
   case v1=>
    refine View.o 7 [0,1,2,3,6,4,5] [] ?_ (zO c a2 k k2 W out rfl rfl rfl rfl rfl rfl rfl);repeat(first|exact .nil|refine .ap ?_|refine .eq rfl ?_)
   case v2=>
    refine View.o 7 [0,1,2,3,5,4,6] [] ?_ (zO c a2 k k2 W out rfl rfl rfl rfl rfl rfl rfl);repeat(first|exact .nil|refine .ap ?_|refine .eq rfl ?_)
   case v3=>
    refine View.o 7 [0,1,2,3,6,4,5] [] ?_ (zO c a2 k k2 W out rfl rfl rfl rfl rfl rfl rfl);repeat(first|exact .nil|refine .ap ?_|refine .eq rfl ?_)
   case v4=>
    refine View.o 7 [0,1,2,3,6,4,5] [] ?_ (zO c a2 k k2 W out rfl rfl rfl rfl rfl rfl rfl);repeat(first|exact .nil|refine .ap ?_|refine .eq rfl ?_)
   case v5=>
    refine View.o 7 [0,1,2,3,5,4,6] [] ?_ (zO c a2 k k2 W out rfl rfl rfl rfl rfl rfl rfl);repeat(first|exact .nil|refine .ap ?_|refine .eq rfl ?_)
   case v6=>
    refine View.o 7 [0,1,2,3,5,4,6] [] ?_ (zO c a2 k k2 W out rfl rfl rfl rfl rfl rfl rfl);repeat(first|exact .nil|refine .ap ?_|refine .eq rfl ?_)
   obtain⟨s,hs⟩:∃s:Wt×List Sp,s=if a2.fC=0 then eA i c.aA.toNat c a2 k k2 W else(W,[]):=⟨_,rfl⟩
   have abf:gg prog g0 0 (cs.take (i+1))=⟨k2,sB k2.l s.1,out++s.2⟩:=by rw[Yr,hs]
   have lB:(s.1.map (·.1)).Nodup/\∀e,e∈s.1->∃j:Nat,e.1=j:=by
    rw[hs];by_cases he:a2.fC=0
    .rw[if_pos he]at rQ|-;rw[HS i 0];exact rQ
    .rw[if_neg he]at rQ|-;exact rQ
   clear Yr rQ;refine bp (λhe=>?y1) (λhe=>?y2)
   case' y1=>
    have he:a2.fC=0:=he;rw[if_pos he]at hs;refine A6 i c a2 k k2 W out (by have:out.length<=960:=B4;omega) _ (iS he) (kB k2) s hs ?_
    refine⟨⟨km 96 [(6,.rv (.one (.aa (xl prog)))),(8,.rv (.one (.ptr 0 0))),(12,.rv (.one (.ptr 3 0))),(32,oT cs),(33,an .i64 ((cs.map Cl.enc).length:Nat)),(34,an .i64 (i:Nat))],[gB k2 1 2,lu s.1,eK (out++s.2),kB k2]⟩,
     View.o 8 [0,1,7,6] [] ?v7 (.pt rfl rfl (.eq rfl (ja _ _ _)) (.pt rfl rfl (.eq (fm _ _) (ju _)) (.pr rfl rfl rfl (.pt rfl rfl (.eq rfl (iR _)) (.nil _))))),?_⟩
    case v7=>repeat(first|exact .nil|refine .ap ?_|refine .eq rfl ?_)
   case' y2=>
    have he:¬a2.fC=0:=he;rw[if_neg he]at hs;refine⟨⟨km 96 [(6,.rv (.one (.aa (xl prog)))),(8,.rv (.one (.ptr 0 0))),(12,.rv (.one (.ptr 3 0))),(32,oT cs),(33,an .i64 ((cs.map Cl.enc).length:Nat)),(34,an .i64 (i:Nat))],[gB k2 1 2,lu s.1,eK (out++s.2),kB k2]⟩,
     View.o 7 [0,1,2,6] [] ?v8 (.pt rfl rfl (.eq rfl (ja _ _ _)) (.pt rfl rfl (.eq (by rw[hs];exact fm _ _) (ju _)) (.pt rfl rfl (.bI (by rw[hs,abO])) (.pt rfl rfl (.eq rfl (iR _)) (.nil _))))),?_⟩
    case v8=>repeat(first|exact .nil|refine .ap ?_|refine .eq rfl ?_)
   all_goals
    clear iS hs;refine λst gU hl abg afm=>?_
    obtain⟨L0,Ox⟩:∃L0:Pr,L0=s.1.zip st:=⟨_,rfl⟩;have hl:st.length=s.1.length:=by rw[hl];exact ML _
    have Oj:wL L0=s.1:=by rw[Ox,wL,List.map_fst_zip om]
    have QX:L0.map (·.2)=st:=by rw[Ox,List.map_snd_zip om]
    have GD:(L0.map (·.2)).Nodup:=by rw[QX];exact abg
    have XE:∀x,x∈L0->∃j:Nat,x.1.1=j:=λx hx=>lB.2 _ (by rw[<-Oj];exact aak.2 ⟨x,hx,rfl⟩)
    have FC:∀seen,((wL (u3 k2.l L0 seen)).map (·.1)).Nodup:=λseen=>by
     have h1:((wL L0).map (·.1)).Nodup:=by rw[Oj];exact lB.1
     exact((List.filter_sublist.map _).map _).nodup h1
    have ei:∀seen,(∀x,x∈(u3 k2.l L0 seen).map (·.2)->x∈seen)->wL (u3 k2.l L0 seen)=sB k2.l s.1:=λseen h=>by rw[TZ h,Oj]
    refine bb (λ_:List Nat=>True) [6,32,33,34] (λ_=>[(8,.rv (.one (.ptr 0 0))),(12,.rv (.one (.ptr 3 0))),(67,.rv (.one (.ptr 4 0)))])
     (λseen=>[gB k2 1 2,.mo 2 (oU (wL (u3 k2.l L0 seen))) (some ((u3 k2.l L0 seen).map (·.2),gU)),eK (out++s.2),kB k2,.iw 1 gU seen]) (λseen=>left L0 seen) [] trivial ?_ (λseen _=>?_)
    .refine View.o1 5 [0,1,2,3,4] [] (.pt rfl rfl (.eq rfl (ja _ _ _)) (.pt rfl rfl ?_ (.pr rfl rfl rfl (.pt rfl rfl (.eq rfl (iR _)) (.pm rfl rfl rfl)))))
     .rw[Qw,Oj,QX];exact Yq _ _ _ _ _ _
    refine⟨rfl,λfI=>?_,λj x sj hx II YT=>?_⟩
    .refine⟨i+1,aD,(show cs.length-(i+1)<cs.length-i by omega),View.o 5 [0,1,2] [] ?_ ?_⟩
     .repeat(first|exact .nil|refine .ap ?_|refine .put (.aU (aN om).symm) ?_|refine .eq rfl ?_)
     .rw[abf];refine .pt rfl rfl (.eq rfl (ja _ _ _)) (.pt rfl rfl (.eq ?_ (ju _)) (.pn rfl rfl rfl));rw[fm,lu,<-ei seen fI]
    .obtain⟨y,hy,Ir⟩:∃y,(u3 k2.l L0 seen)[j]? =some y/\x=wM y.1:=by rw[oU,wL,abM,RA]at hx;obtain⟨y,h1,h2⟩:=aao.1 hx;exact⟨y,h1,h2.symm⟩
     have hsy:sj=y.2:=by rw[RA,hy]at II;simpa using II.symm
     subst Ir hsy;have hyL:y∈L0:=(ab6.1 (RD hy)).1;obtain⟨q,hq⟩:=XE y hyL;refine⟨rfl,j,_,hx,II,?_⟩;obtain⟨⟨z,v⟩,sj⟩:=y;have hq:z=q:=hq;subst hq;have hF:iA (.int .i64 (q:Nat)) (oU (wL (u3 k2.l L0 seen))) 0=some (some (j,.dV (v.map wE))):=by
      rw[sC,N8 (q:Nat) _ 0 j ((q:Nat),v) (FC seen) (by rw[wL,RA,hy];rfl) rfl,abb];rfl
     have XG:fO k2.l (q:Nat)=false-> .mo 2 ((oU (wL (u3 k2.l L0 seen))).eraseIdx j) (some (((u3 k2.l L0 seen).map (·.2)).eraseIdx j,gU))=Bk.mo 2 (oU (wL (u3 k2.l L0 (sj::seen)))) (some ((u3 k2.l L0 (sj::seen)).map (·.2),gU)):=λhk=>by rw[Qy (x:=((((q:Nat):Int),v),sj)) hy GD hk,J7,wL,wL,Go.ChangeMaps.map_eraseIdx,Go.ChangeMaps.map_eraseIdx]
     have zd:fO k2.l (q:Nat)=true->u3 k2.l L0 (sj::seen)=u3 k2.l L0 seen:=λhk=>Qx (x:=((((q:Nat):Int),v),sj)) hyL rfl GD hk
     have T5:=Qz hyL YT;have hlen:((k2.l.map Obj.enc).length:Int)=(k2.l.length:Nat):=by rw[ML]
     refine aL (λd7=>?_) (λd7=>?_)
     .have d7:((q:Nat):Int)>=((k2.l.map Obj.enc).length:Int):=d7;have hk:fO k2.l (q:Nat)=false:=by unfold fO;rw[aac,aaZ om]
      refine ag hF ?_;refine⟨sj::seen,trivial,T5,View.o1 5 [0,1,2,3,4] [] (.pt rfl rfl (.eq rfl (ja _ _ _)) (.pt rfl rfl ?_ (.pr rfl rfl rfl (.pt rfl rfl (.eq rfl (iR _)) (.pm rfl rfl rfl)))))⟩
      .rw[XG hk];exact Yq _ _ _ _ _ _
     .have d7:¬((q:Nat):Int)>=((k2.l.map Obj.enc).length:Int):=d7;have G5:q<k2.l.length:=om;have SR:fO k2.l (q:Nat)=decide (k2.l[q].ah=4):=by unfold fO;rw[aac,uX G5]
      refine ag (AA G5) ?_;refine bs (λT6=>?_) (λT6=>?_)
      .have T6:k2.l[q].ah≠4:=T6;have hk:fO k2.l (q:Nat)=false:=by rw[SR];exact decide_eq_false T6
       refine ag hF ?_;refine⟨sj::seen,trivial,T5,View.o1 5 [0,1,2,3,4] [] (.pt rfl rfl (.eq rfl (ja _ _ _)) (.pt rfl rfl ?_ (.pr rfl rfl rfl (.pt rfl rfl (.eq rfl (iR _)) (.pm rfl rfl rfl)))))⟩
       .rw[XG hk];exact Yq _ _ _ _ _ _
      .have T6:k2.l[q].ah=4:=T6;have hk:fO k2.l (q:Nat)=true:=by rw[SR];exact decide_eq_true T6
       refine⟨sj::seen,trivial,T5,View.o1 5 [0,1,2,3,4] [] (.pt rfl rfl (.eq rfl (ja _ _ _)) (.pt rfl rfl ?_ (.pr rfl rfl rfl (.pt rfl rfl (.eq rfl (iR _)) (.pm rfl rfl rfl)))))⟩
       .rw[zd hk];exact Yq _ _ _ _ _ _
  .have m9:i=cs.length:=by have h:¬(i:Int)<((cs.map Cl.enc).length:Int):=h;rw[ML]at h;omega
   subst m9;rw[abe];subst hpg;refine⟨λh=>absurd hw h,λ_ h=>om,λ_ _=>⟨l',hp,hr,?_⟩⟩
   refine .bz rfl λi r r' h1 h2=>?_
   match i,h1,h2 with
   |0,h1,h2=>cases h1;cases h2;exact .one (eT.eU (ds:=(gg (dm l') g0 0 cs).out.map Sp.enc) rfl 0 none)
   |1,h1,h2=>cases h1;cases h2;exact e7.self rfl
   |n+2,h1,h2=>simp at h1
theorem xL(l:List cR)(cs:List Cl)(eB:xD cs){m:Mem}{K:CV->Mem->Prop}(h1:(cG l).1≠0->K (mq [] (cG l).1) m)(h2:(cG l).1=0->cs.length>80->K (mq [] 5) m)(h3:(cG l).1=0->cs.length<=80->∀l',l'.Perm l->gq l'->K (mq (gg (dm l') g0 0 cs).out 0) m):aq prog 14 [eJ l,oT cs] m K:=
 bg (b8 func14 l14 (Gq l cs eB)) (by simp[eJ,oT,CV.du,CC.du,RV.du]) λr m1 hf=>by
  by_cases hw:(cG l).1=0
  .by_cases h8:cs.length<=80
   .obtain⟨l',hp,hr,hf⟩:=hf.2.2 hw h8;exact⟨_,hf,h3 hw h8 l' hp hr⟩
   .exact⟨_,hf.2.1 hw om,h2 hw om⟩
  .exact⟨_,hf.1 hw,h1 hw⟩
end Kn
end Go.Proofs.YtodckkkbiidffaaGreatDoor
namespace Go.Proofs.YtodckkkbiidffaaGreatDoor
open Go.AM Go.ChangeShapes Go.WideShapes Go.ChangeAt Go.RowKit
namespace Kn
theorem xM{l l':List cR}(hw:(cG l).1=0)(hp:l'.Perm l)(hr:gq l')(r:pT):(tT (dm l') r).1=if qK l r=true then 1 else 0:=by obtain⟨Yo,hg,hd⟩:=uK hw;rw[NV r (λp h=>hg p (hp.mem_iff.1 h)) (by rw[hp.length_eq];exact Yo) hr,JR hp,JS hd]
end Kn
end Go.Proofs.YtodckkkbiidffaaGreatDoor
namespace Go.Proofs.YtodckkkbiidffaaGreatDoor
open Proofs.Tryz
open Go.AM Go.ChangeShapes Go.WideShapes Go.ChangeAt Go.RowKit
def c13:LF:= ⟨39,[.tmp 0],(.seq (.ai [qu 0 (.aK (qb false))]) (.seq (.ai [qu 4 (.build [qd 0,qd 0,qd 0,qd 0,qd 0,qd 0,qd 0,(.aa (.val (.string ⟨#[]⟩))),.aO] [(1,1,qi 8)]),qu 5 (.build [qd 0,qd 0,qd 0,qd 0,qd 0,qd 0,qd 0,(.aa (.val (.string ⟨#[]⟩))),.aO] [(1,1,qi 9),(2,1,qi 1),(6,1,qi 5)]),qu 6 (.build [qd 0,qd 0,qd 0,qd 0,qd 0,qd 0,qd 0,(.aa (.val (.string ⟨#[]⟩))),.aO] [(1,1,qi 18)]),qu 7 (.nC 9 [qd 0,qd 0,qd 0,qd 0,qd 0,qd 0,qd 0,(.aa (.val (.string ⟨#[]⟩))),.aO] 3 [(0,4),(1,5),(2,6)]),qu 8 (qc 14 [qe,7]),qm 3 8,qu 9 (.ext 3 0),qu 10 (.ext 3 1),qm 1 9,qm 2 10]) (.seq (.ai [qm 11 2,qu 12 (.aJ .eql 11 (qi 0)),qm 13 12,qg 14 (.aK 1) 13 true,qg 15 (.len 1 14) 13 true,qg 16 (.aJ .eql 15 (qi 5)) 13 true,qu 17 (.pick 13 16 (qb false)),qm 18 17,qg 19 (.aK 1) 18 true,qg 20 (.cw 8 19 (qi 1)) 18 true,qg 21 (.load true 8 20) 18 true,qg 22 (.build [qd 0,qd 0,qd 0,qd 0,qd 0,qd 0,qd 0,qd 0] [(0,1,qi 1),(2,1,qi 1),(3,1,qi 3),(5,1,qi 1),(6,1,qi 5)]) 18 true,qg 23 (.Kx false [.i,.i,.i,.i,.i,.i,.i,.i] 21 22) 18 true,qu 24 (.pick 18 23 (qb false)),qm 25 24,qg 26 (.aK 1) 25 true,qg 27 (.cw 8 26 (qi 4)) 25 true,qg 28 (.cj 3 27) 25 true,qg 29 (.load false 1 28) 25 true,qg 30 (.aJ .eql 29 (qi 2)) 25 true,qu 31 (.pick 25 30 (qb false)),qm 32 31,qg 33 (.aK 1) 32 true,qg 34 (.cw 8 33 (qi 2)) 32 true,qg 35 (.cj 1 34) 32 true,qg 36 (.load false 1 35) 32 true,qg 37 (.aJ .eql 36 (qi 1)) 32 true,qu 38 (.pick 32 37 (qb false)),qm 0 38]) .ret)))⟩
namespace Kn
theorem Og{l l1 l2:List cR}(hw:(cG l).1=0)(RW:l1.Perm l)(rC:gq l1)(xU:l2.Perm l)(qB:gq l2)(k:Kr)(c:Cl):lI (dm l1) k c=lI (dm l2) k c:=by unfold lI;rw[xM hw RW rC,xM hw xU qB]
theorem zP{l l1 l2:List cR}(hw:(cG l).1=0)(RW:l1.Perm l)(rC:gq l1)(xU:l2.Perm l)(qB:gq l2):∀(cs:List Cl)(g:Gs)(i:Nat),gg (dm l1) g i cs=gg (dm l2) g i cs
 | [],_,_=>rfl
 |c::r,g,i=>by
  have e:gF (dm l1) i c g=gF (dm l2) i c g:=by unfold gF;rw[Og hw RW rC xU qB]
  show gg (dm l1) (gF (dm l1) i c g) (i+1) r=gg (dm l2) (gF (dm l2) i c g) (i+1) r;rw[e];exact zP hw RW rC xU qB r _ _
theorem T7:(cG []).1=0:=by kernel_rfl
def csG:List Cl:=[{clN with ah:=8},{clN with ah:=9,fd:=1,ba:=5},{clN with ah:=18}]
theorem abj:(gg (dm []) g0 0 csG).out=[⟨0,0,1,3,0,0,4095,0⟩,⟨1,0,1,3,0,1,5,0⟩,⟨2,1,0,3,0,0,4095,0⟩,⟨2,1,1,3,0,1,5,0⟩,⟨2,0,2,2,-1,0,3200,1⟩]:=by kernel_rfl
theorem l13:bu prog f13=some c13.er:=by kernel_rfl
theorem Bw:body prog c13 [] [] (λr m=>r=aE true):=by
 refine pa (pM:=[eJ [],oT csG]) (m':=[.aS]) (View.o 1 [0] [0] ?_ (.aS (.nil _))) ?_
 .refine .put (.rv (.one (.fy (.aO 2)))) (.put (.rv (.one (.fy (gL.fy (Z:=λk=>bw [0] k=true) ?_ rfl rfl)))) .nil)
  repeat(first|exact j7.nil|exact gL.nil|refine gL.cons ?_ ?_|refine j7.cons ?_ ?_|exact .aa _|exact .aO 1)
 refine xL [] csG ⟨by decide,by decide⟩ (λh=>absurd T7 h) (λ_ h=>absurd h (by decide)) λ_ _ l' hp hr=>?_
 rw[List.Perm.eq_nil hp,abj];exact rfl
theorem Gr{m:Mem}{K:CV->Mem->Prop}(h:K (aE true) m):aq prog 13 [] m K:=
 uA func13 l13 rfl (aae rfl) Bw rfl rfl h
end Kn
def c5:LF:= ⟨81,[.tmp 6],(.seq (.ai [qu 6 (.aK (qb false))]) (.seq (.seq (.ai [qu 12 (qc 13 []),qu 13 (.un .not 12)]) (.cond 13 (.seq (.ai [qu 6 (.aK (qb false))]) .ret) .skip)) (.seq (.ai [qm 15 0,qm 16 1,qu 17 (qc 14 [15,16]),qm 14 17,qu 18 (.ext 14 0),qu 19 (.ext 14 1),qm 7 18,qm 8 19]) (.seq (.seq (.ai [qm 20 8,qu 21 (.aJ .neq 20 (qi 0)),qm 22 21,qg 23 (.aK 2) 22 false,qg 24 (.aJ .lss 23 (qi 0)) 22 false,qu 25 (.pick 22 (qb true) 24),qm 26 25,qg 27 (.aK 2) 26 false,qg 28 (.aK 1) 26 false,qg 29 (.len 1 28) 26 false,qg 30 (.aJ .gtr 27 29) 26 false,qu 31 (.pick 26 (qb true) 30)]) (.cond 31 (.seq (.ai [qu 6 (.aK (qb true))]) .ret) .skip)) (.seq (.ai [qm 33 0,qm 34 1,qm 35 2,qu 36 (.nR 9 34 none (some 35) none),qu 37 (qc 14 [33,36]),qm 32 37,qu 38 (.ext 32 0),qu 39 (.ext 32 1),qm 9 38,qm 8 39]) (.seq (.seq (.ai [qm 40 8,qu 41 (.aJ .neq 40 (qi 0)),qm 42 41,qg 43 (.aK 9) 42 false,qg 44 (.len 1 43) 42 false,qg 45 (.aK 7) 42 false,qg 46 (.len 1 45) 42 false,qg 47 (.aJ .gtr 44 46) 42 false,qu 48 (.pick 42 (qb true) 47)]) (.cond 48 (.seq (.ai [qu 6 (.aK (qb false))]) .ret) .skip)) (.seq (.seq (.ai [qm 49 7,qu 50 (.len 1 49),qu 51 (.aK (qi 0))]) (.block 0 (.loop (.seq (.ai [qu 52 (.aJ .lss 51 50)]) (.seq (.cond 52 .skip (.exit 0)) (.seq (.block 1 (.seq (.ai [qm 53 51,qu 54 (.cw 8 49 51),qL 55 8 54,qu 11 (.alloc [qd 0,qd 0,qd 0,qd 0,qd 0,qd 0,qd 0,qd 0]),qm 10 53,qw (.store 8 11 55)]) (.seq (.bR [qm 56 10,qm 57 9,qu 58 (.len 1 57),qu 59 (.aJ .lss 56 58),qm 60 59,qg 61 (.load true 8 11) 60 true,qg 62 (.aK 9) 60 true,qg 63 (.aK 10) 60 true,qg 64 (.cw 8 62 63) 60 true,qg 65 (.load true 8 64) 60 true,qg 66 (.Kx true [.i,.i,.i,.i,.i,.i,.i,.i] 61 65) 60 true,qu 67 (.pick 60 66 (qb false)),qm 68 67,qg 69 (.aK 10) 68 false,qg 70 (.aK 9) 68 false,qg 71 (.len 1 70) 68 false,qg 72 (.aJ .geq 69 71) 68 false,qg 73 (.aK 72) 68 false,qg 74 (.cj 0 11) 73 true,qg 75 (.load false 1 74) 73 true,qg 76 (.aK 2) 73 true,qg 77 (.aJ .lss 75 76) 73 true,qg 78 (.pick 73 77 (qb false)) 68 false,qu 79 (.pick 68 (qb true) 78)] [(.cons 0 none (.cons 1 none (.cons 2 none (.cons 3 none (.cons 4 none (.cons 5 none (.cons 6 none (.cons 7 none (.cons 8 none (.cons 9 none (.cons 10 none (.cons 11 none (.cons 12 none (.cons 13 none (.cons 14 none (.cons 15 none (.cons 16 none (.cons 17 none (.cons 18 none (.cons 19 none (.cons 20 none (.cons 21 none (.cons 22 none (.cons 23 none .nil))))))))))))))))))))))))]) (.cond 79 (.seq (.ai [qu 6 (.aK (qb false))]) .ret) .skip)))) (.ai [qu 80 (.aJ .add 51 (qi 1)),qm 51 80]))))))) (.seq (.ai [qu 6 (.aK (qb true))]) .ret))))))))⟩
namespace Kn
theorem QI{i:Int}{p:Nat}{c:Cl}{a:An}{b k:Kr}{W:Wt}:∀s,s∈(eA i p c a b k W).2->s.c=i:=by
 have hc:∀(n:Nat)(fd h f g:Int)s,s∈eQ k i n fd h f g->s.c=i:=λn fd h f g s hs=>by
  unfold eQ at hs;split at hs
  .cases hs
  .rw[ab7.1 hs]
 have hf:∀(n:Nat)(f:Int)(L:List Int)s,s∈fT k i n f L->s.c=i:=λn f L s hs=>by unfold fT at hs;obtain⟨y,_,hy⟩:=List.mem_flatMap.1 hs;exact hc _ _ _ _ _ s hy
 intro s hs;unfold eA at hs;split at hs
 .exact hc _ _ _ _ _ s hs
 split at hs
 .exact hc _ _ _ _ _ s hs
 split at hs
 .exact hc _ _ _ _ _ s hs
 split at hs
 .rcases abD.1 hs with h|h<;>exact hc _ _ _ _ _ s h
 split at hs
 .cases hs
 split at hs
 .split at hs
  .split at hs
   .exact hc _ _ _ _ _ s hs
   .cases hs
  .cases hs
 split at hs
 .rcases abD.1 hs with h|h
  .exact hf _ _ _ s h
  .exact hc _ _ _ _ _ s h
 .cases hs
theorem DL(prog:List dA):∀(xs ys:List Cl)(g:Gs)(i:Nat),gg prog g i (xs++ys)=gg prog (gg prog g i xs) (i+xs.length) ys
 | [],_,_,_=>rfl
 |x::r,ys,g,i=>by
  show gg prog (gF prog i x g) (i+1) (r++ys)=gg prog (gg prog (gF prog i x g) (i+1) r) (i+(r.length+1)) ys;rw[DL prog r ys,show i+1+r.length=i+(r.length+1) by omega]
theorem DM(prog:List dA):∀(cs:List Cl)(g:Gs)(i:Nat),∃C,(gg prog g i cs).out=g.out++C/\∀s,s∈C->(i:Int)<=s.c
 | [],g,i=>⟨[],(abO _).symm,aC⟩
 |c::r,g,i=>by
  obtain⟨C,h1,h2⟩:=DM prog r (gF prog i c g) (i+1);have hg:∃D,(gF prog i c g).out=g.out++D/\∀s,s∈D->s.c=i:=by
   refine⟨_,rfl,λs hs=>?_⟩
   by_cases he:(lI prog g.k c).2.fC=0
   .rw[if_pos he]at hs;exact QI s hs
   .rw[if_neg he]at hs;cases hs
  obtain⟨D,h3,h4⟩:=hg;refine⟨D++C,by show(gg prog (gF prog i c g) (i+1) r).out=_;rw[h1,h3,aca],λs hs=>?_⟩
  rcases abD.1 hs with h|h
  .rw[h4 s h];exact acu _
  .have:=h2 s h;omega
theorem J8(prog:List dA)(cs:List Cl)(q:Nat)(hq:q<=cs.length):∃C,(gg prog g0 0 cs).out=(gg prog g0 0 (cs.take q)).out++C/\∀s,s∈C->(q:Int)<=s.c:=by have e:cs=cs.take q++cs.drop q:=(ace q cs).symm;have h:=DL prog (cs.take q) (cs.drop q) g0 0;rw[<-e]at h;rw[h,aan,acr hq,abb];exact DM prog (cs.drop q) _ q
theorem Oh{L:List Sp}{i:Nat}(h:i<L.length):dx (L.map Sp.enc) (i:Nat)=some (L[i].enc):=by rw[bA,RA,uX h];rfl
theorem xD.take{cs:List Cl}(h:xD cs)(q:Nat):xD (cs.take q):=⟨by rw[aan];have:=h.l;omega,λc hc=>h.d c (abq hc)⟩
theorem J9(l:List cR)(cs:List Cl)(eB:xD cs)(v:CV)(hv:v=oT cs){m:Mem}{K:CV->Mem->Prop}(h1:(cG l).1≠0->K (mq [] (cG l).1) m)(h2:(cG l).1=0->cs.length>80->K (mq [] 5) m)(h3:(cG l).1=0->cs.length<=80->∀l',l'.Perm l->gq l'->K (mq (gg (dm l') g0 0 cs).out 0) m):aq prog 14 [eJ l,v] m K:=by
 subst hv;exact xL l cs eB h1 h2 h3
theorem l5t:bu prog Tryz.f5=some c5.er:=by kernel_rfl
theorem Ka(l:List cR)(cs:List Cl)(eB:xD cs)(n:Int):body Tryz.prog c5 [eJ l,oT cs,an .i64 n] [] (λr m=>r=aE true):=by
 refine Gr ?_;refine xL l cs eB (λhw=>?_) (λhw Of=>?_) (λhw Of l1 RW rC=>?_)
 .refine bs (λhe=>rfl) (λhe=>absurd he hw)
 .exact rfl
 generalize hA:(gg (dm l1) g0 0 cs).out=A;refine aL (λhn=>rfl) (λhn=>?_)
 have hn:¬n<0:=hn;obtain⟨q,rfl⟩:∃q:Nat,n=q:=⟨n.toNat,om⟩;refine aL (λhq=>rfl) (λhq=>?_)
 have hq:q<=cs.length:=by have hq:¬((q:Nat):Int)>((cs.map Cl.enc).length:Int):=hq;rw[ML]at hq;omega
 refine cA (by simp;omega) ?_
 refine J9 l (cs.take q) (eB.take q) _ (show CV.rv (.one (.aa (.sl 9 (((cs.map Cl.enc).take q).drop 0))))=oT (cs.take q) by rw[oT,aci,acI]) (λh=>absurd hw h) (λ_ h=>absurd h (by rw[aan];omega)) (λ_ _ l2 xU qB=>?_)
 obtain⟨C,hC,hCq⟩:=J8 (dm l1) cs q hq;rw[hA]at hC;rw[zP hw xU qB RW rC];generalize (gg (dm l1) g0 0 (cs.take q)).out=B at hC|-;have hlA:A.length<=1048576:=by have:=xK (prog:=dm l1) (g:=g0) 0 cs GI.T3;rw[hA]at this;have h0:g0.out.length=0:=rfl;omega
 refine pL ?_ ?_
 .show decide (((B.map Sp.enc).length:Int)>((A.map Sp.enc).length:Int))=false;rw[ML,ML,hC,aba];exact decide_eq_false om
 refine bb (λi=>i<=A.length) [2,7,9,49,50] (λi=>[(51,an .i64 (i:Nat))]) (λi=>[]) (λi=>A.length-i) 0 (aaj _) ?_ (λi hi=>?_)
 .refine View.o 0 [] [] ?_ (.nil _);repeat(first|exact .nil|refine .ap ?_|refine .eq rfl ?_)
 have hi:i<=A.length:=hi;refine aL (λh=>?_) (λh=>?_)
 rotate_left
 .exact rfl
 have aD:i<A.length:=by have h:(i:Int)<((A.map Sp.enc).length:Int):=h;rw[ML]at h;omega
 refine ag (Oh aD) ?_;refine aL (λh1=>?_) (λh1=>?_)
 .have h1:i<B.length:=by have h1:(i:Int)<((B.map Sp.enc).length:Int):=h1;rw[ML]at h1;omega
  have hAB:A[i]=B[i]:=by
   have:A[i]? =B[i]? :=by rw[hC,Yf h1]
   rw[uX aD,uX h1]at this;exact acF this
  refine ag (Oh h1) ?_;rw[hAB];generalize B[i]=s;refine pL aC ?_;refine pL (show decide ((i:Int)>=((B.map Sp.enc).length:Int))=false by rw[ML];exact decide_eq_false om) ?_
  refine⟨i+1,aD,(show A.length-(i+1)<A.length-i by omega),View.o 1 [] [] ?_ (.nil _)⟩
  repeat(first|exact .nil|refine .ap ?_|refine .put (.aU (aN om).symm) ?_|refine .eq rfl ?_)
 .have h1:B.length<=i:=by have h1:¬(i:Int)<((B.map Sp.enc).length:Int):=h1;rw[ML]at h1;omega
  have hmC:A[i]∈C:=by
   have:A[i]? =C[i-B.length]? :=by rw[hC,WH h1]
   rw[uX aD]at this;exact RD this.symm
  have hcq:=hCq _ hmC;generalize A[i]=s at hcq;refine cA (show decide ((i:Int)>=((B.map Sp.enc).length:Int))=true by rw[ML];exact decide_eq_true om) ?_
  refine pL (show decide (s.c<((q:Nat):Int))=false from decide_eq_false om) ?_;refine⟨i+1,aD,(show A.length-(i+1)<A.length-i by omega),View.o 1 [] [] ?_ (.nil _)⟩
  repeat(first|exact .nil|refine .ap ?_|refine .put (.aU (aN om).symm) ?_|refine .eq rfl ?_)
theorem Oi(l:List cR)(cs:List Cl)(eB:Xw cs)(n:Int):aq prog 5 [eJ l,oT cs,an .i64 n] [] (λr _=>r=aE true):=
 uA func5 l5t rfl (aae rfl) (Ka l cs ⟨eB.l,eB.d⟩ n) rfl rfl rfl
end Kn
end Go.Proofs.YtodckkkbiidffaaGreatDoor
