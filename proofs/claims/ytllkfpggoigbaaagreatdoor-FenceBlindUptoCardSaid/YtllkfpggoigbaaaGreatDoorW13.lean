/- Part 13 of 23. -/
import Derived.Test.YtllkfpggoigbaaaGreatDoorW11
import Derived.Test.YtllkfpggoigbaaaGreatDoorW12
set_option linter.unusedVariables false
set_option linter.unusedSimpArgs false
set_option maxRecDepth 100000
set_option maxHeartbeats 0
namespace Go.Proofs.YtllkfpggoigbaaaGreatDoor
open Proofs.Tryz
open Go.AM Go.ChangeShapes Go.WideShapes Go.ChangeAt Go.RowKit
structure Mk where
 O:List Bool
 P:List Bool
def dF(L:List Bool)(i:Nat):Prop:=L[i]? =some true
def vO(l:List Obj)(z:Int)(i:Nat):Prop:=z=i/\∃o,l[i]? =some o/\o.ah≠0
def vP(ops:List aV)(z:Int)(c:Nat):Prop:=z=c/\c<ops.length
def sE(o:Obj)(z:Int):Prop:=∃nm:ByteArray,bT (nm,z)∈o.ag
def sQ(o:Obj)(z:Int):Prop:=∃q,q∈o.aj/\q.has=true/\q.ct=z
structure Step(l:List Obj)(ops:List aV)(E:Nat->Prop)(a b:Mk):Prop where
 lo:b.O.length=a.O.length
 lp:b.P.length=a.P.length
 mo:∀i,dF a.O i->dF b.O i
 mp:∀c,dF a.P c->dF b.P c
 co:∀i o,dF b.O i->¬dF a.O i->¬E i->l[i]? =some o->(∀z n,sE o z->vO l z n->dF b.O n)/\(∀z c,sQ o z->vP ops z c->dF b.P c)
 cp:∀c o,dF b.P c->¬dF a.P c->ops[c]? =some o->∀n,vO l o.obj n->dF b.O n
structure Cl(l:List Obj)(ops:List aV)(RO RP:Nat->Prop):Prop where
 e:∀i o,RO i->l[i]? =some o->∀z n,sE o z->vO l z n->RO n
 q:∀i o,RO i->l[i]? =some o->∀z c,sQ o z->vP ops z c->RP c
 p:∀c o,RP c->ops[c]? =some o->∀n,vO l o.obj n->RO n
def Pu(RO RP:Nat->Prop)(a:Mk):Prop:=(∀i,dF a.O i->RO i)/\(∀c,dF a.P c->RP c)
def eY(L:List Bool):Nat:=(L.filter (λb=>!b)).length
def Mk.mu(a:Mk):Nat:=eY a.O+eY a.P
theorem Step.refl{l:List Obj}{ops:List aV}{E:Nat->Prop}(a:Mk):Step l ops E a a:=
 ⟨rfl,rfl,λ_ h=>h,λ_ h=>h,λ_ _ h h2=>absurd h h2,λ_ _ h h2=>absurd h h2⟩
theorem Step.trans{l:List Obj}{ops:List aV}{E:Nat->Prop}{a b c:Mk}(h1:Step l ops E a b)(h2:Step l ops (λ_=>False) b c):Step l ops E a c:=by
 refine⟨h2.lo.trans h1.lo,h2.lp.trans h1.lp,λi h=>h2.mo i (h1.mo i h),λi h=>h2.mp i (h1.mp i h),λi o hi hn hE ho=>?_,λi o hi hn ho n hv=>?_⟩
 .by_cases hb:dF b.O i
  .obtain⟨k1,k2⟩:=h1.co i o hb hn hE ho;exact⟨λz n hz hv=>h2.mo n (k1 z n hz hv),λz c hz hv=>h2.mp c (k2 z c hz hv)⟩
  .exact h2.co i o hi hb (λh=>h) ho
 .by_cases hb:dF b.P i
  .exact h2.mo n (h1.cp i o hb hn ho n hv)
  .exact h2.cp i o hi hb ho n hv
theorem mj:∀(a b:List Bool),b.length=a.length->(∀i,dF a i->dF b i)->eY b<=eY a
 | [],[],_,_=>aah _
 | [],_::_,h,_=>by simp at h
 |_::_,[],h,_=>by simp at h
 |x::a,y::b,h,hm=>by
  have ih:=mj a b (by simpa using h) (λi hi=>by simpa[dF]using hm (i+1) (by simpa[dF]using hi))
  have h0:x=true->y=true:=λhx=>by simpa[dF]using hm 0 (by simp[dF,hx])
  unfold eY at ih|-;cases x<;>cases y<;>simp at h0|-<;>omega
theorem sI:∀(a:List Bool)(n:Nat),a[n]? =some false->eY (a.set n true)+1=eY a
 | [],n,h=>by simp at h
 |x::a,0,h=>by simp at h;subst h;simp[eY]
 |x::a,n+1,h=>by
  have ih:=sI a n (by simpa using h)
  unfold eY at ih|-;cases x<;>simp at ih|-<;>omega
theorem JS{L:List Bool}{n i:Nat}(h:dF L i):dF (L.set n true) i:=by
 unfold dF at h|-;rw[acy];split
 .rename_i e;subst e;have:=(Mp.1 h).1;simp[this]
 .exact h
theorem tX{L:List Bool}{n:Nat}(h:n<L.length):dF (L.set n true) n:=by unfold dF;simp[h]
theorem mL{L:List Bool}{n i:Nat}(h:dF (L.set n true) i):dF L i\/i=n:=by
 unfold dF at h|-;rw[acy]at h;split at h
 .rename_i e;exact .inr e.symm
 .exact .inl h
structure PO(l:List Obj)(ops:List aV)(z:Int)(a b:Mk):Prop where
 st:Step l ops (λ_=>False) a b
 on:∀n,vO l z n->dF b.O n
 sd:∀RO RP,Cl l ops RO RP->Pu RO RP a->(∀n,vO l z n->RO n)->Pu RO RP b
structure PP(l:List Obj)(ops:List aV)(z:Int)(a b:Mk):Prop where
 st:Step l ops (λ_=>False) a b
 on:∀c,vP ops z c->dF b.P c
 sd:∀RO RP,Cl l ops RO RP->Pu RO RP a->(∀c,vP ops z c->RP c)->Pu RO RP b
theorem PO.none{l:List Obj}{ops:List aV}{z:Int}{a:Mk}(h:∀n,vO l z n->dF a.O n):PO l ops z a a:=⟨.refl a,h,λ_ _ _ h _=>h⟩
theorem PP.none{l:List Obj}{ops:List aV}{z:Int}{a:Mk}(h:∀n,vP ops z n->dF a.P n):PP l ops z a a:=⟨.refl a,h,λ_ _ _ h _=>h⟩
structure Bs(l:List Obj)(ops:List aV)(n:Nat)(a b:Mk)(nE nQ:Nat)(es:List (ByteArray×Int))(qs:List cJ):Prop where
 st:Step l ops (λi=>i=n) a b
 on:dF b.O n
 e:∀j e,j<nE->es[j]? =some e->∀m,vO l e.2 m->dF b.O m
 q:∀j q,j<nQ->qs[j]? =some q->q.has=true->∀c,vP ops q.ct c->dF b.P c
 sd:∀RO RP,Cl l ops RO RP->Pu RO RP a->RO n->Pu RO RP b
theorem Bs.start{l:List Obj}{ops:List aV}{n:Nat}{a:Mk}(hn:n<a.O.length)(es:List (ByteArray×Int))(qs:List cJ):Bs l ops n a ⟨a.O.set n true,a.P⟩ 0 0 es qs:=by
 refine⟨⟨aG,rfl,λi h=>JS h,λi h=>h,λi o h h2 h3=>?_,λ_ _ h h2=>absurd h h2⟩,tX hn,λj e h=>absurd h (abq j),λj e h=>absurd h (abq j),λRO RP _ h hr=>⟨λi hi=>?_,h.2⟩⟩
 .rcases mL h with h|h
  .exact absurd h h2
  .exact absurd h h3
 .rcases mL hi with hi|rfl
  .exact h.1 i hi
  .exact hr
theorem Bs.abe{l:List Obj}{ops:List aV}{n:Nat}{a b c:Mk}{j:Nat}{es:List (ByteArray×Int)}{qs:List cJ}(h:Bs l ops n a b j 0 es qs){e:ByteArray×Int}(he:es[j]? =some e)(hc:PO l ops e.2 b c){o:Obj}(ho:l[n]? =some o)(oR:o.ag=es.map bT):Bs l ops n a c (j+1) 0 es qs:=by
 have hse:sE o e.2:=⟨e.1,by rw[oR];exact afc (Wm he)⟩
 refine⟨h.st.trans hc.st,hc.st.mo n h.on,λi x hi hx m hv=>?_,λi x hi=>absurd hi (abq i),λRO RP ia iF hr=>hc.sd RO RP ia (h.sd RO RP ia iF hr) λm hv=>ia.e n o hr ho e.2 m hse hv⟩
 rcases aaD i j with tw|tw
 .exact hc.st.mo m (h.e i x tw hx m hv)
 .have:i=j:=om;subst this;rw[he]at hx;cases hx;exact hc.on m hv
theorem Bs.abf{l:List Obj}{ops:List aV}{n:Nat}{a b c:Mk}{k j:Nat}{es:List (ByteArray×Int)}{qs:List cJ}(h:Bs l ops n a b k j es qs){q:cJ}(hq:qs[j]? =some q)(hh:q.has=true)(hc:PP l ops q.ct b c){o:Obj}(ho:l[n]? =some o)(hqs:o.aj=qs):Bs l ops n a c k (j+1) es qs:=by
 have hsq:sQ o q.ct:=⟨q,by rw[hqs];exact Wm hq,hh,rfl⟩
 refine⟨h.st.trans hc.st,hc.st.mo n h.on,λi x hi hx m hv=>hc.st.mo m (h.e i x hi hx m hv),λi x hi hx hxh m hv=>?_,λRO RP ia iF hr=>hc.sd RO RP ia (h.sd RO RP ia iF hr) λm hv=>ia.q n o hr ho q.ct m hsq hv⟩
 rcases aaD i j with tw|tw
 .exact hc.st.mp m (h.q i x tw hx hxh m hv)
 .have:i=j:=om;subst this;rw[hq]at hx;cases hx;exact hc.on m hv
theorem Bs.abh{l:List Obj}{ops:List aV}{n:Nat}{a b:Mk}{k j:Nat}{es:List (ByteArray×Int)}{qs:List cJ}(h:Bs l ops n a b k j es qs){q:cJ}(hq:qs[j]? =some q)(hh:q.has=false):Bs l ops n a b k (j+1) es qs:=by
 refine⟨h.st,h.on,h.e,λi x hi hx hxh m hv=>?_,h.sd⟩
 rcases aaD i j with tw|tw
 .exact h.q i x tw hx hxh m hv
 .have:i=j:=om;subst this;rw[hq]at hx;cases hx;rw[hh]at hxh;cases hxh
theorem Bs.gU{l:List Obj}{ops:List aV}{n:Nat}{a b:Mk}{es:List (ByteArray×Int)}{qs:List cJ}(h:Bs l ops n a b es.length qs.length es qs){o:Obj}(ho:l[n]? =some o)(hk:o.ah≠0)(oR:o.ag=es.map bT)(hqs:o.aj=qs):PO l ops (n:Int) a b:=by
 refine⟨⟨h.st.lo,h.st.lp,h.st.mo,h.st.mp,λi x hi Bd _ hx=>?_,h.st.cp⟩,λm hv=>?_,λRO RP ia iF hr=>h.sd RO RP ia iF (hr n ⟨rfl,o,ho,hk⟩)⟩
 .by_cases iF:i=n
  .subst iF;rw[ho]at hx;cases hx;refine⟨λz m⟨nm,hm⟩hv=>?_,λz c⟨q,hq,hh,hz⟩hv=>?_⟩
   .rw[oR]at hm;obtain⟨e,he,o7⟩:=abm.1 hm;have:e.2=z:=by simp[bT]at o7;exact o7.2
    subst this;obtain⟨j,hj⟩:=aag he;exact h.e j e (Mp.1 hj).1 hj m hv
   .rw[hqs]at hq;obtain⟨j,hj⟩:=aag hq;subst hz;exact h.q j q (Mp.1 hj).1 hj hh c hv
  .exact h.st.co i x hi Bd iF hx
 .have:m=n:=by have:=hv.1;omega
  subst this;exact h.on
theorem PP.of{l:List Obj}{ops:List aV}{a b:Mk}{c:Nat}(hc:c<a.P.length){o:aV}(ho:ops[c]? =some o)(h:PO l ops o.obj ⟨a.O,a.P.set c true⟩ b):PP l ops (c:Int) a b:=by
 have wZ:Step l ops (λ_=>False) a b:=by
  refine⟨h.st.lo,by have:=h.st.lp;simpa using this,h.st.mo,λi hi=>h.st.mp i (JS hi),λi x hi Bd=>h.st.co i x hi Bd,λi x hi Bd hx n hv=>?_⟩
  by_cases hic:i=c
  .subst hic;rw[ho]at hx;cases hx;exact h.on n hv
  .exact h.st.cp i x hi (λhs=>(mL hs).elim Bd hic) hx n hv
 refine⟨wZ,λd hd=>?_,λRO RP ia iF hr=>?_⟩
 .have:d=c:=by have:=hd.1;omega
  subst this;exact h.st.mp d (tX hc)
 .have hrc:RP c:=hr c ⟨rfl,(Mp.1 ho).1⟩;exact h.sd RO RP ia ⟨iF.1,λi hi=>(mL hi).elim (iF.2 i) λe=>e▸hrc⟩ λn hv=>ia.p c o hrc ho n hv
def c152:LF:=Cq prog f152 [] []
def c153:LF:=Cq prog f153 [] [[eL 23 0 .nil],[(eL 7 0 (.cons 7 (some []) .nil))],[(eL 13 0 (.cons 13 (some []) .nil))]]
def bE(b:Bool):List Dt:=[.val (.bool b)]
theorem l152:bA prog f152=some c152:=by kernel_rfl
theorem l153:bA prog f153=some c153:=by kernel_rfl
def Az(l:List Obj)(ops:List aV)(a:Mk):Prop:=a.O.length=l.length/\a.P.length=ops.length
theorem pd{L:List Bool}{n:Nat}(h:n<L.length):dp (aa (L.map bE)) n=some [.ai (.val (.bool L[n]))]:=bq bE L h
theorem tY{L:List Bool}{n:Nat}(h:n<L.length):dW (n:Int) (lenOf (aa (L.map bE)).length 0 none)=some n:=bL (by show n<(aa (L.map bE)).length;rw[aJ,P2];exact h)
theorem Hl{L:List Bool}{n:Nat}:aZ (aa (L.map bE)) n [CC.ai (.val (.bool true))]=aa ((L.set n true).map bE):=kM bE L n true
theorem Bs.VS{l:List Obj}{ops:List aV}{n:Nat}{a b:Mk}{k j:Nat}{es:List (ByteArray×Int)}{qs:List cJ}(h:Bs l ops n a b k j es qs):b.mu<=(⟨a.O.set n true,a.P⟩:Mk).mu:=by
 refine Nat.add_le_add (mj _ _ (by rw[abn];exact h.st.lo) λi hi=>?_) (mj _ _ h.st.lp h.st.mp)
 rcases mL hi with hi|rfl
 .exact h.st.mo i hi
 .exact h.on
theorem Th{qs:List cJ}{k:Nat}(h:k<qs.length):cH (qs.map cJ.enc) (k:Nat)=some [.sl 1 qs[k].data,.val (.bool qs[k].has),.val (.int .i64 qs[k].ct),.val (.int .i64 qs[k].rts)]:=by rw[aY,Rn,xm h];rfl
structure StM where
 j:Nat
 b:Mk
def xi(l:List Obj)(ops:List aV)(ps:List aM)(a:Mk):Mem:=
 [.var [.ptr 1 0,.row 2 1 0 none,.row 3 1 0 none],.var [.row 4 9 0 none,.row 5 2 0 none,.row 6 4 0 none],.row 1 (aa (a.O.map bE)),.row 1 (aa (a.P.map bE)),.row 9 (aa (l.map Obj.enc)),.row 2 (aa (ops.map aV.enc)),.row 4 (aa (ps.map aM.enc))]
theorem yP{l:List Obj}{ops:List aV}{ps:List aM}{a:Mk}{f:Nat}{args:List CV}{Q:Mk->Prop}(h:aq prog f args (xi l ops ps a) (λr m=>∃b,Q b/\r= .bI []/\m=xi l ops ps b))(x:Bk)(ez:args=args.map (CV.aO (sg [0,1,2,3,4,5,6] 8))){K:CV->Mem->Prop}(hK:∀b,Q b->K (.bI []) [.var [.ptr 1 0,.row 2 1 0 none,.row 3 1 0 none],.var [.row 4 9 0 none,.row 5 2 0 none,.row 6 4 0 none],.row 1 (aa (b.O.map bE)),.row 1 (aa (b.P.map bE)),.row 9 (aa (l.map Obj.enc)),.row 2 (aa (ops.map aV.enc)),.row 4 (aa (ps.map aM.enc)),x]):
  aq prog f args [.var [.ptr 1 0,.row 2 1 0 none,.row 3 1 0 none],.var [.row 4 9 0 none,.row 5 2 0 none,.row 6 4 0 none],.row 1 (aa (a.O.map bE)),.row 1 (aa (a.P.map bE)),.row 9 (aa (l.map Obj.enc)),.row 2 (aa (ops.map aV.enc)),.row 4 (aa (ps.map aM.enc)),x] K:=by
 refine bi [0,1,2,3,4,5,6] 8 rfl rfl rfl rfl (args0:=args) ez (λi b' hi=>?_) h (λr m1 hr=>?_)
 .match i,hi with
  |0,hi=>cases hi;exact .inr ⟨λh=>h,_,rfl,.eq rfl aG⟩
  |1,hi=>cases hi;exact .inr ⟨λh=>h,_,rfl,.eq rfl aG⟩
  |2,hi=>cases hi;exact .inr ⟨λh=>h,_,rfl,.bg rfl⟩
  |3,hi=>cases hi;exact .inr ⟨λh=>h,_,rfl,.bg rfl⟩
  |4,hi=>cases hi;exact .inr ⟨λh=>h,_,rfl,.bg rfl⟩
  |5,hi=>cases hi;exact .inr ⟨λh=>h,_,rfl,.bg rfl⟩
  |6,hi=>cases hi;exact .inr ⟨λh=>h,_,rfl,.bg rfl⟩
  |n+7,hi=>simp[xi]at hi
 .obtain⟨b,hb,rfl,rfl⟩:=hr;refine⟨aah _,?_⟩;have e2:(Bk.row 1 (aa (b.O.map bE))).aO (sg [0,1,2,3,4,5,6] 8)= .row 1 (aa (b.O.map bE)):=by simp only[Bk.aO,dv]
  have e3:(Bk.row 1 (aa (b.P.map bE))).aO (sg [0,1,2,3,4,5,6] 8)= .row 1 (aa (b.P.map bE)):=by simp only[Bk.aO,dv]
  show K _ [.var [.ptr 1 0,.row 2 1 0 none,.row 3 1 0 none],.var [.row 4 9 0 none,.row 5 2 0 none,.row 6 4 0 none],(Bk.row 1 (aa (b.O.map bE))).aO (sg [0,1,2,3,4,5,6] 8),(Bk.row 1 (aa (b.P.map bE))).aO (sg [0,1,2,3,4,5,6] 8),(Bk.row 9 (aa (l.map Obj.enc))).aO (sg [0,1,2,3,4,5,6] 8),(Bk.row 2 (aa (ops.map aV.enc))).aO (sg [0,1,2,3,4,5,6] 8),(Bk.row 4 (aa (ps.map aM.enc))).aO (sg [0,1,2,3,4,5,6] 8),x];have e4:(Bk.row 9 (aa (l.map Obj.enc))).aO (sg [0,1,2,3,4,5,6] 8)= .row 9 (aa (l.map Obj.enc)):=by simp only[Bk.aO,dv]
  have e5:(Bk.row 2 (aa (ops.map aV.enc))).aO (sg [0,1,2,3,4,5,6] 8)= .row 2 (aa (ops.map aV.enc)):=by simp only[Bk.aO,dv]
  have e6:(Bk.row 4 (aa (ps.map aM.enc))).aO (sg [0,1,2,3,4,5,6] 8)= .row 4 (aa (ps.map aM.enc)):=by simp only[Bk.aO,dv]
  rw[e2,e3,e4,e5,e6];exact hK b hb
theorem Hm(l:List Obj)(ops:List aV)(ps:List aM)(g:∀o,o∈l->o.sm)(N:Nat)(Zy:∀a z,Az l ops a->a.mu<N->aq prog 152 [.rv (.one (.ptr 0 0)),am .i64 z] (xi l ops ps a) (λr m=>∃b,PO l ops z a b/\r= .bI []/\m=xi l ops ps b))(ihP:∀a z w,Az l ops a->a.mu<N->aq prog 153 [.rv (.one (.ptr 0 0)),.rv (.agg [.ai (.val (.int .i64 z)),.ai (.val (.int .i64 w))])] (xi l ops ps a) (λr m=>∃b,PP l ops z a b/\r= .bI []/\m=xi l ops ps b))(a:Mk)(z:Int)(EF:Az l ops a)(hmu:a.mu<=N):body prog c152 [.rv (.one (.ptr 0 0)),am .i64 z] (xi l ops ps a) (λr m=>∃b,PO l ops z a b/\r= .bI []/\m=xi l ops ps b):=by
 have hlen:∀L:List Bool,(aa (L.map bE)).length=L.length:=λL=>by rw[aJ,P2]
 obtain⟨hO,hP⟩:=EF;refine an (λh=>?_) (λh0=>?_)
 .exact⟨a,.none λn hv=>by have:=hv.1;have h:z<0:=h;omega,rfl,rfl⟩
 obtain⟨n,rfl⟩:∃n:Nat,z=n:=⟨z.toNat,by have h:¬z<0:=h0;omega⟩
 refine an (λh=>?_) (λh1=>?_)
 .refine⟨a,.none λm hv=>?_,rfl,rfl⟩
  obtain⟨hz,o,ho,_⟩:=hv;have h:(n:Int)>=((aa (a.O.map bE)).length:Int):=h;rw[hlen]at h;have:=(Mp.1 ho).1;omega
 have hn:n<a.O.length:=by have h:¬(n:Int)>=((aa (a.O.map bE)).length:Int):=h1;rw[hlen]at h;omega
 have lQ:n<l.length:=om;refine af (tY hn) ?_;refine af (pd hn) ?_;refine aC (λh2=>?_) (λh2=>?_)
 .refine⟨a,.none λm hv=>?_,rfl,rfl⟩
  have:m=n:=by have:=hv.1;omega
  subst this;exact(xm hn).trans (congrArg some h2)
 have Pv:dW (n:Int) (lenOf (aa (l.map Obj.enc)).length 0 none)=some n:=bL (by show n<(aa (l.map Obj.enc)).length;rw[aJ,P2];exact lQ)
 have rV:=bq Obj.enc l lQ;have jE:=xm lQ;have s8:=g _ (aaP lQ);generalize l[n]=o at rV jE s8;obtain⟨ah,data,ag,target,aI,aj,aQ,ak,up⟩:=o;obtain⟨es,rfl⟩:∃es:List (ByteArray×Int),ag=es.map bT:=s8.t.2.1;refine af Pv ?_;refine af rV ?_;refine bc (λh3=>?_) (λh3=>?_)
 .refine⟨a,.none λm hv=>?_,rfl,rfl⟩
  obtain⟨hz,o2,pH,hk⟩:=hv;have:m=n:=om;subst this;rw[jE]at pH;cases pH;exact absurd h3 hk
 have h3:ah≠0:=h3;have LK:es.length<=8:=by have:=s8.e;simpa using this
 have JN:aj.length<=8:=s8.q;have Xu:=Bs.start (l:=l) (ops:=ops) hn es aj;have abj:(⟨a.O.set n true,a.P⟩:Mk).mu<N:=by have:=sI a.O n ((xm hn).trans (congrArg some h2));have hmu:eY a.O+eY a.P<=N:=hmu;show eY (a.O.set n true)+eY a.P<N;omega
 refine af (tY hn) ?_;refine af (pd hn) ?_;refine af Pv ?_;refine af rV ?_;refine ax (λ(s:StM)=>s.j<=es.length/\Bs l ops n a s.b s.j 0 es aj) [0,4,61,62] (λs=>[(63,am .i64 (s.j:Nat))]) (λs=>[.var [.ptr 1 0,.row 2 1 0 none,.row 3 1 0 none],.var [.row 4 9 0 none,.row 5 2 0 none,.row 6 4 0 none],.row 1 (aa (s.b.O.map bE)),.row 1 (aa (s.b.P.map bE)),.row 9 (aa (l.map Obj.enc)),.row 2 (aa (ops.map aV.enc)),.row 4 (aa (ps.map aM.enc))]) (λs=>es.length-s.j) ⟨0,_⟩ ⟨aad _,Xu⟩ ?_ (λs hs=>?_)
 .refine View.o1 7 [0,1,2,3,4,5,6] [] ?_
  .exact .pe rfl rfl rfl (.pe rfl rfl rfl (.pt rfl rfl (.bg Hl) (.pr rfl rfl rfl (.pr rfl rfl rfl (.pr rfl rfl rfl (.pn rfl rfl rfl))))))
 obtain⟨j,b⟩:=s;obtain⟨hj,hM⟩:=hs;have hj:j<=es.length:=hj;have hM:Bs l ops n a b j 0 es aj:=hM;refine an (λh=>?_) (λh=>?_)
 .have bV:j<es.length:=by have h:(j:Int)<((es.map bT).length:Int):=h;rw[P2]at h;omega
  refine af (tU bV) ?_;have hbm:=hM.VS;refine yP (Zy b es[j].2 ⟨hM.st.lo.trans hO,hM.st.lp.trans hP⟩ om) _ rfl λc hc=>?_
  refine⟨⟨j+1,c⟩,⟨bV,hM.abe (xm bV) hc jE rfl⟩,(show es.length-(j+1)<es.length-j by omega),View.o2 8 [0,1,2,3,4,5,6] [] ?_⟩
  .exact .au
 .have sB:j=es.length:=by have h:¬(j:Int)<((es.map bT).length:Int):=h;rw[P2]at h;omega
  subst sB;refine af rV ?_;refine ax (λ(s:StM)=>s.j<=aj.length/\Bs l ops n a s.b es.length s.j es aj) [0,75,76] (λs=>[(77,am .i64 (s.j:Nat))]) (λs=>[.var [.ptr 1 0,.row 2 1 0 none,.row 3 1 0 none],.var [.row 4 9 0 none,.row 5 2 0 none,.row 6 4 0 none],.row 1 (aa (s.b.O.map bE)),.row 1 (aa (s.b.P.map bE)),.row 9 (aa (l.map Obj.enc)),.row 2 (aa (ops.map aV.enc)),.row 4 (aa (ps.map aM.enc))]) (λs=>aj.length-s.j) ⟨0,b⟩ ⟨aad _,hM⟩ ?_ (λs hs=>?_)
  .refine View.o1 7 [0,1,2,3,4,5,6] [] ?_
   .exact .au
  clear hM hj h;obtain⟨j,b⟩:=s;obtain⟨hj,hM⟩:=hs;have hj:j<=aj.length:=hj;have hM:Bs l ops n a b es.length j es aj:=hM;refine an (λh=>?_) (λh=>?_)
  .have bV:j<aj.length:=by have h:(j:Int)<((aj.map cJ.enc).length:Int):=h;rw[P2]at h;omega
   have W8:=xm bV;refine af (Th bV) ?_;have hbm:=hM.VS;refine aC (λhh=>?_) (λhh=>?_)
   .refine yP (ihP b aj[j].ct aj[j].rts ⟨hM.st.lo.trans hO,hM.st.lp.trans hP⟩ om) _ rfl λc hc=>?_
    refine⟨⟨j+1,c⟩,⟨bV,hM.abf W8 hh hc jE rfl⟩,(show aj.length-(j+1)<aj.length-j by omega),View.o2 8 [0,1,2,3,4,5,6] [] ?_⟩
    .exact .au
   .skip
    refine⟨⟨j+1,b⟩,⟨bV,hM.abh W8 hh⟩,(show aj.length-(j+1)<aj.length-j by omega),View.o2 8 [0,1,2,3,4,5,6] [] ?_⟩
    .exact .au
  .have sB:j=aj.length:=by have h:¬(j:Int)<((aj.map cJ.enc).length:Int):=h;rw[P2]at h;omega
   subst sB;exact⟨b,hM.gU jE h3 rfl rfl,rfl,rfl⟩
theorem Hn(l:List Obj)(ops:List aV)(ps:List aM)(N:Nat)(Zy:∀a z,Az l ops a->a.mu<N->aq prog 152 [.rv (.one (.ptr 0 0)),am .i64 z] (xi l ops ps a) (λr m=>∃b,PO l ops z a b/\r= .bI []/\m=xi l ops ps b))(a:Mk)(z w:Int)(EF:Az l ops a)(hmu:a.mu<=N):body prog c153 [.rv (.one (.ptr 0 0)),.rv (.agg [.ai (.val (.int .i64 z)),.ai (.val (.int .i64 w))])] (xi l ops ps a) (λr m=>∃b m',PP l ops z a b/\r= .bI []/\m=xi l ops ps b++m'):=by
 have hlen:∀L:List Bool,(aa (L.map bE)).length=L.length:=λL=>by rw[aJ,P2]
 obtain⟨hO,hP⟩:=EF;refine an (λh=>?_) (λh0=>?_)
 .exact⟨a,[_],.none λn hv=>by have:=hv.1;have h:z<0:=h;omega,rfl,rfl⟩
 obtain⟨n,rfl⟩:∃n:Nat,z=n:=⟨z.toNat,by have h:¬z<0:=h0;omega⟩
 refine an (λh=>?_) (λh1=>?_)
 .refine⟨a,[_],.none λm hv=>?_,rfl,rfl⟩
  obtain⟨hz,ho⟩:=hv;have h:(n:Int)>=((aa (a.P.map bE)).length:Int):=h;rw[hlen]at h;omega
 have hn:n<a.P.length:=by have h:¬(n:Int)>=((aa (a.P.map bE)).length:Int):=h1;rw[hlen]at h;omega
 have lQ:n<ops.length:=om;refine af (tY hn) ?_;refine af (pd hn) ?_;refine aC (λh2=>?_) (λh2=>?_)
 .refine⟨a,[_],.none λm hv=>?_,rfl,rfl⟩
  have:m=n:=by have:=hv.1;omega
  subst this;exact(xm hn).trans (congrArg some h2)
 have abj:(⟨a.O,a.P.set n true⟩:Mk).mu<N:=by have:=sI a.P n ((xm hn).trans (congrArg some h2));have hmu:eY a.O+eY a.P<=N:=hmu;show eY a.O+eY (a.P.set n true)<N;omega
 refine af (tY hn) ?_;refine af (pd hn) ?_;refine⟨trivial,?_⟩;have Pv:dW (n:Int) (lenOf (aa (ops.map aV.enc)).length 0 none)=some n:=bL (by show n<(aa (ops.map aV.enc)).length;rw[aJ,P2];exact lQ)
 refine af Pv ?_;refine af (bq aV.enc ops lQ) ?_;refine eR (jr:=[.rv (.one (.ptr 0 0)),am .i64 ops[n].obj]) (m':=xi l ops ps ⟨a.O,a.P.set n true⟩ ++ [.var [.ai (.val (.int .i64 (n:Nat))),.ai (.val (.int .i64 w))]]) (View.o 8 [0,1,2,3,4,5,6,7] [] (.eq rfl (.eq rfl .nil))
  (.pe rfl rfl rfl (.pe rfl rfl rfl (.pr rfl rfl rfl (.pt rfl rfl (.bg Hl) (.pr rfl rfl rfl (.pr rfl rfl rfl (.pr rfl rfl rfl (.pm rfl rfl rfl))))))))) ?_
 refine yP (Zy ⟨a.O,a.P.set n true⟩ ops[n].obj ⟨hO,by simpa using hP⟩ abj) _ rfl λc hc=>?_
 exact⟨trivial,c,[_],PP.of hn (xm lQ) hc,rfl,rfl⟩
theorem qI(l:List Obj)(ops:List aV)(ps:List aM)(g:∀o,o∈l->o.sm):∀N,
  (∀a z,Az l ops a->a.mu<N->aq prog 152 [.rv (.one (.ptr 0 0)),am .i64 z] (xi l ops ps a) (λr m=>∃b,PO l ops z a b/\r= .bI []/\m=xi l ops ps b))/\
  (∀a z w,Az l ops a->a.mu<N->aq prog 153 [.rv (.one (.ptr 0 0)),.rv (.agg [.ai (.val (.int .i64 z)),.ai (.val (.int .i64 w))])] (xi l ops ps a) (λr m=>∃b,PP l ops z a b/\r= .bI []/\m=xi l ops ps b))
 |0=>⟨λ_ _ _ h=>absurd h (abq _),λ_ _ _ _ h=>absurd h (abq _)⟩
 |N+1=>by
  obtain⟨Zy,ihP⟩:=qI l ops ps g N;refine⟨λa z hb hm=>aR func152 l152 (Hm l ops ps g N Zy ihP a z hb om),λa z w hb hm=>?_⟩
  refine bP (aR func153 l153 (Hn l ops ps N Zy a z w hb om)) λr m1⟨b,m',hp,hr,Lp⟩=>?_
  subst hr Lp;refine⟨.bI [],xi l ops ps b,View.of (7+m'.length) [0,1,2,3,4,5,6] [] (by simp[xi];omega) rfl rfl rfl rfl (by simp[eP]<;>omega) (.put (.bI rfl λi r r' h=>by simp at h) .nil) ?_,⟨b,hp,rfl,rfl⟩⟩
  exact .au
def c129:LF:=Cq prog f129 [[2]] [[(eL 6 0 (eL 5 7 (.z7 (.cons 6 (some [11,10]) (.cons 12 (some [5,4]) (.cons 13 none (.cons 14 (some []) (.cons 15 none .nil))))) (.cons 12 (some [5,4]) (.cons 6 (some [11,10]) (.cons 13 none (.cons 14 (some []) (.cons 15 none .nil))))))))]]
def tZ(l:List Obj)(ops:List aV)(ps:List aM)(RO RP:Nat->Prop):Prop:=
 (∀n,vO l 0 n->RO n)/\∀(p:Nat)pr,ps[p]? =some pr->pr.aF=true->∀s,s∈pr.ap->s.has=true->∀c,vP ops s.ct c->RP c
structure fZ(l:List Obj)(ops:List aV)(ps:List aM)(b:Mk):Prop where
 len:Az l ops b
 nA:tZ l ops ps (dF b.O) (dF b.P)
 cl:Cl l ops (dF b.O) (dF b.P)
 iO:∀RO RP,Cl l ops RO RP->tZ l ops ps RO RP->Pu RO RP b
def Bt(l:List Obj)(ops:List aV):Mk:=⟨List.replicate l.length false,List.replicate ops.length false⟩
theorem yQ{n i:Nat}:¬dF (List.replicate n false) i:=by
 intro h;unfold dF at h;rw[aes]at h;split at h<;>cases h
structure eB(l:List Obj)(ops:List aV)(ps:List aM)(b:Mk)(p j:Nat):Prop where
 st:Step l ops (λ_=>False) (Bt l ops) b
 r0:∀n,vO l 0 n->dF b.O n
 rp:∀(i:Nat)pr,i<p->ps[i]? =some pr->pr.aF=true->∀s,s∈pr.ap->s.has=true->∀c,vP ops s.ct c->dF b.P c
 rj:∀pr,ps[p]? =some pr->pr.aF=true->∀(t:Nat)s,t<j->pr.ap[t]? =some s->s.has=true->∀c,vP ops s.ct c->dF b.P c
 iO:∀RO RP,Cl l ops RO RP->tZ l ops ps RO RP->Pu RO RP b
theorem eB.start{l:List Obj}{ops:List aV}{ps:List aM}{b:Mk}(h:PO l ops 0 (Bt l ops) b):eB l ops ps b 0 0:=
 ⟨h.st,h.on,λi pr h=>absurd h (abq i),λpr _ _ t s h=>absurd h (abq t),λRO RP ia hr=>h.sd RO RP ia ⟨λi hi=>absurd hi yQ,λi hi=>absurd hi yQ⟩ hr.1⟩
theorem eB.VT{l:List Obj}{ops:List aV}{ps:List aM}{b c:Mk}{p j:Nat}(h:eB l ops ps b p j){pr:aM}(oD:ps[p]? =some pr)(bR:pr.aF=true){s:dX}(hs:pr.ap[j]? =some s)(hh:s.has=true)(hc:PP l ops s.ct b c):eB l ops ps c p (j+1):=by
 refine⟨h.st.trans hc.st,λn hn=>hc.st.mo n (h.r0 n hn),λi x hi hx hl y hy Sl d hd=>hc.st.mp d (h.rp i x hi hx hl y hy Sl d hd),λx hx hl t y ht hy Sl d hd=>?_,λRO RP ia hr=>hc.sd RO RP ia (h.iO RO RP ia hr) λd hd=>hr.2 p pr oD bR s (Wm hs) hh d hd⟩
 rcases aaD t j with NR|NR
 .exact hc.st.mp d (h.rj x hx hl t y NR hy Sl d hd)
 .have:t=j:=om;subst this;rw[oD]at hx;cases hx;rw[hs]at hy;cases hy;exact hc.on d hd
theorem eB.skip{l:List Obj}{ops:List aV}{ps:List aM}{b:Mk}{p j:Nat}(h:eB l ops ps b p j){pr:aM}(oD:ps[p]? =some pr){s:dX}(hs:pr.ap[j]? =some s)(hh:pr.aF=true->s.has=false):eB l ops ps b p (j+1):=by
 refine⟨h.st,h.r0,h.rp,λx hx hl t y ht hy Sl d hd=>?_,h.iO⟩
 rcases aaD t j with NR|NR
 .exact h.rj x hx hl t y NR hy Sl d hd
 .have:t=j:=om;subst this;rw[oD]at hx;cases hx;rw[hs]at hy;cases hy;rw[hh hl]at Sl;cases Sl
theorem eB.next{l:List Obj}{ops:List aV}{ps:List aM}{b:Mk}{p:Nat}{pr:aM}(oD:ps[p]? =some pr)(h:eB l ops ps b p pr.ap.length):eB l ops ps b (p+1) 0:=by
 refine⟨h.st,h.r0,λi x hi hx hl y hy Sl d hd=>?_,λx _ _ t y ht=>absurd ht (abq t),h.iO⟩
 rcases aaD i p with Zz|Zz
 .exact h.rp i x Zz hx hl y hy Sl d hd
 .have:i=p:=om;subst this;rw[oD]at hx;cases hx;obtain⟨t,ht⟩:=aag hy;exact h.rj pr oD hl t y (Mp.1 ht).1 ht Sl d hd
theorem eB.gU{l:List Obj}{ops:List aV}{ps:List aM}{b:Mk}(h:eB l ops ps b ps.length 0):fZ l ops ps b:=by
 refine⟨⟨by have:=h.st.lo;simpa[Bt]using this,by have:=h.st.lp;simpa[Bt]using this⟩,⟨h.r0,λp pr hp hl s hs hh c hc=>h.rp p pr (Mp.1 hp).1 hp hl s hs hh c hc⟩,⟨λi o hi ho z n hz hv=>?_,λi o hi ho z c hz hv=>?_,λc o hc ho n hv=>?_⟩,h.iO⟩
 .exact(h.st.co i o hi yQ (λh=>h) ho).1 z n hz hv
 .exact(h.st.co i o hi yQ (λh=>h) ho).2 z c hz hv
 .exact h.st.cp c o hc yQ ho n hv
theorem t6(n:Nat):(iu n [CC.ai (.val (.bool false))])=aa ((List.replicate n false).map bE):=by
 induction n with
 |zero=>rfl
 |succ n ih=>simp only[iu,ih];simp[aa,bE,List.replicate_succ]
theorem l129:bA prog f129=some c129.er:=by kernel_rfl
theorem JT{l:List dX}{k:Nat}(h:k<l.length):cH (l.map dX.enc) (k:Nat)=some [.val (.bool l[k].has),.val (.int .i64 l[k].ct),.val (.int .i64 l[k].rts)]:=by rw[aY,Rn,xm h];rfl
structure StK where
 p:Nat
 b:Mk
theorem fk{ps:List aM}{k:Nat}(h:k<ps.length):cH (ps.map aM.enc) (k:Nat)=some [.val (.bool ps[k].aF),.val (.bool ps[k].fenced),.val (.int .i64 ps[k].code),ip ps[k].ap]:=by rw[aY,Rn,xm h];rfl
theorem t7{l:List Obj}{ops:List aV}{ps:List aM}{a:Mk}{f:Nat}{args args0:List CV}{Q:Mk->Prop}(h:aq prog f args0 (xi l ops ps a) (λr m=>∃b,Q b/\r= .bI []/\m=xi l ops ps b))(X:Mem)(ez:args=args0.map (CV.aO (sg [4,0,5,6,1,2,3] (7+X.length)))){K:CV->Mem->Prop}(hK:∀b,Q b->K (.bI []) ([.var [.row 1 9 0 none,.row 2 2 0 none,.row 3 4 0 none],.row 9 (aa (l.map Obj.enc)),.row 2 (aa (ops.map aV.enc)),.row 4 (aa (ps.map aM.enc)),.var [.ptr 0 0,.row 5 1 0 none,.row 6 1 0 none],.row 1 (aa (b.O.map bE)),.row 1 (aa (b.P.map bE))]++X)):
  aq prog f args ([.var [.row 1 9 0 none,.row 2 2 0 none,.row 3 4 0 none],.row 9 (aa (l.map Obj.enc)),.row 2 (aa (ops.map aV.enc)),.row 4 (aa (ps.map aM.enc)),.var [.ptr 0 0,.row 5 1 0 none,.row 6 1 0 none],.row 1 (aa (a.O.map bE)),.row 1 (aa (a.P.map bE))]++X) K:=by
 refine bi [4,0,5,6,1,2,3] (7+X.length) (by simp;omega) rfl rfl (by simp[eP]<;>omega) (args0:=args0) ez (λi b' hi=>?_) h (λr m1 hr=>?_)
 .match i,hi with
  |0,hi=>cases hi;exact .inr ⟨λh=>h,_,rfl,.eq rfl aG⟩
  |1,hi=>cases hi;exact .inr ⟨λh=>h,_,rfl,.eq rfl aG⟩
  |2,hi=>cases hi;exact .inr ⟨λh=>h,_,rfl,.bg rfl⟩
  |3,hi=>cases hi;exact .inr ⟨λh=>h,_,rfl,.bg rfl⟩
  |4,hi=>cases hi;exact .inr ⟨λh=>h,_,rfl,.bg rfl⟩
  |5,hi=>cases hi;exact .inr ⟨λh=>h,_,rfl,.bg rfl⟩
  |6,hi=>cases hi;exact .inr ⟨λh=>h,_,rfl,.bg rfl⟩
  |n+7,hi=>simp[xi]at hi
 .obtain⟨b,hb,rfl,rfl⟩:=hr;refine⟨aah _,?_⟩;have e:∀(s:Nat)(ds:List (List Dt)),(Bk.row s (aa ds)).aO (sg [4,0,5,6,1,2,3] (7+X.length))= .row s (aa ds):=λs ds=>by simp only[Bk.aO,dv]
  have hk:=hK b hb;have hw:dA ([.var [.row 1 9 0 none,.row 2 2 0 none,.row 3 4 0 none],.row 9 (aa (l.map Obj.enc)),.row 2 (aa (ops.map aV.enc)),.row 4 (aa (ps.map aM.enc)),.var [.ptr 0 0,.row 5 1 0 none,.row 6 1 0 none],.row 1 (aa (a.O.map bE)),.row 1 (aa (a.P.map bE))]++X) [4,0,5,6,1,2,3] (tN (sg [4,0,5,6,1,2,3] (7+X.length)) (xi l ops ps b))=[.var [.row 1 9 0 none,.row 2 2 0 none,.row 3 4 0 none],.row 9 (aa (l.map Obj.enc)),.row 2 (aa (ops.map aV.enc)),.row 4 (aa (ps.map aM.enc)),.var [.ptr 0 0,.row 5 1 0 none,.row 6 1 0 none],.row 1 (aa (b.O.map bE)),.row 1 (aa (b.P.map bE))]++X:=by simp only[xi,tN,e,dA,cw,adn];rfl
  rw[hw];exact hk
theorem Ho(l:List Obj)(ops:List aV)(ps:List aM)(g:∀o,o∈l->o.sm)(hl:l.length<=4194304)(ho:ops.length<=4194304)(fb:ps.length<=4194304)(jB:∀p,p∈ps->p.ap.length<=10):
  body prog c129 [.rv (.one (.ptr 0 0))] [.var [.row 1 9 0 none,.row 2 2 0 none,.row 3 4 0 none],.row 9 (aa (l.map Obj.enc)),.row 2 (aa (ops.map aV.enc)),.row 4 (aa (ps.map aM.enc))] (λr m=>∃b,fZ l ops ps b/\r= .rv (.one (.ptr 4 0))/\m=[.var [.row 1 9 0 none,.row 2 2 0 none,.row 3 4 0 none],.row 9 (aa (l.map Obj.enc)),.row 2 (aa (ops.map aV.enc)),.row 4 (aa (ps.map aM.enc)),.var [.ptr 0 0,.row 5 1 0 none,.row 6 1 0 none],.row 1 (aa (b.O.map bE)),.row 1 (aa (b.P.map bE))]):=by
 refine⟨?_,?_⟩
 .skip
  refine bS (aeq _) ?_;refine⟨(by show(aa (l.map Obj.enc)).length*1<=_;rw[aJ,P2];omega),⟨rfl,rfl,trivial⟩,?_⟩
  refine bS (aeq _) ?_;refine⟨(by show(aa (ops.map aV.enc)).length*1<=_;rw[aJ,P2];omega),⟨rfl,rfl,trivial⟩,?_⟩
  refine⟨trivial,?_⟩;refine bW [0] [(3,.rv (.one (.ptr 4 0)))] ([.var [.row 1 9 0 none,.row 2 2 0 none,.row 3 4 0 none],.row 9 (aa (l.map Obj.enc)),.row 2 (aa (ops.map aV.enc)),.row 4 (aa (ps.map aM.enc)),.var [.ptr 0 0,.row 5 1 0 none,.row 6 1 0 none],.row 1 (aa ((Bt l ops).O.map bE)),.row 1 (aa ((Bt l ops).P.map bE))]) (View.o1 7 [0,1,2,3,6,4,5] [] ?_) ?_
  .exact(.pe rfl rfl rfl (.pr rfl rfl rfl (.pr rfl rfl rfl (.pr rfl rfl rfl (.pe rfl rfl rfl (.pt rfl rfl (.bg (by show iu (aa (l.map Obj.enc)).length _=_;rw[t6,aJ,P2];rfl)) (.pt rfl rfl (.bg (by show iu (aa (ops.map aV.enc)).length _=_;rw[t6,aJ,P2];rfl)) (.nil _))))))))
  refine t7 ((qI l ops ps g ((Bt l ops).mu+1)).1 (Bt l ops) 0 ⟨by simp[Bt],by simp[Bt]⟩ (adR _)) [] rfl λb0 wb=>?_
  refine ax (λ(s:StK)=>s.p<=ps.length/\eB l ops ps s.b s.p 0) [3,28,29] (λs=>[(30,am .i64 (s.p:Nat))]) (λs=>[.var [.row 1 9 0 none,.row 2 2 0 none,.row 3 4 0 none],.row 9 (aa (l.map Obj.enc)),.row 2 (aa (ops.map aV.enc)),.row 4 (aa (ps.map aM.enc)),.var [.ptr 0 0,.row 5 1 0 none,.row 6 1 0 none],.row 1 (aa (s.b.O.map bE)),.row 1 (aa (s.b.P.map bE))]) (λs=>ps.length-s.p) ⟨0,b0⟩ ⟨aad _,.start wb⟩ ?_ (λs hs=>?_)
  .refine View.o1 7 [0,1,2,3,4,5,6] [] ?_
   .exact .au
  obtain⟨p,b⟩:=s;obtain⟨hp,hM⟩:=hs;have hp:p<=ps.length:=hp;have hM:eB l ops ps b p 0:=hM;refine an (λh=>?_) (λh=>?_)
  .have gA:p<ps.length:=by have h:(p:Int)<((aa (ps.map aM.enc)).length:Int):=h;rw[aJ,P2]at h;omega
   refine af (bL (k:=p) (by show p<(aa (ps.map aM.enc)).length;rw[aJ,P2];exact gA)) ?_
   refine af (bq aM.enc ps gA) ?_;have oD:=xm gA;have nT:=jB _ (aaP gA);generalize ps[p]=pr at oD nT;refine ax (λ(s:StK)=>s.p<=pr.ap.length/\eB l ops ps s.b p s.p) [3,5,28,29,30,35,36] (λs=>[(37,am .i64 (s.p:Nat))]) (λs=>[.var [.row 1 9 0 none,.row 2 2 0 none,.row 3 4 0 none],.row 9 (aa (l.map Obj.enc)),.row 2 (aa (ops.map aV.enc)),.row 4 (aa (ps.map aM.enc)),.var [.ptr 0 0,.row 5 1 0 none,.row 6 1 0 none],.row 1 (aa (s.b.O.map bE)),.row 1 (aa (s.b.P.map bE)),.var (pr.enc.map .ai)]) (λs=>pr.ap.length-s.p) ⟨0,b⟩ ⟨aad _,hM⟩ ?_ (λs hs=>?_)
   .refine View.o1 8 [0,1,2,3,4,5,6,7] [] ?_
    .exact .au
   clear hM;obtain⟨j,b⟩:=s;obtain⟨hj,hM⟩:=hs;have hj:j<=pr.ap.length:=hj;have hM:eB l ops ps b p j:=hM;refine an (λgH=>?_) (λgH=>?_)
   .have bV:j<pr.ap.length:=by have h:(j:Int)<((pr.ap.map dX.enc).length:Int):=gH;rw[P2]at h;omega
    have Ti:=xm bV;refine af (JT bV) ?_;generalize pr.ap[j]=s at Ti;refine aC (λbR=>?_) (λbR=>?_)
    .refine aC (λhh=>?_) (λhh=>?_)
     .refine t7 ((qI l ops ps g (b.mu+1)).2 b s.ct s.rts ⟨by have:=hM.st.lo;simpa[Bt]using this,by have:=hM.st.lp;simpa[Bt]using this⟩ (adR _)) [_,_] rfl λc hc=>?_
      refine⟨⟨j+1,c⟩,⟨bV,hM.VT oD bR Ti hh hc⟩,(show pr.ap.length-(j+1)<pr.ap.length-j by omega),View.o2 9 [0,1,2,3,4,5,6,7] [] ?_⟩
      .exact .au
     .skip
      refine⟨⟨j+1,b⟩,⟨bV,hM.skip oD Ti (λ_=>hh)⟩,(show pr.ap.length-(j+1)<pr.ap.length-j by omega),View.o2 9 [0,1,2,3,4,5,6,7] [] ?_⟩
      .exact .au
    .skip
     refine⟨⟨j+1,b⟩,⟨bV,hM.skip oD Ti (λh=>absurd (h.symm.trans bR) aG)⟩,(show pr.ap.length-(j+1)<pr.ap.length-j by omega),View.o2 9 [0,1,2,3,4,5,6,7] [] ?_⟩
     .exact .au
   .have sB:j=pr.ap.length:=by have h:¬(j:Int)<((pr.ap.map dX.enc).length:Int):=gH;rw[P2]at h;omega
    subst sB;refine⟨⟨p+1,b⟩,⟨gA,hM.next oD⟩,(show ps.length-(p+1)<ps.length-p by omega),View.o2 8 [0,1,2,3,4,5,6] [] ?_⟩
    .exact .au
  .have wu:p=ps.length:=by have h:¬(p:Int)<((aa (ps.map aM.enc)).length:Int):=h;rw[aJ,P2]at h;omega
   subst wu;exact⟨b,hM.gU,rfl,rfl⟩
 .skip
  refine bS (aeq _) ?_;refine⟨(by show(aa (ops.map aV.enc)).length*1<=_;rw[aJ,P2];omega),⟨rfl,rfl,trivial⟩,?_⟩
  refine bS (aeq _) ?_;refine⟨(by show(aa (l.map Obj.enc)).length*1<=_;rw[aJ,P2];omega),⟨rfl,rfl,trivial⟩,?_⟩
  refine⟨trivial,?_⟩;refine bW [0] [(3,.rv (.one (.ptr 4 0)))] ([.var [.row 1 9 0 none,.row 2 2 0 none,.row 3 4 0 none],.row 9 (aa (l.map Obj.enc)),.row 2 (aa (ops.map aV.enc)),.row 4 (aa (ps.map aM.enc)),.var [.ptr 0 0,.row 5 1 0 none,.row 6 1 0 none],.row 1 (aa ((Bt l ops).O.map bE)),.row 1 (aa ((Bt l ops).P.map bE))]) (View.o1 7 [0,1,2,3,6,5,4] [] ?_) ?_
  .exact(.pe rfl rfl rfl (.pr rfl rfl rfl (.pr rfl rfl rfl (.pr rfl rfl rfl (.pe rfl rfl rfl (.pt rfl rfl (.bg (by show iu (aa (l.map Obj.enc)).length _=_;rw[t6,aJ,P2];rfl)) (.pt rfl rfl (.bg (by show iu (aa (ops.map aV.enc)).length _=_;rw[t6,aJ,P2];rfl)) (.nil _))))))))
  refine t7 ((qI l ops ps g ((Bt l ops).mu+1)).1 (Bt l ops) 0 ⟨by simp[Bt],by simp[Bt]⟩ (adR _)) [] rfl λb0 wb=>?_
  refine ax (λ(s:StK)=>s.p<=ps.length/\eB l ops ps s.b s.p 0) [3,28,29] (λs=>[(30,am .i64 (s.p:Nat))]) (λs=>[.var [.row 1 9 0 none,.row 2 2 0 none,.row 3 4 0 none],.row 9 (aa (l.map Obj.enc)),.row 2 (aa (ops.map aV.enc)),.row 4 (aa (ps.map aM.enc)),.var [.ptr 0 0,.row 5 1 0 none,.row 6 1 0 none],.row 1 (aa (s.b.O.map bE)),.row 1 (aa (s.b.P.map bE))]) (λs=>ps.length-s.p) ⟨0,b0⟩ ⟨aad _,.start wb⟩ ?_ (λs hs=>?_)
  .refine View.o1 7 [0,1,2,3,4,5,6] [] ?_
   .exact .au
  obtain⟨p,b⟩:=s;obtain⟨hp,hM⟩:=hs;have hp:p<=ps.length:=hp;have hM:eB l ops ps b p 0:=hM;refine an (λh=>?_) (λh=>?_)
  .have gA:p<ps.length:=by have h:(p:Int)<((aa (ps.map aM.enc)).length:Int):=h;rw[aJ,P2]at h;omega
   refine af (bL (k:=p) (by show p<(aa (ps.map aM.enc)).length;rw[aJ,P2];exact gA)) ?_
   refine af (bq aM.enc ps gA) ?_;have oD:=xm gA;have nT:=jB _ (aaP gA);generalize ps[p]=pr at oD nT;refine ax (λ(s:StK)=>s.p<=pr.ap.length/\eB l ops ps s.b p s.p) [3,5,28,29,30,35,36] (λs=>[(37,am .i64 (s.p:Nat))]) (λs=>[.var [.row 1 9 0 none,.row 2 2 0 none,.row 3 4 0 none],.row 9 (aa (l.map Obj.enc)),.row 2 (aa (ops.map aV.enc)),.row 4 (aa (ps.map aM.enc)),.var [.ptr 0 0,.row 5 1 0 none,.row 6 1 0 none],.row 1 (aa (s.b.O.map bE)),.row 1 (aa (s.b.P.map bE)),.var (pr.enc.map .ai)]) (λs=>pr.ap.length-s.p) ⟨0,b⟩ ⟨aad _,hM⟩ ?_ (λs hs=>?_)
   .refine View.o1 8 [0,1,2,3,4,5,6,7] [] ?_
    .exact .au
   clear hM;obtain⟨j,b⟩:=s;obtain⟨hj,hM⟩:=hs;have hj:j<=pr.ap.length:=hj;have hM:eB l ops ps b p j:=hM;refine an (λgH=>?_) (λgH=>?_)
   .have bV:j<pr.ap.length:=by have h:(j:Int)<((pr.ap.map dX.enc).length:Int):=gH;rw[P2]at h;omega
    have Ti:=xm bV;refine af (JT bV) ?_;generalize pr.ap[j]=s at Ti;refine aC (λbR=>?_) (λbR=>?_)
    .refine aC (λhh=>?_) (λhh=>?_)
     .refine t7 ((qI l ops ps g (b.mu+1)).2 b s.ct s.rts ⟨by have:=hM.st.lo;simpa[Bt]using this,by have:=hM.st.lp;simpa[Bt]using this⟩ (adR _)) [_,_] rfl λc hc=>?_
      refine⟨⟨j+1,c⟩,⟨bV,hM.VT oD bR Ti hh hc⟩,(show pr.ap.length-(j+1)<pr.ap.length-j by omega),View.o2 9 [0,1,2,3,4,5,6,7] [] ?_⟩
      .exact .au
     .skip
      refine⟨⟨j+1,b⟩,⟨bV,hM.skip oD Ti (λ_=>hh)⟩,(show pr.ap.length-(j+1)<pr.ap.length-j by omega),View.o2 9 [0,1,2,3,4,5,6,7] [] ?_⟩
      .exact .au
    .skip
     refine⟨⟨j+1,b⟩,⟨bV,hM.skip oD Ti (λh=>absurd (h.symm.trans bR) aG)⟩,(show pr.ap.length-(j+1)<pr.ap.length-j by omega),View.o2 9 [0,1,2,3,4,5,6,7] [] ?_⟩
     .exact .au
   .have sB:j=pr.ap.length:=by have h:¬(j:Int)<((pr.ap.map dX.enc).length:Int):=gH;rw[P2]at h;omega
    subst sB;refine⟨⟨p+1,b⟩,⟨gA,hM.next oD⟩,(show ps.length-(p+1)<ps.length-p by omega),View.o2 8 [0,1,2,3,4,5,6] [] ?_⟩
    .exact .au
  .have wu:p=ps.length:=by have h:¬(p:Int)<((aa (ps.map aM.enc)).length:Int):=h;rw[aJ,P2]at h;omega
   subst wu;exact⟨b,hM.gU,rfl,rfl⟩
theorem Pw(l:List Obj)(ops:List aV)(ps:List aM)(g:∀o,o∈l->o.sm)(hl:l.length<=4194304)(ho:ops.length<=4194304)(fb:ps.length<=4194304)(jB:∀p,p∈ps->p.ap.length<=10):
  aq prog 129 [.rv (.one (.ptr 0 0))] [.var [.row 1 9 0 none,.row 2 2 0 none,.row 3 4 0 none],.row 9 (aa (l.map Obj.enc)),.row 2 (aa (ops.map aV.enc)),.row 4 (aa (ps.map aM.enc))] (λr m=>∃b,fZ l ops ps b/\r= .rv (.one (.ptr 4 0))/\m=[.var [.row 1 9 0 none,.row 2 2 0 none,.row 3 4 0 none],.row 9 (aa (l.map Obj.enc)),.row 2 (aa (ops.map aV.enc)),.row 4 (aa (ps.map aM.enc)),.var [.ptr 0 0,.row 5 1 0 none,.row 6 1 0 none],.row 1 (aa (b.O.map bE)),.row 1 (aa (b.P.map bE))]):=
 cN func129 l129 (Ho l ops ps g hl ho fb jB)
def nE(k:Nat):List Dt:=[.val (.int .i64 (k:Nat))]
def c68:LF:=Cq prog f68 [] [[(.cons 0 none (.cons 1 none (.cons 3 none (.cons 4 none (.z7 (.cons 2 (some [4]) (.z7 (.cons 5 (some []) (.cons 6 none (.cons 7 (some [4,1]) (.cons 8 (some []) .nil)))) (.cons 7 (some [4,1]) (.cons 5 (some []) (.cons 6 none (.cons 8 (some []) .nil)))))) (.cons 7 (some [4,1]) (.cons 2 (some [4]) (.cons 5 (some []) (.cons 6 none (.cons 8 (some []) .nil))))))))))]]
def c109:LF:=Cq prog f109 [] []
def c110:LF:=Cq prog f110 [] []
theorem rx:∀(l:List Obj)(p Q k:Nat),k+l.length<=p->fp p Q k l=aa (l.map Obj.enc)
 | [],_,_,_,_=>rfl
 |o::r,p,Q,k,h=>by
  have ih:=rx r p Q (k+1) (by simp at h;omega)
  have hk:¬k=p:=by simp at h;omega
  simp only[fp,ih,tQ,if_neg hk];rfl
theorem EG(l:List Obj):CE l l.length l.length= .aE:=by
 have:Nat.blt l.length l.length=false:=by
  cases h:Nat.blt l.length l.length
  .rfl
  .rw[adw]at h;omega
 unfold CE;rw[this]
theorem l109:bA prog f109=some c109:=by kernel_rfl
theorem l110:bA prog f110=some c110:=by kernel_rfl
theorem l68:bA prog f68=some c68:=by kernel_rfl
theorem EH(ops:List aV)(ho:ops.length<=4194304):body prog c109 [.rv (.one (.ai (de ops)))] [] (λr m=>∃r' m',View 0 ⟨[r],m⟩ ⟨[r'],m'⟩/\r'= .rv (.one (.row 0 2 0 none))/\m'=[.row 2 (aa (ops.map aV.enc))]):=by
 have ns:((([]:List (List CC)).length+((ops.map aV.enc).map λds=>ds.map CC.ai).length)*16)<=140737488355328:=by simp;omega
 have gU:∃r' m',View 0 ⟨[CV.rv (.one (.row 1 2 0 none))],[.aE,.row 2 (bt ([]:List (List CC)) 0 none++(ops.map aV.enc).map λds=>ds.map CC.ai)]⟩ ⟨[r'],m'⟩/\r'=CV.rv (.one (.row 0 2 0 none))/\m'=[Bk.row 2 (aa (ops.map aV.enc))]:=
  ⟨_,_,View.o 2 [1] [] (.eq rfl .nil) (.pn rfl rfl rfl),rfl,rfl⟩
 refine aC (λh=>?_) (λh=>?_)
 .have hd:ops=[]:=aaW (by simpa using aaX h)
  refine⟨?_,ns,gU⟩;subst hd;exact⟨_,_,View.bv 0 2 0 rfl rfl rfl,rfl,rfl⟩
 .exact⟨ns,gU⟩
theorem vm(ops:List aV)(ho:ops.length<=4194304){m:Mem}{K:CV->Mem->Prop}(h:K (.rv (.one (.row m.length 2 0 none))) (m++ [.row 2 (aa (ops.map aV.enc))])):aq prog 109 [.rv (.one (.ai (de ops)))] m K:=by
 refine bi [] m.length rfl rfl rfl rfl (args0:=[.rv (.one (.ai (de ops)))]) rfl (λi b' hi=>by simp at hi) (K0:=λr m=>r= .rv (.one (.row 0 2 0 none))/\m=[.row 2 (aa (ops.map aV.enc))]) (bP (aR func109 l109 (EH ops ho)) λr m1 h=>h) (λr m1 hr=>?_)
 obtain⟨rfl,rfl⟩:=hr;refine⟨aad _,?_⟩;show K (.rv (.one (.row (m.length+(0-0)) 2 0 none))) (gC m [.row 2 ((aa (ops.map aV.enc)).map (λcs=>cs.map (CC.aO (sg [] m.length))))])
 rw[dv,cw];exact h
theorem EI(d:List dX)(hb:d.length<=4194304):body prog c110 [mI d] [] (λr m=>cM m r (mI d)):=by
 have ns:((([]:List (List CC)).length+((d.map dX.enc).map λds=>ds.map CC.ai).length)*24)<=140737488355328:=by simp;omega
 refine aC (λh=>?_) (λh=>?_)
 .have hd:d=[]:=aaW (by simpa using aaX h)
  subst hd;exact⟨.rv (.one (.bv 3)),ns,.rv (.one (eF.db rfl 0 none))⟩
 .exact⟨ns,.rv (.one (eF.db rfl 0 none))⟩
theorem kO(d:List dX)(hb:d.length<=4194304){m:Mem}{K:CV->Mem->Prop}(h:K (mI d) m):aq prog 110 [mI d] m K:=
 aT (aR func110 l110 (EI d hb)) (by simp[mI,ip,CV.cY,CC.cY]) λr m1 hf=>⟨_,hf,h⟩
structure Xv where
 k:Nat
 qs:List aM
theorem L8(l:List Obj)(ops:List aV)(ps:List aM)(hf:m8 l)(ho:ops.length<=4194304)(fb:ps.length<=4194304)(jB:∀p,p∈ps->p.ap.length<=10)(gj:ps≠[]):
  body prog c68 [cA l ops ps] [] (λr m=>∃r' m',View 0 ⟨[r],m⟩ ⟨[r'],m'⟩/\r'= .rv (.agg [.row 0 9 0 none,.row 1 2 0 none,.row 2 4 0 none])/\m'=[.row 9 (aa (l.map Obj.enc)),.row 2 (aa (ops.map aV.enc)),.row 4 (aa (ps.map aM.enc))]):=by
 refine⟨?_,?_⟩
 .skip
  refine yH l hf l.length ?_;rw[EG];refine⟨⟨rfl,trivial⟩,?_⟩;refine⟨?_,?_⟩
  .refine vm ops ho ?_;refine⟨trivial,⟨rfl,rfl,trivial⟩,trivial,?_⟩;refine ax (λ(a:Xv)=>a.k<=ps.length/\a.qs=ps.take a.k) [1,2,14,15] (λa=>[(16,am .i64 (a.k:Nat)),(3,.rv (.one (.ptr 2 0)))]) (λa=>match a.qs with
     | []=>[.var [.ai (cX l),.ai (de ops),.ai (dM ps)],.var z3,.var [.row 3 9 0 none,.row 4 2 0 none,.bv],.row 9 (aa (l.map Obj.enc)),.row 2 (aa (ops.map aV.enc))]
     |x::r=>[.var [.ai (cX l),.ai (de ops),.ai (dM ps)],.var z3,.var [.row 3 9 0 none,.row 4 2 0 none,.row 5 4 0 none],.row 9 (aa (l.map Obj.enc)),.row 2 (aa (ops.map aV.enc)),.row 4 (aa ((x::r).map aM.enc))]) (λa=>ps.length-a.k) ⟨0,[]⟩ ⟨aad _,rfl⟩ ?_ (λa ha=>?_)
   .refine View.o1 6 [0,1,5,2,4] [] ?_
    .exact(.pe rfl rfl rfl (.pe rfl rfl rfl (.pe rfl rfl rfl (.pt rfl rfl (.bg (rx l _ _ _ om)) (.pn rfl rfl rfl)))))
   obtain⟨k,qs⟩:=a;obtain⟨hk,hq⟩:=ha;have hk:k<=ps.length:=hk;have hq:qs=ps.take k:=hq;cases qs with
   |nil=>
    refine an (λh=>?_) (λh=>?_)
    .have ay:k<ps.length:=by have h:(k:Int)<((ps.map aM.enc).length:Int):=h;rw[P2]at h;omega
     refine af (fk ay) ?_;refine kO ps[k].ap (by have:=jB _ (aaP ay);omega) ?_
     refine⟨by simp[bt],?_⟩
     refine⟨⟨k+1,[ps[k]]⟩,⟨ay,(show [ps[k]]=ps.take (k+1) by rw[adr,xm ay,<-hq];rfl)⟩,(show ps.length-(k+1)<ps.length-k by omega),View.o2 8 [0,1,2,3,4,7] [] ?_⟩
     .exact(.pe rfl rfl rfl (.pe rfl rfl rfl (.pe rfl rfl rfl (.pr rfl rfl rfl (.pr rfl rfl rfl (.pt rfl rfl (.bg (by simp[bt,aa,aM.enc])) (.nil _)))))))
    .have oc:k=ps.length:=by have h:¬(k:Int)<((ps.map aM.enc).length:Int):=h;rw[P2]at h;omega
     subst oc;rw[abo]at hq;exact absurd hq.symm gj
   |cons x r=>
    refine an (λh=>?_) (λh=>?_)
    .have ay:k<ps.length:=by have h:(k:Int)<((ps.map aM.enc).length:Int):=h;rw[P2]at h;omega
     refine af (fk ay) ?_;refine kO ps[k].ap (by have:=jB _ (aaP ay);omega) ?_
     refine⟨by have e:=aJ ((x::r).map aM.enc);have e2:=congrArg List.length hq;simp only[P2,aaY,abg]at e e2;simp only[bt,aaY,acg];omega,?_⟩
     refine⟨⟨k+1,((x::r)++ [ps[k]])⟩,⟨ay,(show((x::r)++ [ps[k]])=ps.take (k+1) by rw[adr,xm ay,<-hq];rfl)⟩,(show ps.length-(k+1)<ps.length-k by omega),View.o2 9 [0,1,2,3,4,8] [] ?_⟩
     .exact(.pe rfl rfl rfl (.pe rfl rfl rfl (.pe rfl rfl rfl (.pr rfl rfl rfl (.pr rfl rfl rfl (.pt rfl rfl (.bg (by simp[bt,aa,aM.enc])) (.nil _)))))))
    .have oc:k=ps.length:=by have h:¬(k:Int)<((ps.map aM.enc).length:Int):=h;rw[P2]at h;omega
     subst oc;rw[abo]at hq;refine⟨.rv (.agg [.row 0 9 0 none,.row 1 2 0 none,.row 2 4 0 none]),_,View.o 6 [3,4,5] [] (.eq rfl .nil) (.pr rfl rfl rfl (.pr rfl rfl rfl (.pn rfl rfl rfl))),rfl,?_⟩;rw[hq]
  .refine⟨⟨rfl,rfl,trivial⟩,?_⟩;refine vm ops ho ?_;refine⟨trivial,trivial,?_⟩;refine ax (λ(a:Xv)=>a.k<=ps.length/\a.qs=ps.take a.k) [1,2,14,15] (λa=>[(16,am .i64 (a.k:Nat)),(3,.rv (.one (.ptr 2 0)))]) (λa=>match a.qs with
     | []=>[.var [.ai (cX l),.ai (de ops),.ai (dM ps)],.var z3,.var [.row 3 9 0 none,.row 4 2 0 none,.bv],.row 9 (aa (l.map Obj.enc)),.row 2 (aa (ops.map aV.enc))]
     |x::r=>[.var [.ai (cX l),.ai (de ops),.ai (dM ps)],.var z3,.var [.row 3 9 0 none,.row 4 2 0 none,.row 5 4 0 none],.row 9 (aa (l.map Obj.enc)),.row 2 (aa (ops.map aV.enc)),.row 4 (aa ((x::r).map aM.enc))]) (λa=>ps.length-a.k) ⟨0,[]⟩ ⟨aad _,rfl⟩ ?_ (λa ha=>?_)
   .refine View.o1 6 [0,1,4,2,5] [] ?_
    .exact(.pe rfl rfl rfl (.pe rfl rfl rfl (.pe rfl rfl rfl (.pt rfl rfl (.bg (rx l _ _ _ om)) (.pn rfl rfl rfl)))))
   obtain⟨k,qs⟩:=a;obtain⟨hk,hq⟩:=ha;have hk:k<=ps.length:=hk;have hq:qs=ps.take k:=hq;cases qs with
   |nil=>
    refine an (λh=>?_) (λh=>?_)
    .have ay:k<ps.length:=by have h:(k:Int)<((ps.map aM.enc).length:Int):=h;rw[P2]at h;omega
     refine af (fk ay) ?_;refine kO ps[k].ap (by have:=jB _ (aaP ay);omega) ?_
     refine⟨by simp[bt],?_⟩
     refine⟨⟨k+1,[ps[k]]⟩,⟨ay,(show [ps[k]]=ps.take (k+1) by rw[adr,xm ay,<-hq];rfl)⟩,(show ps.length-(k+1)<ps.length-k by omega),View.o2 8 [0,1,2,3,4,7] [] ?_⟩
     .exact(.pe rfl rfl rfl (.pe rfl rfl rfl (.pe rfl rfl rfl (.pr rfl rfl rfl (.pr rfl rfl rfl (.pt rfl rfl (.bg (by simp[bt,aa,aM.enc])) (.nil _)))))))
    .have oc:k=ps.length:=by have h:¬(k:Int)<((ps.map aM.enc).length:Int):=h;rw[P2]at h;omega
     subst oc;rw[abo]at hq;exact absurd hq.symm gj
   |cons x r=>
    refine an (λh=>?_) (λh=>?_)
    .have ay:k<ps.length:=by have h:(k:Int)<((ps.map aM.enc).length:Int):=h;rw[P2]at h;omega
     refine af (fk ay) ?_;refine kO ps[k].ap (by have:=jB _ (aaP ay);omega) ?_
     refine⟨by have e:=aJ ((x::r).map aM.enc);have e2:=congrArg List.length hq;simp only[P2,aaY,abg]at e e2;simp only[bt,aaY,acg];omega,?_⟩
     refine⟨⟨k+1,((x::r)++ [ps[k]])⟩,⟨ay,(show((x::r)++ [ps[k]])=ps.take (k+1) by rw[adr,xm ay,<-hq];rfl)⟩,(show ps.length-(k+1)<ps.length-k by omega),View.o2 9 [0,1,2,3,4,8] [] ?_⟩
     .exact(.pe rfl rfl rfl (.pe rfl rfl rfl (.pe rfl rfl rfl (.pr rfl rfl rfl (.pr rfl rfl rfl (.pt rfl rfl (.bg (by simp[bt,aa,aM.enc])) (.nil _)))))))
    .have oc:k=ps.length:=by have h:¬(k:Int)<((ps.map aM.enc).length:Int):=h;rw[P2]at h;omega
     subst oc;rw[abo]at hq;refine⟨.rv (.agg [.row 0 9 0 none,.row 1 2 0 none,.row 2 4 0 none]),_,View.o 6 [3,4,5] [] (.eq rfl .nil) (.pr rfl rfl rfl (.pr rfl rfl rfl (.pn rfl rfl rfl))),rfl,?_⟩;rw[hq]
 .refine⟨⟨rfl,rfl,trivial⟩,?_⟩;refine yH l hf l.length ?_;rw[EG];refine⟨⟨rfl,trivial⟩,?_⟩;refine vm ops ho ?_;refine⟨trivial,trivial,?_⟩;refine ax (λ(a:Xv)=>a.k<=ps.length/\a.qs=ps.take a.k) [1,2,14,15] (λa=>[(16,am .i64 (a.k:Nat)),(3,.rv (.one (.ptr 2 0)))]) (λa=>match a.qs with
    | []=>[.var [.ai (cX l),.ai (de ops),.ai (dM ps)],.var z3,.var [.row 3 9 0 none,.row 4 2 0 none,.bv],.row 9 (aa (l.map Obj.enc)),.row 2 (aa (ops.map aV.enc))]
    |x::r=>[.var [.ai (cX l),.ai (de ops),.ai (dM ps)],.var z3,.var [.row 3 9 0 none,.row 4 2 0 none,.row 5 4 0 none],.row 9 (aa (l.map Obj.enc)),.row 2 (aa (ops.map aV.enc)),.row 4 (aa ((x::r).map aM.enc))]) (λa=>ps.length-a.k) ⟨0,[]⟩ ⟨aad _,rfl⟩ ?_ (λa ha=>?_)
  .refine View.o1 6 [0,1,2,3,5] [] ?_
   .exact(.pe rfl rfl rfl (.pe rfl rfl rfl (.pe rfl rfl rfl (.pt rfl rfl (.bg (rx l _ _ _ om)) (.pn rfl rfl rfl)))))
  obtain⟨k,qs⟩:=a;obtain⟨hk,hq⟩:=ha;have hk:k<=ps.length:=hk;have hq:qs=ps.take k:=hq;cases qs with
  |nil=>
   refine an (λh=>?_) (λh=>?_)
   .have ay:k<ps.length:=by have h:(k:Int)<((ps.map aM.enc).length:Int):=h;rw[P2]at h;omega
    refine af (fk ay) ?_;refine kO ps[k].ap (by have:=jB _ (aaP ay);omega) ?_
    refine⟨by simp[bt],?_⟩
    refine⟨⟨k+1,[ps[k]]⟩,⟨ay,(show [ps[k]]=ps.take (k+1) by rw[adr,xm ay,<-hq];rfl)⟩,(show ps.length-(k+1)<ps.length-k by omega),View.o2 8 [0,1,2,3,4,7] [] ?_⟩
    .exact(.pe rfl rfl rfl (.pe rfl rfl rfl (.pe rfl rfl rfl (.pr rfl rfl rfl (.pr rfl rfl rfl (.pt rfl rfl (.bg (by simp[bt,aa,aM.enc])) (.nil _)))))))
   .have oc:k=ps.length:=by have h:¬(k:Int)<((ps.map aM.enc).length:Int):=h;rw[P2]at h;omega
    subst oc;rw[abo]at hq;exact absurd hq.symm gj
  |cons x r=>
   refine an (λh=>?_) (λh=>?_)
   .have ay:k<ps.length:=by have h:(k:Int)<((ps.map aM.enc).length:Int):=h;rw[P2]at h;omega
    refine af (fk ay) ?_;refine kO ps[k].ap (by have:=jB _ (aaP ay);omega) ?_
    refine⟨by have e:=aJ ((x::r).map aM.enc);have e2:=congrArg List.length hq;simp only[P2,aaY,abg]at e e2;simp only[bt,aaY,acg];omega,?_⟩
    refine⟨⟨k+1,((x::r)++ [ps[k]])⟩,⟨ay,(show((x::r)++ [ps[k]])=ps.take (k+1) by rw[adr,xm ay,<-hq];rfl)⟩,(show ps.length-(k+1)<ps.length-k by omega),View.o2 9 [0,1,2,3,4,8] [] ?_⟩
    .exact(.pe rfl rfl rfl (.pe rfl rfl rfl (.pe rfl rfl rfl (.pr rfl rfl rfl (.pr rfl rfl rfl (.pt rfl rfl (.bg (by simp[bt,aa,aM.enc])) (.nil _)))))))
   .have oc:k=ps.length:=by have h:¬(k:Int)<((ps.map aM.enc).length:Int):=h;rw[P2]at h;omega
    subst oc;rw[abo]at hq;refine⟨.rv (.agg [.row 0 9 0 none,.row 1 2 0 none,.row 2 4 0 none]),_,View.o 6 [3,4,5] [] (.eq rfl .nil) (.pr rfl rfl rfl (.pr rfl rfl rfl (.pn rfl rfl rfl))),rfl,?_⟩;rw[hq]
theorem jM(l:List Obj)(ops:List aV)(ps:List aM)(hf:m8 l)(ho:ops.length<=4194304)(fb:ps.length<=4194304)(jB:∀p,p∈ps->p.ap.length<=10)(gj:ps≠[]){m:Mem}{K:CV->Mem->Prop}(h:K (.rv (.agg [.row m.length 9 0 none,.row (m.length+1) 2 0 none,.row (m.length+2) 4 0 none])) (m++ [.row 9 (aa (l.map Obj.enc)),.row 2 (aa (ops.map aV.enc)),.row 4 (aa (ps.map aM.enc))])):aq prog 68 [cA l ops ps] m K:=by
 refine bi [] m.length rfl rfl rfl rfl (args0:=[cA l ops ps]) rfl (λi b' hi=>by simp at hi) (K0:=λr m=>r= .rv (.agg [.row 0 9 0 none,.row 1 2 0 none,.row 2 4 0 none])/\m=[.row 9 (aa (l.map Obj.enc)),.row 2 (aa (ops.map aV.enc)),.row 4 (aa (ps.map aM.enc))])
  (bP (aR func68 l68 (L8 l ops ps hf ho fb jB gj)) λr m1 h=>h) (λr m1 hr=>?_)
 obtain⟨rfl,rfl⟩:=hr;refine⟨aad _,?_⟩;show K (.rv (.agg [.row (m.length+(0-0)) 9 0 none,.row (m.length+(1-0)) 2 0 none,.row (m.length+(2-0)) 4 0 none])) (gC m [.row 9 ((aa (l.map Obj.enc)).map (λcs=>cs.map (CC.aO (sg [] m.length)))),.row 2 ((aa (ops.map aV.enc)).map (λcs=>cs.map (CC.aO (sg [] m.length)))),.row 4 ((aa (ps.map aM.enc)).map (λcs=>cs.map (CC.aO (sg [] m.length))))])
 rw[dv,dv,dv,cw];exact h
def c89:LF:=Cq prog f89 [] []
def c90:LF:=Cq prog f90 [] []
def c130:LF:=Cq prog f130 [] []
def cD(p:Int)(o:Obj):Bool:=o.ah==5&&o.aQ==p
theorem l130:bA prog f130=some c130:=by kernel_rfl
theorem l90:bA prog f90=some c90:=by kernel_rfl
theorem l89:bA prog f89=some c89:=by kernel_rfl
theorem EJ(o:Obj)(p:Int):body prog c130 [o.cv,.rv (.one (.ptr 0 0))] [.var ([Dt.val (.int .i64 p)].map .ai)] (λr m=>r=ar (cD p o)/\∃ex,m= .var ([Dt.val (.int .i64 p)].map .ai)::ex):=by
 refine aC (λh=>?_) (λh=>?_)
 .refine⟨?_,_,rfl⟩;show ar _=ar _;rw[cD,h];rfl
 .refine⟨?_,_,rfl⟩;show ar _=ar _;rw[cD,h];rfl
theorem Xw(o:Obj)(p:Int)(K:CV->Mem->Prop)(h:K (ar (cD p o)) [.var ([Dt.val (.int .i64 p)].map .ai)]):aq prog 130 [o.cv,.rv (.one (.ptr 0 0))] [.var ([Dt.val (.int .i64 p)].map .ai)] K:=
 fX rfl (aR func130 l130 (EJ o p)) h
theorem EK(o:Obj)(p:Int):body prog c90 [o.cv,.rv (.one (.ptr 0 0))] [.var ([Dt.val (.int .i64 p)].map .ai)] (λr m=>r=ar (cD p o)/\∃ex,m= .var ([Dt.val (.int .i64 p)].map .ai)::ex):=by
 refine aC (λh=>?_) (λh=>?_)
 .refine⟨?_,_,rfl⟩;show ar _=ar _;rw[cD,h];rfl
 .refine⟨?_,_,rfl⟩;show ar _=ar _;rw[cD,h];rfl
theorem Xx(o:Obj)(p:Int)(K:CV->Mem->Prop)(h:K (ar (cD p o)) [.var ([Dt.val (.int .i64 p)].map .ai)]):aq prog 90 [o.cv,.rv (.one (.ptr 0 0))] [.var ([Dt.val (.int .i64 p)].map .ai)] K:=
 fX rfl (aR func90 l90 (EK o p)) h
theorem Bu{l:List Obj}{n:Nat}(h:n<l.length):dW (n:Int) (lenOf (aa (l.map Obj.enc)).length 0 none)=some n:=bL (by show n<(aa (l.map Obj.enc)).length;rw[aJ,P2];exact h)
theorem L9(l:List Obj)(hb:l.length<=4194304)(F:Nat)(cs:List Dt)(q:Obj->Bool)(hF:∀s,∀K:CV->Mem->Prop,K (ar (q s)) [.var (cs.map .ai)]->aq prog F [s.cv,.rv (.one (.ptr 0 0))] [.var (cs.map .ai)] K):
  body prog c131 [.rv (.one (.row 0 9 0 none)),.rv (.one (.fn F [1]))] [.row 9 (aa (l.map Obj.enc)),.var (cs.map .ai)] (λr m=>r=am .i64 (p4 q l)/\m=[.row 9 (aa (l.map Obj.enc)),.var (cs.map .ai)]):=by
 refine ax (λk=>k<=l.length/\∀(j:Nat)s,j<k->l[j]? =some s->q s=false) [0,1,7] (λk=>[(8,am .i64 (k:Nat))]) (λ_=>[.row 9 (aa (l.map Obj.enc)),.var (cs.map .ai)]) (λk=>l.length-k) 0 ⟨aad _,λj s h=>absurd h (abq j)⟩ ?_ (λk hk=>?_)
 .refine View.o1 2 [0,1] [] ?_
  .exact .pr rfl rfl rfl (.pt rfl rfl (.lR rfl) (.nil _))
 .refine an (λh=>?_) (λh=>?_)
  .have ay:k<l.length:=by have h:(k:Int)<((aa (l.map Obj.enc)).length:Int):=h;rw[aJ,P2]at h;omega
   refine af (Bu ay) ?_;refine af (bq Obj.enc l ay) ?_;have hi:=xm ay;have hfd:=mH (q:=q) ay;generalize l[k]=o at hi hfd;refine gN (args0:=[o.cv,.rv (.one (.ptr 0 0))]) (cs:=cs) 1 rfl rfl (r0:=ar (q o)) rfl (λK hK=>hF o K hK) ?_
   refine aC (λGh=>?_) (λGh=>?_)
   .rw[hfd Gh hk.2];exact⟨rfl,rfl⟩
   .refine⟨k+1,⟨ay,λj s hj hs=>?_⟩,(show l.length-(k+1)<l.length-k by omega),View.o 2 [0,1] [] ?_ ?_⟩
    .rcases aaD j k with h5|h5
     .exact hk.2 j s h5 hs
     .have:j=k:=om;subst this;rw[hi]at hs;cases hs;exact Gh
    .repeat(first|exact .nil|refine .aL ?_|refine .put (.aO (bC om).symm) ?_|refine .eq rfl ?_)
    .exact .pr rfl rfl rfl (.pt rfl rfl (.lR rfl) (.nil _))
  .have eO:¬(k:Int)<((aa (l.map Obj.enc)).length:Int):=h;rw[aJ,P2]at eO;rw[oy λj s hs=>hk.2 j s (by have:=(Mp.1 hs).1;omega) hs]
   exact⟨rfl,rfl⟩
theorem Hp(l:List Obj)(hb:l.length<=4194304)(F:Nat)(cs:List Dt)(q:Obj->Bool)(hF:∀s,∀K:CV->Mem->Prop,K (ar (q s)) [.var (cs.map .ai)]->aq prog F [s.cv,.rv (.one (.ptr 0 0))] [.var (cs.map .ai)] K):
  body prog c89 [.rv (.one (.row 0 9 0 none)),.rv (.one (.fn F [1]))] [.row 9 (aa (l.map Obj.enc)),.var (cs.map .ai)] (λr m=>r=ar (l.any q)/\m=[.row 9 (aa (l.map Obj.enc)),.var (cs.map .ai)]):=by
 refine(aR func131 l131 (L9 l hb F cs q hF)).mono λr m⟨hr,hm⟩=>?_
 subst hr hm;refine⟨?_,rfl⟩;show ar _=ar _;rw[<-tS]
theorem Px(l:List Obj)(hb:l.length<=4194304)(F:Nat)(cs:List Dt)(q:Obj->Bool)(hF:∀s,∀K:CV->Mem->Prop,K (ar (q s)) [.var (cs.map .ai)]->aq prog F [s.cv,.rv (.one (.ptr 0 0))] [.var (cs.map .ai)] K):
  aq prog 89 [.rv (.one (.row 0 9 0 none)),.rv (.one (.fn F [1]))] [.row 9 (aa (l.map Obj.enc)),.var (cs.map .ai)] (λr m=>r=ar (l.any q)/\m=[.row 9 (aa (l.map Obj.enc)),.var (cs.map .ai)]):=
 aR func89 l89 (Hp l hb F cs q hF)
def c88:LF:=Cq prog f88 [] [[eL 16 0 .nil],[(eL 7 0 (.cons 7 (some []) .nil))]]
def Pt{α:Type}(l L:List α)(f:Nat->α->α):Prop:=L.length=l.length/\∀(t:Nat)o,l[t]? =some o->L[t]? =some (f t o)
theorem Pt.refl{α:Type}(l:List α):Pt l l λ_ o=>o:=⟨rfl,λ_ _ h=>h⟩
theorem Pt.congr{α:Type}{l L:List α}{f g:Nat->α->α}(h:Pt l L f)(hfg:∀(t:Nat)o,l[t]? =some o->f t o=g t o):Pt l L g:=
 ⟨h.1,λt o ho=>by rw[<-hfg t o ho];exact h.2 t o ho⟩
theorem Pt.set{α:Type}{l L:List α}{f g:Nat->α->α}(h:Pt l L f){j:Nat}{x:α}(hx:∀o,l[j]? =some o->g j o=x)(ho:∀(t:Nat)o,t≠j->l[t]? =some o->g t o=f t o):Pt l (L.set j x) g:=by
 refine⟨by simpa using h.1,λt o Af=>?_⟩
 have ay:t<L.length:=by rw[h.1];exact(Mp.1 Af).1
 by_cases NR:t=j
 .subst NR;rw[hx o Af];simp[ay]
 .rw[aap (λe=>NR e.symm),ho t o NR Af]
  exact h.2 t o Af
theorem Pt.at{α:Type}{l L:List α}{f:Nat->α->α}(h:Pt l L f){j:Nat}(hj:j<l.length):∃hL:j<L.length,L[j]=f j l[j]:=by
 have hL:j<L.length:=by rw[h.1];exact hj
 have:=h.2 j l[j] (xm hj);rw[xm hL]at this;exact⟨hL,by simpa using this⟩
theorem o6.Py{Y:Nat->Nat}{m:Mem}{Z:Nat->Prop}{id s:Nat}(ds:List (List Dt))(i:Nat){cs:List CC}{d:List Dt}(hl:cs.length=d.length)(h:∀(j:Nat)c c',cs[j]? =some c->(d.map CC.ai)[j]? =some c'->tL Y m Z (some id) c c'):o6 Y m Z id (.row s (aZ (aa ds) i cs)) (.row s (aa (ds.set i d))):=by
 rw[br];have e:aa (ds.set i d)=(aa ds).set i (d.map .ai):=by simp[aa,acF]
 rw[e];refine .row s aG (λt xs ys h1 h2=>?_) (λt xs ys j c c' h1 h2 h3 h4=>?_)
 .rw[acy]at h1 h2;split at h1
  .rename_i O8;rw[if_pos O8]at h2;split at h1
   .rename_i ay;rw[if_pos ay]at h2;cases h1;cases h2;simpa using hl
   .cases h1
  .rename_i O8;rw[if_neg O8]at h2;rw[h1]at h2;cases h2;rfl
 .rw[acy]at h1 h2;split at h1
  .rename_i O8;rw[if_pos O8]at h2;split at h1
   .rename_i ay;rw[if_pos ay]at h2;cases h1;cases h2;exact h j c c' h3 h4
   .cases h1
  .rename_i O8;rw[if_neg O8]at h2;rw[h1]at h2;cases h2;rw[h3]at h4;cases h4;have hd:∃d,c= .ai d:=by rw[aa,Rn]at h1;obtain⟨es,_,rfl⟩:=aba.1 h1;rw[Rn]at h3;obtain⟨d,_,rfl⟩:=aba.1 h3;exact⟨d,rfl⟩
   obtain⟨d,rfl⟩:=hd;exact .aO (.ai d)
def dU:Obj:=⟨0,[],[],⟨#[]⟩,0,[],0,0,0⟩
def JU:List CC:=[.ai (.val (.int .i64 0)),.bv,.bv,.ai (.val (.string ⟨#[]⟩)),.ai (.val (.int .i64 0)),.bv,.ai (.val (.int .i64 0)),.ai (.val (.int .i64 0)),.ai (.val (.int .i64 0))]
theorem afE{Y:Nat->Nat}{m:Mem}{Z:Nat->Prop}{id:Nat}(L:List Obj)(i:Nat):o6 Y m Z id (.row 9 (aZ (aa (L.map Obj.enc)) i JU)) (.row 9 (aa ((L.set i dU).map Obj.enc))):=by
 rw[acF];refine o6.Py (L.map Obj.enc) i rfl λj c c' h1 h2=>?_
 match j,h1,h2 with
 |0,h1,h2=>cases h1;cases h2;exact .aO (.ai _)
 |1,h1,h2=>cases h1;cases h2;exact .dO (.bv 1)
 |2,h1,h2=>cases h1;cases h2;exact .dO (.bv 2)
 |3,h1,h2=>cases h1;cases h2;exact .aO (.ai _)
 |4,h1,h2=>cases h1;cases h2;exact .aO (.ai _)
 |5,h1,h2=>cases h1;cases h2;exact .dO (.bv 4)
 |6,h1,h2=>cases h1;cases h2;exact .aO (.ai _)
 |7,h1,h2=>cases h1;cases h2;exact .aO (.ai _)
 |8,h1,h2=>cases h1;cases h2;exact .aO (.ai _)
 |n+9,h1,h2=>simp[JU]at h1
def fI:aM:=⟨false,false,0,[]⟩
theorem Pz{Y:Nat->Nat}{m:Mem}{Z:Nat->Prop}{id:Nat}(L:List aM)(i:Nat):o6 Y m Z id (.row 4 (aZ (aa (L.map aM.enc)) i [.ai (.val (.bool false)),.ai (.val (.bool false)),.ai (.val (.int .i64 0)),.bv])) (.row 4 (aa ((L.set i fI).map aM.enc))):=by
 rw[acF];refine o6.Py (L.map aM.enc) i rfl λj c c' h1 h2=>?_
 match j,h1,h2 with
 |0,h1,h2=>cases h1;cases h2;exact .aO (.ai _)
 |1,h1,h2=>cases h1;cases h2;exact .aO (.ai _)
 |2,h1,h2=>cases h1;cases h2;exact .aO (.ai _)
 |3,h1,h2=>cases h1;cases h2;exact .dO (.bv 3)
 |n+4,h1,h2=>simp at h1
def dD(b:Mk)(l:List Obj)(i:Nat):Bool:=match l[i]? with
 |some o=>!(b.O[i]? ==some true)&&o.ah !=0
 |none=>false
def lq(b:Mk)(l:List Obj)(k:Nat)(z:Int):Bool:=decide (0<=z/\z.toNat<k)&&dD b l z.toNat
def cg(b:Mk)(l:List Obj)(k:Nat)(j:Nat)(o:Obj):Obj:=if(dD b l j&&decide (j<k))=true then dU else if(o.ah==4&&lq b l k o.aI)=true then {o with aI:= -1}else o
def kP(i:Nat)(o:Obj):Obj:=if(o.ah==4&&o.aI==(i:Int))=true then {o with aI:= -1}else o
theorem yR(b:Mk)(l:List Obj)(i:Nat)(z:Int):lq b l (i+1) z=(lq b l i z||(z==(i:Int)&&dD b l i)):=by
 unfold lq;by_cases h:z=(i:Int)
 .subst h;simp
 .have h1:(z==(i:Int))=false:=by simpa using h
  rw[h1];have:decide (0<=z/\z.toNat<i+1)=decide (0<=z/\z.toNat<i):=by
   apply decide_eq_decide.2;constructor<;>intro⟨h2,h3⟩<;>exact⟨h2,om⟩
  rw[this];simp
theorem Ma{b:Mk}{l:List Obj}{i:Nat}(h:dD b l i=false)(j:Nat)(o:Obj):cg b l i j o=cg b l (i+1) j o:=by
 have h1:(dD b l j&&decide (j<i+1))=(dD b l j&&decide (j<i)):=by
  by_cases hj:j=i
  .subst hj;rw[h];simp
  .have:decide (j<i+1)=decide (j<i):=decide_eq_decide.2 om;rw[this]
 unfold cg;rw[h1,yR,h];simp
theorem Hq{b:Mk}{l:List Obj}{i:Nat}(h:dD b l i=true){j:Nat}(hj:j≠i)(o:Obj):kP i (cg b l i j o)=cg b l (i+1) j o:=by
 have h1:(dD b l j&&decide (j<i+1))=(dD b l j&&decide (j<i)):=by have:decide (j<i+1)=decide (j<i):=decide_eq_decide.2 om;rw[this]
 unfold cg;rw[h1,yR,h];by_cases hd:(dD b l j&&decide (j<i))=true
 .rw[if_pos hd,if_pos hd];rfl
 .rw[if_neg hd,if_neg hd];by_cases hk:(o.ah==4)=true
  .by_cases hz:lq b l i o.aI=true
   .rw[hk,hz];simp[kP]
   .rw[adS]at hz;rw[hk,hz];by_cases hp:(o.aI==(i:Int))=true
    .simp[kP,hk,hp]
    .rw[adS]at hp;simp[kP,hp]
  .rw[adS]at hk;rw[hk];simp[kP,hk]
theorem EL{b:Mk}{l:List Obj}{i:Nat}(h:dD b l i=true)(o:Obj):cg b l (i+1) i o=dU:=by unfold cg;rw[h];simp
theorem EM(b:Mk)(l:List Obj)(j:Nat)(o:Obj):cg b l 0 j o=o:=by
 unfold cg;have:lq b l 0 o.aI=false:=by simp[lq]
 rw[this];simp
theorem EN{b:Mk}{l:List Obj}{i:Nat}(o:Obj):(cg b l i i o).ah=o.ah:=by
 unfold cg;simp;split<;>rfl
def jN(L:List Obj)(t:Nat)(o:aM):Bool:=decide (0<t)&&(o.aF&& !(L.any (cD (t:Int))))
def AA(b:Mk)(k:Nat)(t:Nat)(o:aV):aV:=if(decide (t<k)&& !(b.P[t]? ==some true))=true then⟨-1,0⟩else o
def vn(L:List Obj)(k:Nat)(t:Nat)(o:aM):aM:=if(decide (t<k)&&jN L t o)=true then fI else o
def ix(L:List Obj)(ps:List aM)(k:Nat):Bool:=(List.range k).any λt=>match ps[t]? with
 |some o=>jN L t o
 |none=>false
structure cI(l:List Obj)(ops:List aV)(ps:List aM)(L:List Obj)(L2:List aV)(L3:List aM)(en:Bool):Prop where
 ex:∃b,fZ l ops ps b/\Pt l L (cg b l l.length)/\Pt ops L2 (AA b ops.length)
 pr:Pt ps L3 (vn L ps.length)
 en:en=ix L ps ps.length
structure StL where
 i:Nat
 L:List Obj
structure afF where
 i:Nat
 L:List aV
structure St3 where
 i:Nat
 L:List aM
 en:Bool
theorem CK{l:List aV}{n:Nat}(h:n<l.length):dW (n:Int) (lenOf (aa (l.map aV.enc)).length 0 none)=some n:=bL (by show n<(aa (l.map aV.enc)).length;rw[aJ,P2];exact h)
theorem nV{l:List aM}{n:Nat}(h:n<l.length):dW (n:Int) (lenOf (aa (l.map aM.enc)).length 0 none)=some n:=bL (by show n<(aa (l.map aM.enc)).length;rw[aJ,P2];exact h)
theorem yS{α:Type}{f:α->List Dt}{l:List α}{k:Nat}(h:(k:Int)<(((aa (l.map f)).length:Nat):Int)):k<l.length:=by rw[aJ,P2]at h;omega
theorem yT{α:Type}{f:α->List Dt}{l:List α}{k:Nat}(h:¬(k:Int)<(((aa (l.map f)).length:Nat):Int)):l.length<=k:=by rw[aJ,P2]at h;omega
theorem Hr{L:List Obj}{ps:List aM}{p:Nat}(h:p<ps.length):ix L ps (p+1)=(ix L ps p||jN L p ps[p]):=by
 unfold ix;rw[ad8,List.any_append,xm h|>λe=>(by simp[e]:(List.any [p] λt=>match ps[t]? with|some o=>jN L t o|none=>false)=jN L p ps[p])]
theorem Hs(L:List Obj)(L2:List aV)(L3:List aM)(b:Mk)(p:Nat)(hl:L.length<=4194304){K:CV->Mem->Prop}(h:K (ar (L.any (cD (p:Int)))) [.var [.row 1 9 0 none,.row 2 2 0 none,.row 3 4 0 none],.row 9 (aa (L.map Obj.enc)),.row 2 (aa (L2.map aV.enc)),.row 4 (aa (L3.map aM.enc)),.var [.ptr 0 0,.row 5 1 0 none,.row 6 1 0 none],.row 1 (aa (b.O.map bE)),.row 1 (aa (b.P.map bE)),.var [.ai (.val (.int .i64 (p:Nat)))]]):aq prog 89 [.rv (.one (.row 1 9 0 none)),.rv (.one (.fn 130 [7]))] [.var [.row 1 9 0 none,.row 2 2 0 none,.row 3 4 0 none],.row 9 (aa (L.map Obj.enc)),.row 2 (aa (L2.map aV.enc)),.row 4 (aa (L3.map aM.enc)),.var [.ptr 0 0,.row 5 1 0 none,.row 6 1 0 none],.row 1 (aa (b.O.map bE)),.row 1 (aa (b.P.map bE)),.var [.ai (.val (.int .i64 (p:Nat)))]] K:=by
 refine bi [1,7] 8 rfl rfl rfl rfl (args0:=[.rv (.one (.row 0 9 0 none)),.rv (.one (.fn 130 [1]))]) rfl (λi b' hi=>?_) (Px L hl 130 [.val (.int .i64 (p:Nat))] (cD (p:Int)) (λs K hK=>Xw s p K hK)) (λr m1 hr=>?_)
 .match i,hi with
  |0,hi=>cases hi;exact .inr ⟨λh=>h,_,rfl,.bg rfl⟩
  |1,hi=>cases hi;exact .inr ⟨λh=>h,_,rfl,.lR rfl⟩
  |n+2,hi=>simp at hi
 .obtain⟨rfl,rfl⟩:=hr;refine⟨aah _,?_⟩;have e:(Bk.row 9 (aa (L.map Obj.enc))).aO (sg [1,7] 8)= .row 9 (aa (L.map Obj.enc)):=by simp only[Bk.aO,dv]
  show K _ [.var [.row 1 9 0 none,.row 2 2 0 none,.row 3 4 0 none],(Bk.row 9 (aa (L.map Obj.enc))).aO (sg [1,7] 8),.row 2 (aa (L2.map aV.enc)),.row 4 (aa (L3.map aM.enc)),.var [.ptr 0 0,.row 5 1 0 none,.row 6 1 0 none],.row 1 (aa (b.O.map bE)),.row 1 (aa (b.P.map bE)),.var [.ai (.val (.int .i64 (p:Nat)))]];rw[e];exact h
theorem l88:bA prog f88=some c88:=by kernel_rfl
theorem Mb(l:List Obj)(ops:List aV)(ps:List aM)(g:∀o,o∈l->o.sm)(hl:l.length<=4194304)(ho:ops.length<=4194304)(fb:ps.length<=4194304)(jB:∀p,p∈ps->p.ap.length<=10):
  body prog c88 [.rv (.one (.ptr 0 0))] [.var [.row 1 9 0 none,.row 2 2 0 none,.row 3 4 0 none],.row 9 (aa (l.map Obj.enc)),.row 2 (aa (ops.map aV.enc)),.row 4 (aa (ps.map aM.enc))]
   (λr m=>∃r' m',View 4 ⟨[r],m⟩ ⟨[r'],m'⟩/\∃L L2 L3 en,cI l ops ps L L2 L3 en/\r'=ar en/\m'=[.var [.row 1 9 0 none,.row 2 2 0 none,.row 3 4 0 none],.row 9 (aa (L.map Obj.enc)),.row 2 (aa (L2.map aV.enc)),.row 4 (aa (L3.map aM.enc))]):=by
 refine(Pw l ops ps g hl ho fb jB).mono λr m⟨b,hb,hr,hm⟩=>?_
 subst hr hm;have hbO:=hb.len.1;have hbP:=hb.len.2;refine ax (λ(s:StL)=>s.i<=l.length/\Pt l s.L (cg b l s.i)) [0,3,16] (λs=>[(17,am .i64 (s.i:Nat))]) (λs=>[.var [.row 1 9 0 none,.row 2 2 0 none,.row 3 4 0 none],.row 9 (aa (s.L.map Obj.enc)),.row 2 (aa (ops.map aV.enc)),.row 4 (aa (ps.map aM.enc)),.var [.ptr 0 0,.row 5 1 0 none,.row 6 1 0 none],.row 1 (aa (b.O.map bE)),.row 1 (aa (b.P.map bE))]) (λs=>l.length-s.i) ⟨0,l⟩ ⟨aad _,(Pt.refl l).congr λt o _=>(EM b l t o).symm⟩ ?_ (λs hs=>?_)
 .refine View.o1 7 [0,1,2,3,4,5,6] [] ?_
  .exact .au
 obtain⟨i,L⟩:=s;obtain⟨hi,Bv⟩:=hs;have hi:i<=l.length:=hi;have Bv:Pt l L (cg b l i):=Bv;refine an (λh=>?_) (λh=>?_)
 .have ay:i<l.length:=yS h;have hiO:i<b.O.length:=om;refine af (tY hiO) ?_;refine af (pd hiO) ?_;have rJ:∀(hd:dD b l i=false),Pt l L (cg b l (i+1)):=λhd=>Bv.congr λt o _=>Ma hd t o
  refine aC (λh2=>?_) (λh2=>?_)
  .have hd:dD b l i=false:=by unfold dD;rw[xm ay,xm hiO,h2];simp
   refine⟨⟨i+1,L⟩,⟨ay,rJ hd⟩,(show l.length-(i+1)<l.length-i by omega),View.o2 7 [0,1,2,3,4,5,6] [] ?_⟩
   .exact .au
  .obtain⟨hL,hLi⟩:=Bv.at ay;have Sf:L[i].ah=l[i].ah:=by rw[hLi,EN]
   refine af (Bu hL) ?_;refine af (bq Obj.enc L hL) ?_;refine bc (λh3=>?_) (λh3=>?_)
   .have h3:L[i].ah=0:=h3;have hd:dD b l i=false:=by unfold dD;rw[xm ay];show(!(b.O[i]? ==some true)&&l[i].ah !=0)=false;rw[<-Sf,h3];simp
    refine⟨⟨i+1,L⟩,⟨ay,rJ hd⟩,(show l.length-(i+1)<l.length-i by omega),View.o2 7 [0,1,2,3,4,5,6] [] ?_⟩
    .exact .au
   .have h3:L[i].ah≠0:=h3;have hd:dD b l i=true:=by unfold dD;rw[xm ay,xm hiO,h2];simp[<-Sf,h3]
    have hLl:=Bv.1;refine ax (λ(s:StL)=>s.i<=l.length/\Pt l s.L (λt o=>if t<s.i then kP i (cg b l i t o)else cg b l i t o)) [0,3,4,16,17,42] (λs=>[(43,am .i64 (s.i:Nat))]) (λs=>[.var [.row 1 9 0 none,.row 2 2 0 none,.row 3 4 0 none],.row 9 (aa (s.L.map Obj.enc)),.row 2 (aa (ops.map aV.enc)),.row 4 (aa (ps.map aM.enc)),.var [.ptr 0 0,.row 5 1 0 none,.row 6 1 0 none],.row 1 (aa (b.O.map bE)),.row 1 (aa (b.P.map bE))]) (λs=>l.length-s.i) ⟨0,L⟩ ⟨aad _,Bv.congr λt o _=>aG⟩ ?_ (λs hs=>?_)
    .refine View.o1 7 [0,1,2,3,4,5,6] [] ?_
     .exact .au
    clear Bv rJ;obtain⟨j,M⟩:=s;obtain⟨hj,Bv⟩:=hs;have hj:j<=l.length:=hj;have Bv:Pt l M (λt o=>if t<j then kP i (cg b l i t o)else cg b l i t o):=Bv
    have hMl:=Bv.1;refine an (λgH=>?_) (λgH=>?_)
    .have bV:j<L.length:=yS gH;have Mc:j<l.length:=om;obtain⟨hM,ZA⟩:=Bv.at Mc;simp only[aez,if_false]at ZA;have j9:=λx=>Bv.set (j:=j) (x:=x) (g:=λt o=>if t<j+1 then kP i (cg b l i t o)else cg b l i t o)
     have tz:=λ(hh:kP i M[j]=M[j])=>Bv.congr (g:=λt o=>if t<j+1 then kP i (cg b l i t o)else cg b l i t o) λt o ho=>by
      by_cases NR:t=j
      .subst NR;rw[xm Mc]at ho;cases ho;simp only[aez,if_false,adR,if_true];rw[<-ZA,hh]
      .have e1:(t<j+1)↔(t<j):=om;simp only[e1]
     refine af (Bu hM) ?_;refine af (bq Obj.enc M hM) ?_;have hnx:=bq Obj.enc M hM;generalize hx:M[j]=x at ZA tz hnx;refine bc (λh4=>?_) (λh4=>?_)
     .have h4:x.ah=4:=h4;refine af (Bu hM) ?_;refine af hnx ?_;refine bc (λh5=>?_) (λh5=>?_)
      .have h5:x.aI=(i:Int):=h5;refine af (Bu hM) ?_;refine af hnx ?_;have hs:=j9 {x with aI:= -1} (λo ho=>by
        rw[xm Mc]at ho;cases ho;simp only[adR,if_true];rw[<-ZA];simp[kP,h4,h5]) (λt o NR _=>by
        have e1:(t<j+1)↔(t<j):=om;simp only[e1])
       refine⟨⟨j+1,M.set j {x with aI:= -1}⟩,⟨Mc,hs⟩,(show l.length-(j+1)<l.length-j by omega),View.o2 7 [0,1,2,3,4,5,6] [] ?_⟩
       .exact(.pe rfl rfl rfl (.pt rfl rfl (.bg (kM Obj.enc M j {x with aI:= -1})) (.pr rfl rfl rfl (.pr rfl rfl rfl (.pe rfl rfl rfl (.pr rfl rfl rfl (.pn rfl rfl rfl)))))))
      .have h5:x.aI≠(i:Int):=h5;refine⟨⟨j+1,M⟩,⟨Mc,tz (by simp[kP,h5])⟩,(show l.length-(j+1)<l.length-j by omega),View.o2 7 [0,1,2,3,4,5,6] [] ?_⟩
       .exact .au
     .have h4:x.ah≠4:=h4;refine⟨⟨j+1,M⟩,⟨Mc,tz (by simp[kP,h4])⟩,(show l.length-(j+1)<l.length-j by omega),View.o2 7 [0,1,2,3,4,5,6] [] ?_⟩
      .exact .au
    .have sB:L.length<=j:=yT gH;have hM:i<M.length:=om;refine af (Bu hM) ?_;refine af (bq Obj.enc M hM) ?_;have hs:=Bv.set (j:=i) (x:=dU) (g:=cg b l (i+1)) (λo _=>EL hd o) (λt o O8 ht=>by
      have:t<j:=by have:=(Mp.1 ht).1;omega
      rw[if_pos this,Hq hd O8])
     refine⟨⟨i+1,M.set i dU⟩,⟨ay,hs⟩,(show l.length-(i+1)<l.length-i by omega),View.o2 7 [0,1,2,3,4,5,6] [] ?_⟩
     .exact(.pe rfl rfl rfl (.pt rfl rfl (afE M i) (.pr rfl rfl rfl (.pr rfl rfl rfl (.pe rfl rfl rfl (.pr rfl rfl rfl (.pn rfl rfl rfl)))))))
 .have h9:l.length<=i:=yT h;have iD:i=l.length:=om;subst iD;have hLl:=Bv.1;refine ax (λ(s:afF)=>s.i<=ops.length/\Pt ops s.L (AA b s.i)) [0,3,87] (λs=>[(88,am .i64 (s.i:Nat))]) (λs=>[.var [.row 1 9 0 none,.row 2 2 0 none,.row 3 4 0 none],.row 9 (aa (L.map Obj.enc)),.row 2 (aa (s.L.map aV.enc)),.row 4 (aa (ps.map aM.enc)),.var [.ptr 0 0,.row 5 1 0 none,.row 6 1 0 none],.row 1 (aa (b.O.map bE)),.row 1 (aa (b.P.map bE))]) (λs=>ops.length-s.i) ⟨0,ops⟩ ⟨aad _,(Pt.refl ops).congr λt o _=>by simp[AA]⟩ ?_ (λs hs=>?_)
  .refine View.o1 7 [0,1,2,3,4,5,6] [] ?_
   .exact .au
  obtain⟨k,L2⟩:=s;obtain⟨hk,Bw⟩:=hs;have hk:k<=ops.length:=hk;have Bw:Pt ops L2 (AA b k):=Bw;have akD:=Bw.1;refine an (λh=>?_) (λh=>?_)
  .have fj:k<ops.length:=yS h;have hkP:k<b.P.length:=om;refine af (tY hkP) ?_;refine af (pd hkP) ?_;have k6:∀t,t≠k->decide (t<k+1)=decide (t<k):=λt ht=>decide_eq_decide.2 om
   refine aC (λh2=>?_) (λh2=>?_)
   .have h2:b.P[k]=false:=by simpa using h2
    have hL2:k<L2.length:=om;refine af (CK hL2) ?_;refine af (bq aV.enc L2 hL2) ?_;have hs:=Bw.set (j:=k) (x:=⟨-1,0⟩) (g:=AA b (k+1)) (λo _=>by simp[AA,xm hkP,h2]) (λt o VU _=>by unfold AA;rw[k6 t VU])
    refine⟨⟨k+1,L2.set k ⟨-1,0⟩⟩,⟨fj,hs⟩,(show ops.length-(k+1)<ops.length-k by omega),View.o2 7 [0,1,2,3,4,5,6] [] ?_⟩
    .exact(.pe rfl rfl rfl (.pr rfl rfl rfl (.pt rfl rfl (.bg (kM aV.enc L2 k ⟨-1,0⟩)) (.pr rfl rfl rfl (.pe rfl rfl rfl (.pr rfl rfl rfl (.pn rfl rfl rfl)))))))
   .have h2:b.P[k]=true:=by simpa using h2
    have hs:=Bw.congr (g:=AA b (k+1)) λt o _=>by
     by_cases VU:t=k
     .subst VU;simp[AA,xm hkP,h2]
     .unfold AA;rw[k6 t VU]
    refine⟨⟨k+1,L2⟩,⟨fj,hs⟩,(show ops.length-(k+1)<ops.length-k by omega),View.o2 7 [0,1,2,3,4,5,6] [] ?_⟩
    .exact .au
  .have h9:ops.length<=k:=yT h;have oc:k=ops.length:=om;subst oc;refine ax (λ(s:St3)=>s.i<=ps.length/\Pt ps s.L (vn L s.i)/\s.en=ix L ps s.i) [0,3,111] (λs=>[(112,am .i64 (s.i:Nat)),(7,ar s.en)]) (λs=>[.var [.row 1 9 0 none,.row 2 2 0 none,.row 3 4 0 none],.row 9 (aa (L.map Obj.enc)),.row 2 (aa (L2.map aV.enc)),.row 4 (aa (s.L.map aM.enc)),.var [.ptr 0 0,.row 5 1 0 none,.row 6 1 0 none],.row 1 (aa (b.O.map bE)),.row 1 (aa (b.P.map bE))]) (λs=>ps.length-s.i) ⟨0,ps,false⟩ ⟨aad _,(Pt.refl ps).congr λt o _=>by simp[vn],rfl⟩ ?_ (λs hs=>?_)
   .refine View.o1 7 [0,1,2,3,4,5,6] [] ?_
    .exact .au
   obtain⟨p,L3,en⟩:=s;obtain⟨hp,Xy,mJ⟩:=hs;have hp:p<=ps.length:=hp;have Xy:Pt ps L3 (vn L p):=Xy;have mJ:en=ix L ps p:=mJ;have akE:=Xy.1;refine an (λh=>?_) (λh=>?_)
   .have gA:p<ps.length:=yS h;obtain⟨hL3,Tj⟩:=Xy.at gA;have Tj:L3[p]=ps[p]:=by rw[Tj];simp[vn]
    have k6:∀t,t≠p->decide (t<p+1)=decide (t<p):=λt ht=>decide_eq_decide.2 om
    have abl:=Hr (L:=L) gA;have nB:jN L p ps[p]=false->Pt ps L3 (vn L (p+1))/\en=ix L ps (p+1):=λhf=>⟨Xy.congr λt o Af=>by
     by_cases JV:t=p
     .subst JV;rw[xm gA]at Af;cases Af;simp[vn,hf]
     .unfold vn;rw[k6 t JV],by rw[abl,hf,mJ];simp⟩
    refine Hs L L2 L3 b p om ?_;refine an (λyU=>?_) (λyU=>?_)
    .have yU:0<p:=by have h:(p:Int)>0:=yU;omega
     refine af (nV hL3) ?_;refine af (bq aM.enc L3 hL3) ?_;refine aC (λbR=>?_) (λbR=>?_)
     .refine aC (λNS=>?_) (λNS=>?_)
      .refine af (nV hL3) ?_;refine af (bq aM.enc L3 hL3) ?_;refine⟨trivial,?_⟩;have he:jN L p ps[p]=true:=by rw[Tj]at bR;unfold jN;rw[bR,NS];simp[yU]
       have hs:=Xy.set (j:=p) (x:=fI) (g:=vn L (p+1)) (λo Af=>by rw[xm gA]at Af;cases Af;simp[vn,he]) (λt o JV _=>by unfold vn;rw[k6 t JV])
       refine⟨⟨p+1,L3.set p fI,true⟩,⟨gA,hs,(by rw[abl,he];simp)⟩,(show ps.length-(p+1)<ps.length-p by omega),View.o2 8 [0,1,2,3,4,5,6] [] ?_⟩
       .exact(.pe rfl rfl rfl (.pr rfl rfl rfl (.pr rfl rfl rfl (.pt rfl rfl (Pz L3 p) (.pe rfl rfl rfl (.pr rfl rfl rfl (.pn rfl rfl rfl)))))))
      .skip
       refine⟨⟨p+1,L3,en⟩,⟨gA,(nB (by unfold jN;rw[NS];simp)).1,(nB (by unfold jN;rw[NS];simp)).2⟩,(show ps.length-(p+1)<ps.length-p by omega),View.o2 8 [0,1,2,3,4,5,6] [] ?_⟩
       .exact .au
     .rw[Tj]at bR;refine⟨⟨p+1,L3,en⟩,⟨gA,(nB (by unfold jN;rw[bR];simp)).1,(nB (by unfold jN;rw[bR];simp)).2⟩,(show ps.length-(p+1)<ps.length-p by omega),View.o2 8 [0,1,2,3,4,5,6] [] ?_⟩
      .exact .au
    .have yU:p=0:=by have h:¬(p:Int)>0:=yU;omega
     refine⟨⟨p+1,L3,en⟩,⟨gA,(nB (by simp[jN,yU])).1,(nB (by simp[jN,yU])).2⟩,(show ps.length-(p+1)<ps.length-p by omega),View.o2 8 [0,1,2,3,4,5,6] [] ?_⟩
     .exact .au
   .have h9:ps.length<=p:=yT h;have wu:p=ps.length:=om;subst wu;refine⟨ar en,_,View.o 7 [0,1,2,3] [] (.eq rfl .nil) (.pe rfl rfl rfl (.pr rfl rfl rfl (.pr rfl rfl rfl (.pn rfl rfl rfl)))),L,L2,L3,en,⟨⟨b,hb,Bv,Bw⟩,Xy,mJ⟩,rfl,rfl⟩
theorem Tk(l:List Obj)(ops:List aV)(ps:List aM)(g:∀o,o∈l->o.sm)(hl:l.length<=4194304)(ho:ops.length<=4194304)(fb:ps.length<=4194304)(jB:∀p,p∈ps->p.ap.length<=10):
  aq prog 88 [.rv (.one (.ptr 0 0))] [.var [.row 1 9 0 none,.row 2 2 0 none,.row 3 4 0 none],.row 9 (aa (l.map Obj.enc)),.row 2 (aa (ops.map aV.enc)),.row 4 (aa (ps.map aM.enc))]
   (λr m=>∃L L2 L3 en,cI l ops ps L L2 L3 en/\r=ar en/\m=[.var [.row 1 9 0 none,.row 2 2 0 none,.row 3 4 0 none],.row 9 (aa (L.map Obj.enc)),.row 2 (aa (L2.map aV.enc)),.row 4 (aa (L3.map aM.enc))]):=
 bP (aR func88 l88 (Mb l ops ps g hl ho fb jB)) λr m1 h=>h
structure dY(l:List Obj)(ops:List aV)(ps:List aM):Prop where
 sm:∀o,o∈l->o.sm
 ll:l.length<=4194304
 lo:ops.length<=4194304
 lp:ps.length<=4194304
 sl:∀p,p∈ps->p.ap.length<=10
 ne:ps≠[]
theorem PA:dU.sm:=⟨⟨⟨[],rfl⟩,⟨[],rfl⟩,λq hq=>by simp[dU]at hq⟩,by simp[dU],by simp[dU],by simp[dU],λq hq=>by simp[dU]at hq⟩
theorem Pt.all{α:Type}{l L:List α}{f:Nat->α->α}(h:Pt l L f){Q:α->Prop}(hf:∀(t:Nat)o,l[t]? =some o->Q (f t o)):∀x,x∈L->Q x:=by
 intro x hx;obtain⟨t,ht⟩:=aag hx;have ay:t<l.length:=by have:=(Mp.1 ht).1;rw[h.1]at this;exact this
 have:=h.2 t l[t] (xm ay);rw[ht]at this;cases this;exact hf t _ (xm ay)
theorem cI.kr{l:List Obj}{ops:List aV}{ps:List aM}{L:List Obj}{L2:List aV}{L3:List aM}{en:Bool}(h:cI l ops ps L L2 L3 en)(k:dY l ops ps):dY L L2 L3:=by
 obtain⟨b,hb,hP,Bw⟩:=h.ex;refine⟨hP.all λt o ho=>?_,by rw[hP.1];exact k.ll,by rw[Bw.1];exact k.lo,by rw[h.pr.1];exact k.lp,h.pr.all (Q:=λp=>p.ap.length<=10) λt o ho=>?_,λe=>k.ne (aaW (by rw[<-h.pr.1,e];rfl))⟩
 .have hs:=k.sm o (Wm ho);unfold cg;split
  .exact PA
  .split
   .exact⟨⟨hs.t.1,hs.t.2.1,hs.t.2.2⟩,hs.d,hs.e,hs.q,hs.qd⟩
   .exact hs
 .unfold vn;split
  .simp[fI]
  .exact k.sl o (Wm ho)
def mM(ps:List aM):Nat:=(ps.filter λp=>p.aF).length
theorem EO:∀(a b:List aM),b.length=a.length->(∀(t:Nat)x y,a[t]? =some x->b[t]? =some y->y.aF=true->x.aF=true)->mM b<=mM a/\((∃(t:Nat)(x y:aM),a[t]? =some x/\b[t]? =some y/\x.aF=true/\y.aF=false)->mM b<mM a)
 | [],[],_,_=>⟨aah _,λ⟨t,x,y,h,_⟩=>by simp at h⟩
 | [],_::_,h,_=>by simp at h
 |_::_,[],h,_=>by simp at h
 |x::a,y::b,h,hm=>by
  obtain⟨ih1,ih2⟩:=EO a b (by simpa using h) (λt u v hu hv=>hm (t+1) u v (by simpa using hu) (by simpa using hv))
  have h0:=hm 0 x y aG aG;refine⟨?_,λ⟨t,u,v,hu,hv,hul,wv⟩=>?_⟩
  .unfold mM at ih1|-;cases hx:x.aF<;>cases hy:y.aF<;>simp[hx,hy]at h0|-<;>omega
  .cases t with
   |zero=>
    simp at hu hv;subst hu hv;unfold mM at ih1|-;simp[hul,wv];omega
   |succ t=>
    have:=ih2 ⟨t,u,v,by simpa using hu,by simpa using hv,hul,wv⟩
    unfold mM at this|-;cases hx:x.aF<;>cases hy:y.aF<;>simp[hx,hy]at h0|-<;>omega
theorem cI.mM{l:List Obj}{ops:List aV}{ps:List aM}{L:List Obj}{L2:List aV}{L3:List aM}(h:cI l ops ps L L2 L3 true):mM L3<Go.Proofs.YtllkfpggoigbaaaGreatDoor.mM ps:=by
 have mJ:=h.en;unfold ix at mJ;have mJ:=mJ.symm;rw[acf]at mJ;obtain⟨t,ht,CL⟩:=mJ;have JW:t<ps.length:=by simpa using ht
 rw[xm JW]at CL;have CL:jN L t ps[t]=true:=CL;refine(EO ps L3 h.pr.1 (λi x y hx hy hl=>?_)).2 ⟨t,ps[t],fI,xm JW,?_,?_,rfl⟩
 .have:=h.pr.2 i x hx;rw[hy]at this;cases this;unfold vn at hl;split at hl
  .simp[fI]at hl
  .exact hl
 .have:=h.pr.2 t _ (xm JW);rw[this];simp[vn,CL,JW]
 .unfold jN at CL;simp at CL;exact CL.2.1
structure Kr where
 l:List Obj
 ops:List aV
 ps:List aM
inductive ig(k:Kr):Kr->Prop
 |refl:ig k k
 |step {a b:Kr} (h:ig k a) (ho:cI a.l a.ops a.ps b.l b.ops b.ps true):ig k b
theorem PB{Y:Nat->Nat}{m:Mem}{Z:Nat->Prop}{p:Option Nat}{a b:Dt}(h:a=b):tL Y m Z p (.ai a) (.ai b):=h▸ .aO (.ai a)
theorem Ht(a:Kr)(ha:dY a.l a.ops a.ps){K:CV->Mem->Prop}(x0:Bk)(h:∀(c:Kr)en,cI a.l a.ops a.ps c.l c.ops c.ps en->K (ar en) [x0,.var z3,.var [.row 3 9 0 none,.row 4 2 0 none,.row 5 4 0 none],.row 9 (aa (c.l.map Obj.enc)),.row 2 (aa (c.ops.map aV.enc)),.row 4 (aa (c.ps.map aM.enc))]):
  aq prog 88 [.rv (.one (.ptr 2 0))] [x0,.var z3,.var [.row 3 9 0 none,.row 4 2 0 none,.row 5 4 0 none],.row 9 (aa (a.l.map Obj.enc)),.row 2 (aa (a.ops.map aV.enc)),.row 4 (aa (a.ps.map aM.enc))] K:=by
 refine bi [2,3,4,5] 6 rfl rfl rfl rfl (args0:=[.rv (.one (.ptr 0 0))]) rfl (λi b' hi=>?_) (Tk a.l a.ops a.ps ha.sm ha.ll ha.lo ha.lp ha.sl) (λr m1 hr=>?_)
 .match i,hi with
  |0,hi=>cases hi;exact .inr ⟨λh=>h,_,rfl,.eq rfl aG⟩
  |1,hi=>cases hi;exact .inr ⟨λh=>h,_,rfl,.bg rfl⟩
  |2,hi=>cases hi;exact .inr ⟨λh=>h,_,rfl,.bg rfl⟩
  |3,hi=>cases hi;exact .inr ⟨λh=>h,_,rfl,.bg rfl⟩
  |n+4,hi=>simp at hi
 .obtain⟨L,L2,L3,en,ho,rfl,rfl⟩:=hr;refine⟨aah _,?_⟩;have e:∀(s:Nat)(ds:List (List Dt)),(Bk.row s (aa ds)).aO (sg [2,3,4,5] 6)= .row s (aa ds):=λs ds=>by simp only[Bk.aO,dv]
  show K _ [x0,.var z3,.var [.row 3 9 0 none,.row 4 2 0 none,.row 5 4 0 none],(Bk.row 9 (aa (L.map Obj.enc))).aO (sg [2,3,4,5] 6),(Bk.row 2 (aa (L2.map aV.enc))).aO (sg [2,3,4,5] 6),(Bk.row 4 (aa (L3.map aM.enc))).aO (sg [2,3,4,5] 6)];rw[e,e,e];exact h ⟨L,L2,L3⟩ en ho
def c91:LF:=Cq prog f91 [] []
theorem l91:bA prog f91=some c91:=by kernel_rfl
theorem Hu(l:List Obj)(hb:l.length<=4194304)(F:Nat)(cs:List Dt)(q:Obj->Bool)(hF:∀s,∀K:CV->Mem->Prop,K (ar (q s)) [.var (cs.map .ai)]->aq prog F [s.cv,.rv (.one (.ptr 0 0))] [.var (cs.map .ai)] K):
  body prog c131 [cQ l,.rv (.one (.fn F [0]))] [.var (cs.map .ai)] (λr m=>r=am .i64 (p4 q l)/\m=[.var (cs.map .ai)]):=by
 refine ax (λk=>k<=l.length/\∀(j:Nat)s,j<k->l[j]? =some s->q s=false) [0,1,7] (λk=>[(8,am .i64 (k:Nat))]) (λ_=>[.var (cs.map .ai)]) (λk=>l.length-k) 0 ⟨aad _,λj s h=>absurd h (abq j)⟩ ?_ (λk hk=>?_)
 .refine View.o1 1 [0] [] ?_
  .exact .pt rfl rfl (.lR rfl) (.nil _)
 .refine an (λh=>?_) (λh=>?_)
  .have ay:k<l.length:=by have h:(k:Int)<((l.map Obj.enc).length:Int):=h;rw[P2]at h;omega
   refine af (nv ay) ?_;have hi:=xm ay;have hfd:=mH (q:=q) ay;generalize l[k]=o at hi hfd;refine hF o _ ?_;refine aC (λGh=>?_) (λGh=>?_)
   .rw[hfd Gh hk.2];exact⟨rfl,rfl⟩
   .refine⟨k+1,⟨ay,λj s hj hs=>?_⟩,(show l.length-(k+1)<l.length-k by omega),View.o 1 [0] [] ?_ ?_⟩
    .rcases aaD j k with h5|h5
     .exact hk.2 j s h5 hs
     .have:j=k:=om;subst this;rw[hi]at hs;cases hs;exact Gh
    .repeat(first|exact .nil|refine .aL ?_|refine .put (.aO (bC om).symm) ?_|refine .eq rfl ?_)
    .exact .pt rfl rfl (.lR rfl) (.nil _)
  .have eO:¬(k:Int)<((l.map Obj.enc).length:Int):=h;rw[P2]at eO;rw[oy λj s hs=>hk.2 j s (by have:=(Mp.1 hs).1;omega) hs]
   exact⟨rfl,rfl⟩
theorem EP(l:List Obj)(hb:l.length<=4194304)(F:Nat)(cs:List Dt)(q:Obj->Bool)(hF:∀s,∀K:CV->Mem->Prop,K (ar (q s)) [.var (cs.map .ai)]->aq prog F [s.cv,.rv (.one (.ptr 0 0))] [.var (cs.map .ai)] K):
  body prog c89 [cQ l,.rv (.one (.fn F [0]))] [.var (cs.map .ai)] (λr m=>r=ar (l.any q)/\m=[.var (cs.map .ai)]):=by
 refine(aR func131 l131 (Hu l hb F cs q hF)).mono λr m⟨hr,hm⟩=>?_
 subst hr hm;refine⟨?_,rfl⟩;show ar _=ar _;rw[<-tS]
theorem vo(l:List Obj)(hb:l.length<=4194304)(F:Nat)(cs:List Dt)(q:Obj->Bool)(hF:∀s,∀K:CV->Mem->Prop,K (ar (q s)) [.var (cs.map .ai)]->aq prog F [s.cv,.rv (.one (.ptr 0 0))] [.var (cs.map .ai)] K)(K:CV->Mem->Prop)(h:K (ar (l.any q)) [.var (cs.map .ai)]):
  aq prog 89 [cQ l,.rv (.one (.fn F [0]))] [.var (cs.map .ai)] K:=
 (aR func89 l89 (EP l hb F cs q hF)).mono λr m⟨hr,hm⟩=>by subst hr hm;exact h
def c47:LF:=Cq prog Tryz.f47 [[4],[4,1,0],[4,2]] []
theorem l47:bA prog Tryz.f47=some c47.er:=by kernel_rfl
theorem EQ(o:Obj)(a c:Dt)(ps:List aM):body prog c91 [o.cv,.rv (.one (.ptr 0 0))] [.var ([a,c,dM ps].map .ai)] (λr m=>r=ar (cD (IntKind.i64.wrap (((ps.map aM.enc).length:Int)-1)) o)/\∃ex,m= .var ([a,c,dM ps].map .ai)::ex):=by
 refine aC (λh=>?_) (λh=>?_)
 .refine⟨?_,_,rfl⟩;show ar _=ar _;rw[cD,h];rfl
 .refine⟨?_,_,rfl⟩;show ar _=ar _;rw[cD,h];rfl
theorem Xz(o:Obj)(a c:Dt)(ps:List aM)(K:CV->Mem->Prop)(h:K (ar (cD (IntKind.i64.wrap (((ps.map aM.enc).length:Int)-1)) o)) [.var ([a,c,dM ps].map .ai)]):aq prog 91 [o.cv,.rv (.one (.ptr 0 0))] [.var ([a,c,dM ps].map .ai)] K:=
 fX rfl (aR func91 l91 (EQ o a c ps)) h
structure ER{α:Type}(q:Nat->α->Bool)(mn:Nat)(L:List α)(n:Nat):Prop where
 le:n<=L.length
 mn:min mn L.length<=n
 dr:∀(t:Nat)o,n<=t->L[t]? =some o->q t o=true
structure jO{α:Type}(q:Nat->α->Bool)(mn:Nat)(L:List α)(n:Nat):Prop where
 t:ER q mn L n
 e:n<=mn\/∃o,L[n-1]? =some o/\q (n-1) o=false
theorem ER.start{α:Type}(q:Nat->α->Bool)(mn:Nat)(L:List α):ER q mn L L.length:=
 ⟨aah _,Nat.min_le_right _ _,λt o h ho=>by have:=(Mp.1 ho).1;omega⟩
theorem ER.step{α:Type}{q:Nat->α->Bool}{mn:Nat}{L:List α}{n:Nat}(h:ER q mn L n)(hn:mn<n)(hl:n-1<L.length)(hq:q (n-1) L[n-1]=true):ER q mn L (n-1):=
 ⟨om,om,λt o ht ho=>by
  rcases aaD t n with h1|h1
  .have:t=n-1:=om;subst this;rw[xm hl]at ho;cases ho;exact hq
  .exact h.dr t o h1 ho⟩
theorem i5{α:Type}{L:List α}{n:Nat}(h:n<=L.length):(L.take n).length=n:=by rw[abg];omega
theorem yV{α:Type}(f:α->List Dt)(L:List α){n:Nat}(h:n<=L.length):(((L.take n).map f).take (n-1)).drop 0=(L.take (n-1)).map f:=by rw[aer,<-adQ,List.take_take,ael om]
theorem yW{α:Type}(f:α->List Dt)(L:List α){n:Nat}(h1:0<n)(h:n<=L.length):cH ((L.take n).map f) ((n-1:Nat):Int)=some (f (L[n-1]'(by omega))):=by rw[aY,Rn,adq om,xm om];rfl
def qO(_:Nat)(o:Obj):Bool:=o.ah==0
def qP(_:Nat)(o:aV):Bool:=decide (o.obj<0)
def qZ(O:List Obj)(t:Nat)(o:aM):Bool:=decide (0<t)&&(!o.aF&& !(O.any (cD (t:Int))))
def gq(O:List Obj)(k:Nat)(t:Nat)(o:aM):aM:=if(decide (t<k)&&qZ O t o)=true then fI else o
def qR(O:List Obj)(t:Nat)(o:aM):Bool:= !o.aF&& !(O.any (cD (t:Int)))
structure gX(c:Kr)(d:Kr):Prop where
 ex:∃(n1 n2 n3:Nat)(P:List aM),jO qO 1 c.l n1/\jO qP 0 c.ops n2/\Pt c.ps P (gq (c.l.take n1) c.ps.length)/\jO (qR (c.l.take n1)) 1 P n3/\d=⟨c.l.take n1,c.ops.take n2,P.take n3⟩
def KS(k:Kr)(r:CV)(m:Mem):Prop:=∃a c d,ig k a/\cI a.l a.ops a.ps c.l c.ops c.ps false/\gX c d/\cM m r (cA d.l d.ops d.ps)
def EKs(k:Kr):Ex->St->Prop:=oi prog c47.mr (KS k)
def T4:LC:=mK (bs (bs (bs (bs c47.code))))
def T57:LC:=mK (pb (bs T4))
def R8:LC:=bs (bs T4)
def E60:List CV:=jD 120 [(2,.rv (.one (.ptr 1 0))),(3,.rv (.one (.ptr 2 0)))]
theorem afJ(m:Mem)(d:Kr):cM m (.rv (.agg [.ai (cX d.l),.ai (de d.ops),.ai (dM d.ps)])) (cA d.l d.ops d.ps):=cM.self rfl
theorem afK(k a c:Kr)(ha:ig k a)(hc:cI a.l a.ops a.ps c.l c.ops c.ps false)(hk:dY c.l c.ops c.ps)(n1 n2:Nat)(h1:jO qO 1 c.l n1)(h2:jO qP 0 c.ops n2)(P:List aM)(O:List Obj)(hO:O=c.l.take n1)(hP:Pt c.ps P (gq (c.l.take n1) c.ps.length)):aw prog 0 (mK R8) (EKs k) ⟨E60,[.aE,.var z3,.var [.ai (cX O),.ai (de (c.ops.take n2)),.ai (dM P)]]⟩:=by
 have hPl:P.length<=4194304:=by rw[hP.1];exact hk.lp
 have hOl:O.length<=4194304:=by rw[hO,abg];have:=hk.ll;omega
 have XA:∀(n:Nat)(m:Mem),ER (qR O) 1 P n->(n<=1\/∃o,P[n-1]? =some o/\qR O (n-1) o=false)->KS k (.rv (.agg [.ai (cX O),.ai (de (c.ops.take n2)),.ai (dM (P.take n))])) m:=λn m hn he=>
  ⟨a,c,⟨O,c.ops.take n2,P.take n⟩,ha,hc,⟨n1,n2,n,P,h1,h2,hP,by rw[<-hO];exact⟨hn,he⟩,by rw[hO]⟩,afJ m ⟨O,c.ops.take n2,P.take n⟩⟩
 refine ax (λn=>ER (qR O) 1 P n) [2,3] (λ_=>[]) (λn=>[.aE,.var z3,.var [.ai (cX O),.ai (de (c.ops.take n2)),.ai (dM (P.take n))]]) (λn=>n) P.length (.start _ _ _) ?_ (λn hn=>?_)
 .refine View.o1 3 [0,1,2] [] ?_
  .exact(.aE (.pe rfl rfl rfl (.pt rfl rfl (dC.var (.cons (.aO (.ai _)) (.cons (.aO (.ai _)) (.cons (PB (by rw[abo])) .nil)))) (.nil _))))
 have hn:ER (qR O) 1 P n:=hn;have lQ:=hn.le;refine an (λh=>?_) (λh=>?_)
 .have qj:1<n:=by have h:(((P.take n).map aM.enc).length:Int)>1:=h;rw[P2,i5 lQ]at h;omega
  have hz:IntKind.i64.wrap ((((P.take n).map aM.enc).length:Int)-1)=((n-1:Nat):Int):=by rw[P2,i5 lQ,js om om];omega
  have ay:n-1<P.length:=om;have hg:=yW aM.enc P om lQ;rw[<-hz]at hg;have pI:=xm ay;have wL:=hn.step om ay;generalize P[n-1]=x at hg pI wL;have hg:cH ((P.take n).map aM.enc) (IntKind.i64.wrap ((((P.take n).map aM.enc).length:Int)-1))=some [.val (.bool x.aF),.val (.bool x.fenced),.val (.int .i64 x.code),ip x.ap]:=hg;refine af hg ?_;refine aC (λbR=>?_) (λbR=>?_)
  .refine gN (args0:=[cQ O,.rv (.one (.fn 91 [0]))]) (cs:=[cX O,de (c.ops.take n2),dM (P.take n)]) 2 rfl rfl (r0:=ar (O.any (cD (IntKind.i64.wrap ((((P.take n).map aM.enc).length:Int)-1))))) rfl (λK hK=>vo O hOl 91 _ _ (λs K hK=>Xz s _ _ _ K hK) K hK) ?_
   rw[hz];refine aC (λNS=>?_) (λNS=>?_)
   .have hq:qR O (n-1) x=true:=by unfold qR;rw[bR,NS];rfl
    refine af (x:=n-1) (by show pV (am .i64 (IntKind.i64.wrap ((((P.take n).map aM.enc).length:Int)-1)))=_;rw[hz];rfl) ?_
    refine bS (by simp[ack];omega) ?_
    refine⟨n-1,wL hq,(show n-1<n by omega),View.o1 3 [0,1,2] [] ?_⟩
    .exact(.aE (.pe rfl rfl rfl (.pt rfl rfl (dC.var (.cons (.aO (.ai _)) (.cons (.aO (.ai _)) (.cons (PB (congrArg (Dt.sl 4) (yV aM.enc P lQ))) .nil)))) (.nil _))))
   .have hq:qR O (n-1) x=false:=by unfold qR;rw[bR,NS];rfl
    exact XA n _ hn (.inr ⟨x,pI,hq⟩)
  .have hq:qR O (n-1) x=false:=by unfold qR;rw[bR];rfl
   exact XA n _ hn (.inr ⟨x,pI,hq⟩)
 .have qj:n<=1:=by have h:¬(((P.take n).map aM.enc).length:Int)>1:=h;rw[P2,i5 lQ]at h;omega
  exact XA n _ hn (.inl qj)
structure StZ where
 p:Nat
 P:List aM
theorem dY.afL{l:List Obj}{ops:List aV}{ps:List aM}(h:dY l ops ps)(n:Nat):(l.take n).length<=4194304:=by rw[abg];have:=h.ll;omega
theorem VV(k a c:Kr)(ha:ig k a)(hc:cI a.l a.ops a.ps c.l c.ops c.ps false)(hk:dY c.l c.ops c.ps)(n1 n2:Nat)(h1:jO qO 1 c.l n1)(h2:jO qP 0 c.ops n2):
  aw prog 0 T57 (oX (aw prog 0 R8) (EKs k)) ⟨E60,[.aE,.var z3,.var [.ai (cX (c.l.take n1)),.ai (de (c.ops.take n2)),.row 3 4 0 none],.row 4 (aa (c.ps.map aM.enc))]⟩:=by
 have fb:=hk.lp;have hOl:=hk.afL n1;generalize hO:c.l.take n1=O at hOl;refine ax (λ(s:StZ)=>s.p<=c.ps.length/\Pt c.ps s.P (gq O s.p)) [2,3,59] (λs=>[(60,am .i64 (s.p:Nat))]) (λs=>[.aE,.var z3,.var [.ai (cX O),.ai (de (c.ops.take n2)),.row 3 4 0 none],.row 4 (aa (s.P.map aM.enc))]) (λs=>c.ps.length-s.p) ⟨0,c.ps⟩ ⟨aad _,(Pt.refl c.ps).congr λt o _=>by simp[gq]⟩ ?_ (λs hs=>?_)
 .refine View.o1 4 [0,1,2,3] [] ?_
  .exact(.aE (.pe rfl rfl rfl (.pt rfl rfl (dC.var (.cons (.aO (.ai _)) (.cons (.aO (.ai _)) (.cons (.aO (.row 3 4 0 none)) .nil)))) (.pn rfl rfl rfl))))
 obtain⟨p,P⟩:=s;obtain⟨hp,hP⟩:=hs;have hp:p<=c.ps.length:=hp;have hP:Pt c.ps P (gq O p):=hP;have hPl:=hP.1;refine an (λh=>?_) (λh=>?_)
 .have gA:p<c.ps.length:=yS h;obtain⟨Tl,Md⟩:=hP.at gA;have Md:P[p]=c.ps[p]:=by rw[Md];simp[gq]
  have k6:∀t,t≠p->decide (t<p+1)=decide (t<p):=λt ht=>decide_eq_decide.2 om
  have nB:qZ O p c.ps[p]=false->Pt c.ps P (gq O (p+1)):=λhf=>hP.congr λt o Af=>by
   by_cases JV:t=p
   .subst JV;rw[xm gA]at Af;cases Af;simp[gq,hf]
   .unfold gq;rw[k6 t JV]
  refine gN (args0:=[cQ O,.rv (.one (.fn 90 [0]))]) (cs:=[.val (.int .i64 (p:Nat))]) 4 rfl rfl (r0:=ar (O.any (cD (p:Int)))) rfl (λK hK=>vo O hOl 90 _ _ (λs K hK=>Xx s _ K hK) K hK) ?_
  refine an (λyU=>?_) (λyU=>?_)
  .have yU:0<p:=by have h:(p:Int)>0:=yU;omega
   refine af (nV Tl) ?_;refine af (bq aM.enc P Tl) ?_;refine aC (λbR=>?_) (λbR=>?_)
   .rw[Md]at bR;refine aC (λNS=>?_) (λNS=>?_)
    .refine af (nV Tl) ?_;refine af (bq aM.enc P Tl) ?_;have he:qZ O p c.ps[p]=true:=by unfold qZ;rw[bR,NS];simp[yU]
     have hs:=hP.set (j:=p) (x:=fI) (g:=gq O (p+1)) (λo Af=>by rw[xm gA]at Af;cases Af;simp[gq,he]) (λt o JV _=>by unfold gq;rw[k6 t JV])
     refine⟨⟨p+1,P.set p fI⟩,⟨gA,hs⟩,(show c.ps.length-(p+1)<c.ps.length-p by omega),View.o2 5 [0,1,2,3] [] ?_⟩
     .exact(.aE (.pe rfl rfl rfl (.pt rfl rfl (dC.var (.cons (.aO (.ai _)) (.cons (.aO (.ai _)) (.cons (.aO (.row 3 4 0 none)) .nil)))) (.pt rfl rfl (Pz P p) (.nil _)))))
    .skip
     refine⟨⟨p+1,P⟩,⟨gA,nB (by unfold qZ;rw[NS];simp)⟩,(show c.ps.length-(p+1)<c.ps.length-p by omega),View.o2 5 [0,1,2,3] [] ?_⟩
     .exact(.aE (.pe rfl rfl rfl (.pt rfl rfl (dC.var (.cons (.aO (.ai _)) (.cons (.aO (.ai _)) (.cons (.aO (.row 3 4 0 none)) .nil)))) (.pn rfl rfl rfl))))
   .rw[Md]at bR;refine⟨⟨p+1,P⟩,⟨gA,nB (by unfold qZ;rw[bR];simp)⟩,(show c.ps.length-(p+1)<c.ps.length-p by omega),View.o2 5 [0,1,2,3] [] ?_⟩
    .exact(.aE (.pe rfl rfl rfl (.pt rfl rfl (dC.var (.cons (.aO (.ai _)) (.cons (.aO (.ai _)) (.cons (.aO (.row 3 4 0 none)) .nil)))) (.pn rfl rfl rfl))))
  .have yU:p=0:=by have h:¬(p:Int)>0:=yU;omega
   refine⟨⟨p+1,P⟩,⟨gA,nB (by simp[qZ,yU])⟩,(show c.ps.length-(p+1)<c.ps.length-p by omega),View.o2 5 [0,1,2,3] [] ?_⟩
   .exact(.aE (.pe rfl rfl rfl (.pt rfl rfl (dC.var (.cons (.aO (.ai _)) (.cons (.aO (.ai _)) (.cons (.aO (.row 3 4 0 none)) .nil)))) (.pn rfl rfl rfl))))
 .have h9:c.ps.length<=p:=yT h;have wu:p=c.ps.length:=om;subst wu;rw[<-hO]at hP;refine bW [2,3] [] ([.aE,.var z3,.var [.ai (cX O),.ai (de (c.ops.take n2)),.ai (dM P)]]) (View.o1 4 [0,1,2] [3] ?_) ?_
  .exact(.aE (.pe rfl rfl rfl (.pt rfl rfl (dC.var (.cons (.aO (.ai _)) (.cons (.aO (.ai _)) (.cons (.dO (cV.db (Z:=λk=>bh [3] k=true) rfl rfl 0 none)) .nil)))) (.nil _))))
  exact afK k a c ha hc hk n1 n2 h1 h2 P O hO.symm hP
theorem VW(k a c:Kr)(ha:ig k a)(hc:cI a.l a.ops a.ps c.l c.ops c.ps false)(hk:dY c.l c.ops c.ps)(n1:Nat)(h1:jO qO 1 c.l n1):
  aw prog 0 T4 (EKs k) ⟨E60,[.aE,.var z3,.var [.ai (cX (c.l.take n1)),.ai (de c.ops),.row 3 4 0 none],.row 4 (aa (c.ps.map aM.enc))]⟩:=by
 have iY:=hk.lo;refine ax (λn=>ER qP 0 c.ops n) [2,3] (λ_=>[]) (λn=>[.aE,.var z3,.var [.ai (cX (c.l.take n1)),.ai (de (c.ops.take n)),.row 3 4 0 none],.row 4 (aa (c.ps.map aM.enc))]) (λn=>n) c.ops.length (.start _ _ _) ?_ (λn hn=>?_)
 .refine View.o1 4 [0,1,2,3] [] ?_
  .exact(.aE (.pe rfl rfl rfl (.pt rfl rfl (dC.var (.cons (.aO (.ai _)) (.cons (PB (by rw[abo])) (.cons (.aO (.row 3 4 0 none)) .nil)))) (.pn rfl rfl rfl))))
 have hn:ER qP 0 c.ops n:=hn;have lQ:=hn.le;refine an (λh=>?_) (λh=>?_)
 .have qj:0<n:=by have h:(((c.ops.take n).map aV.enc).length:Int)>0:=h;rw[P2,i5 lQ]at h;omega
  have hz:IntKind.i64.wrap ((((c.ops.take n).map aV.enc).length:Int)-1)=((n-1:Nat):Int):=by rw[P2,i5 lQ,js om om];omega
  have ay:n-1<c.ops.length:=om;have hg:=yW aV.enc c.ops om lQ;rw[<-hz]at hg;have pI:=xm ay;have wL:=hn.step om ay;generalize c.ops[n-1]=x at hg pI wL;have hg:cH ((c.ops.take n).map aV.enc) (IntKind.i64.wrap ((((c.ops.take n).map aV.enc).length:Int)-1))=some [.val (.int .i64 x.obj),.val (.int .i64 x.dq)]:=hg;refine af hg ?_;refine an (λhx=>?_) (λhx=>?_)
  .have hq:qP (n-1) x=true:=decide_eq_true hx;refine af (x:=n-1) (by show pV (am .i64 (IntKind.i64.wrap ((((c.ops.take n).map aV.enc).length:Int)-1)))=_;rw[hz];rfl) ?_
   refine bS (by simp[ack];omega) ?_
   refine⟨n-1,wL hq,(show n-1<n by omega),View.o1 4 [0,1,2,3] [] ?_⟩
   .exact(.aE (.pe rfl rfl rfl (.pt rfl rfl (dC.var (.cons (.aO (.ai _)) (.cons (PB (congrArg (Dt.sl 2) (yV aV.enc c.ops lQ))) (.cons (.aO (.row 3 4 0 none)) .nil)))) (.pn rfl rfl rfl))))
  .have hq:qP (n-1) x=false:=decide_eq_false hx;refine bW [2,3] [] ([.aE,.var z3,.var [.ai (cX (c.l.take n1)),.ai (de (c.ops.take n)),.row 3 4 0 none],.row 4 (aa (c.ps.map aM.enc))]) (View.o1 4 [0,1,2,3] [] ?_) ?_
   .exact(.aE (.pe rfl rfl rfl (.pt rfl rfl (dC.var (.cons (.aO (.ai _)) (.cons (.aO (.ai _)) (.cons (.aO (.row 3 4 0 none)) .nil)))) (.pn rfl rfl rfl))))
   exact VV k a c ha hc hk n1 n h1 ⟨hn,(.inr ⟨x,pI,hq⟩)⟩
 .have qj:n<=0:=by have h:¬(((c.ops.take n).map aV.enc).length:Int)>0:=h;rw[P2,i5 lQ]at h;omega
  refine bW [2,3] [] ([.aE,.var z3,.var [.ai (cX (c.l.take n1)),.ai (de (c.ops.take n)),.row 3 4 0 none],.row 4 (aa (c.ps.map aM.enc))]) (View.o1 4 [0,1,2,3] [] ?_) ?_
  .exact(.aE (.pe rfl rfl rfl (.pt rfl rfl (dC.var (.cons (.aO (.ai _)) (.cons (.aO (.ai _)) (.cons (.aO (.row 3 4 0 none)) .nil)))) (.pn rfl rfl rfl))))
  exact VV k a c ha hc hk n1 n h1 ⟨hn,.inl qj⟩
theorem Hv(k:Kr)(hk:dY k.l k.ops k.ps):body prog c47 [cA k.l k.ops k.ps] [] (KS k):=by
 refine jM k.l k.ops k.ps ⟨hk.ll,λo ho=>(hk.sm o ho).pZ⟩ hk.lo hk.lp hk.sl hk.ne ?_
 refine ax (λ(a:Kr)=>ig k a/\dY a.l a.ops a.ps) [2] (λ_=>[(3,.rv (.one (.ptr 2 0)))]) (λa=>[.aE,.var z3,.var [.row 3 9 0 none,.row 4 2 0 none,.row 5 4 0 none],.row 9 (aa (a.l.map Obj.enc)),.row 2 (aa (a.ops.map aV.enc)),.row 4 (aa (a.ps.map aM.enc))]) (λa=>mM a.ps) k ⟨.refl,hk⟩ ?_ (λa ha=>?_)
 .refine View.o1 6 [0,1,5,2,3,4] [] ?_
  .exact(.aE (.pe rfl rfl rfl (.pe rfl rfl rfl (.pr rfl rfl rfl (.pr rfl rfl rfl (.pn rfl rfl rfl))))))
 obtain⟨ha,Si⟩:=ha;refine Ht a Si .aE λc en ho=>?_
 refine aC (λhe=>?_) (λhe=>?_)
 .subst he;refine⟨c,⟨.step ha ho,ho.kr Si⟩,ho.mM,View.o1 6 [0,1,2,3,4,5] [] ?_⟩
  .exact(.aE (.pe rfl rfl rfl (.pe rfl rfl rfl (.pr rfl rfl rfl (.pr rfl rfl rfl (.pn rfl rfl rfl))))))
 .subst he;have hc:=ho;have On:=ho.kr Si;have Zp:=On.ll;refine ax (λn=>ER qO 1 c.l n) [2,3] (λ_=>[]) (λn=>[.aE,.var z3,.var [.ai (cX (c.l.take n)),.ai (de c.ops),.row 3 4 0 none],.row 4 (aa (c.ps.map aM.enc))]) (λn=>n) c.l.length (.start _ _ _) ?_ (λn hn=>?_)
  .refine View.o1 6 [0,1,2,5] [3,4] ?_
   .exact(.aE (.pe rfl rfl rfl (.pt rfl rfl (dC.var (.cons (by rw[abo];exact .dO (cV.db (Z:=λk=>bh [3,4] k=true) rfl rfl 0 none)) (.cons (.dO (cV.db (Z:=λk=>bh [3,4] k=true) rfl rfl 0 none)) (.cons (.aO (.row 3 4 0 none)) .nil)))) (.pn rfl rfl rfl))))
  have hn:ER qO 1 c.l n:=hn;have lQ:=hn.le;refine an (λh=>?_) (λh=>?_)
  .have qj:1<n:=by have h:(((c.l.take n).map Obj.enc).length:Int)>1:=h;rw[P2,i5 lQ]at h;omega
   have hz:IntKind.i64.wrap ((((c.l.take n).map Obj.enc).length:Int)-1)=((n-1:Nat):Int):=by rw[P2,i5 lQ,js om om];omega
   have ay:n-1<c.l.length:=om;have hg:=yW Obj.enc c.l om lQ;rw[<-hz]at hg;have pI:=xm ay;have wL:=hn.step om ay;generalize c.l[n-1]=x at hg pI wL;have hg:cH ((c.l.take n).map Obj.enc) (IntKind.i64.wrap ((((c.l.take n).map Obj.enc).length:Int)-1))=some [.val (.int .i64 x.ah),.sl 1 x.data,.sl 2 x.ag,.val (.string x.target),.val (.int .i64 x.aI),.sl 4 (x.aj.map cJ.enc),.val (.int .i64 x.aQ),.val (.int .i64 x.ak),.val (.int .i64 x.up)]:=hg;refine af hg ?_;refine bc (λhx=>?_) (λhx=>?_)
   .have hq:qO (n-1) x=true:=(by unfold qO;simpa using hx)
    refine af (x:=n-1) (by show pV (am .i64 (IntKind.i64.wrap ((((c.l.take n).map Obj.enc).length:Int)-1)))=_;rw[hz];rfl) ?_
    refine bS (by simp[ack];omega) ?_
    refine⟨n-1,wL hq,(show n-1<n by omega),View.o1 4 [0,1,2,3] [] ?_⟩
    .exact(.aE (.pe rfl rfl rfl (.pt rfl rfl (dC.var (.cons (PB (congrArg (Dt.sl 9) (yV Obj.enc c.l lQ))) (.cons (.aO (.ai _)) (.cons (.aO (.row 3 4 0 none)) .nil)))) (.pn rfl rfl rfl))))
   .have hq:qO (n-1) x=false:=(by unfold qO;simpa using hx)
    refine bW [2,3] [] ([.aE,.var z3,.var [.ai (cX (c.l.take n)),.ai (de c.ops),.row 3 4 0 none],.row 4 (aa (c.ps.map aM.enc))]) (View.o1 4 [0,1,2,3] [] ?_) ?_
    .exact(.aE (.pe rfl rfl rfl (.pt rfl rfl (dC.var (.cons (.aO (.ai _)) (.cons (.aO (.ai _)) (.cons (.aO (.row 3 4 0 none)) .nil)))) (.pn rfl rfl rfl))))
    exact VW k a c ha hc On n ⟨hn,(.inr ⟨x,pI,hq⟩)⟩
  .have qj:n<=1:=by have h:¬(((c.l.take n).map Obj.enc).length:Int)>1:=h;rw[P2,i5 lQ]at h;omega
   refine bW [2,3] [] ([.aE,.var z3,.var [.ai (cX (c.l.take n)),.ai (de c.ops),.row 3 4 0 none],.row 4 (aa (c.ps.map aM.enc))]) (View.o1 4 [0,1,2,3] [] ?_) ?_
   .exact(.aE (.pe rfl rfl rfl (.pt rfl rfl (dC.var (.cons (.aO (.ai _)) (.cons (.aO (.ai _)) (.cons (.aO (.row 3 4 0 none)) .nil)))) (.pn rfl rfl rfl))))
   exact VW k a c ha hc On n ⟨hn,.inl qj⟩
theorem PC(k:Kr)(hk:dY k.l k.ops k.ps){m:Mem}{K:CV->Mem->Prop}(h:∀a c d,ig k a->cI a.l a.ops a.ps c.l c.ops c.ps false->gX c d->K (cA d.l d.ops d.ps) m):aq prog 47 [cA k.l k.ops k.ps] m K:=by
 refine aT (K0:=KS k) (cN func47 l47 (Hv k hk)) (by simp[cA,cX,de,dM,CV.cY,CC.cY,RV.cY]) λr m1 hr=>?_
 obtain⟨a,c,d,h1,h2,h3,hf⟩:=hr;exact⟨_,hf,h a c d h1 h2 h3⟩
end Go.Proofs.YtllkfpggoigbaaaGreatDoor
