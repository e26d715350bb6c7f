/- Part 18 of 35. -/
import Derived.Test.YtllkfpggoigbaaaGreatDoorS15
import Derived.Test.YtllkfpggoigbaaaGreatDoorS17
set_option linter.unusedVariables false
set_option linter.unusedSimpArgs false
set_option linter.unnecessarySimpa false
set_option maxRecDepth 100000
set_option maxHeartbeats 0
namespace Go.Proofs.YtllkfpggoigbaaaGreatDoor
open Proofs.Tryz
open Go.AM Go.ChangeShapes Go.WideShapes Go.ChangeAt Go.RowKit
def wv(l:List Obj)(ops:List aT)(ps:List aL)(a:Mk):Mem:=
 [.var [.ptr 1 0,.row 2 1 0 none,.row 3 1 0 none],.var [.row 4 9 0 none,.row 5 2 0 none,.row 6 4 0 none],.row 1 (aa (a.O.map bE)),.row 1 (aa (a.P.map bE)),.row 9 (aa (l.map Obj.enc)),.row 2 (aa (ops.map aT.enc)),.row 4 (aa (ps.map aL.enc))]
theorem x6{l:List Obj}{ops:List aT}{ps:List aL}{a:Mk}{f:Nat}{args:List CV}{Q:Mk->Prop}(h:ap prog f args (wv l ops ps a) (λr m=>∃b,Q b/\r= .bG []/\m=wv l ops ps b))(x:Bk)(dR:args=args.map (CV.aN (sg [0,1,2,3,4,5,6] 8))){K:CV->Mem->Prop}(hK:∀b,Q b->K (.bG []) [.var [.ptr 1 0,.row 2 1 0 none,.row 3 1 0 none],.var [.row 4 9 0 none,.row 5 2 0 none,.row 6 4 0 none],.row 1 (aa (b.O.map bE)),.row 1 (aa (b.P.map bE)),.row 9 (aa (l.map Obj.enc)),.row 2 (aa (ops.map aT.enc)),.row 4 (aa (ps.map aL.enc)),x]):
  ap prog f args [.var [.ptr 1 0,.row 2 1 0 none,.row 3 1 0 none],.var [.row 4 9 0 none,.row 5 2 0 none,.row 6 4 0 none],.row 1 (aa (a.O.map bE)),.row 1 (aa (a.P.map bE)),.row 9 (aa (l.map Obj.enc)),.row 2 (aa (ops.map aT.enc)),.row 4 (aa (ps.map aL.enc)),x] K:=by
 refine be [0,1,2,3,4,5,6] 8 rfl rfl rfl rfl (args0:=args) dR (λi b' hi=>?_) h (λr m1 hr=>?_)
 .match i,hi with
  |0,hi=>cases hi;exact .inr ⟨λh=>h,_,rfl,.eq rfl aD⟩
  |1,hi=>cases hi;exact .inr ⟨λh=>h,_,rfl,.eq rfl aD⟩
  |2,hi=>cases hi;exact .inr ⟨λh=>h,_,rfl,.bn rfl⟩
  |3,hi=>cases hi;exact .inr ⟨λh=>h,_,rfl,.bn rfl⟩
  |4,hi=>cases hi;exact .inr ⟨λh=>h,_,rfl,.bn rfl⟩
  |5,hi=>cases hi;exact .inr ⟨λh=>h,_,rfl,.bn rfl⟩
  |6,hi=>cases hi;exact .inr ⟨λh=>h,_,rfl,.bn rfl⟩
  |n+7,hi=>simp[wv]at hi
 .obtain⟨b,hb,rfl,rfl⟩:=hr;refine⟨aai _,?_⟩;have e2:(Bk.row 1 (aa (b.O.map bE))).aN (sg [0,1,2,3,4,5,6] 8)= .row 1 (aa (b.O.map bE)):=by simp only[Bk.aN,dk]
  have e3:(Bk.row 1 (aa (b.P.map bE))).aN (sg [0,1,2,3,4,5,6] 8)= .row 1 (aa (b.P.map bE)):=by simp only[Bk.aN,dk]
  show K _ [.var [.ptr 1 0,.row 2 1 0 none,.row 3 1 0 none],.var [.row 4 9 0 none,.row 5 2 0 none,.row 6 4 0 none],(Bk.row 1 (aa (b.O.map bE))).aN (sg [0,1,2,3,4,5,6] 8),(Bk.row 1 (aa (b.P.map bE))).aN (sg [0,1,2,3,4,5,6] 8),(Bk.row 9 (aa (l.map Obj.enc))).aN (sg [0,1,2,3,4,5,6] 8),(Bk.row 2 (aa (ops.map aT.enc))).aN (sg [0,1,2,3,4,5,6] 8),(Bk.row 4 (aa (ps.map aL.enc))).aN (sg [0,1,2,3,4,5,6] 8),x];have e4:(Bk.row 9 (aa (l.map Obj.enc))).aN (sg [0,1,2,3,4,5,6] 8)= .row 9 (aa (l.map Obj.enc)):=by simp only[Bk.aN,dk]
  have e5:(Bk.row 2 (aa (ops.map aT.enc))).aN (sg [0,1,2,3,4,5,6] 8)= .row 2 (aa (ops.map aT.enc)):=by simp only[Bk.aN,dk]
  have e6:(Bk.row 4 (aa (ps.map aL.enc))).aN (sg [0,1,2,3,4,5,6] 8)= .row 4 (aa (ps.map aL.enc)):=by simp only[Bk.aN,dk]
  rw[e2,e3,e4,e5,e6];exact hK b hb
theorem GF(l:List Obj)(ops:List aT)(ps:List aL)(g:∀o,o∈l->o.sm)(N:Nat)(Ye:∀a z,zS l ops a->a.mu<N->ap prog 152 [.rv (.one (.ptr 0 0)),al .i64 z] (wv l ops ps a) (λr m=>∃b,PO l ops z a b/\r= .bG []/\m=wv l ops ps b))(ihP:∀a z w,zS l ops a->a.mu<N->ap prog 153 [.rv (.one (.ptr 0 0)),.rv (.agg [.ai (.val (.int .i64 z)),.ai (.val (.int .i64 w))])] (wv l ops ps a) (λr m=>∃b,PP l ops z a b/\r= .bG []/\m=wv l ops ps b))(a:Mk)(z:Int)(hbs:zS l ops a)(ZV:a.mu<=N):body prog c152 [.rv (.one (.ptr 0 0)),al .i64 z] (wv l ops ps a) (λr m=>∃b,PO l ops z a b/\r= .bG []/\m=wv l ops ps b):=by
 have hlen:∀L:List Bool,(aa (L.map bE)).length=L.length:=λL=>by rw[aJ,O9]
 obtain⟨hO,hP⟩:=hbs;refine am (λh=>?_) (λh0=>?_)
 .exact⟨a,.none λn hv=>by have:=hv.1;have h:z<0:=h;omega,rfl,rfl⟩
 obtain⟨n,rfl⟩:∃n:Nat,z=n:=⟨z.toNat,by have h:¬z<0:=h0;omega⟩
 refine am (λh=>?_) (λh1=>?_)
 .refine⟨a,.none λm hv=>?_,rfl,rfl⟩
  obtain⟨hz,o,ho,_⟩:=hv;have h:(n:Int)>=((aa (a.O.map bE)).length:Int):=h;rw[hlen]at h;have:=(Lw.1 ho).1;omega
 have hn:n<a.O.length:=by have h:¬(n:Int)>=((aa (a.O.map bE)).length:Int):=h1;rw[hlen]at h;omega
 have k8:n<l.length:=om;refine af (tm hn) ?_;refine af (oL hn) ?_;refine aA (λh2=>?_) (λh2=>?_)
 .refine⟨a,.none λm hv=>?_,rfl,rfl⟩
  have:m=n:=by have:=hv.1;omega
  subst this;exact(wy hn).trans (congrArg some h2)
 have OD:dL (n:Int) (lenOf (aa (l.map Obj.enc)).length 0 none)=some n:=bJ (by show n<(aa (l.map Obj.enc)).length;rw[aJ,O9];exact k8)
 have pK:=bm Obj.enc l k8;have i7:=wy k8;have qy:=g _ (aaR k8);generalize l[n]=o at pK i7 qy;obtain⟨ah,data,ag,target,aG,aj,aQ,ak,up⟩:=o;obtain⟨es,rfl⟩:∃es:List (ByteArray×Int),ag=es.map bP:=qy.t.2.1;refine af OD ?_;refine af pK ?_;refine ba (λh3=>?_) (λh3=>?_)
 .refine⟨a,.none λm hv=>?_,rfl,rfl⟩
  obtain⟨hz,o2,o0,hk⟩:=hv;have:m=n:=om;subst this;rw[i7]at o0;cases o0;exact absurd h3 hk
 have h3:ah≠0:=h3;have KR:es.length<=8:=by have:=qy.e;simpa using this
 have I6:aj.length<=8:=qy.q;have Wc:=AS.start (l:=l) (ops:=ops) hn es aj;have ZW:(⟨a.O.set n true,a.P⟩:Mk).mu<N:=by have:=rP a.O n ((wy hn).trans (congrArg some h2));have ZV:eB a.O+eB a.P<=N:=ZV;show eB (a.O.set n true)+eB a.P<N;omega
 refine af (tm hn) ?_;refine af (oL hn) ?_;refine af OD ?_;refine af pK ?_;refine ar (λ(s:StM)=>s.j<=es.length/\AS l ops n a s.b s.j 0 es aj) [0,4,61,62] (λs=>[(63,al .i64 (s.j:Nat))]) (λs=>[.var [.ptr 1 0,.row 2 1 0 none,.row 3 1 0 none],.var [.row 4 9 0 none,.row 5 2 0 none,.row 6 4 0 none],.row 1 (aa (s.b.O.map bE)),.row 1 (aa (s.b.P.map bE)),.row 9 (aa (l.map Obj.enc)),.row 2 (aa (ops.map aT.enc)),.row 4 (aa (ps.map aL.enc))]) (λs=>es.length-s.j) ⟨0,_⟩ ⟨WG _,Wc⟩ ?_ (λs hs=>?_)
 .refine View.o1 7 [0,1,2,3,4,5,6] [] ?_
  .exact .pe rfl rfl rfl (.pe rfl rfl rfl (.pt rfl rfl (.bn GD) (.pr rfl rfl rfl (.pr rfl rfl rfl (.pr rfl rfl rfl (.pn rfl rfl rfl))))))
 obtain⟨j,b⟩:=s;obtain⟨hj,hM⟩:=hs;have hj:j<=es.length:=hj;have hM:AS l ops n a b j 0 es aj:=hM;refine am (λh=>?_) (λh=>?_)
 .have bQ:j<es.length:=by have h:(j:Int)<((es.map bP).length:Int):=h;rw[O9]at h;omega
  refine af (ti bQ) ?_;have hbm:=hM.UQ;refine x6 (Ye b es[j].2 ⟨hM.st.lo.trans hO,hM.st.lp.trans hP⟩ om) _ rfl λc hc=>?_
  refine⟨⟨j+1,c⟩,⟨bQ,hM.ZR (wy bQ) hc i7 rfl⟩,(show es.length-(j+1)<es.length-j by omega),View.o2 8 [0,1,2,3,4,5,6] [] ?_⟩
  .exact .au
 .have rJ:j=es.length:=by have h:¬(j:Int)<((es.map bP).length:Int):=h;rw[O9]at h;omega
  subst rJ;refine af pK ?_;refine ar (λ(s:StM)=>s.j<=aj.length/\AS l ops n a s.b es.length s.j es aj) [0,75,76] (λs=>[(77,al .i64 (s.j:Nat))]) (λs=>[.var [.ptr 1 0,.row 2 1 0 none,.row 3 1 0 none],.var [.row 4 9 0 none,.row 5 2 0 none,.row 6 4 0 none],.row 1 (aa (s.b.O.map bE)),.row 1 (aa (s.b.P.map bE)),.row 9 (aa (l.map Obj.enc)),.row 2 (aa (ops.map aT.enc)),.row 4 (aa (ps.map aL.enc))]) (λs=>aj.length-s.j) ⟨0,b⟩ ⟨WG _,hM⟩ ?_ (λs hs=>?_)
  .refine View.o1 7 [0,1,2,3,4,5,6] [] ?_
   .exact .au
  clear hM hj h;obtain⟨j,b⟩:=s;obtain⟨hj,hM⟩:=hs;have hj:j<=aj.length:=hj;have hM:AS l ops n a b es.length j es aj:=hM;refine am (λh=>?_) (λh=>?_)
  .have bQ:j<aj.length:=by have h:(j:Int)<((aj.map cy.enc).length:Int):=h;rw[O9]at h;omega
   have VQ:=wy bQ;refine af (Si bQ) ?_;have hbm:=hM.UQ;refine aA (λhh=>?_) (λhh=>?_)
   .refine x6 (ihP b aj[j].b8 aj[j].rts ⟨hM.st.lo.trans hO,hM.st.lp.trans hP⟩ om) _ rfl λc hc=>?_
    refine⟨⟨j+1,c⟩,⟨bQ,hM.ZS VQ hh hc i7 rfl⟩,(show aj.length-(j+1)<aj.length-j by omega),View.o2 8 [0,1,2,3,4,5,6] [] ?_⟩
    .exact .au
   .skip
    refine⟨⟨j+1,b⟩,⟨bQ,hM.ZU VQ hh⟩,(show aj.length-(j+1)<aj.length-j by omega),View.o2 8 [0,1,2,3,4,5,6] [] ?_⟩
    .exact .au
  .have rJ:j=aj.length:=by have h:¬(j:Int)<((aj.map cy.enc).length:Int):=h;rw[O9]at h;omega
   subst rJ;exact⟨b,hM.gu i7 h3 rfl rfl,rfl,rfl⟩
theorem GG(l:List Obj)(ops:List aT)(ps:List aL)(N:Nat)(Ye:∀a z,zS l ops a->a.mu<N->ap prog 152 [.rv (.one (.ptr 0 0)),al .i64 z] (wv l ops ps a) (λr m=>∃b,PO l ops z a b/\r= .bG []/\m=wv l ops ps b))(a:Mk)(z w:Int)(hbs:zS l ops a)(ZV:a.mu<=N):body prog c153 [.rv (.one (.ptr 0 0)),.rv (.agg [.ai (.val (.int .i64 z)),.ai (.val (.int .i64 w))])] (wv l ops ps a) (λr m=>∃b m',PP l ops z a b/\r= .bG []/\m=wv l ops ps b++m'):=by
 have hlen:∀L:List Bool,(aa (L.map bE)).length=L.length:=λL=>by rw[aJ,O9]
 obtain⟨hO,hP⟩:=hbs;refine am (λh=>?_) (λh0=>?_)
 .exact⟨a,[_],.none λn hv=>by have:=hv.1;have h:z<0:=h;omega,rfl,rfl⟩
 obtain⟨n,rfl⟩:∃n:Nat,z=n:=⟨z.toNat,by have h:¬z<0:=h0;omega⟩
 refine am (λh=>?_) (λh1=>?_)
 .refine⟨a,[_],.none λm hv=>?_,rfl,rfl⟩
  obtain⟨hz,ho⟩:=hv;have h:(n:Int)>=((aa (a.P.map bE)).length:Int):=h;rw[hlen]at h;omega
 have hn:n<a.P.length:=by have h:¬(n:Int)>=((aa (a.P.map bE)).length:Int):=h1;rw[hlen]at h;omega
 have k8:n<ops.length:=om;refine af (tm hn) ?_;refine af (oL hn) ?_;refine aA (λh2=>?_) (λh2=>?_)
 .refine⟨a,[_],.none λm hv=>?_,rfl,rfl⟩
  have:m=n:=by have:=hv.1;omega
  subst this;exact(wy hn).trans (congrArg some h2)
 have ZW:(⟨a.O,a.P.set n true⟩:Mk).mu<N:=by have:=rP a.P n ((wy hn).trans (congrArg some h2));have ZV:eB a.O+eB a.P<=N:=ZV;show eB a.O+eB (a.P.set n true)<N;omega
 refine af (tm hn) ?_;refine af (oL hn) ?_;refine⟨trivial,?_⟩;have OD:dL (n:Int) (lenOf (aa (ops.map aT.enc)).length 0 none)=some n:=bJ (by show n<(aa (ops.map aT.enc)).length;rw[aJ,O9];exact k8)
 refine af OD ?_;refine af (bm aT.enc ops k8) ?_;refine ek (iQ:=[.rv (.one (.ptr 0 0)),al .i64 ops[n].obj]) (m':=wv l ops ps ⟨a.O,a.P.set n true⟩ ++ [.var [.ai (.val (.int .i64 (n:Nat))),.ai (.val (.int .i64 w))]]) (View.o 8 [0,1,2,3,4,5,6,7] [] (.eq rfl (.eq rfl .nil))
  (.pe rfl rfl rfl (.pe rfl rfl rfl (.pr rfl rfl rfl (.pt rfl rfl (.bn GD) (.pr rfl rfl rfl (.pr rfl rfl rfl (.pr rfl rfl rfl (.pm rfl rfl rfl))))))))) ?_
 refine x6 (Ye ⟨a.O,a.P.set n true⟩ ops[n].obj ⟨hO,by simpa using hP⟩ ZW) _ rfl λc hc=>?_
 exact⟨trivial,c,[_],PP.of hn (wy k8) hc,rfl,rfl⟩
theorem pL(l:List Obj)(ops:List aT)(ps:List aL)(g:∀o,o∈l->o.sm):∀N,
  (∀a z,zS l ops a->a.mu<N->ap prog 152 [.rv (.one (.ptr 0 0)),al .i64 z] (wv l ops ps a) (λr m=>∃b,PO l ops z a b/\r= .bG []/\m=wv l ops ps b))/\
  (∀a z w,zS l ops a->a.mu<N->ap prog 153 [.rv (.one (.ptr 0 0)),.rv (.agg [.ai (.val (.int .i64 z)),.ai (.val (.int .i64 w))])] (wv l ops ps a) (λr m=>∃b,PP l ops z a b/\r= .bG []/\m=wv l ops ps b))
 |0=>⟨λ_ _ _ h=>absurd h (abE _),λ_ _ _ _ h=>absurd h (abE _)⟩
 |N+1=>by
  obtain⟨Ye,ihP⟩:=pL l ops ps g N;refine⟨λa z hb hm=>aP func152 l152 (GF l ops ps g N Ye ihP a z hb om),λa z w hb hm=>?_⟩
  refine bK (aP func153 l153 (GG l ops ps N Ye a z w hb om)) λr m1⟨b,m',hp,hr,KA⟩=>?_
  subst hr KA;refine⟨.bG [],wv l ops ps b,View.of (7+m'.length) [0,1,2,3,4,5,6] [] (by simp[wv];omega) rfl rfl rfl rfl (by simp[eh]<;>omega) (.put (.bG rfl λi r r' h=>by simp at h) .nil) ?_,⟨b,hp,rfl,rfl⟩⟩
  exact .au
def c129:LF:=Cq prog f129 [[2]] [[(d9 6 0 (d9 5 7 (.zB (.cons 6 (some [11,10]) (.cons 12 (some [5,4]) (.cons 13 none (.cons 14 (some []) (.cons 15 none .nil))))) (.cons 12 (some [5,4]) (.cons 6 (some [11,10]) (.cons 13 none (.cons 14 (some []) (.cons 15 none .nil))))))))]]
def x7(l:List Obj)(ops:List aT)(ps:List aL)(RO RP:Nat->Prop):Prop:=
 (∀n,vO l 0 n->RO n)/\∀(p:Nat)pr,ps[p]? =some pr->pr.aF=true->∀s,s∈pr.an->s.has=true->∀c,vP ops s.b8 c->RP c
structure gm(l:List Obj)(ops:List aT)(ps:List aL)(b:Mk):Prop where
 len:zS l ops b
 nR:x7 l ops ps (dv b.O) (dv b.P)
 cl:Cl l ops (dv b.O) (dv b.P)
 iC:∀RO RP,Cl l ops RO RP->x7 l ops ps RO RP->OC RO RP b
def AT(l:List Obj)(ops:List aT):Mk:=⟨List.replicate l.length false,List.replicate ops.length false⟩
theorem x8{n i:Nat}:¬dv (List.replicate n false) i:=by
 intro h;unfold dv at h;rw[adX]at h;split at h<;>cases h
structure dU(l:List Obj)(ops:List aT)(ps:List aL)(b:Mk)(p j:Nat):Prop where
 st:Step l ops (λ_=>False) (AT l ops) b
 r0:∀n,vO l 0 n->dv b.O n
 rp:∀(i:Nat)pr,i<p->ps[i]? =some pr->pr.aF=true->∀s,s∈pr.an->s.has=true->∀c,vP ops s.b8 c->dv b.P c
 rj:∀pr,ps[p]? =some pr->pr.aF=true->∀(t:Nat)s,t<j->pr.an[t]? =some s->s.has=true->∀c,vP ops s.b8 c->dv b.P c
 iC:∀RO RP,Cl l ops RO RP->x7 l ops ps RO RP->OC RO RP b
theorem dU.start{l:List Obj}{ops:List aT}{ps:List aL}{b:Mk}(h:PO l ops 0 (AT l ops) b):dU l ops ps b 0 0:=
 ⟨h.st,h.on,λi pr h=>absurd h (abE i),λpr _ _ t s h=>absurd h (abE t),λRO RP gF hr=>h.sd RO RP gF ⟨λi hi=>absurd hi x8,λi hi=>absurd hi x8⟩ hr.1⟩
theorem dU.UR{l:List Obj}{ops:List aT}{ps:List aL}{b c:Mk}{p j:Nat}(h:dU l ops ps b p j){pr:aL}(nS:ps[p]? =some pr)(bO:pr.aF=true){s:dJ}(hs:pr.an[j]? =some s)(hh:s.has=true)(hc:PP l ops s.b8 b c):dU l ops ps c p (j+1):=by
 refine⟨h.st.trans hc.st,λn hn=>hc.st.mo n (h.r0 n hn),λi x hi hx hl y hy Rd d hd=>hc.st.mp d (h.rp i x hi hx hl y hy Rd d hd),λx hx hl t y ht hy Rd d hd=>?_,λRO RP gF hr=>hc.sd RO RP gF (h.iC RO RP gF hr) λd hd=>hr.2 p pr nS bO s (Vm hs) hh d hd⟩
 rcases aax t j with M2|M2
 .exact hc.st.mp d (h.rj x hx hl t y M2 hy Rd d hd)
 .have:t=j:=om;subst this;rw[nS]at hx;cases hx;rw[hs]at hy;cases hy;exact hc.on d hd
theorem dU.skip{l:List Obj}{ops:List aT}{ps:List aL}{b:Mk}{p j:Nat}(h:dU l ops ps b p j){pr:aL}(nS:ps[p]? =some pr){s:dJ}(hs:pr.an[j]? =some s)(hh:pr.aF=true->s.has=false):dU l ops ps b p (j+1):=by
 refine⟨h.st,h.r0,h.rp,λx hx hl t y ht hy Rd d hd=>?_,h.iC⟩
 rcases aax t j with M2|M2
 .exact h.rj x hx hl t y M2 hy Rd d hd
 .have:t=j:=om;subst this;rw[nS]at hx;cases hx;rw[hs]at hy;cases hy;rw[hh hl]at Rd;cases Rd
theorem dU.next{l:List Obj}{ops:List aT}{ps:List aL}{b:Mk}{p:Nat}{pr:aL}(nS:ps[p]? =some pr)(h:dU l ops ps b p pr.an.length):dU l ops ps b (p+1) 0:=by
 refine⟨h.st,h.r0,λi x hi hx hl y hy Rd d hd=>?_,λx _ _ t y ht=>absurd ht (abE t),h.iC⟩
 rcases aax i p with Yf|Yf
 .exact h.rp i x Yf hx hl y hy Rd d hd
 .have:i=p:=om;subst this;rw[nS]at hx;cases hx;obtain⟨t,ht⟩:=aak hy;exact h.rj pr nS hl t y (Lw.1 ht).1 ht Rd d hd
theorem dU.gu{l:List Obj}{ops:List aT}{ps:List aL}{b:Mk}(h:dU l ops ps b ps.length 0):gm l ops ps b:=by
 refine⟨⟨by have:=h.st.lo;simpa[AT]using this,by have:=h.st.lp;simpa[AT]using this⟩,⟨h.r0,λp pr hp hl s hs hh c hc=>h.rp p pr (Lw.1 hp).1 hp hl s hs hh c hc⟩,⟨λi o hi ho z n hz hv=>?_,λi o hi ho z c hz hv=>?_,λc o hc ho n hv=>?_⟩,h.iC⟩
 .exact(h.st.co i o hi x8 (λh=>h) ho).1 z n hz hv
 .exact(h.st.co i o hi x8 (λh=>h) ho).2 z c hz hv
 .exact h.st.cp c o hc x8 ho n hv
theorem tn(n:Nat):(gP n [CC.ai (.val (.bool false))])=aa ((List.replicate n false).map bE):=by
 induction n with
 |zero=>rfl
 |succ n ih=>simp only[gP,ih];simp[aa,bE,List.replicate_succ]
theorem l129:bs prog f129=some c129.er:=by kernel_rfl
theorem Jc{l:List dJ}{k:Nat}(h:k<l.length):cm (l.map dJ.enc) (k:Nat)=some [.val (.bool l[k].has),.val (.int .i64 l[k].b8),.val (.int .i64 l[k].rts)]:=by rw[aU,Qu,wy h];rfl
structure StK where
 p:Nat
 b:Mk
theorem eK{ps:List aL}{k:Nat}(h:k<ps.length):cm (ps.map aL.enc) (k:Nat)=some [.val (.bool ps[k].aF),.val (.bool ps[k].fenced),.val (.int .i64 ps[k].code),gL ps[k].an]:=by rw[aU,Qu,wy h];rfl
theorem tp{l:List Obj}{ops:List aT}{ps:List aL}{a:Mk}{f:Nat}{args args0:List CV}{Q:Mk->Prop}(h:ap prog f args0 (wv l ops ps a) (λr m=>∃b,Q b/\r= .bG []/\m=wv l ops ps b))(X:Mem)(dR:args=args0.map (CV.aN (sg [4,0,5,6,1,2,3] (7+X.length)))){K:CV->Mem->Prop}(hK:∀b,Q b->K (.bG []) ([.var [.row 1 9 0 none,.row 2 2 0 none,.row 3 4 0 none],.row 9 (aa (l.map Obj.enc)),.row 2 (aa (ops.map aT.enc)),.row 4 (aa (ps.map aL.enc)),.var [.ptr 0 0,.row 5 1 0 none,.row 6 1 0 none],.row 1 (aa (b.O.map bE)),.row 1 (aa (b.P.map bE))]++X)):
  ap prog f args ([.var [.row 1 9 0 none,.row 2 2 0 none,.row 3 4 0 none],.row 9 (aa (l.map Obj.enc)),.row 2 (aa (ops.map aT.enc)),.row 4 (aa (ps.map aL.enc)),.var [.ptr 0 0,.row 5 1 0 none,.row 6 1 0 none],.row 1 (aa (a.O.map bE)),.row 1 (aa (a.P.map bE))]++X) K:=by
 refine be [4,0,5,6,1,2,3] (7+X.length) (by simp;omega) rfl rfl (by simp[eh]<;>omega) (args0:=args0) dR (λi b' hi=>?_) h (λr m1 hr=>?_)
 .match i,hi with
  |0,hi=>cases hi;exact .inr ⟨λh=>h,_,rfl,.eq rfl aD⟩
  |1,hi=>cases hi;exact .inr ⟨λh=>h,_,rfl,.eq rfl aD⟩
  |2,hi=>cases hi;exact .inr ⟨λh=>h,_,rfl,.bn rfl⟩
  |3,hi=>cases hi;exact .inr ⟨λh=>h,_,rfl,.bn rfl⟩
  |4,hi=>cases hi;exact .inr ⟨λh=>h,_,rfl,.bn rfl⟩
  |5,hi=>cases hi;exact .inr ⟨λh=>h,_,rfl,.bn rfl⟩
  |6,hi=>cases hi;exact .inr ⟨λh=>h,_,rfl,.bn rfl⟩
  |n+7,hi=>simp[wv]at hi
 .obtain⟨b,hb,rfl,rfl⟩:=hr;refine⟨aai _,?_⟩;have e:∀(s:Nat)(ds:List (List Dt)),(Bk.row s (aa ds)).aN (sg [4,0,5,6,1,2,3] (7+X.length))= .row s (aa ds):=λs ds=>by simp only[Bk.aN,dk]
  have hk:=hK b hb;have hw:dt ([.var [.row 1 9 0 none,.row 2 2 0 none,.row 3 4 0 none],.row 9 (aa (l.map Obj.enc)),.row 2 (aa (ops.map aT.enc)),.row 4 (aa (ps.map aL.enc)),.var [.ptr 0 0,.row 5 1 0 none,.row 6 1 0 none],.row 1 (aa (a.O.map bE)),.row 1 (aa (a.P.map bE))]++X) [4,0,5,6,1,2,3] (s8 (sg [4,0,5,6,1,2,3] (7+X.length)) (wv l ops ps b))=[.var [.row 1 9 0 none,.row 2 2 0 none,.row 3 4 0 none],.row 9 (aa (l.map Obj.enc)),.row 2 (aa (ops.map aT.enc)),.row 4 (aa (ps.map aL.enc)),.var [.ptr 0 0,.row 5 1 0 none,.row 6 1 0 none],.row 1 (aa (b.O.map bE)),.row 1 (aa (b.P.map bE))]++X:=by simp only[wv,s8,e,dt,cf,ab9];rfl
  rw[hw];exact hk
theorem GH(l:List Obj)(ops:List aT)(ps:List aL)(g:∀o,o∈l->o.sm)(hl:l.length<=4194304)(ho:ops.length<=4194304)(eF:ps.length<=4194304)(i3:∀p,p∈ps->p.an.length<=10):
  body prog c129 [.rv (.one (.ptr 0 0))] [.var [.row 1 9 0 none,.row 2 2 0 none,.row 3 4 0 none],.row 9 (aa (l.map Obj.enc)),.row 2 (aa (ops.map aT.enc)),.row 4 (aa (ps.map aL.enc))] (λr m=>∃b,gm l ops ps b/\r= .rv (.one (.ptr 4 0))/\m=[.var [.row 1 9 0 none,.row 2 2 0 none,.row 3 4 0 none],.row 9 (aa (l.map Obj.enc)),.row 2 (aa (ops.map aT.enc)),.row 4 (aa (ps.map aL.enc)),.var [.ptr 0 0,.row 5 1 0 none,.row 6 1 0 none],.row 1 (aa (b.O.map bE)),.row 1 (aa (b.P.map bE))]):=by
 refine⟨?_,?_⟩
 .skip
  refine bV (adU _) ?_;refine⟨(by show(aa (l.map Obj.enc)).length*1<=_;rw[aJ,O9];omega),⟨rfl,rfl,trivial⟩,?_⟩
  refine bV (adU _) ?_;refine⟨(by show(aa (ops.map aT.enc)).length*1<=_;rw[aJ,O9];omega),⟨rfl,rfl,trivial⟩,?_⟩
  refine⟨trivial,?_⟩;refine cj [0] [(3,.rv (.one (.ptr 4 0)))] ([.var [.row 1 9 0 none,.row 2 2 0 none,.row 3 4 0 none],.row 9 (aa (l.map Obj.enc)),.row 2 (aa (ops.map aT.enc)),.row 4 (aa (ps.map aL.enc)),.var [.ptr 0 0,.row 5 1 0 none,.row 6 1 0 none],.row 1 (aa ((AT l ops).O.map bE)),.row 1 (aa ((AT l ops).P.map bE))]) (View.o1 7 [0,1,2,3,6,4,5] [] ?_) ?_
  .exact(.pe rfl rfl rfl (.pr rfl rfl rfl (.pr rfl rfl rfl (.pr rfl rfl rfl (.pe rfl rfl rfl (.pt rfl rfl (.bn (by show gP (aa (l.map Obj.enc)).length _=_;rw[tn,aJ,O9];rfl)) (.pt rfl rfl (.bn (by show gP (aa (ops.map aT.enc)).length _=_;rw[tn,aJ,O9];rfl)) (.nil _))))))))
  refine tp ((pL l ops ps g ((AT l ops).mu+1)).1 (AT l ops) 0 ⟨by simp[AT],by simp[AT]⟩ (acI _)) [] rfl λb0 vg=>?_
  refine ar (λ(s:StK)=>s.p<=ps.length/\dU l ops ps s.b s.p 0) [3,28,29] (λs=>[(30,al .i64 (s.p:Nat))]) (λs=>[.var [.row 1 9 0 none,.row 2 2 0 none,.row 3 4 0 none],.row 9 (aa (l.map Obj.enc)),.row 2 (aa (ops.map aT.enc)),.row 4 (aa (ps.map aL.enc)),.var [.ptr 0 0,.row 5 1 0 none,.row 6 1 0 none],.row 1 (aa (s.b.O.map bE)),.row 1 (aa (s.b.P.map bE))]) (λs=>ps.length-s.p) ⟨0,b0⟩ ⟨WG _,.start vg⟩ ?_ (λs hs=>?_)
  .refine View.o1 7 [0,1,2,3,4,5,6] [] ?_
   .exact .au
  obtain⟨p,b⟩:=s;obtain⟨hp,hM⟩:=hs;have hp:p<=ps.length:=hp;have hM:dU l ops ps b p 0:=hM;refine am (λh=>?_) (λh=>?_)
  .have fP:p<ps.length:=by have h:(p:Int)<((aa (ps.map aL.enc)).length:Int):=h;rw[aJ,O9]at h;omega
   refine af (bJ (k:=p) (by show p<(aa (ps.map aL.enc)).length;rw[aJ,O9];exact fP)) ?_
   refine af (bm aL.enc ps fP) ?_;have nS:=wy fP;have nf:=i3 _ (aaR fP);generalize ps[p]=pr at nS nf;refine ar (λ(s:StK)=>s.p<=pr.an.length/\dU l ops ps s.b p s.p) [3,5,28,29,30,35,36] (λs=>[(37,al .i64 (s.p:Nat))]) (λs=>[.var [.row 1 9 0 none,.row 2 2 0 none,.row 3 4 0 none],.row 9 (aa (l.map Obj.enc)),.row 2 (aa (ops.map aT.enc)),.row 4 (aa (ps.map aL.enc)),.var [.ptr 0 0,.row 5 1 0 none,.row 6 1 0 none],.row 1 (aa (s.b.O.map bE)),.row 1 (aa (s.b.P.map bE)),.var (pr.enc.map .ai)]) (λs=>pr.an.length-s.p) ⟨0,b⟩ ⟨WG _,hM⟩ ?_ (λs hs=>?_)
   .refine View.o1 8 [0,1,2,3,4,5,6,7] [] ?_
    .exact .au
   clear hM;obtain⟨j,b⟩:=s;obtain⟨hj,hM⟩:=hs;have hj:j<=pr.an.length:=hj;have hM:dU l ops ps b p j:=hM;refine am (λf4=>?_) (λf4=>?_)
   .have bQ:j<pr.an.length:=by have h:(j:Int)<((pr.an.map dJ.enc).length:Int):=f4;rw[O9]at h;omega
    have Sj:=wy bQ;refine af (Jc bQ) ?_;generalize pr.an[j]=s at Sj;refine aA (λbO=>?_) (λbO=>?_)
    .refine aA (λhh=>?_) (λhh=>?_)
     .refine tp ((pL l ops ps g (b.mu+1)).2 b s.b8 s.rts ⟨by have:=hM.st.lo;simpa[AT]using this,by have:=hM.st.lp;simpa[AT]using this⟩ (acI _)) [_,_] rfl λc hc=>?_
      refine⟨⟨j+1,c⟩,⟨bQ,hM.UR nS bO Sj hh hc⟩,(show pr.an.length-(j+1)<pr.an.length-j by omega),View.o2 9 [0,1,2,3,4,5,6,7] [] ?_⟩
      .exact .au
     .skip
      refine⟨⟨j+1,b⟩,⟨bQ,hM.skip nS Sj (λ_=>hh)⟩,(show pr.an.length-(j+1)<pr.an.length-j by omega),View.o2 9 [0,1,2,3,4,5,6,7] [] ?_⟩
      .exact .au
    .skip
     refine⟨⟨j+1,b⟩,⟨bQ,hM.skip nS Sj (λh=>absurd (h.symm.trans bO) aD)⟩,(show pr.an.length-(j+1)<pr.an.length-j by omega),View.o2 9 [0,1,2,3,4,5,6,7] [] ?_⟩
     .exact .au
   .have rJ:j=pr.an.length:=by have h:¬(j:Int)<((pr.an.map dJ.enc).length:Int):=f4;rw[O9]at h;omega
    subst rJ;refine⟨⟨p+1,b⟩,⟨fP,hM.next nS⟩,(show ps.length-(p+1)<ps.length-p by omega),View.o2 8 [0,1,2,3,4,5,6] [] ?_⟩
    .exact .au
  .have vy:p=ps.length:=by have h:¬(p:Int)<((aa (ps.map aL.enc)).length:Int):=h;rw[aJ,O9]at h;omega
   subst vy;exact⟨b,hM.gu,rfl,rfl⟩
 .skip
  refine bV (adU _) ?_;refine⟨(by show(aa (ops.map aT.enc)).length*1<=_;rw[aJ,O9];omega),⟨rfl,rfl,trivial⟩,?_⟩
  refine bV (adU _) ?_;refine⟨(by show(aa (l.map Obj.enc)).length*1<=_;rw[aJ,O9];omega),⟨rfl,rfl,trivial⟩,?_⟩
  refine⟨trivial,?_⟩;refine cj [0] [(3,.rv (.one (.ptr 4 0)))] ([.var [.row 1 9 0 none,.row 2 2 0 none,.row 3 4 0 none],.row 9 (aa (l.map Obj.enc)),.row 2 (aa (ops.map aT.enc)),.row 4 (aa (ps.map aL.enc)),.var [.ptr 0 0,.row 5 1 0 none,.row 6 1 0 none],.row 1 (aa ((AT l ops).O.map bE)),.row 1 (aa ((AT l ops).P.map bE))]) (View.o1 7 [0,1,2,3,6,5,4] [] ?_) ?_
  .exact(.pe rfl rfl rfl (.pr rfl rfl rfl (.pr rfl rfl rfl (.pr rfl rfl rfl (.pe rfl rfl rfl (.pt rfl rfl (.bn (by show gP (aa (l.map Obj.enc)).length _=_;rw[tn,aJ,O9];rfl)) (.pt rfl rfl (.bn (by show gP (aa (ops.map aT.enc)).length _=_;rw[tn,aJ,O9];rfl)) (.nil _))))))))
  refine tp ((pL l ops ps g ((AT l ops).mu+1)).1 (AT l ops) 0 ⟨by simp[AT],by simp[AT]⟩ (acI _)) [] rfl λb0 vg=>?_
  refine ar (λ(s:StK)=>s.p<=ps.length/\dU l ops ps s.b s.p 0) [3,28,29] (λs=>[(30,al .i64 (s.p:Nat))]) (λs=>[.var [.row 1 9 0 none,.row 2 2 0 none,.row 3 4 0 none],.row 9 (aa (l.map Obj.enc)),.row 2 (aa (ops.map aT.enc)),.row 4 (aa (ps.map aL.enc)),.var [.ptr 0 0,.row 5 1 0 none,.row 6 1 0 none],.row 1 (aa (s.b.O.map bE)),.row 1 (aa (s.b.P.map bE))]) (λs=>ps.length-s.p) ⟨0,b0⟩ ⟨WG _,.start vg⟩ ?_ (λs hs=>?_)
  .refine View.o1 7 [0,1,2,3,4,5,6] [] ?_
   .exact .au
  obtain⟨p,b⟩:=s;obtain⟨hp,hM⟩:=hs;have hp:p<=ps.length:=hp;have hM:dU l ops ps b p 0:=hM;refine am (λh=>?_) (λh=>?_)
  .have fP:p<ps.length:=by have h:(p:Int)<((aa (ps.map aL.enc)).length:Int):=h;rw[aJ,O9]at h;omega
   refine af (bJ (k:=p) (by show p<(aa (ps.map aL.enc)).length;rw[aJ,O9];exact fP)) ?_
   refine af (bm aL.enc ps fP) ?_;have nS:=wy fP;have nf:=i3 _ (aaR fP);generalize ps[p]=pr at nS nf;refine ar (λ(s:StK)=>s.p<=pr.an.length/\dU l ops ps s.b p s.p) [3,5,28,29,30,35,36] (λs=>[(37,al .i64 (s.p:Nat))]) (λs=>[.var [.row 1 9 0 none,.row 2 2 0 none,.row 3 4 0 none],.row 9 (aa (l.map Obj.enc)),.row 2 (aa (ops.map aT.enc)),.row 4 (aa (ps.map aL.enc)),.var [.ptr 0 0,.row 5 1 0 none,.row 6 1 0 none],.row 1 (aa (s.b.O.map bE)),.row 1 (aa (s.b.P.map bE)),.var (pr.enc.map .ai)]) (λs=>pr.an.length-s.p) ⟨0,b⟩ ⟨WG _,hM⟩ ?_ (λs hs=>?_)
   .refine View.o1 8 [0,1,2,3,4,5,6,7] [] ?_
    .exact .au
   clear hM;obtain⟨j,b⟩:=s;obtain⟨hj,hM⟩:=hs;have hj:j<=pr.an.length:=hj;have hM:dU l ops ps b p j:=hM;refine am (λf4=>?_) (λf4=>?_)
   .have bQ:j<pr.an.length:=by have h:(j:Int)<((pr.an.map dJ.enc).length:Int):=f4;rw[O9]at h;omega
    have Sj:=wy bQ;refine af (Jc bQ) ?_;generalize pr.an[j]=s at Sj;refine aA (λbO=>?_) (λbO=>?_)
    .refine aA (λhh=>?_) (λhh=>?_)
     .refine tp ((pL l ops ps g (b.mu+1)).2 b s.b8 s.rts ⟨by have:=hM.st.lo;simpa[AT]using this,by have:=hM.st.lp;simpa[AT]using this⟩ (acI _)) [_,_] rfl λc hc=>?_
      refine⟨⟨j+1,c⟩,⟨bQ,hM.UR nS bO Sj hh hc⟩,(show pr.an.length-(j+1)<pr.an.length-j by omega),View.o2 9 [0,1,2,3,4,5,6,7] [] ?_⟩
      .exact .au
     .skip
      refine⟨⟨j+1,b⟩,⟨bQ,hM.skip nS Sj (λ_=>hh)⟩,(show pr.an.length-(j+1)<pr.an.length-j by omega),View.o2 9 [0,1,2,3,4,5,6,7] [] ?_⟩
      .exact .au
    .skip
     refine⟨⟨j+1,b⟩,⟨bQ,hM.skip nS Sj (λh=>absurd (h.symm.trans bO) aD)⟩,(show pr.an.length-(j+1)<pr.an.length-j by omega),View.o2 9 [0,1,2,3,4,5,6,7] [] ?_⟩
     .exact .au
   .have rJ:j=pr.an.length:=by have h:¬(j:Int)<((pr.an.map dJ.enc).length:Int):=f4;rw[O9]at h;omega
    subst rJ;refine⟨⟨p+1,b⟩,⟨fP,hM.next nS⟩,(show ps.length-(p+1)<ps.length-p by omega),View.o2 8 [0,1,2,3,4,5,6] [] ?_⟩
    .exact .au
  .have vy:p=ps.length:=by have h:¬(p:Int)<((aa (ps.map aL.enc)).length:Int):=h;rw[aJ,O9]at h;omega
   subst vy;exact⟨b,hM.gu,rfl,rfl⟩
theorem OE(l:List Obj)(ops:List aT)(ps:List aL)(g:∀o,o∈l->o.sm)(hl:l.length<=4194304)(ho:ops.length<=4194304)(eF:ps.length<=4194304)(i3:∀p,p∈ps->p.an.length<=10):
  ap prog 129 [.rv (.one (.ptr 0 0))] [.var [.row 1 9 0 none,.row 2 2 0 none,.row 3 4 0 none],.row 9 (aa (l.map Obj.enc)),.row 2 (aa (ops.map aT.enc)),.row 4 (aa (ps.map aL.enc))] (λr m=>∃b,gm l ops ps b/\r= .rv (.one (.ptr 4 0))/\m=[.var [.row 1 9 0 none,.row 2 2 0 none,.row 3 4 0 none],.row 9 (aa (l.map Obj.enc)),.row 2 (aa (ops.map aT.enc)),.row 4 (aa (ps.map aL.enc)),.var [.ptr 0 0,.row 5 1 0 none,.row 6 1 0 none],.row 1 (aa (b.O.map bE)),.row 1 (aa (b.P.map bE))]):=
 cE func129 l129 (GH l ops ps g hl ho eF i3)
def nE(k:Nat):List Dt:=[.val (.int .i64 (k:Nat))]
def c68:LF:=Cq prog f68 [] [[(.cons 0 none (.cons 1 none (.cons 3 none (.cons 4 none (.zB (.cons 2 (some [4]) (.zB (.cons 5 (some []) (.cons 6 none (.cons 7 (some [4,1]) (.cons 8 (some []) .nil)))) (.cons 7 (some [4,1]) (.cons 5 (some []) (.cons 6 none (.cons 8 (some []) .nil)))))) (.cons 7 (some [4,1]) (.cons 2 (some [4]) (.cons 5 (some []) (.cons 6 none (.cons 8 (some []) .nil))))))))))]]
def c109:LF:=Cq prog f109 [] []
def c110:LF:=Cq prog f110 [] []
theorem qE:∀(l:List Obj)(p Q k:Nat),k+l.length<=p->eO p Q k l=aa (l.map Obj.enc)
 | [],_,_,_,_=>rfl
 |o::r,p,Q,k,h=>by
  have ih:=qE r p Q (k+1) (by simp at h;omega)
  have hk:¬k=p:=by simp at h;omega
  simp only[eO,ih,tc,if_neg hk];rfl
theorem D1(l:List Obj):B3 l l.length l.length= .aE:=by
 have:Nat.blt l.length l.length=false:=by
  cases h:Nat.blt l.length l.length
  .rfl
  .rw[aci]at h;omega
 unfold B3;rw[this]
theorem l109:bs prog f109=some c109:=by kernel_rfl
theorem l110:bs prog f110=some c110:=by kernel_rfl
theorem l68:bs prog f68=some c68:=by kernel_rfl
theorem D2(ops:List aT)(ho:ops.length<=4194304):body prog c109 [.rv (.one (.ai (de ops)))] [] (λr m=>∃r' m',View 0 ⟨[r],m⟩ ⟨[r'],m'⟩/\r'= .rv (.one (.row 0 2 0 none))/\m'=[.row 2 (aa (ops.map aT.enc))]):=by
 have mU:((([]:List (List CC)).length+((ops.map aT.enc).map λds=>ds.map CC.ai).length)*16)<=140737488355328:=by simp;omega
 have gu:∃r' m',View 0 ⟨[CV.rv (.one (.row 1 2 0 none))],[.aE,.row 2 (bA ([]:List (List CC)) 0 none++(ops.map aT.enc).map λds=>ds.map CC.ai)]⟩ ⟨[r'],m'⟩/\r'=CV.rv (.one (.row 0 2 0 none))/\m'=[Bk.row 2 (aa (ops.map aT.enc))]:=
  ⟨_,_,View.o 2 [1] [] (.eq rfl .nil) (.pn rfl rfl rfl),rfl,rfl⟩
 refine aA (λh=>?_) (λh=>?_)
 .have hd:ops=[]:=aaX (by simpa using aa1 h)
  refine⟨?_,mU,gu⟩;subst hd;exact⟨_,_,View.bt 0 2 0 rfl rfl rfl,rfl,rfl⟩
 .exact⟨mU,gu⟩
theorem uE(ops:List aT)(ho:ops.length<=4194304){m:Mem}{K:CV->Mem->Prop}(h:K (.rv (.one (.row m.length 2 0 none))) (m++ [.row 2 (aa (ops.map aT.enc))])):ap prog 109 [.rv (.one (.ai (de ops)))] m K:=by
 refine be [] m.length rfl rfl rfl rfl (args0:=[.rv (.one (.ai (de ops)))]) rfl (λi b' hi=>by simp at hi) (K0:=λr m=>r= .rv (.one (.row 0 2 0 none))/\m=[.row 2 (aa (ops.map aT.enc))]) (bK (aP func109 l109 (D2 ops ho)) λr m1 h=>h) (λr m1 hr=>?_)
 obtain⟨rfl,rfl⟩:=hr;refine⟨WG _,?_⟩;show K (.rv (.one (.row (m.length+(0-0)) 2 0 none))) (fT m [.row 2 ((aa (ops.map aT.enc)).map (λcs=>cs.map (CC.aN (sg [] m.length))))])
 rw[dk,cf];exact h
theorem D3(d:List dJ)(hb:d.length<=4194304):body prog c110 [lY d] [] (λr m=>cH m r (lY d)):=by
 have mU:((([]:List (List CC)).length+((d.map dJ.enc).map λds=>ds.map CC.ai).length)*24)<=140737488355328:=by simp;omega
 refine aA (λh=>?_) (λh=>?_)
 .have hd:d=[]:=aaX (by simpa using aa1 h)
  subst hd;exact⟨.rv (.one (.bt 3)),mU,.rv (.one (d7.da rfl 0 none))⟩
 .exact⟨mU,.rv (.one (d7.da rfl 0 none))⟩
theorem jW(d:List dJ)(hb:d.length<=4194304){m:Mem}{K:CV->Mem->Prop}(h:K (lY d) m):ap prog 110 [lY d] m K:=
 aR (aP func110 l110 (D3 d hb)) (by simp[lY,gL,CV.cW,CC.cW]) λr m1 hf=>⟨_,hf,h⟩
structure Wd where
 k:Nat
 qs:List aL
theorem Ld(l:List Obj)(ops:List aT)(ps:List aL)(hf:mF l)(ho:ops.length<=4194304)(eF:ps.length<=4194304)(i3:∀p,p∈ps->p.an.length<=10)(fG:ps≠[]):
  body prog c68 [cA l ops ps] [] (λr m=>∃r' m',View 0 ⟨[r],m⟩ ⟨[r'],m'⟩/\r'= .rv (.agg [.row 0 9 0 none,.row 1 2 0 none,.row 2 4 0 none])/\m'=[.row 9 (aa (l.map Obj.enc)),.row 2 (aa (ops.map aT.enc)),.row 4 (aa (ps.map aL.enc))]):=by
 refine⟨?_,?_⟩
 .skip
  refine xU l hf l.length ?_;rw[D1];refine⟨⟨rfl,trivial⟩,?_⟩;refine⟨?_,?_⟩
  .refine uE ops ho ?_;refine⟨trivial,⟨rfl,rfl,trivial⟩,trivial,?_⟩;refine ar (λ(a:Wd)=>a.k<=ps.length/\a.qs=ps.take a.k) [1,2,14,15] (λa=>[(16,al .i64 (a.k:Nat)),(3,.rv (.one (.ptr 2 0)))]) (λa=>match a.qs with
     | []=>[.var [.ai (cT l),.ai (de ops),.ai (dZ ps)],.var z3,.var [.row 3 9 0 none,.row 4 2 0 none,.bt],.row 9 (aa (l.map Obj.enc)),.row 2 (aa (ops.map aT.enc))]
     |x::r=>[.var [.ai (cT l),.ai (de ops),.ai (dZ ps)],.var z3,.var [.row 3 9 0 none,.row 4 2 0 none,.row 5 4 0 none],.row 9 (aa (l.map Obj.enc)),.row 2 (aa (ops.map aT.enc)),.row 4 (aa ((x::r).map aL.enc))]) (λa=>ps.length-a.k) ⟨0,[]⟩ ⟨WG _,rfl⟩ ?_ (λa ha=>?_)
   .refine View.o1 6 [0,1,5,2,4] [] ?_
    .exact(.pe rfl rfl rfl (.pe rfl rfl rfl (.pe rfl rfl rfl (.pt rfl rfl (.bn (qE l _ _ _ om)) (.pn rfl rfl rfl)))))
   obtain⟨k,qs⟩:=a;obtain⟨hk,hq⟩:=ha;have hk:k<=ps.length:=hk;have hq:qs=ps.take k:=hq;cases qs with
   |nil=>
    refine am (λh=>?_) (λh=>?_)
    .have ax:k<ps.length:=by have h:(k:Int)<((ps.map aL.enc).length:Int):=h;rw[O9]at h;omega
     refine af (eK ax) ?_;refine jW ps[k].an (by have:=i3 _ (aaR ax);omega) ?_
     refine⟨by simp[bA],?_⟩
     refine⟨⟨k+1,[ps[k]]⟩,⟨ax,(show [ps[k]]=ps.take (k+1) by rw[acb,wy ax,<-hq];rfl)⟩,(show ps.length-(k+1)<ps.length-k by omega),View.o2 8 [0,1,2,3,4,7] [] ?_⟩
     .exact(.pe rfl rfl rfl (.pe rfl rfl rfl (.pe rfl rfl rfl (.pr rfl rfl rfl (.pr rfl rfl rfl (.pt rfl rfl (.bn (by simp[bA,aa,aL.enc])) (.nil _)))))))
    .have nn:k=ps.length:=by have h:¬(k:Int)<((ps.map aL.enc).length:Int):=h;rw[O9]at h;omega
     subst nn;rw[abD]at hq;exact absurd hq.symm fG
   |cons x r=>
    refine am (λh=>?_) (λh=>?_)
    .have ax:k<ps.length:=by have h:(k:Int)<((ps.map aL.enc).length:Int):=h;rw[O9]at h;omega
     refine af (eK ax) ?_;refine jW ps[k].an (by have:=i3 _ (aaR ax);omega) ?_
     refine⟨by have e:=aJ ((x::r).map aL.enc);have e2:=congrArg List.length hq;simp only[O9,aa2,aa8]at e e2;simp only[bA,aa2,abO];omega,?_⟩
     refine⟨⟨k+1,((x::r)++ [ps[k]])⟩,⟨ax,(show((x::r)++ [ps[k]])=ps.take (k+1) by rw[acb,wy ax,<-hq];rfl)⟩,(show ps.length-(k+1)<ps.length-k by omega),View.o2 9 [0,1,2,3,4,8] [] ?_⟩
     .exact(.pe rfl rfl rfl (.pe rfl rfl rfl (.pe rfl rfl rfl (.pr rfl rfl rfl (.pr rfl rfl rfl (.pt rfl rfl (.bn (by simp[bA,aa,aL.enc])) (.nil _)))))))
    .have nn:k=ps.length:=by have h:¬(k:Int)<((ps.map aL.enc).length:Int):=h;rw[O9]at h;omega
     subst nn;rw[abD]at hq;refine⟨.rv (.agg [.row 0 9 0 none,.row 1 2 0 none,.row 2 4 0 none]),_,View.o 6 [3,4,5] [] (.eq rfl .nil) (.pr rfl rfl rfl (.pr rfl rfl rfl (.pn rfl rfl rfl))),rfl,?_⟩;rw[hq]
  .refine⟨⟨rfl,rfl,trivial⟩,?_⟩;refine uE ops ho ?_;refine⟨trivial,trivial,?_⟩;refine ar (λ(a:Wd)=>a.k<=ps.length/\a.qs=ps.take a.k) [1,2,14,15] (λa=>[(16,al .i64 (a.k:Nat)),(3,.rv (.one (.ptr 2 0)))]) (λa=>match a.qs with
     | []=>[.var [.ai (cT l),.ai (de ops),.ai (dZ ps)],.var z3,.var [.row 3 9 0 none,.row 4 2 0 none,.bt],.row 9 (aa (l.map Obj.enc)),.row 2 (aa (ops.map aT.enc))]
     |x::r=>[.var [.ai (cT l),.ai (de ops),.ai (dZ ps)],.var z3,.var [.row 3 9 0 none,.row 4 2 0 none,.row 5 4 0 none],.row 9 (aa (l.map Obj.enc)),.row 2 (aa (ops.map aT.enc)),.row 4 (aa ((x::r).map aL.enc))]) (λa=>ps.length-a.k) ⟨0,[]⟩ ⟨WG _,rfl⟩ ?_ (λa ha=>?_)
   .refine View.o1 6 [0,1,4,2,5] [] ?_
    .exact(.pe rfl rfl rfl (.pe rfl rfl rfl (.pe rfl rfl rfl (.pt rfl rfl (.bn (qE l _ _ _ om)) (.pn rfl rfl rfl)))))
   obtain⟨k,qs⟩:=a;obtain⟨hk,hq⟩:=ha;have hk:k<=ps.length:=hk;have hq:qs=ps.take k:=hq;cases qs with
   |nil=>
    refine am (λh=>?_) (λh=>?_)
    .have ax:k<ps.length:=by have h:(k:Int)<((ps.map aL.enc).length:Int):=h;rw[O9]at h;omega
     refine af (eK ax) ?_;refine jW ps[k].an (by have:=i3 _ (aaR ax);omega) ?_
     refine⟨by simp[bA],?_⟩
     refine⟨⟨k+1,[ps[k]]⟩,⟨ax,(show [ps[k]]=ps.take (k+1) by rw[acb,wy ax,<-hq];rfl)⟩,(show ps.length-(k+1)<ps.length-k by omega),View.o2 8 [0,1,2,3,4,7] [] ?_⟩
     .exact(.pe rfl rfl rfl (.pe rfl rfl rfl (.pe rfl rfl rfl (.pr rfl rfl rfl (.pr rfl rfl rfl (.pt rfl rfl (.bn (by simp[bA,aa,aL.enc])) (.nil _)))))))
    .have nn:k=ps.length:=by have h:¬(k:Int)<((ps.map aL.enc).length:Int):=h;rw[O9]at h;omega
     subst nn;rw[abD]at hq;exact absurd hq.symm fG
   |cons x r=>
    refine am (λh=>?_) (λh=>?_)
    .have ax:k<ps.length:=by have h:(k:Int)<((ps.map aL.enc).length:Int):=h;rw[O9]at h;omega
     refine af (eK ax) ?_;refine jW ps[k].an (by have:=i3 _ (aaR ax);omega) ?_
     refine⟨by have e:=aJ ((x::r).map aL.enc);have e2:=congrArg List.length hq;simp only[O9,aa2,aa8]at e e2;simp only[bA,aa2,abO];omega,?_⟩
     refine⟨⟨k+1,((x::r)++ [ps[k]])⟩,⟨ax,(show((x::r)++ [ps[k]])=ps.take (k+1) by rw[acb,wy ax,<-hq];rfl)⟩,(show ps.length-(k+1)<ps.length-k by omega),View.o2 9 [0,1,2,3,4,8] [] ?_⟩
     .exact(.pe rfl rfl rfl (.pe rfl rfl rfl (.pe rfl rfl rfl (.pr rfl rfl rfl (.pr rfl rfl rfl (.pt rfl rfl (.bn (by simp[bA,aa,aL.enc])) (.nil _)))))))
    .have nn:k=ps.length:=by have h:¬(k:Int)<((ps.map aL.enc).length:Int):=h;rw[O9]at h;omega
     subst nn;rw[abD]at hq;refine⟨.rv (.agg [.row 0 9 0 none,.row 1 2 0 none,.row 2 4 0 none]),_,View.o 6 [3,4,5] [] (.eq rfl .nil) (.pr rfl rfl rfl (.pr rfl rfl rfl (.pn rfl rfl rfl))),rfl,?_⟩;rw[hq]
 .refine⟨⟨rfl,rfl,trivial⟩,?_⟩;refine xU l hf l.length ?_;rw[D1];refine⟨⟨rfl,trivial⟩,?_⟩;refine uE ops ho ?_;refine⟨trivial,trivial,?_⟩;refine ar (λ(a:Wd)=>a.k<=ps.length/\a.qs=ps.take a.k) [1,2,14,15] (λa=>[(16,al .i64 (a.k:Nat)),(3,.rv (.one (.ptr 2 0)))]) (λa=>match a.qs with
    | []=>[.var [.ai (cT l),.ai (de ops),.ai (dZ ps)],.var z3,.var [.row 3 9 0 none,.row 4 2 0 none,.bt],.row 9 (aa (l.map Obj.enc)),.row 2 (aa (ops.map aT.enc))]
    |x::r=>[.var [.ai (cT l),.ai (de ops),.ai (dZ ps)],.var z3,.var [.row 3 9 0 none,.row 4 2 0 none,.row 5 4 0 none],.row 9 (aa (l.map Obj.enc)),.row 2 (aa (ops.map aT.enc)),.row 4 (aa ((x::r).map aL.enc))]) (λa=>ps.length-a.k) ⟨0,[]⟩ ⟨WG _,rfl⟩ ?_ (λa ha=>?_)
  .refine View.o1 6 [0,1,2,3,5] [] ?_
   .exact(.pe rfl rfl rfl (.pe rfl rfl rfl (.pe rfl rfl rfl (.pt rfl rfl (.bn (qE l _ _ _ om)) (.pn rfl rfl rfl)))))
  obtain⟨k,qs⟩:=a;obtain⟨hk,hq⟩:=ha;have hk:k<=ps.length:=hk;have hq:qs=ps.take k:=hq;cases qs with
  |nil=>
   refine am (λh=>?_) (λh=>?_)
   .have ax:k<ps.length:=by have h:(k:Int)<((ps.map aL.enc).length:Int):=h;rw[O9]at h;omega
    refine af (eK ax) ?_;refine jW ps[k].an (by have:=i3 _ (aaR ax);omega) ?_
    refine⟨by simp[bA],?_⟩
    refine⟨⟨k+1,[ps[k]]⟩,⟨ax,(show [ps[k]]=ps.take (k+1) by rw[acb,wy ax,<-hq];rfl)⟩,(show ps.length-(k+1)<ps.length-k by omega),View.o2 8 [0,1,2,3,4,7] [] ?_⟩
    .exact(.pe rfl rfl rfl (.pe rfl rfl rfl (.pe rfl rfl rfl (.pr rfl rfl rfl (.pr rfl rfl rfl (.pt rfl rfl (.bn (by simp[bA,aa,aL.enc])) (.nil _)))))))
   .have nn:k=ps.length:=by have h:¬(k:Int)<((ps.map aL.enc).length:Int):=h;rw[O9]at h;omega
    subst nn;rw[abD]at hq;exact absurd hq.symm fG
  |cons x r=>
   refine am (λh=>?_) (λh=>?_)
   .have ax:k<ps.length:=by have h:(k:Int)<((ps.map aL.enc).length:Int):=h;rw[O9]at h;omega
    refine af (eK ax) ?_;refine jW ps[k].an (by have:=i3 _ (aaR ax);omega) ?_
    refine⟨by have e:=aJ ((x::r).map aL.enc);have e2:=congrArg List.length hq;simp only[O9,aa2,aa8]at e e2;simp only[bA,aa2,abO];omega,?_⟩
    refine⟨⟨k+1,((x::r)++ [ps[k]])⟩,⟨ax,(show((x::r)++ [ps[k]])=ps.take (k+1) by rw[acb,wy ax,<-hq];rfl)⟩,(show ps.length-(k+1)<ps.length-k by omega),View.o2 9 [0,1,2,3,4,8] [] ?_⟩
    .exact(.pe rfl rfl rfl (.pe rfl rfl rfl (.pe rfl rfl rfl (.pr rfl rfl rfl (.pr rfl rfl rfl (.pt rfl rfl (.bn (by simp[bA,aa,aL.enc])) (.nil _)))))))
   .have nn:k=ps.length:=by have h:¬(k:Int)<((ps.map aL.enc).length:Int):=h;rw[O9]at h;omega
    subst nn;rw[abD]at hq;refine⟨.rv (.agg [.row 0 9 0 none,.row 1 2 0 none,.row 2 4 0 none]),_,View.o 6 [3,4,5] [] (.eq rfl .nil) (.pr rfl rfl rfl (.pr rfl rfl rfl (.pn rfl rfl rfl))),rfl,?_⟩;rw[hq]
theorem jh(l:List Obj)(ops:List aT)(ps:List aL)(hf:mF l)(ho:ops.length<=4194304)(eF:ps.length<=4194304)(i3:∀p,p∈ps->p.an.length<=10)(fG:ps≠[]){m:Mem}{K:CV->Mem->Prop}(h:K (.rv (.agg [.row m.length 9 0 none,.row (m.length+1) 2 0 none,.row (m.length+2) 4 0 none])) (m++ [.row 9 (aa (l.map Obj.enc)),.row 2 (aa (ops.map aT.enc)),.row 4 (aa (ps.map aL.enc))])):ap prog 68 [cA l ops ps] m K:=by
 refine be [] m.length rfl rfl rfl rfl (args0:=[cA l ops ps]) rfl (λi b' hi=>by simp at hi) (K0:=λr m=>r= .rv (.agg [.row 0 9 0 none,.row 1 2 0 none,.row 2 4 0 none])/\m=[.row 9 (aa (l.map Obj.enc)),.row 2 (aa (ops.map aT.enc)),.row 4 (aa (ps.map aL.enc))])
  (bK (aP func68 l68 (Ld l ops ps hf ho eF i3 fG)) λr m1 h=>h) (λr m1 hr=>?_)
 obtain⟨rfl,rfl⟩:=hr;refine⟨WG _,?_⟩;show K (.rv (.agg [.row (m.length+(0-0)) 9 0 none,.row (m.length+(1-0)) 2 0 none,.row (m.length+(2-0)) 4 0 none])) (fT m [.row 9 ((aa (l.map Obj.enc)).map (λcs=>cs.map (CC.aN (sg [] m.length)))),.row 2 ((aa (ops.map aT.enc)).map (λcs=>cs.map (CC.aN (sg [] m.length)))),.row 4 ((aa (ps.map aL.enc)).map (λcs=>cs.map (CC.aN (sg [] m.length))))])
 rw[dk,dk,dk,cf];exact h
def c89:LF:=Cq prog f89 [] []
def c90:LF:=Cq prog f90 [] []
def c130:LF:=Cq prog f130 [] []
def cN(p:Int)(o:Obj):Bool:=o.ah==5&&o.aQ==p
theorem l130:bs prog f130=some c130:=by kernel_rfl
theorem l90:bs prog f90=some c90:=by kernel_rfl
theorem l89:bs prog f89=some c89:=by kernel_rfl
theorem D4(o:Obj)(p:Int):body prog c130 [o.cv,.rv (.one (.ptr 0 0))] [.var ([Dt.val (.int .i64 p)].map .ai)] (λr m=>r=aq (cN p o)/\∃ex,m= .var ([Dt.val (.int .i64 p)].map .ai)::ex):=by
 refine aA (λh=>?_) (λh=>?_)
 .refine⟨?_,_,rfl⟩;show aq _=aq _;rw[cN,h];rfl
 .refine⟨?_,_,rfl⟩;show aq _=aq _;rw[cN,h];rfl
theorem We(o:Obj)(p:Int)(K:CV->Mem->Prop)(h:K (aq (cN p o)) [.var ([Dt.val (.int .i64 p)].map .ai)]):ap prog 130 [o.cv,.rv (.one (.ptr 0 0))] [.var ([Dt.val (.int .i64 p)].map .ai)] K:=
 fB rfl (aP func130 l130 (D4 o p)) h
theorem D5(o:Obj)(p:Int):body prog c90 [o.cv,.rv (.one (.ptr 0 0))] [.var ([Dt.val (.int .i64 p)].map .ai)] (λr m=>r=aq (cN p o)/\∃ex,m= .var ([Dt.val (.int .i64 p)].map .ai)::ex):=by
 refine aA (λh=>?_) (λh=>?_)
 .refine⟨?_,_,rfl⟩;show aq _=aq _;rw[cN,h];rfl
 .refine⟨?_,_,rfl⟩;show aq _=aq _;rw[cN,h];rfl
theorem Wf(o:Obj)(p:Int)(K:CV->Mem->Prop)(h:K (aq (cN p o)) [.var ([Dt.val (.int .i64 p)].map .ai)]):ap prog 90 [o.cv,.rv (.one (.ptr 0 0))] [.var ([Dt.val (.int .i64 p)].map .ai)] K:=
 fB rfl (aP func90 l90 (D5 o p)) h
theorem AU{l:List Obj}{n:Nat}(h:n<l.length):dL (n:Int) (lenOf (aa (l.map Obj.enc)).length 0 none)=some n:=bJ (by show n<(aa (l.map Obj.enc)).length;rw[aJ,O9];exact h)
theorem Le(l:List Obj)(hb:l.length<=4194304)(F:Nat)(cs:List Dt)(q:Obj->Bool)(hF:∀s,∀K:CV->Mem->Prop,K (aq (q s)) [.var (cs.map .ai)]->ap prog F [s.cv,.rv (.one (.ptr 0 0))] [.var (cs.map .ai)] K):
  body prog c131 [.rv (.one (.row 0 9 0 none)),.rv (.one (.fn F [1]))] [.row 9 (aa (l.map Obj.enc)),.var (cs.map .ai)] (λr m=>r=al .i64 (pg q l)/\m=[.row 9 (aa (l.map Obj.enc)),.var (cs.map .ai)]):=by
 refine ar (λk=>k<=l.length/\∀(j:Nat)s,j<k->l[j]? =some s->q s=false) [0,1,7] (λk=>[(8,al .i64 (k:Nat))]) (λ_=>[.row 9 (aa (l.map Obj.enc)),.var (cs.map .ai)]) (λk=>l.length-k) 0 ⟨WG _,λj s h=>absurd h (abE j)⟩ ?_ (λk hk=>?_)
 .refine View.o1 2 [0,1] [] ?_
  .exact .pr rfl rfl rfl (.pt rfl rfl (.k9 rfl) (.nil _))
 .refine am (λh=>?_) (λh=>?_)
  .have ax:k<l.length:=by have h:(k:Int)<((aa (l.map Obj.enc)).length:Int):=h;rw[aJ,O9]at h;omega
   refine af (AU ax) ?_;refine af (bm Obj.enc l ax) ?_;have hi:=wy ax;have ZX:=lX (q:=q) ax;generalize l[k]=o at hi ZX;refine gk (args0:=[o.cv,.rv (.one (.ptr 0 0))]) (cs:=cs) 1 rfl rfl (r0:=aq (q o)) rfl (λK hK=>hF o K hK) ?_
   refine aA (λFv=>?_) (λFv=>?_)
   .rw[ZX Fv hk.2];exact⟨rfl,rfl⟩
   .refine⟨k+1,⟨ax,λj s hj hs=>?_⟩,(show l.length-(k+1)<l.length-k by omega),View.o 2 [0,1] [] ?_ ?_⟩
    .rcases aax j k with h5|h5
     .exact hk.2 j s h5 hs
     .have:j=k:=om;subst this;rw[hi]at hs;cases hs;exact Fv
    .repeat(first|exact .nil|refine .aH ?_|refine .put (.aN (br om).symm) ?_|refine .eq rfl ?_)
    .exact .pr rfl rfl rfl (.pt rfl rfl (.k9 rfl) (.nil _))
  .have ef:¬(k:Int)<((aa (l.map Obj.enc)).length:Int):=h;rw[aJ,O9]at ef;rw[nJ λj s hs=>hk.2 j s (by have:=(Lw.1 hs).1;omega) hs]
   exact⟨rfl,rfl⟩
theorem GI(l:List Obj)(hb:l.length<=4194304)(F:Nat)(cs:List Dt)(q:Obj->Bool)(hF:∀s,∀K:CV->Mem->Prop,K (aq (q s)) [.var (cs.map .ai)]->ap prog F [s.cv,.rv (.one (.ptr 0 0))] [.var (cs.map .ai)] K):
  body prog c89 [.rv (.one (.row 0 9 0 none)),.rv (.one (.fn F [1]))] [.row 9 (aa (l.map Obj.enc)),.var (cs.map .ai)] (λr m=>r=aq (l.any q)/\m=[.row 9 (aa (l.map Obj.enc)),.var (cs.map .ai)]):=by
 refine(aP func131 l131 (Le l hb F cs q hF)).mono λr m⟨hr,hm⟩=>?_
 subst hr hm;refine⟨?_,rfl⟩;show aq _=aq _;rw[<-te]
theorem OF(l:List Obj)(hb:l.length<=4194304)(F:Nat)(cs:List Dt)(q:Obj->Bool)(hF:∀s,∀K:CV->Mem->Prop,K (aq (q s)) [.var (cs.map .ai)]->ap prog F [s.cv,.rv (.one (.ptr 0 0))] [.var (cs.map .ai)] K):
  ap prog 89 [.rv (.one (.row 0 9 0 none)),.rv (.one (.fn F [1]))] [.row 9 (aa (l.map Obj.enc)),.var (cs.map .ai)] (λr m=>r=aq (l.any q)/\m=[.row 9 (aa (l.map Obj.enc)),.var (cs.map .ai)]):=
 aP func89 l89 (GI l hb F cs q hF)
def c88:LF:=Cq prog f88 [] [[d9 16 0 .nil],[(d9 7 0 (.cons 7 (some []) .nil))]]
def Pt{α:Type}(l L:List α)(f:Nat->α->α):Prop:=L.length=l.length/\∀(t:Nat)o,l[t]? =some o->L[t]? =some (f t o)
theorem Pt.refl{α:Type}(l:List α):Pt l l λ_ o=>o:=⟨rfl,λ_ _ h=>h⟩
theorem Pt.congr{α:Type}{l L:List α}{f g:Nat->α->α}(h:Pt l L f)(hfg:∀(t:Nat)o,l[t]? =some o->f t o=g t o):Pt l L g:=
 ⟨h.1,λt o ho=>by rw[<-hfg t o ho];exact h.2 t o ho⟩
theorem Pt.set{α:Type}{l L:List α}{f g:Nat->α->α}(h:Pt l L f){j:Nat}{x:α}(hx:∀o,l[j]? =some o->g j o=x)(ho:∀(t:Nat)o,t≠j->l[t]? =some o->g t o=f t o):Pt l (L.set j x) g:=by
 refine⟨by simpa using h.1,λt o zy=>?_⟩
 have ax:t<L.length:=by rw[h.1];exact(Lw.1 zy).1
 by_cases M2:t=j
 .subst M2;rw[hx o zy];simp[ax]
 .rw[aam (λe=>M2 e.symm),ho t o M2 zy]
  exact h.2 t o zy
theorem Pt.at{α:Type}{l L:List α}{f:Nat->α->α}(h:Pt l L f){j:Nat}(hj:j<l.length):∃hL:j<L.length,L[j]=f j l[j]:=by
 have hL:j<L.length:=by rw[h.1];exact hj
 have:=h.2 j l[j] (wy hj);rw[wy hL]at this;exact⟨hL,by simpa using this⟩
theorem oC.OG{Y:Nat->Nat}{m:Mem}{Z:Nat->Prop}{id s:Nat}(ds:List (List Dt))(i:Nat){cs:List CC}{d:List Dt}(hl:cs.length=d.length)(h:∀(j:Nat)c c',cs[j]? =some c->(d.map CC.ai)[j]? =some c'->sZ Y m Z (some id) c c'):oC Y m Z id (.row s (aX (aa ds) i cs)) (.row s (aa (ds.set i d))):=by
 rw[bh];have e:aa (ds.set i d)=(aa ds).set i (d.map .ai):=by simp[aa,abW]
 rw[e];refine .row s aD (λt xs ys h1 h2=>?_) (λt xs ys j c c' h1 h2 h3 h4=>?_)
 .rw[abU]at h1 h2;split at h1
  .rename_i Oc;rw[if_pos Oc]at h2;split at h1
   .rename_i ax;rw[if_pos ax]at h2;cases h1;cases h2;simpa using hl
   .cases h1
  .rename_i Oc;rw[if_neg Oc]at h2;rw[h1]at h2;cases h2;rfl
 .rw[abU]at h1 h2;split at h1
  .rename_i Oc;rw[if_pos Oc]at h2;split at h1
   .rename_i ax;rw[if_pos ax]at h2;cases h1;cases h2;exact h j c c' h3 h4
   .cases h1
  .rename_i Oc;rw[if_neg Oc]at h2;rw[h1]at h2;cases h2;rw[h3]at h4;cases h4;have hd:∃d,c= .ai d:=by rw[aa,Qu]at h1;obtain⟨es,_,rfl⟩:=abA.1 h1;rw[Qu]at h3;obtain⟨d,_,rfl⟩:=abA.1 h3;exact⟨d,rfl⟩
   obtain⟨d,rfl⟩:=hd;exact .aN (.ai d)
def dS:Obj:=⟨0,[],[],⟨#[]⟩,0,[],0,0,0⟩
def Jd:List CC:=[.ai (.val (.int .i64 0)),.bt,.bt,.ai (.val (.string ⟨#[]⟩)),.ai (.val (.int .i64 0)),.bt,.ai (.val (.int .i64 0)),.ai (.val (.int .i64 0)),.ai (.val (.int .i64 0))]
theorem adV{Y:Nat->Nat}{m:Mem}{Z:Nat->Prop}{id:Nat}(L:List Obj)(i:Nat):oC Y m Z id (.row 9 (aX (aa (L.map Obj.enc)) i Jd)) (.row 9 (aa ((L.set i dS).map Obj.enc))):=by
 rw[abW];refine oC.OG (L.map Obj.enc) i rfl λj c c' h1 h2=>?_
 match j,h1,h2 with
 |0,h1,h2=>cases h1;cases h2;exact .aN (.ai _)
 |1,h1,h2=>cases h1;cases h2;exact .dG (.bt 1)
 |2,h1,h2=>cases h1;cases h2;exact .dG (.bt 2)
 |3,h1,h2=>cases h1;cases h2;exact .aN (.ai _)
 |4,h1,h2=>cases h1;cases h2;exact .aN (.ai _)
 |5,h1,h2=>cases h1;cases h2;exact .dG (.bt 4)
 |6,h1,h2=>cases h1;cases h2;exact .aN (.ai _)
 |7,h1,h2=>cases h1;cases h2;exact .aN (.ai _)
 |8,h1,h2=>cases h1;cases h2;exact .aN (.ai _)
 |n+9,h1,h2=>simp[Jd]at h1
def fl:aL:=⟨false,false,0,[]⟩
theorem OH{Y:Nat->Nat}{m:Mem}{Z:Nat->Prop}{id:Nat}(L:List aL)(i:Nat):oC Y m Z id (.row 4 (aX (aa (L.map aL.enc)) i [.ai (.val (.bool false)),.ai (.val (.bool false)),.ai (.val (.int .i64 0)),.bt])) (.row 4 (aa ((L.set i fl).map aL.enc))):=by
 rw[abW];refine oC.OG (L.map aL.enc) i rfl λj c c' h1 h2=>?_
 match j,h1,h2 with
 |0,h1,h2=>cases h1;cases h2;exact .aN (.ai _)
 |1,h1,h2=>cases h1;cases h2;exact .aN (.ai _)
 |2,h1,h2=>cases h1;cases h2;exact .aN (.ai _)
 |3,h1,h2=>cases h1;cases h2;exact .dG (.bt 3)
 |n+4,h1,h2=>simp at h1
def dH(b:Mk)(l:List Obj)(i:Nat):Bool:=match l[i]? with
 |some o=>!(b.O[i]? ==some true)&&o.ah !=0
 |none=>false
def lg(b:Mk)(l:List Obj)(k:Nat)(z:Int):Bool:=decide (0<=z/\z.toNat<k)&&dH b l z.toNat
def cF(b:Mk)(l:List Obj)(k:Nat)(j:Nat)(o:Obj):Obj:=if(dH b l j&&decide (j<k))=true then dS else if(o.ah==4&&lg b l k o.aG)=true then {o with aG:= -1}else o
def jX(i:Nat)(o:Obj):Obj:=if(o.ah==4&&o.aG==(i:Int))=true then {o with aG:= -1}else o
theorem x9(b:Mk)(l:List Obj)(i:Nat)(z:Int):lg b l (i+1) z=(lg b l i z||(z==(i:Int)&&dH b l i)):=by
 unfold lg;by_cases h:z=(i:Int)
 .subst h;simp
 .have h1:(z==(i:Int))=false:=by simpa using h
  rw[h1];have:decide (0<=z/\z.toNat<i+1)=decide (0<=z/\z.toNat<i):=by
   apply decide_eq_decide.2;constructor<;>intro⟨h2,h3⟩<;>exact⟨h2,om⟩
  rw[this];simp
theorem Lg{b:Mk}{l:List Obj}{i:Nat}(h:dH b l i=false)(j:Nat)(o:Obj):cF b l i j o=cF b l (i+1) j o:=by
 have h1:(dH b l j&&decide (j<i+1))=(dH b l j&&decide (j<i)):=by
  by_cases hj:j=i
  .subst hj;rw[h];simp
  .have:decide (j<i+1)=decide (j<i):=decide_eq_decide.2 om;rw[this]
 unfold cF;rw[h1,x9,h];simp
theorem GJ{b:Mk}{l:List Obj}{i:Nat}(h:dH b l i=true){j:Nat}(hj:j≠i)(o:Obj):jX i (cF b l i j o)=cF b l (i+1) j o:=by
 have h1:(dH b l j&&decide (j<i+1))=(dH b l j&&decide (j<i)):=by have:decide (j<i+1)=decide (j<i):=decide_eq_decide.2 om;rw[this]
 unfold cF;rw[h1,x9,h];by_cases hd:(dH b l j&&decide (j<i))=true
 .rw[if_pos hd,if_pos hd];rfl
 .rw[if_neg hd,if_neg hd];by_cases hk:(o.ah==4)=true
  .by_cases hz:lg b l i o.aG=true
   .rw[hk,hz];simp[jX]
   .rw[acL]at hz;rw[hk,hz];by_cases hp:(o.aG==(i:Int))=true
    .simp[jX,hk,hp]
    .rw[acL]at hp;simp[jX,hp]
  .rw[acL]at hk;rw[hk];simp[jX,hk]
theorem D6{b:Mk}{l:List Obj}{i:Nat}(h:dH b l i=true)(o:Obj):cF b l (i+1) i o=dS:=by unfold cF;rw[h];simp
theorem D7(b:Mk)(l:List Obj)(j:Nat)(o:Obj):cF b l 0 j o=o:=by
 unfold cF;have:lg b l 0 o.aG=false:=by simp[lg]
 rw[this];simp
theorem D8{b:Mk}{l:List Obj}{i:Nat}(o:Obj):(cF b l i i o).ah=o.ah:=by
 unfold cF;simp;split<;>rfl
end Go.Proofs.YtllkfpggoigbaaaGreatDoor
