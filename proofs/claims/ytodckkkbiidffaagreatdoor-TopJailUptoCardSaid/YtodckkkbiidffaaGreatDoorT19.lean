/- Part 19 of 39: what the law stands on. -/
import Derived.Test.YtodckkkbiidffaaGreatDoorT16
import Derived.Test.YtodckkkbiidffaaGreatDoorT18
set_option linter.unusedVariables false
set_option linter.unusedSimpArgs false
set_option linter.unnecessarySimpa false
set_option maxRecDepth 100000
set_option maxHeartbeats 64000000
namespace Go.Proofs.YtodckkkbiidffaaGreatDoor
open Go.AM Go.ChangeShapes Go.WideShapes Go.ChangeAt Go.RowKit
def sx(l:List Obj)(ops:List bD)(ps:List bj)(a:Mk):Mem:=
 [.var [.ptr 1 0,.row 2 1 0 none,.row 3 1 0 none],.var [.row 4 9 0 none,.row 5 2 0 none,.row 6 4 0 none],.row 1 (af (a.O.map bE)),.row 1 (af (a.P.map bE)),.row 9 (af (l.map Obj.enc)),.row 2 (af (ops.map bD.enc)),.row 4 (af (ps.map bj.enc))]
theorem tT{l:List Obj}{ops:List bD}{ps:List bj}{a:Mk}{f:Nat}{args:List CV}{Q:Mk->Prop}(h:aq Tryz.prog f args (sx l ops ps a) (fun r m=>∃b,Q b/\r= .bF []/\m=sx l ops ps b))(x:Bk)(ew:args=args.map (CV.aQ (sg [0,1,2,3,4,5,6] 8))){K:CV->Mem->Prop}(hK:∀b,Q b->K (.bF []) [.var [.ptr 1 0,.row 2 1 0 none,.row 3 1 0 none],.var [.row 4 9 0 none,.row 5 2 0 none,.row 6 4 0 none],.row 1 (af (b.O.map bE)),.row 1 (af (b.P.map bE)),.row 9 (af (l.map Obj.enc)),.row 2 (af (ops.map bD.enc)),.row 4 (af (ps.map bj.enc)),x]):
  aq Tryz.prog f args [.var [.ptr 1 0,.row 2 1 0 none,.row 3 1 0 none],.var [.row 4 9 0 none,.row 5 2 0 none,.row 6 4 0 none],.row 1 (af (a.O.map bE)),.row 1 (af (a.P.map bE)),.row 9 (af (l.map Obj.enc)),.row 2 (af (ops.map bD.enc)),.row 4 (af (ps.map bj.enc)),x] K:=by
 refine bw [0,1,2,3,4,5,6] 8 rfl rfl rfl rfl (args0:=args) ew (fun i b' hi=>?_) h (fun r m1 hr=>?_)
 .match i,hi with
  |0,hi=>cases hi;exact .inr ⟨fun h=>h,_,rfl,.eq rfl aI⟩
  |1,hi=>cases hi;exact .inr ⟨fun h=>h,_,rfl,.eq rfl aI⟩
  |2,hi=>cases hi;exact .inr ⟨fun h=>h,_,rfl,.bP rfl⟩
  |3,hi=>cases hi;exact .inr ⟨fun h=>h,_,rfl,.bP rfl⟩
  |4,hi=>cases hi;exact .inr ⟨fun h=>h,_,rfl,.bP rfl⟩
  |5,hi=>cases hi;exact .inr ⟨fun h=>h,_,rfl,.bP rfl⟩
  |6,hi=>cases hi;exact .inr ⟨fun h=>h,_,rfl,.bP rfl⟩
  |n+7,hi=>simp[sx]at hi
 .obtain⟨b,hb,rfl,rfl⟩:=hr;refine⟨Pq _,?_⟩;have e2:(Bk.row 1 (af (b.O.map bE))).aQ (sg [0,1,2,3,4,5,6] 8)= .row 1 (af (b.O.map bE)):=by simp only[Bk.aQ,db]
  have e3:(Bk.row 1 (af (b.P.map bE))).aQ (sg [0,1,2,3,4,5,6] 8)= .row 1 (af (b.P.map bE)):=by simp only[Bk.aQ,db]
  show K _ [.var [.ptr 1 0,.row 2 1 0 none,.row 3 1 0 none],.var [.row 4 9 0 none,.row 5 2 0 none,.row 6 4 0 none],(Bk.row 1 (af (b.O.map bE))).aQ (sg [0,1,2,3,4,5,6] 8),(Bk.row 1 (af (b.P.map bE))).aQ (sg [0,1,2,3,4,5,6] 8),(Bk.row 9 (af (l.map Obj.enc))).aQ (sg [0,1,2,3,4,5,6] 8),(Bk.row 2 (af (ops.map bD.enc))).aQ (sg [0,1,2,3,4,5,6] 8),(Bk.row 4 (af (ps.map bj.enc))).aQ (sg [0,1,2,3,4,5,6] 8),x];have e4:(Bk.row 9 (af (l.map Obj.enc))).aQ (sg [0,1,2,3,4,5,6] 8)= .row 9 (af (l.map Obj.enc)):=by simp only[Bk.aQ,db]
  have e5:(Bk.row 2 (af (ops.map bD.enc))).aQ (sg [0,1,2,3,4,5,6] 8)= .row 2 (af (ops.map bD.enc)):=by simp only[Bk.aQ,db]
  have e6:(Bk.row 4 (af (ps.map bj.enc))).aQ (sg [0,1,2,3,4,5,6] 8)= .row 4 (af (ps.map bj.enc)):=by simp only[Bk.aQ,db]
  rw[e2,e3,e4,e5,e6];exact hK b hb
theorem Cb(l:List Obj)(ops:List bD)(ps:List bj)(g:∀o,o∈l->o.sm)(N:Nat)(Qg:∀a z,vq l ops a->a.mu<N->aq Tryz.prog 142 [.rv (.one (.ptr 0 0)),an .i64 z] (sx l ops ps a) (fun r m=>∃b,PO l ops z a b/\r= .bF []/\m=sx l ops ps b))(VJ:∀a z w,vq l ops a->a.mu<N->aq Tryz.prog 143 [.rv (.one (.ptr 0 0)),.rv (.agg [.aa (.val (.int .i64 z)),.aa (.val (.int .i64 w))])] (sx l ops ps a) (fun r m=>∃b,PP l ops z a b/\r= .bF []/\m=sx l ops ps b))(a:Mk)(z:Int)(VK:vq l ops a)(Se:a.mu<=N):body Tryz.prog c142 [.rv (.one (.ptr 0 0)),an .i64 z] (sx l ops ps a) (fun r m=>∃b,PO l ops z a b/\r= .bF []/\m=sx l ops ps b):=by
 have hlen:∀L:List Bool,(af (L.map bE)).length=L.length:=fun L=>by rw[bb,KB]
 obtain⟨hO,hP⟩:=VK;refine aJ (fun h=>?_) (fun h0=>?_)
 .exact⟨a,.none fun n hv=>by have:=hv.1;have h:z<0:=h;omega,rfl,rfl⟩
 obtain⟨n,rfl⟩:∃n:Nat,z=n:=⟨z.toNat,by have h:¬z<0:=h0;omega⟩
 refine aJ (fun h=>?_) (fun h1=>?_)
 .refine⟨a,.none fun m hv=>?_,rfl,rfl⟩
  obtain⟨hz,o,ho,_⟩:=hv;have h:(n:Int)>=((af (a.O.map bE)).length:Int):=h;rw[hlen]at h;have:=(Gf.1 ho).1;omega
 have hn:n<a.O.length:=by have h:¬(n:Int)>=((af (a.O.map bE)).length:Int):=h1;rw[hlen]at h;omega
 have jQ:n<l.length:=om;refine ag (wo hn) ?_;refine ag (qH hn) ?_;refine aD (fun h2=>?_) (fun h2=>?_)
 .refine⟨a,.none fun m hv=>?_,rfl,rfl⟩
  have:m=n:=by have:=hv.1;omega
  subst this;exact(sA hn).trans (congrArg some h2)
 have IT:dp (n:Int) (lenOf (af (l.map Obj.enc)).length 0 none)=some n:=bZ (by show n<(af (l.map Obj.enc)).length;rw[bb,KB];exact jQ)
 have NA:=bC Obj.enc l jQ;have zs:=sA jQ;have BG:=g _ (Wl jQ);generalize l[n]=o at NA zs BG;obtain⟨ah,data,aj,target,aC,ak,aM,am,up⟩:=o;obtain⟨es,rfl⟩:∃es:List (ByteArray×Int),aj=es.map fw:=BG.t.2.1;refine ag IT ?_;refine ag NA ?_;refine bA (fun h3=>?_) (fun h3=>?_)
 .refine⟨a,.none fun m hv=>?_,rfl,rfl⟩
  obtain⟨hz,o2,nr,hk⟩:=hv;have:m=n:=om;subst this;rw[zs]at nr;cases nr;exact absurd h3 hk
 have h3:ah≠0:=h3;have Im:es.length<=8:=by have:=BG.e;simpa using this
 have IK:ak.length<=8:=BG.q;have OX:=wn.start (l:=l) (ops:=ops) hn es ak;have Sf:(⟨a.O.set n true,a.P⟩:Mk).mu<N:=by have:=ow a.O n ((sA hn).trans (congrArg some h2));have Se:dE a.O+dE a.P<=N:=Se;show dE (a.O.set n true)+dE a.P<N;omega
 refine ag (wo hn) ?_;refine ag (qH hn) ?_;refine ag IT ?_;refine ag NA ?_;refine ba (fun(s:XZ)=>s.j<=es.length/\wn l ops n a s.b s.j 0 es ak) [0,4,61,62] (fun s=>[(63,an .i64 (s.j:Nat))]) (fun s=>[.var [.ptr 1 0,.row 2 1 0 none,.row 3 1 0 none],.var [.row 4 9 0 none,.row 5 2 0 none,.row 6 4 0 none],.row 1 (af (s.b.O.map bE)),.row 1 (af (s.b.P.map bE)),.row 9 (af (l.map Obj.enc)),.row 2 (af (ops.map bD.enc)),.row 4 (af (ps.map bj.enc))]) (fun s=>es.length-s.j) ⟨0,_⟩ ⟨Wi _,OX⟩ ?_ (fun s hs=>?_)
 .refine View.o1 7 [0,1,2,3,4,5,6] [] ?_
  .exact .pe rfl rfl rfl (.pe rfl rfl rfl (.pt rfl rfl (.bP IS) (.pr rfl rfl rfl (.pr rfl rfl rfl (.pr rfl rfl rfl (.pn rfl rfl rfl))))))
 obtain⟨j,b⟩:=s;obtain⟨hj,hM⟩:=hs;have hj:j<=es.length:=hj;have hM:wn l ops n a b j 0 es ak:=hM;refine aJ (fun h=>?_) (fun h=>?_)
 .have dL:j<es.length:=by have h:(j:Int)<((es.map fw).length:Int):=h;rw[KB]at h;omega
  refine ag (LJ dL) ?_;have Ru:=hM.Nz;refine tT (Qg b es[j].2 ⟨hM.st.lo.trans hO,hM.st.lp.trans hP⟩ om) _ rfl fun c hc=>?_
  refine⟨⟨j+1,c⟩,⟨dL,hM.Sa (sA dL) hc zs rfl⟩,(show es.length-(j+1)<es.length-j by omega),View.o 8 [0,1,2,3,4,5,6] [] ?_ ?_⟩
  .repeat(first|exact .nil|refine .ar ?_|refine .put (.aQ (aL om).symm) ?_|refine .eq rfl ?_)
  .exact .pe rfl rfl rfl (.pe rfl rfl rfl (.pr rfl rfl rfl (.pr rfl rfl rfl (.pr rfl rfl rfl (.pr rfl rfl rfl (.pn rfl rfl rfl))))))
 .have KP:j=es.length:=by have h:¬(j:Int)<((es.map fw).length:Int):=h;rw[KB]at h;omega
  subst KP;refine ag NA ?_;refine ba (fun(s:XZ)=>s.j<=ak.length/\wn l ops n a s.b es.length s.j es ak) [0,75,76] (fun s=>[(77,an .i64 (s.j:Nat))]) (fun s=>[.var [.ptr 1 0,.row 2 1 0 none,.row 3 1 0 none],.var [.row 4 9 0 none,.row 5 2 0 none,.row 6 4 0 none],.row 1 (af (s.b.O.map bE)),.row 1 (af (s.b.P.map bE)),.row 9 (af (l.map Obj.enc)),.row 2 (af (ops.map bD.enc)),.row 4 (af (ps.map bj.enc))]) (fun s=>ak.length-s.j) ⟨0,b⟩ ⟨Wi _,hM⟩ ?_ (fun s hs=>?_)
  .refine View.o1 7 [0,1,2,3,4,5,6] [] ?_
   .exact .pe rfl rfl rfl (.pe rfl rfl rfl (.pr rfl rfl rfl (.pr rfl rfl rfl (.pr rfl rfl rfl (.pr rfl rfl rfl (.pn rfl rfl rfl))))))
  clear hM hj h;obtain⟨j,b⟩:=s;obtain⟨hj,hM⟩:=hs;have hj:j<=ak.length:=hj;have hM:wn l ops n a b es.length j es ak:=hM;refine aJ (fun h=>?_) (fun h=>?_)
  .have dL:j<ak.length:=by have h:(j:Int)<((ak.map bo.enc).length:Int):=h;rw[KB]at h;omega
   have OG:=sA dL;refine ag (LM dL) ?_;have Ru:=hM.Nz;refine aD (fun hh=>?_) (fun hh=>?_)
   .refine tT (VJ b ak[j].eE ak[j].cn ⟨hM.st.lo.trans hO,hM.st.lp.trans hP⟩ om) _ rfl fun c hc=>?_
    refine⟨⟨j+1,c⟩,⟨dL,hM.Sb OG hh hc zs rfl⟩,(show ak.length-(j+1)<ak.length-j by omega),View.o 8 [0,1,2,3,4,5,6] [] ?_ ?_⟩
    .repeat(first|exact .nil|refine .ar ?_|refine .put (.aQ (aL om).symm) ?_|refine .eq rfl ?_)
    .exact .pe rfl rfl rfl (.pe rfl rfl rfl (.pr rfl rfl rfl (.pr rfl rfl rfl (.pr rfl rfl rfl (.pr rfl rfl rfl (.pn rfl rfl rfl))))))
   .skip
    refine⟨⟨j+1,b⟩,⟨dL,hM.Sd OG hh⟩,(show ak.length-(j+1)<ak.length-j by omega),View.o 8 [0,1,2,3,4,5,6] [] ?_ ?_⟩
    .repeat(first|exact .nil|refine .ar ?_|refine .put (.aQ (aL om).symm) ?_|refine .eq rfl ?_)
    .exact .pe rfl rfl rfl (.pe rfl rfl rfl (.pr rfl rfl rfl (.pr rfl rfl rfl (.pr rfl rfl rfl (.pr rfl rfl rfl (.pn rfl rfl rfl))))))
  .have KP:j=ak.length:=by have h:¬(j:Int)<((ak.map bo.enc).length:Int):=h;rw[KB]at h;omega
   subst KP;exact⟨b,hM.iu zs h3 rfl rfl,rfl,rfl⟩
theorem Cc(l:List Obj)(ops:List bD)(ps:List bj)(N:Nat)(Qg:∀a z,vq l ops a->a.mu<N->aq Tryz.prog 142 [.rv (.one (.ptr 0 0)),an .i64 z] (sx l ops ps a) (fun r m=>∃b,PO l ops z a b/\r= .bF []/\m=sx l ops ps b))(a:Mk)(z w:Int)(VK:vq l ops a)(Se:a.mu<=N):body Tryz.prog c143 [.rv (.one (.ptr 0 0)),.rv (.agg [.aa (.val (.int .i64 z)),.aa (.val (.int .i64 w))])] (sx l ops ps a) (fun r m=>∃b m',PP l ops z a b/\r= .bF []/\m=sx l ops ps b++m'):=by
 have hlen:∀L:List Bool,(af (L.map bE)).length=L.length:=fun L=>by rw[bb,KB]
 obtain⟨hO,hP⟩:=VK;refine aJ (fun h=>?_) (fun h0=>?_)
 .exact⟨a,[_],.none fun n hv=>by have:=hv.1;have h:z<0:=h;omega,rfl,rfl⟩
 obtain⟨n,rfl⟩:∃n:Nat,z=n:=⟨z.toNat,by have h:¬z<0:=h0;omega⟩
 refine aJ (fun h=>?_) (fun h1=>?_)
 .refine⟨a,[_],.none fun m hv=>?_,rfl,rfl⟩
  obtain⟨hz,ho⟩:=hv;have h:(n:Int)>=((af (a.P.map bE)).length:Int):=h;rw[hlen]at h;omega
 have hn:n<a.P.length:=by have h:¬(n:Int)>=((af (a.P.map bE)).length:Int):=h1;rw[hlen]at h;omega
 have jQ:n<ops.length:=om;refine ag (wo hn) ?_;refine ag (qH hn) ?_;refine aD (fun h2=>?_) (fun h2=>?_)
 .refine⟨a,[_],.none fun m hv=>?_,rfl,rfl⟩
  have:m=n:=by have:=hv.1;omega
  subst this;exact(sA hn).trans (congrArg some h2)
 have Sf:(⟨a.O,a.P.set n true⟩:Mk).mu<N:=by have:=ow a.P n ((sA hn).trans (congrArg some h2));have Se:dE a.O+dE a.P<=N:=Se;show dE a.O+dE (a.P.set n true)<N;omega
 refine ag (wo hn) ?_;refine ag (qH hn) ?_;refine⟨trivial,?_⟩;have IT:dp (n:Int) (lenOf (af (ops.map bD.enc)).length 0 none)=some n:=bZ (by show n<(af (ops.map bD.enc)).length;rw[bb,KB];exact jQ)
 refine ag IT ?_;refine ag (bC bD.enc ops jQ) ?_;refine nu (nS:=[.rv (.one (.ptr 0 0)),an .i64 ops[n].br]) (m':=sx l ops ps ⟨a.O,a.P.set n true⟩ ++ [.var [.aa (.val (.int .i64 (n:Nat))),.aa (.val (.int .i64 w))]]) (View.o 8 [0,1,2,3,4,5,6,7] [] (.eq rfl (.eq rfl .nil))
  (.pe rfl rfl rfl (.pe rfl rfl rfl (.pr rfl rfl rfl (.pt rfl rfl (.bP IS) (.pr rfl rfl rfl (.pr rfl rfl rfl (.pr rfl rfl rfl (.pm rfl rfl rfl))))))))) ?_
 refine tT (Qg ⟨a.O,a.P.set n true⟩ ops[n].br ⟨hO,by simpa using hP⟩ Sf) _ rfl fun c hc=>?_
 exact⟨trivial,c,[_],PP.of hn (sA jQ) hc,rfl,rfl⟩
theorem mU(l:List Obj)(ops:List bD)(ps:List bj)(g:∀o,o∈l->o.sm):∀N,
  (∀a z,vq l ops a->a.mu<N->aq Tryz.prog 142 [.rv (.one (.ptr 0 0)),an .i64 z] (sx l ops ps a) (fun r m=>∃b,PO l ops z a b/\r= .bF []/\m=sx l ops ps b))/\
  (∀a z w,vq l ops a->a.mu<N->aq Tryz.prog 143 [.rv (.one (.ptr 0 0)),.rv (.agg [.aa (.val (.int .i64 z)),.aa (.val (.int .i64 w))])] (sx l ops ps a) (fun r m=>∃b,PP l ops z a b/\r= .bF []/\m=sx l ops ps b))
 |0=>⟨fun _ _ _ h=>absurd h (aah _),fun _ _ _ _ h=>absurd h (aah _)⟩
 |N+1=>by
  obtain⟨Qg,VJ⟩:=mU l ops ps g N;refine⟨fun a z hb hm=>aX Tryz.func142 l142 (Cb l ops ps g N Qg VJ a z hb om),fun a z w hb hm=>?_⟩
  refine bK (aX Tryz.func143 l143 (Cc l ops ps N Qg a z w hb om)) fun r m1⟨b,m',hp,hr,Fm⟩=>?_
  subst hr Fm;refine⟨.bF [],sx l ops ps b,View.of (7+m'.length) [0,1,2,3,4,5,6] [] (by simp[sx];omega) rfl rfl rfl rfl (by simp[eR]<;>omega) (.put (.bF rfl fun i r r' h=>by simp at h) .nil) ?_,⟨b,hp,rfl,rfl⟩⟩
  exact .pe rfl rfl rfl (.pe rfl rfl rfl (.pr rfl rfl rfl (.pr rfl rfl rfl (.pr rfl rfl rfl (.pr rfl rfl rfl (.pn rfl rfl rfl))))))
def c119:LF:= ⟨54,[.tmp 2],(.seq (.ai [qu 2 (.aF (.c (.rv (.one (.aa (.val (.pointer none)))))))]) (.seq (.bU [qm 8 0,qm 9 0,qu 10 (.aT 9),qf 11 0 10,ql 12 11,qu 13 (.len 1 12),qu 14 (.nl 1 1 [(.aa (.val (.bool false)))] 13 13),qm 15 0,qu 16 (.aT 15),qf 17 1 16,ql 18 17,qu 19 (.len 1 18),qu 20 (.nl 1 1 [(.aa (.val (.bool false)))] 19 19),qu 21 (.build [(.aa (.val (.pointer none))),.aB,.aB] [(0,1,8),(1,1,14),(2,1,20)]),qu 22 (.box 21),qm 3 22] [(.cons 0 none (.cons 1 none (.cons 2 none (.cons 3 none (.cons 4 none (.cons 5 none (.cons 7 none (.cons 8 none (.cons 9 none (.cons 10 none (.cons 11 none (.yU (.cons 6 (some [11,10]) (.cons 12 (some [5,4]) (.cons 13 none (.cons 14 (some []) (.cons 15 none .nil))))) (.cons 12 (some [5,4]) (.cons 6 (some [11,10]) (.cons 13 none (.cons 14 (some []) (.cons 15 none .nil)))))))))))))))))]) (.cI (.seq (.ai [qm 23 3,qu 24 (qc 142 [23,(qi 0)])]) (.seq (.seq (.ai [qm 25 0,qu 26 (.aT 25),qf 27 2 26,ql 28 27,qu 29 (.len 1 28),qu 30 (.aF (qi 0))]) (.block 0 (.loop (.seq (.ai [qu 31 (.aH .lss 30 29)]) (.seq (.cond 31 .skip (.exit 0)) (.seq (.block 1 (.seq (.ai [qu 32 (.cr 4 28 30),qL 33 4 32,qu 5 (.alloc [(.aa (.val (.bool false))),(.aa (.val (.bool false))),(qd 0),.aB]),qw (.store 4 5 33)]) (.seq (.ai [qf 34 3 5,ql 35 34,qu 36 (.len 1 35),qu 37 (.aF (qi 0))]) (.block 2 (.loop (.seq (.ai [qu 38 (.aH .lss 37 36)]) (.seq (.cond 38 .skip (.exit 2)) (.seq (.block 3 (.seq (.ai [qu 39 (.cr 3 35 37),qL 40 3 39,qu 7 (.alloc [(.aa (.val (.bool false))),(qd 0),(qd 0)]),qw (.store 3 7 40)]) (.seq (.ai [qf 41 0 5,ql 42 41,qm 43 42,qg 44 (.bX 0 7) 43 true,qg 45 (.load false 1 44) 43 true,qu 46 (.pick 43 45 (qb false))]) (.cond 46 (.ai [qm 47 3,qf 48 1 7,qL 49 2 48,qu 50 (qc 143 [47,49])]) .skip)))) (.ai [qu 51 (.aH .add 37 (qi 1)),qm 37 51]))))))))) (.ai [qu 52 (.aH .add 30 (qi 1)),qm 30 52]))))))) (.seq (.ai [qm 53 3,qm 2 53]) .ret))))))⟩
def Em(l:List Obj)(ops:List bD)(ps:List bj)(RO RP:Nat->Prop):Prop:=
 (∀n,vO l 0 n->RO n)/\∀(p:Nat)pr,ps[p]? =some pr->pr.a7=true->∀s,s∈pr.bd->s.has=true->∀c,vP ops s.eE c->RP c
structure kL(l:List Obj)(ops:List bD)(ps:List bj)(b:Mk):Prop where
 len:vq l ops b
 tU:Em l ops ps (dt b.O) (dt b.P)
 cl:Cl l ops (dt b.O) (dt b.P)
 pD:∀RO RP,Cl l ops RO RP->Em l ops ps RO RP->KY RO RP b
def wq(l:List Obj)(ops:List bD):Mk:=⟨List.replicate l.length false,List.replicate ops.length false⟩
theorem tV{n i:Nat}:¬dt (List.replicate n false) i:=by
 intro h;unfold dt at h;rw[abF]at h;split at h<;>cases h
structure dk(l:List Obj)(ops:List bD)(ps:List bj)(b:Mk)(p j:Nat):Prop where
 st:Step l ops (fun _=>False) (wq l ops) b
 r0:∀n,vO l 0 n->dt b.O n
 rp:∀(i:Nat)pr,i<p->ps[i]? =some pr->pr.a7=true->∀s,s∈pr.bd->s.has=true->∀c,vP ops s.eE c->dt b.P c
 rj:∀pr,ps[p]? =some pr->pr.a7=true->∀(t:Nat)s,t<j->pr.bd[t]? =some s->s.has=true->∀c,vP ops s.eE c->dt b.P c
 pD:∀RO RP,Cl l ops RO RP->Em l ops ps RO RP->KY RO RP b
theorem dk.start{l:List Obj}{ops:List bD}{ps:List bj}{b:Mk}(h:PO l ops 0 (wq l ops) b):dk l ops ps b 0 0:=
 ⟨h.st,h.on,fun i pr h=>absurd h (aah i),fun pr _ _ t s h=>absurd h (aah t),fun RO RP gT hr=>h.sd RO RP gT ⟨fun i hi=>absurd hi tV,fun i hi=>absurd hi tV⟩ hr.1⟩
theorem dk.NB{l:List Obj}{ops:List bD}{ps:List bj}{b c:Mk}{p j:Nat}(h:dk l ops ps b p j){pr:bj}(xM:ps[p]? =some pr)(dD:pr.a7=true){s:fq}(hs:pr.bd[j]? =some s)(hh:s.has=true)(hc:PP l ops s.eE b c):dk l ops ps c p (j+1):=by
 refine⟨h.st.trans hc.st,fun n hn=>hc.st.mo n (h.r0 n hn),fun i x hi hx hl y hy KZ d hd=>hc.st.mp d (h.rp i x hi hx hl y hy KZ d hd),fun x hx hl t y ht hy KZ d hd=>?_,fun RO RP gT hr=>hc.sd RO RP gT (h.pD RO RP gT hr) fun d hd=>hr.2 p pr xM dD s (NQ hs) hh d hd⟩
 rcases Wj t j with Hp|Hp
 .exact hc.st.mp d (h.rj x hx hl t y Hp hy KZ d hd)
 .have:t=j:=om;subst this;rw[xM]at hx;cases hx;rw[hs]at hy;cases hy;exact hc.on d hd
theorem dk.skip{l:List Obj}{ops:List bD}{ps:List bj}{b:Mk}{p j:Nat}(h:dk l ops ps b p j){pr:bj}(xM:ps[p]? =some pr){s:fq}(hs:pr.bd[j]? =some s)(hh:pr.a7=true->s.has=false):dk l ops ps b p (j+1):=by
 refine⟨h.st,h.r0,h.rp,fun x hx hl t y ht hy KZ d hd=>?_,h.pD⟩
 rcases Wj t j with Hp|Hp
 .exact h.rj x hx hl t y Hp hy KZ d hd
 .have:t=j:=om;subst this;rw[xM]at hx;cases hx;rw[hs]at hy;cases hy;rw[hh hl]at KZ;cases KZ
theorem dk.next{l:List Obj}{ops:List bD}{ps:List bj}{b:Mk}{p:Nat}{pr:bj}(xM:ps[p]? =some pr)(h:dk l ops ps b p pr.bd.length):dk l ops ps b (p+1) 0:=by
 refine⟨h.st,h.r0,fun i x hi hx hl y hy KZ d hd=>?_,fun x _ _ t y ht=>absurd ht (aah t),h.pD⟩
 rcases Wj i p with Qh|Qh
 .exact h.rp i x Qh hx hl y hy KZ d hd
 .have:i=p:=om;subst this;rw[xM]at hx;cases hx;obtain⟨t,ht⟩:=Un hy;exact h.rj pr xM hl t y (Gf.1 ht).1 ht KZ d hd
theorem dk.iu{l:List Obj}{ops:List bD}{ps:List bj}{b:Mk}(h:dk l ops ps b ps.length 0):kL l ops ps b:=by
 refine⟨⟨by have:=h.st.lo;simpa[wq]using this,by have:=h.st.lp;simpa[wq]using this⟩,⟨h.r0,fun p pr hp hl s hs hh c hc=>h.rp p pr (Gf.1 hp).1 hp hl s hs hh c hc⟩,⟨fun i o hi ho z n hz hv=>?_,fun i o hi ho z c hz hv=>?_,fun c o hc ho n hv=>?_⟩,h.pD⟩
 .exact(h.st.co i o hi tV (fun h=>h) ho).1 z n hz hv
 .exact(h.st.co i o hi tV (fun h=>h) ho).2 z c hz hv
 .exact h.st.cp c o hc tV ho n hv
theorem pE(n:Nat):(fC n [CC.aa (.val (.bool false))])=af ((List.replicate n false).map bE):=by
 induction n with
 |zero=>rfl
 |succ n ih=>simp only[fC,ih];simp[af,bE,List.replicate_succ]
theorem l119:bs Tryz.prog Tryz.f119=some c119.er:=by kernel_rfl
theorem En{l:List fq}{k:Nat}(h:k<l.length):dg (l.map fq.enc) (k:Nat)=some [.val (.bool l[k].has),.val (.int .i64 l[k].eE),.val (.int .i64 l[k].cn)]:=by rw[bI,NO,sA h];rfl
structure T8 where
 p:Nat
 b:Mk
theorem dM{ps:List bj}{k:Nat}(h:k<ps.length):dg (ps.map bj.enc) (k:Nat)=some [.val (.bool ps[k].a7),.val (.bool ps[k].fenced),.val (.int .i64 ps[k].code),vp ps[k].bd]:=by rw[bI,NO,sA h];rfl
theorem pF{l:List Obj}{ops:List bD}{ps:List bj}{a:Mk}{f:Nat}{args args0:List CV}{Q:Mk->Prop}(h:aq Tryz.prog f args0 (sx l ops ps a) (fun r m=>∃b,Q b/\r= .bF []/\m=sx l ops ps b))(X:Mem)(ew:args=args0.map (CV.aQ (sg [4,0,5,6,1,2,3] (7+X.length)))){K:CV->Mem->Prop}(hK:∀b,Q b->K (.bF []) ([.var [.row 1 9 0 none,.row 2 2 0 none,.row 3 4 0 none],.row 9 (af (l.map Obj.enc)),.row 2 (af (ops.map bD.enc)),.row 4 (af (ps.map bj.enc)),.var [.ptr 0 0,.row 5 1 0 none,.row 6 1 0 none],.row 1 (af (b.O.map bE)),.row 1 (af (b.P.map bE))]++X)):
  aq Tryz.prog f args ([.var [.row 1 9 0 none,.row 2 2 0 none,.row 3 4 0 none],.row 9 (af (l.map Obj.enc)),.row 2 (af (ops.map bD.enc)),.row 4 (af (ps.map bj.enc)),.var [.ptr 0 0,.row 5 1 0 none,.row 6 1 0 none],.row 1 (af (a.O.map bE)),.row 1 (af (a.P.map bE))]++X) K:=by
 refine bw [4,0,5,6,1,2,3] (7+X.length) (by simp;omega) rfl rfl (by simp[eR]<;>omega) (args0:=args0) ew (fun i b' hi=>?_) h (fun r m1 hr=>?_)
 .match i,hi with
  |0,hi=>cases hi;exact .inr ⟨fun h=>h,_,rfl,.eq rfl aI⟩
  |1,hi=>cases hi;exact .inr ⟨fun h=>h,_,rfl,.eq rfl aI⟩
  |2,hi=>cases hi;exact .inr ⟨fun h=>h,_,rfl,.bP rfl⟩
  |3,hi=>cases hi;exact .inr ⟨fun h=>h,_,rfl,.bP rfl⟩
  |4,hi=>cases hi;exact .inr ⟨fun h=>h,_,rfl,.bP rfl⟩
  |5,hi=>cases hi;exact .inr ⟨fun h=>h,_,rfl,.bP rfl⟩
  |6,hi=>cases hi;exact .inr ⟨fun h=>h,_,rfl,.bP rfl⟩
  |n+7,hi=>simp[sx]at hi
 .obtain⟨b,hb,rfl,rfl⟩:=hr;refine⟨Pq _,?_⟩;have e:∀(s:Nat)(ds:List (List Dt)),(Bk.row s (af ds)).aQ (sg [4,0,5,6,1,2,3] (7+X.length))= .row s (af ds):=fun s ds=>by simp only[Bk.aQ,db]
  have hk:=hK b hb;have hw:cU ([.var [.row 1 9 0 none,.row 2 2 0 none,.row 3 4 0 none],.row 9 (af (l.map Obj.enc)),.row 2 (af (ops.map bD.enc)),.row 4 (af (ps.map bj.enc)),.var [.ptr 0 0,.row 5 1 0 none,.row 6 1 0 none],.row 1 (af (a.O.map bE)),.row 1 (af (a.P.map bE))]++X) [4,0,5,6,1,2,3] (pq (sg [4,0,5,6,1,2,3] (7+X.length)) (sx l ops ps b))=[.var [.row 1 9 0 none,.row 2 2 0 none,.row 3 4 0 none],.row 9 (af (l.map Obj.enc)),.row 2 (af (ops.map bD.enc)),.row 4 (af (ps.map bj.enc)),.var [.ptr 0 0,.row 5 1 0 none,.row 6 1 0 none],.row 1 (af (b.O.map bE)),.row 1 (af (b.P.map bE))]++X:=by simp only[sx,pq,e,cU,cf,abi];rfl
  rw[hw];exact hk
theorem Cd(l:List Obj)(ops:List bD)(ps:List bj)(g:∀o,o∈l->o.sm)(hl:l.length<=4194304)(ho:ops.length<=4194304)(ix:ps.length<=4194304)(oP:∀p,p∈ps->p.bd.length<=10):
  body Tryz.prog c119 [.rv (.one (.ptr 0 0))] [.var [.row 1 9 0 none,.row 2 2 0 none,.row 3 4 0 none],.row 9 (af (l.map Obj.enc)),.row 2 (af (ops.map bD.enc)),.row 4 (af (ps.map bj.enc))] (fun r m=>∃b,kL l ops ps b/\r= .rv (.one (.ptr 4 0))/\m=[.var [.row 1 9 0 none,.row 2 2 0 none,.row 3 4 0 none],.row 9 (af (l.map Obj.enc)),.row 2 (af (ops.map bD.enc)),.row 4 (af (ps.map bj.enc)),.var [.ptr 0 0,.row 5 1 0 none,.row 6 1 0 none],.row 1 (af (b.O.map bE)),.row 1 (af (b.P.map bE))]):=by
 refine⟨?_,?_⟩
 .skip
  refine cj (abV _) ?_;refine⟨(by show(af (l.map Obj.enc)).length*1<=_;rw[bb,KB];omega),⟨rfl,rfl,trivial⟩,?_⟩
  refine cj (abV _) ?_;refine⟨(by show(af (ops.map bD.enc)).length*1<=_;rw[bb,KB];omega),⟨rfl,rfl,trivial⟩,?_⟩
  refine⟨trivial,?_⟩;refine fv [0] [(3,.rv (.one (.ptr 4 0)))] ([.var [.row 1 9 0 none,.row 2 2 0 none,.row 3 4 0 none],.row 9 (af (l.map Obj.enc)),.row 2 (af (ops.map bD.enc)),.row 4 (af (ps.map bj.enc)),.var [.ptr 0 0,.row 5 1 0 none,.row 6 1 0 none],.row 1 (af ((wq l ops).O.map bE)),.row 1 (af ((wq l ops).P.map bE))]) (View.o1 7 [0,1,2,3,6,4,5] [] ?_) ?_
  .exact(.pe rfl rfl rfl (.pr rfl rfl rfl (.pr rfl rfl rfl (.pr rfl rfl rfl (.pe rfl rfl rfl (.pt rfl rfl (.bP (by show fC (af (l.map Obj.enc)).length _=_;rw[pE,bb,KB];rfl)) (.pt rfl rfl (.bP (by show fC (af (ops.map bD.enc)).length _=_;rw[pE,bb,KB];rfl)) (.nil _))))))))
  refine pF ((mU l ops ps g ((wq l ops).mu+1)).1 (wq l ops) 0 ⟨by simp[wq],by simp[wq]⟩ (aa3 _)) [] rfl fun b0 va=>?_
  refine ba (fun(s:T8)=>s.p<=ps.length/\dk l ops ps s.b s.p 0) [3,28,29] (fun s=>[(30,an .i64 (s.p:Nat))]) (fun s=>[.var [.row 1 9 0 none,.row 2 2 0 none,.row 3 4 0 none],.row 9 (af (l.map Obj.enc)),.row 2 (af (ops.map bD.enc)),.row 4 (af (ps.map bj.enc)),.var [.ptr 0 0,.row 5 1 0 none,.row 6 1 0 none],.row 1 (af (s.b.O.map bE)),.row 1 (af (s.b.P.map bE))]) (fun s=>ps.length-s.p) ⟨0,b0⟩ ⟨Wi _,.start va⟩ ?_ (fun s hs=>?_)
  .refine View.o1 7 [0,1,2,3,4,5,6] [] ?_
   .exact(.pe rfl rfl rfl (.pr rfl rfl rfl (.pr rfl rfl rfl (.pr rfl rfl rfl (.pe rfl rfl rfl (.pr rfl rfl rfl (.pn rfl rfl rfl)))))))
  obtain⟨p,b⟩:=s;obtain⟨hp,hM⟩:=hs;have hp:p<=ps.length:=hp;have hM:dk l ops ps b p 0:=hM;refine aJ (fun h=>?_) (fun h=>?_)
  .have gO:p<ps.length:=by have h:(p:Int)<((af (ps.map bj.enc)).length:Int):=h;rw[bb,KB]at h;omega
   refine ag (bZ (k:=p) (by show p<(af (ps.map bj.enc)).length;rw[bb,KB];exact gO)) ?_
   refine ag (bC bj.enc ps gO) ?_;have xM:=sA gO;have D6:=oP _ (Wl gO);generalize ps[p]=pr at xM D6;refine ba (fun(s:T8)=>s.p<=pr.bd.length/\dk l ops ps s.b p s.p) [3,5,28,29,30,35,36] (fun s=>[(37,an .i64 (s.p:Nat))]) (fun s=>[.var [.row 1 9 0 none,.row 2 2 0 none,.row 3 4 0 none],.row 9 (af (l.map Obj.enc)),.row 2 (af (ops.map bD.enc)),.row 4 (af (ps.map bj.enc)),.var [.ptr 0 0,.row 5 1 0 none,.row 6 1 0 none],.row 1 (af (s.b.O.map bE)),.row 1 (af (s.b.P.map bE)),.var (pr.enc.map .aa)]) (fun s=>pr.bd.length-s.p) ⟨0,b⟩ ⟨Wi _,hM⟩ ?_ (fun s hs=>?_)
   .refine View.o1 8 [0,1,2,3,4,5,6,7] [] ?_
    .exact(.pe rfl rfl rfl (.pr rfl rfl rfl (.pr rfl rfl rfl (.pr rfl rfl rfl (.pe rfl rfl rfl (.pr rfl rfl rfl (.pr rfl rfl rfl (.pm rfl rfl rfl))))))))
   clear hM;obtain⟨j,b⟩:=s;obtain⟨hj,hM⟩:=hs;have hj:j<=pr.bd.length:=hj;have hM:dk l ops ps b p j:=hM;refine aJ (fun lG=>?_) (fun lG=>?_)
   .have dL:j<pr.bd.length:=by have h:(j:Int)<((pr.bd.map fq.enc).length:Int):=lG;rw[KB]at h;omega
    have LN:=sA dL;refine ag (En dL) ?_;generalize pr.bd[j]=s at LN;refine aD (fun dD=>?_) (fun dD=>?_)
    .refine aD (fun hh=>?_) (fun hh=>?_)
     .refine pF ((mU l ops ps g (b.mu+1)).2 b s.eE s.cn ⟨by have:=hM.st.lo;simpa[wq]using this,by have:=hM.st.lp;simpa[wq]using this⟩ (aa3 _)) [_,_] rfl fun c hc=>?_
      refine⟨⟨j+1,c⟩,⟨dL,hM.NB xM dD LN hh hc⟩,(show pr.bd.length-(j+1)<pr.bd.length-j by omega),View.o 9 [0,1,2,3,4,5,6,7] [] ?_ ?_⟩
      .repeat(first|exact .nil|refine .ar ?_|refine .put (.aQ (aL om).symm) ?_|refine .eq rfl ?_)
      .exact(.pe rfl rfl rfl (.pr rfl rfl rfl (.pr rfl rfl rfl (.pr rfl rfl rfl (.pe rfl rfl rfl (.pr rfl rfl rfl (.pr rfl rfl rfl (.pm rfl rfl rfl))))))))
     .skip
      refine⟨⟨j+1,b⟩,⟨dL,hM.skip xM LN (fun _=>hh)⟩,(show pr.bd.length-(j+1)<pr.bd.length-j by omega),View.o 9 [0,1,2,3,4,5,6,7] [] ?_ ?_⟩
      .repeat(first|exact .nil|refine .ar ?_|refine .put (.aQ (aL om).symm) ?_|refine .eq rfl ?_)
      .exact(.pe rfl rfl rfl (.pr rfl rfl rfl (.pr rfl rfl rfl (.pr rfl rfl rfl (.pe rfl rfl rfl (.pr rfl rfl rfl (.pr rfl rfl rfl (.pm rfl rfl rfl))))))))
    .skip
     refine⟨⟨j+1,b⟩,⟨dL,hM.skip xM LN (fun h=>absurd (h.symm.trans dD) aI)⟩,(show pr.bd.length-(j+1)<pr.bd.length-j by omega),View.o 9 [0,1,2,3,4,5,6,7] [] ?_ ?_⟩
     .repeat(first|exact .nil|refine .ar ?_|refine .put (.aQ (aL om).symm) ?_|refine .eq rfl ?_)
     .exact(.pe rfl rfl rfl (.pr rfl rfl rfl (.pr rfl rfl rfl (.pr rfl rfl rfl (.pe rfl rfl rfl (.pr rfl rfl rfl (.pr rfl rfl rfl (.pm rfl rfl rfl))))))))
   .have KP:j=pr.bd.length:=by have h:¬(j:Int)<((pr.bd.map fq.enc).length:Int):=lG;rw[KB]at h;omega
    subst KP;refine⟨⟨p+1,b⟩,⟨gO,hM.next xM⟩,(show ps.length-(p+1)<ps.length-p by omega),View.o 8 [0,1,2,3,4,5,6] [] ?_ ?_⟩
    .repeat(first|exact .nil|refine .ar ?_|refine .put (.aQ (aL om).symm) ?_|refine .eq rfl ?_)
    .exact(.pe rfl rfl rfl (.pr rfl rfl rfl (.pr rfl rfl rfl (.pr rfl rfl rfl (.pe rfl rfl rfl (.pr rfl rfl rfl (.pn rfl rfl rfl)))))))
  .have y9:p=ps.length:=by have h:¬(p:Int)<((af (ps.map bj.enc)).length:Int):=h;rw[bb,KB]at h;omega
   subst y9;exact⟨b,hM.iu,rfl,rfl⟩
 .skip
  refine cj (abV _) ?_;refine⟨(by show(af (ops.map bD.enc)).length*1<=_;rw[bb,KB];omega),⟨rfl,rfl,trivial⟩,?_⟩
  refine cj (abV _) ?_;refine⟨(by show(af (l.map Obj.enc)).length*1<=_;rw[bb,KB];omega),⟨rfl,rfl,trivial⟩,?_⟩
  refine⟨trivial,?_⟩;refine fv [0] [(3,.rv (.one (.ptr 4 0)))] ([.var [.row 1 9 0 none,.row 2 2 0 none,.row 3 4 0 none],.row 9 (af (l.map Obj.enc)),.row 2 (af (ops.map bD.enc)),.row 4 (af (ps.map bj.enc)),.var [.ptr 0 0,.row 5 1 0 none,.row 6 1 0 none],.row 1 (af ((wq l ops).O.map bE)),.row 1 (af ((wq l ops).P.map bE))]) (View.o1 7 [0,1,2,3,6,5,4] [] ?_) ?_
  .exact(.pe rfl rfl rfl (.pr rfl rfl rfl (.pr rfl rfl rfl (.pr rfl rfl rfl (.pe rfl rfl rfl (.pt rfl rfl (.bP (by show fC (af (l.map Obj.enc)).length _=_;rw[pE,bb,KB];rfl)) (.pt rfl rfl (.bP (by show fC (af (ops.map bD.enc)).length _=_;rw[pE,bb,KB];rfl)) (.nil _))))))))
  refine pF ((mU l ops ps g ((wq l ops).mu+1)).1 (wq l ops) 0 ⟨by simp[wq],by simp[wq]⟩ (aa3 _)) [] rfl fun b0 va=>?_
  refine ba (fun(s:T8)=>s.p<=ps.length/\dk l ops ps s.b s.p 0) [3,28,29] (fun s=>[(30,an .i64 (s.p:Nat))]) (fun s=>[.var [.row 1 9 0 none,.row 2 2 0 none,.row 3 4 0 none],.row 9 (af (l.map Obj.enc)),.row 2 (af (ops.map bD.enc)),.row 4 (af (ps.map bj.enc)),.var [.ptr 0 0,.row 5 1 0 none,.row 6 1 0 none],.row 1 (af (s.b.O.map bE)),.row 1 (af (s.b.P.map bE))]) (fun s=>ps.length-s.p) ⟨0,b0⟩ ⟨Wi _,.start va⟩ ?_ (fun s hs=>?_)
  .refine View.o1 7 [0,1,2,3,4,5,6] [] ?_
   .exact(.pe rfl rfl rfl (.pr rfl rfl rfl (.pr rfl rfl rfl (.pr rfl rfl rfl (.pe rfl rfl rfl (.pr rfl rfl rfl (.pn rfl rfl rfl)))))))
  obtain⟨p,b⟩:=s;obtain⟨hp,hM⟩:=hs;have hp:p<=ps.length:=hp;have hM:dk l ops ps b p 0:=hM;refine aJ (fun h=>?_) (fun h=>?_)
  .have gO:p<ps.length:=by have h:(p:Int)<((af (ps.map bj.enc)).length:Int):=h;rw[bb,KB]at h;omega
   refine ag (bZ (k:=p) (by show p<(af (ps.map bj.enc)).length;rw[bb,KB];exact gO)) ?_
   refine ag (bC bj.enc ps gO) ?_;have xM:=sA gO;have D6:=oP _ (Wl gO);generalize ps[p]=pr at xM D6;refine ba (fun(s:T8)=>s.p<=pr.bd.length/\dk l ops ps s.b p s.p) [3,5,28,29,30,35,36] (fun s=>[(37,an .i64 (s.p:Nat))]) (fun s=>[.var [.row 1 9 0 none,.row 2 2 0 none,.row 3 4 0 none],.row 9 (af (l.map Obj.enc)),.row 2 (af (ops.map bD.enc)),.row 4 (af (ps.map bj.enc)),.var [.ptr 0 0,.row 5 1 0 none,.row 6 1 0 none],.row 1 (af (s.b.O.map bE)),.row 1 (af (s.b.P.map bE)),.var (pr.enc.map .aa)]) (fun s=>pr.bd.length-s.p) ⟨0,b⟩ ⟨Wi _,hM⟩ ?_ (fun s hs=>?_)
   .refine View.o1 8 [0,1,2,3,4,5,6,7] [] ?_
    .exact(.pe rfl rfl rfl (.pr rfl rfl rfl (.pr rfl rfl rfl (.pr rfl rfl rfl (.pe rfl rfl rfl (.pr rfl rfl rfl (.pr rfl rfl rfl (.pm rfl rfl rfl))))))))
   clear hM;obtain⟨j,b⟩:=s;obtain⟨hj,hM⟩:=hs;have hj:j<=pr.bd.length:=hj;have hM:dk l ops ps b p j:=hM;refine aJ (fun lG=>?_) (fun lG=>?_)
   .have dL:j<pr.bd.length:=by have h:(j:Int)<((pr.bd.map fq.enc).length:Int):=lG;rw[KB]at h;omega
    have LN:=sA dL;refine ag (En dL) ?_;generalize pr.bd[j]=s at LN;refine aD (fun dD=>?_) (fun dD=>?_)
    .refine aD (fun hh=>?_) (fun hh=>?_)
     .refine pF ((mU l ops ps g (b.mu+1)).2 b s.eE s.cn ⟨by have:=hM.st.lo;simpa[wq]using this,by have:=hM.st.lp;simpa[wq]using this⟩ (aa3 _)) [_,_] rfl fun c hc=>?_
      refine⟨⟨j+1,c⟩,⟨dL,hM.NB xM dD LN hh hc⟩,(show pr.bd.length-(j+1)<pr.bd.length-j by omega),View.o 9 [0,1,2,3,4,5,6,7] [] ?_ ?_⟩
      .repeat(first|exact .nil|refine .ar ?_|refine .put (.aQ (aL om).symm) ?_|refine .eq rfl ?_)
      .exact(.pe rfl rfl rfl (.pr rfl rfl rfl (.pr rfl rfl rfl (.pr rfl rfl rfl (.pe rfl rfl rfl (.pr rfl rfl rfl (.pr rfl rfl rfl (.pm rfl rfl rfl))))))))
     .skip
      refine⟨⟨j+1,b⟩,⟨dL,hM.skip xM LN (fun _=>hh)⟩,(show pr.bd.length-(j+1)<pr.bd.length-j by omega),View.o 9 [0,1,2,3,4,5,6,7] [] ?_ ?_⟩
      .repeat(first|exact .nil|refine .ar ?_|refine .put (.aQ (aL om).symm) ?_|refine .eq rfl ?_)
      .exact(.pe rfl rfl rfl (.pr rfl rfl rfl (.pr rfl rfl rfl (.pr rfl rfl rfl (.pe rfl rfl rfl (.pr rfl rfl rfl (.pr rfl rfl rfl (.pm rfl rfl rfl))))))))
    .skip
     refine⟨⟨j+1,b⟩,⟨dL,hM.skip xM LN (fun h=>absurd (h.symm.trans dD) aI)⟩,(show pr.bd.length-(j+1)<pr.bd.length-j by omega),View.o 9 [0,1,2,3,4,5,6,7] [] ?_ ?_⟩
     .repeat(first|exact .nil|refine .ar ?_|refine .put (.aQ (aL om).symm) ?_|refine .eq rfl ?_)
     .exact(.pe rfl rfl rfl (.pr rfl rfl rfl (.pr rfl rfl rfl (.pr rfl rfl rfl (.pe rfl rfl rfl (.pr rfl rfl rfl (.pr rfl rfl rfl (.pm rfl rfl rfl))))))))
   .have KP:j=pr.bd.length:=by have h:¬(j:Int)<((pr.bd.map fq.enc).length:Int):=lG;rw[KB]at h;omega
    subst KP;refine⟨⟨p+1,b⟩,⟨gO,hM.next xM⟩,(show ps.length-(p+1)<ps.length-p by omega),View.o 8 [0,1,2,3,4,5,6] [] ?_ ?_⟩
    .repeat(first|exact .nil|refine .ar ?_|refine .put (.aQ (aL om).symm) ?_|refine .eq rfl ?_)
    .exact(.pe rfl rfl rfl (.pr rfl rfl rfl (.pr rfl rfl rfl (.pr rfl rfl rfl (.pe rfl rfl rfl (.pr rfl rfl rfl (.pn rfl rfl rfl)))))))
  .have y9:p=ps.length:=by have h:¬(p:Int)<((af (ps.map bj.enc)).length:Int):=h;rw[bb,KB]at h;omega
   subst y9;exact⟨b,hM.iu,rfl,rfl⟩
theorem IU(l:List Obj)(ops:List bD)(ps:List bj)(g:∀o,o∈l->o.sm)(hl:l.length<=4194304)(ho:ops.length<=4194304)(ix:ps.length<=4194304)(oP:∀p,p∈ps->p.bd.length<=10):
  aq Tryz.prog 119 [.rv (.one (.ptr 0 0))] [.var [.row 1 9 0 none,.row 2 2 0 none,.row 3 4 0 none],.row 9 (af (l.map Obj.enc)),.row 2 (af (ops.map bD.enc)),.row 4 (af (ps.map bj.enc))] (fun r m=>∃b,kL l ops ps b/\r= .rv (.one (.ptr 4 0))/\m=[.var [.row 1 9 0 none,.row 2 2 0 none,.row 3 4 0 none],.row 9 (af (l.map Obj.enc)),.row 2 (af (ops.map bD.enc)),.row 4 (af (ps.map bj.enc)),.var [.ptr 0 0,.row 5 1 0 none,.row 6 1 0 none],.row 1 (af (b.O.map bE)),.row 1 (af (b.P.map bE))]):=
 ce Tryz.func119 l119 (Cd l ops ps g hl ho ix oP)
def nE(k:Nat):List Dt:=[.val (.int .i64 (k:Nat))]
end Go.Proofs.YtodckkkbiidffaaGreatDoor
