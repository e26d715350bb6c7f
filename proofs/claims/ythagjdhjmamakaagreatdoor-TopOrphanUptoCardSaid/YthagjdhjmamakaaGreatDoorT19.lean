/- Part 19 of 41: what the law stands on. -/
import Derived.Test.YthagjdhjmamakaaGreatDoorT16
import Derived.Test.YthagjdhjmamakaaGreatDoorT18
set_option linter.unusedVariables false
set_option linter.unusedSimpArgs false
set_option linter.unnecessarySimpa false
set_option maxRecDepth 100000
set_option maxHeartbeats 64000000
namespace Go.Proofs.YthagjdhjmamakaaGreatDoor
open Go.AM Go.ChangeShapes Go.WideShapes Go.ChangeAt Go.RowKit
def tn(l:List Obj)(ops:List bC)(ps:List bi)(a:Mk):Mem:=
 [.var [.ptr 1 0,.row 2 1 0 none,.row 3 1 0 none],.var [.row 4 9 0 none,.row 5 2 0 none,.row 6 4 0 none],.row 1 (af (a.O.map bE)),.row 1 (af (a.P.map bE)),.row 9 (af (l.map Obj.enc)),.row 2 (af (ops.map bC.enc)),.row 4 (af (ps.map bi.enc))]
theorem uH{l:List Obj}{ops:List bC}{ps:List bi}{a:Mk}{f:Nat}{args:List CV}{Q:Mk->Prop}(h:ar Tryz.prog f args (tn l ops ps a) (fun r m=>∃b,Q b/\r= .bG []/\m=tn l ops ps b))(x:Bk)(eC:args=args.map (CV.aP (sg [0,1,2,3,4,5,6] 8))){K:CV->Mem->Prop}(hK:∀b,Q b->K (.bG []) [.var [.ptr 1 0,.row 2 1 0 none,.row 3 1 0 none],.var [.row 4 9 0 none,.row 5 2 0 none,.row 6 4 0 none],.row 1 (af (b.O.map bE)),.row 1 (af (b.P.map bE)),.row 9 (af (l.map Obj.enc)),.row 2 (af (ops.map bC.enc)),.row 4 (af (ps.map bi.enc)),x]):
  ar Tryz.prog f args [.var [.ptr 1 0,.row 2 1 0 none,.row 3 1 0 none],.var [.row 4 9 0 none,.row 5 2 0 none,.row 6 4 0 none],.row 1 (af (a.O.map bE)),.row 1 (af (a.P.map bE)),.row 9 (af (l.map Obj.enc)),.row 2 (af (ops.map bC.enc)),.row 4 (af (ps.map bi.enc)),x] K:=by
 refine bv [0,1,2,3,4,5,6] 8 rfl rfl rfl rfl (args0:=args) eC (fun i b' hi=>?_) h (fun r m1 hr=>?_)
 .match i,hi with
  |0,hi=>cases hi;exact .inr ⟨fun h=>h,_,rfl,.eq rfl aK⟩
  |1,hi=>cases hi;exact .inr ⟨fun h=>h,_,rfl,.eq rfl aK⟩
  |2,hi=>cases hi;exact .inr ⟨fun h=>h,_,rfl,.bR rfl⟩
  |3,hi=>cases hi;exact .inr ⟨fun h=>h,_,rfl,.bR rfl⟩
  |4,hi=>cases hi;exact .inr ⟨fun h=>h,_,rfl,.bR rfl⟩
  |5,hi=>cases hi;exact .inr ⟨fun h=>h,_,rfl,.bR rfl⟩
  |6,hi=>cases hi;exact .inr ⟨fun h=>h,_,rfl,.bR rfl⟩
  |n+7,hi=>simp[tn]at hi
 .obtain⟨b,hb,rfl,rfl⟩:=hr;refine⟨QN _,?_⟩;have e2:(Bk.row 1 (af (b.O.map bE))).aP (sg [0,1,2,3,4,5,6] 8)= .row 1 (af (b.O.map bE)):=by simp only[Bk.aP,dd]
  have e3:(Bk.row 1 (af (b.P.map bE))).aP (sg [0,1,2,3,4,5,6] 8)= .row 1 (af (b.P.map bE)):=by simp only[Bk.aP,dd]
  show K _ [.var [.ptr 1 0,.row 2 1 0 none,.row 3 1 0 none],.var [.row 4 9 0 none,.row 5 2 0 none,.row 6 4 0 none],(Bk.row 1 (af (b.O.map bE))).aP (sg [0,1,2,3,4,5,6] 8),(Bk.row 1 (af (b.P.map bE))).aP (sg [0,1,2,3,4,5,6] 8),(Bk.row 9 (af (l.map Obj.enc))).aP (sg [0,1,2,3,4,5,6] 8),(Bk.row 2 (af (ops.map bC.enc))).aP (sg [0,1,2,3,4,5,6] 8),(Bk.row 4 (af (ps.map bi.enc))).aP (sg [0,1,2,3,4,5,6] 8),x];have e4:(Bk.row 9 (af (l.map Obj.enc))).aP (sg [0,1,2,3,4,5,6] 8)= .row 9 (af (l.map Obj.enc)):=by simp only[Bk.aP,dd]
  have e5:(Bk.row 2 (af (ops.map bC.enc))).aP (sg [0,1,2,3,4,5,6] 8)= .row 2 (af (ops.map bC.enc)):=by simp only[Bk.aP,dd]
  have e6:(Bk.row 4 (af (ps.map bi.enc))).aP (sg [0,1,2,3,4,5,6] 8)= .row 4 (af (ps.map bi.enc)):=by simp only[Bk.aP,dd]
  rw[e2,e3,e4,e5,e6];exact hK b hb
theorem Di(l:List Obj)(ops:List bC)(ps:List bi)(g:∀o,o∈l->o.sm)(N:Nat)(RI:∀a z,wv l ops a->a.mu<N->ar Tryz.prog 135 [.rv (.one (.ptr 0 0)),an .i64 z] (tn l ops ps a) (fun r m=>∃b,PO l ops z a b/\r= .bG []/\m=tn l ops ps b))(Xd:∀a z w,wv l ops a->a.mu<N->ar Tryz.prog 136 [.rv (.one (.ptr 0 0)),.rv (.agg [.aa (.val (.int .i64 z)),.aa (.val (.int .i64 w))])] (tn l ops ps a) (fun r m=>∃b,PP l ops z a b/\r= .bG []/\m=tn l ops ps b))(a:Mk)(z:Int)(Xe:wv l ops a)(TF:a.mu<=N):body Tryz.prog c135 [.rv (.one (.ptr 0 0)),an .i64 z] (tn l ops ps a) (fun r m=>∃b,PO l ops z a b/\r= .bG []/\m=tn l ops ps b):=by
 have hlen:∀L:List Bool,(af (L.map bE)).length=L.length:=fun L=>by rw[bb,LW]
 obtain⟨hO,hP⟩:=Xe;refine aJ (fun h=>?_) (fun h0=>?_)
 .exact⟨a,.none fun n hv=>by have:=hv.1;have h:z<0:=h;omega,rfl,rfl⟩
 obtain⟨n,rfl⟩:∃n:Nat,z=n:=⟨z.toNat,by have h:¬z<0:=h0;omega⟩
 refine aJ (fun h=>?_) (fun h1=>?_)
 .refine⟨a,.none fun m hv=>?_,rfl,rfl⟩
  obtain⟨hz,o,ho,_⟩:=hv;have h:(n:Int)>=((af (a.O.map bE)).length:Int):=h;rw[hlen]at h;have:=(Hy.1 ho).1;omega
 have hn:n<a.O.length:=by have h:¬(n:Int)>=((af (a.O.map bE)).length:Int):=h1;rw[hlen]at h;omega
 have j8:n<l.length:=om;refine ag (xq hn) ?_;refine ag (ro hn) ?_;refine ay (fun h2=>?_) (fun h2=>?_)
 .refine⟨a,.none fun m hv=>?_,rfl,rfl⟩
  have:m=n:=by have:=hv.1;omega
  subst this;exact(tq hn).trans (congrArg some h2)
 have J9:dt (n:Int) (lenOf (af (l.map Obj.enc)).length 0 none)=some n:=bP (by show n<(af (l.map Obj.enc)).length;rw[bb,LW];exact j8)
 have OT:=bA Obj.enc l j8;have Aw:=tq j8;have CM:=g _ (XP j8);generalize l[n]=o at OT Aw CM;obtain⟨ah,data,aj,target,aG,ak,aM,am,up⟩:=o;obtain⟨es,rfl⟩:∃es:List (ByteArray×Int),aj=es.map fD:=CM.t.2.1;refine ag J9 ?_;refine ag OT ?_;refine bz (fun h3=>?_) (fun h3=>?_)
 .refine⟨a,.none fun m hv=>?_,rfl,rfl⟩
  obtain⟨hz,o2,nV,hk⟩:=hv;have:m=n:=om;subst this;rw[Aw]at nV;cases nV;exact absurd h3 hk
 have h3:ah≠0:=h3;have JE:es.length<=8:=by have:=CM.e;simpa using this
 have J2:ak.length<=8:=CM.q;have Qi:=xp.start (l:=l) (ops:=ops) hn es ak;have TG:(⟨a.O.set n true,a.P⟩:Mk).mu<N:=by have:=oW a.O n ((tq hn).trans (congrArg some h2));have TF:dH a.O+dH a.P<=N:=TF;show dH (a.O.set n true)+dH a.P<N;omega
 refine ag (xq hn) ?_;refine ag (ro hn) ?_;refine ag J9 ?_;refine ag OT ?_;refine aX (fun(s:Zu)=>s.j<=es.length/\xp l ops n a s.b s.j 0 es ak) [0,4,61,62] (fun s=>[(63,an .i64 (s.j:Nat))]) (fun s=>[.var [.ptr 1 0,.row 2 1 0 none,.row 3 1 0 none],.var [.row 4 9 0 none,.row 5 2 0 none,.row 6 4 0 none],.row 1 (af (s.b.O.map bE)),.row 1 (af (s.b.P.map bE)),.row 9 (af (l.map Obj.enc)),.row 2 (af (ops.map bC.enc)),.row 4 (af (ps.map bi.enc))]) (fun s=>es.length-s.j) ⟨0,_⟩ ⟨XL _,Qi⟩ ?_ (fun s hs=>?_)
 .refine View.o1 7 [0,1,2,3,4,5,6] [] ?_
  .exact .pe rfl rfl rfl (.pe rfl rfl rfl (.pt rfl rfl (.bR J8) (.pr rfl rfl rfl (.pr rfl rfl rfl (.pr rfl rfl rfl (.pn rfl rfl rfl))))))
 obtain⟨j,b⟩:=s;obtain⟨hj,hM⟩:=hs;have hj:j<=es.length:=hj;have hM:xp l ops n a b j 0 es ak:=hM;refine aJ (fun h=>?_) (fun h=>?_)
 .have dP:j<es.length:=by have h:(j:Int)<((es.map fD).length:Int):=h;rw[LW]at h;omega
  refine ag (M2 dP) ?_;have SZ:=hM.OS;refine uH (RI b es[j].2 ⟨hM.st.lo.trans hO,hM.st.lp.trans hP⟩ om) _ rfl fun c hc=>?_
  refine⟨⟨j+1,c⟩,⟨dP,hM.TA (tq dP) hc Aw rfl⟩,(show es.length-(j+1)<es.length-j by omega),View.o 8 [0,1,2,3,4,5,6] [] ?_ ?_⟩
  .repeat(first|exact .nil|refine .aq ?_|refine .put (.aP (aL om).symm) ?_|refine .eq rfl ?_)
  .exact .pe rfl rfl rfl (.pe rfl rfl rfl (.pr rfl rfl rfl (.pr rfl rfl rfl (.pr rfl rfl rfl (.pr rfl rfl rfl (.pn rfl rfl rfl))))))
 .have Mj:j=es.length:=by have h:¬(j:Int)<((es.map fD).length:Int):=h;rw[LW]at h;omega
  subst Mj;refine ag OT ?_;refine aX (fun(s:Zu)=>s.j<=ak.length/\xp l ops n a s.b es.length s.j es ak) [0,75,76] (fun s=>[(77,an .i64 (s.j:Nat))]) (fun s=>[.var [.ptr 1 0,.row 2 1 0 none,.row 3 1 0 none],.var [.row 4 9 0 none,.row 5 2 0 none,.row 6 4 0 none],.row 1 (af (s.b.O.map bE)),.row 1 (af (s.b.P.map bE)),.row 9 (af (l.map Obj.enc)),.row 2 (af (ops.map bC.enc)),.row 4 (af (ps.map bi.enc))]) (fun s=>ak.length-s.j) ⟨0,b⟩ ⟨XL _,hM⟩ ?_ (fun s hs=>?_)
  .refine View.o1 7 [0,1,2,3,4,5,6] [] ?_
   .exact .pe rfl rfl rfl (.pe rfl rfl rfl (.pr rfl rfl rfl (.pr rfl rfl rfl (.pr rfl rfl rfl (.pr rfl rfl rfl (.pn rfl rfl rfl))))))
  clear hM hj h;obtain⟨j,b⟩:=s;obtain⟨hj,hM⟩:=hs;have hj:j<=ak.length:=hj;have hM:xp l ops n a b es.length j es ak:=hM;refine aJ (fun h=>?_) (fun h=>?_)
  .have dP:j<ak.length:=by have h:(j:Int)<((ak.map bp.enc).length:Int):=h;rw[LW]at h;omega
   have P1:=tq dP;refine ag (M5 dP) ?_;have SZ:=hM.OS;refine ay (fun hh=>?_) (fun hh=>?_)
   .refine uH (Xd b ak[j].eJ ak[j].cn ⟨hM.st.lo.trans hO,hM.st.lp.trans hP⟩ om) _ rfl fun c hc=>?_
    refine⟨⟨j+1,c⟩,⟨dP,hM.TB P1 hh hc Aw rfl⟩,(show ak.length-(j+1)<ak.length-j by omega),View.o 8 [0,1,2,3,4,5,6] [] ?_ ?_⟩
    .repeat(first|exact .nil|refine .aq ?_|refine .put (.aP (aL om).symm) ?_|refine .eq rfl ?_)
    .exact .pe rfl rfl rfl (.pe rfl rfl rfl (.pr rfl rfl rfl (.pr rfl rfl rfl (.pr rfl rfl rfl (.pr rfl rfl rfl (.pn rfl rfl rfl))))))
   .skip
    refine⟨⟨j+1,b⟩,⟨dP,hM.TE P1 hh⟩,(show ak.length-(j+1)<ak.length-j by omega),View.o 8 [0,1,2,3,4,5,6] [] ?_ ?_⟩
    .repeat(first|exact .nil|refine .aq ?_|refine .put (.aP (aL om).symm) ?_|refine .eq rfl ?_)
    .exact .pe rfl rfl rfl (.pe rfl rfl rfl (.pr rfl rfl rfl (.pr rfl rfl rfl (.pr rfl rfl rfl (.pr rfl rfl rfl (.pn rfl rfl rfl))))))
  .have Mj:j=ak.length:=by have h:¬(j:Int)<((ak.map bp.enc).length:Int):=h;rw[LW]at h;omega
   subst Mj;exact⟨b,hM.hU Aw h3 rfl rfl,rfl,rfl⟩
theorem Dj(l:List Obj)(ops:List bC)(ps:List bi)(N:Nat)(RI:∀a z,wv l ops a->a.mu<N->ar Tryz.prog 135 [.rv (.one (.ptr 0 0)),an .i64 z] (tn l ops ps a) (fun r m=>∃b,PO l ops z a b/\r= .bG []/\m=tn l ops ps b))(a:Mk)(z w:Int)(Xe:wv l ops a)(TF:a.mu<=N):body Tryz.prog c136 [.rv (.one (.ptr 0 0)),.rv (.agg [.aa (.val (.int .i64 z)),.aa (.val (.int .i64 w))])] (tn l ops ps a) (fun r m=>∃b m',PP l ops z a b/\r= .bG []/\m=tn l ops ps b++m'):=by
 have hlen:∀L:List Bool,(af (L.map bE)).length=L.length:=fun L=>by rw[bb,LW]
 obtain⟨hO,hP⟩:=Xe;refine aJ (fun h=>?_) (fun h0=>?_)
 .exact⟨a,[_],.none fun n hv=>by have:=hv.1;have h:z<0:=h;omega,rfl,rfl⟩
 obtain⟨n,rfl⟩:∃n:Nat,z=n:=⟨z.toNat,by have h:¬z<0:=h0;omega⟩
 refine aJ (fun h=>?_) (fun h1=>?_)
 .refine⟨a,[_],.none fun m hv=>?_,rfl,rfl⟩
  obtain⟨hz,ho⟩:=hv;have h:(n:Int)>=((af (a.P.map bE)).length:Int):=h;rw[hlen]at h;omega
 have hn:n<a.P.length:=by have h:¬(n:Int)>=((af (a.P.map bE)).length:Int):=h1;rw[hlen]at h;omega
 have j8:n<ops.length:=om;refine ag (xq hn) ?_;refine ag (ro hn) ?_;refine ay (fun h2=>?_) (fun h2=>?_)
 .refine⟨a,[_],.none fun m hv=>?_,rfl,rfl⟩
  have:m=n:=by have:=hv.1;omega
  subst this;exact(tq hn).trans (congrArg some h2)
 have TG:(⟨a.O,a.P.set n true⟩:Mk).mu<N:=by have:=oW a.P n ((tq hn).trans (congrArg some h2));have TF:dH a.O+dH a.P<=N:=TF;show dH a.O+dH (a.P.set n true)<N;omega
 refine ag (xq hn) ?_;refine ag (ro hn) ?_;refine⟨trivial,?_⟩;have J9:dt (n:Int) (lenOf (af (ops.map bC.enc)).length 0 none)=some n:=bP (by show n<(af (ops.map bC.enc)).length;rw[bb,LW];exact j8)
 refine ag J9 ?_;refine ag (bA bC.enc ops j8) ?_;refine ir (lJ:=[.rv (.one (.ptr 0 0)),an .i64 ops[n].bt]) (m':=tn l ops ps ⟨a.O,a.P.set n true⟩ ++ [.var [.aa (.val (.int .i64 (n:Nat))),.aa (.val (.int .i64 w))]]) (View.o 8 [0,1,2,3,4,5,6,7] [] (.eq rfl (.eq rfl .nil))
  (.pe rfl rfl rfl (.pe rfl rfl rfl (.pr rfl rfl rfl (.pt rfl rfl (.bR J8) (.pr rfl rfl rfl (.pr rfl rfl rfl (.pr rfl rfl rfl (.pm rfl rfl rfl))))))))) ?_
 refine uH (RI ⟨a.O,a.P.set n true⟩ ops[n].bt ⟨hO,by simpa using hP⟩ TG) _ rfl fun c hc=>?_
 exact⟨trivial,c,[_],PP.of hn (tq j8) hc,rfl,rfl⟩
theorem nt(l:List Obj)(ops:List bC)(ps:List bi)(g:∀o,o∈l->o.sm):∀N,
  (∀a z,wv l ops a->a.mu<N->ar Tryz.prog 135 [.rv (.one (.ptr 0 0)),an .i64 z] (tn l ops ps a) (fun r m=>∃b,PO l ops z a b/\r= .bG []/\m=tn l ops ps b))/\
  (∀a z w,wv l ops a->a.mu<N->ar Tryz.prog 136 [.rv (.one (.ptr 0 0)),.rv (.agg [.aa (.val (.int .i64 z)),.aa (.val (.int .i64 w))])] (tn l ops ps a) (fun r m=>∃b,PP l ops z a b/\r= .bG []/\m=tn l ops ps b))
 |0=>⟨fun _ _ _ h=>absurd h (aal _),fun _ _ _ _ h=>absurd h (aal _)⟩
 |N+1=>by
  obtain⟨RI,Xd⟩:=nt l ops ps g N;refine⟨fun a z hb hm=>aW Tryz.func135 l135 (Di l ops ps g N RI Xd a z hb om),fun a z w hb hm=>?_⟩
  refine bK (aW Tryz.func136 l136 (Dj l ops ps N RI a z w hb om)) fun r m1⟨b,m',hp,hr,GH⟩=>?_
  subst hr GH;refine⟨.bG [],tn l ops ps b,View.of (7+m'.length) [0,1,2,3,4,5,6] [] (by simp[tn];omega) rfl rfl rfl rfl (by simp[eX]<;>omega) (.put (.bG rfl fun i r r' h=>by simp at h) .nil) ?_,⟨b,hp,rfl,rfl⟩⟩
  exact .pe rfl rfl rfl (.pe rfl rfl rfl (.pr rfl rfl rfl (.pr rfl rfl rfl (.pr rfl rfl rfl (.pr rfl rfl rfl (.pn rfl rfl rfl))))))
def c112:LF:= ⟨54,[.tmp 2],(.seq (.ai [qu 2 (.aD (.c (.rv (.one (.aa (.val (.pointer none)))))))]) (.seq (.bT [qm 8 0,qm 9 0,qu 10 (.aR 9),qf 11 0 10,ql 12 11,qu 13 (.len 1 12),qu 14 (.nR 1 1 [(.aa (.val (.bool false)))] 13 13),qm 15 0,qu 16 (.aR 15),qf 17 1 16,ql 18 17,qu 19 (.len 1 18),qu 20 (.nR 1 1 [(.aa (.val (.bool false)))] 19 19),qu 21 (.build [(.aa (.val (.pointer none))),.aB,.aB] [(0,1,8),(1,1,14),(2,1,20)]),qu 22 (.box 21),qm 3 22] [(.cons 0 none (.cons 1 none (.cons 2 none (.cons 3 none (.cons 4 none (.cons 5 none (.cons 7 none (.cons 8 none (.cons 9 none (.cons 10 none (.cons 11 none (.zS (.cons 6 (some [11,10]) (.cons 12 (some [5,4]) (.cons 13 none (.cons 14 (some []) (.cons 15 none .nil))))) (.cons 12 (some [5,4]) (.cons 6 (some [11,10]) (.cons 13 none (.cons 14 (some []) (.cons 15 none .nil)))))))))))))))))]) (.cL (.seq (.ai [qm 23 3,qu 24 (qc 135 [23,(qi 0)])]) (.seq (.seq (.ai [qm 25 0,qu 26 (.aR 25),qf 27 2 26,ql 28 27,qu 29 (.len 1 28),qu 30 (.aD (qi 0))]) (.block 0 (.loop (.seq (.ai [qu 31 (.aE .lss 30 29)]) (.seq (.cond 31 .skip (.exit 0)) (.seq (.block 1 (.seq (.ai [qu 32 (.b7 4 28 30),qL 33 4 32,qu 5 (.alloc [(.aa (.val (.bool false))),(.aa (.val (.bool false))),(qd 0),.aB]),qw (.store 4 5 33)]) (.seq (.ai [qf 34 3 5,ql 35 34,qu 36 (.len 1 35),qu 37 (.aD (qi 0))]) (.block 2 (.loop (.seq (.ai [qu 38 (.aE .lss 37 36)]) (.seq (.cond 38 .skip (.exit 2)) (.seq (.block 3 (.seq (.ai [qu 39 (.b7 3 35 37),qL 40 3 39,qu 7 (.alloc [(.aa (.val (.bool false))),(qd 0),(qd 0)]),qw (.store 3 7 40)]) (.seq (.ai [qf 41 0 5,ql 42 41,qm 43 42,qg 44 (.bQ 0 7) 43 true,qg 45 (.load false 1 44) 43 true,qu 46 (.pick 43 45 (qb false))]) (.cond 46 (.ai [qm 47 3,qf 48 1 7,qL 49 2 48,qu 50 (qc 136 [47,49])]) .skip)))) (.ai [qu 51 (.aE .add 37 (qi 1)),qm 37 51]))))))))) (.ai [qu 52 (.aE .add 30 (qi 1)),qm 30 52]))))))) (.seq (.ai [qm 53 3,qm 2 53]) .ret))))))⟩
def FF(l:List Obj)(ops:List bC)(ps:List bi)(RO RP:Nat->Prop):Prop:=
 (∀n,vO l 0 n->RO n)/\∀(p:Nat)pr,ps[p]? =some pr->pr.a8=true->∀s,s∈pr.bd->s.has=true->∀c,vP ops s.eJ c->RP c
structure k8(l:List Obj)(ops:List bC)(ps:List bi)(b:Mk):Prop where
 len:wv l ops b
 uI:FF l ops ps (dx b.O) (dx b.P)
 cl:Cl l ops (dx b.O) (dx b.P)
 p5:∀RO RP,Cl l ops RO RP->FF l ops ps RO RP->Mq RO RP b
def xr(l:List Obj)(ops:List bC):Mk:=⟨List.replicate l.length false,List.replicate ops.length false⟩
theorem uJ{n i:Nat}:¬dx (List.replicate n false) i:=by
 intro h;unfold dx at h;rw[abO]at h;split at h<;>cases h
structure dn(l:List Obj)(ops:List bC)(ps:List bi)(b:Mk)(p j:Nat):Prop where
 st:Step l ops (fun _=>False) (xr l ops) b
 r0:∀n,vO l 0 n->dx b.O n
 rp:∀(i:Nat)pr,i<p->ps[i]? =some pr->pr.a8=true->∀s,s∈pr.bd->s.has=true->∀c,vP ops s.eJ c->dx b.P c
 rj:∀pr,ps[p]? =some pr->pr.a8=true->∀(t:Nat)s,t<j->pr.bd[t]? =some s->s.has=true->∀c,vP ops s.eJ c->dx b.P c
 p5:∀RO RP,Cl l ops RO RP->FF l ops ps RO RP->Mq RO RP b
theorem dn.start{l:List Obj}{ops:List bC}{ps:List bi}{b:Mk}(h:PO l ops 0 (xr l ops) b):dn l ops ps b 0 0:=
 ⟨h.st,h.on,fun i pr h=>absurd h (aal i),fun pr _ _ t s h=>absurd h (aal t),fun RO RP gK hr=>h.sd RO RP gK ⟨fun i hi=>absurd hi uJ,fun i hi=>absurd hi uJ⟩ hr.1⟩
theorem dn.OU{l:List Obj}{ops:List bC}{ps:List bi}{b c:Mk}{p j:Nat}(h:dn l ops ps b p j){pr:bi}(yE:ps[p]? =some pr)(dG:pr.a8=true){s:fq}(hs:pr.bd[j]? =some s)(hh:s.has=true)(hc:PP l ops s.eJ b c):dn l ops ps c p (j+1):=by
 refine⟨h.st.trans hc.st,fun n hn=>hc.st.mo n (h.r0 n hn),fun i x hi hx hl y hy Mr d hd=>hc.st.mp d (h.rp i x hi hx hl y hy Mr d hd),fun x hx hl t y ht hy Mr d hd=>?_,fun RO RP gK hr=>hc.sd RO RP gK (h.p5 RO RP gK hr) fun d hd=>hr.2 p pr yE dG s (O9 hs) hh d hd⟩
 rcases XN t j with IK|IK
 .exact hc.st.mp d (h.rj x hx hl t y IK hy Mr d hd)
 .have:t=j:=om;subst this;rw[yE]at hx;cases hx;rw[hs]at hy;cases hy;exact hc.on d hd
theorem dn.skip{l:List Obj}{ops:List bC}{ps:List bi}{b:Mk}{p j:Nat}(h:dn l ops ps b p j){pr:bi}(yE:ps[p]? =some pr){s:fq}(hs:pr.bd[j]? =some s)(hh:pr.a8=true->s.has=false):dn l ops ps b p (j+1):=by
 refine⟨h.st,h.r0,h.rp,fun x hx hl t y ht hy Mr d hd=>?_,h.p5⟩
 rcases XN t j with IK|IK
 .exact h.rj x hx hl t y IK hy Mr d hd
 .have:t=j:=om;subst this;rw[yE]at hx;cases hx;rw[hs]at hy;cases hy;rw[hh hl]at Mr;cases Mr
theorem dn.next{l:List Obj}{ops:List bC}{ps:List bi}{b:Mk}{p:Nat}{pr:bi}(yE:ps[p]? =some pr)(h:dn l ops ps b p pr.bd.length):dn l ops ps b (p+1) 0:=by
 refine⟨h.st,h.r0,fun i x hi hx hl y hy Mr d hd=>?_,fun x _ _ t y ht=>absurd ht (aal t),h.p5⟩
 rcases XN i p with RJ|RJ
 .exact h.rp i x RJ hx hl y hy Mr d hd
 .have:i=p:=om;subst this;rw[yE]at hx;cases hx;obtain⟨t,ht⟩:=Xz hy;exact h.rj pr yE hl t y (Hy.1 ht).1 ht Mr d hd
theorem dn.hU{l:List Obj}{ops:List bC}{ps:List bi}{b:Mk}(h:dn l ops ps b ps.length 0):k8 l ops ps b:=by
 refine⟨⟨by have:=h.st.lo;simpa[xr]using this,by have:=h.st.lp;simpa[xr]using this⟩,⟨h.r0,fun p pr hp hl s hs hh c hc=>h.rp p pr (Hy.1 hp).1 hp hl s hs hh c hc⟩,⟨fun i o hi ho z n hz hv=>?_,fun i o hi ho z c hz hv=>?_,fun c o hc ho n hv=>?_⟩,h.p5⟩
 .exact(h.st.co i o hi uJ (fun h=>h) ho).1 z n hz hv
 .exact(h.st.co i o hi uJ (fun h=>h) ho).2 z c hz hv
 .exact h.st.cp c o hc uJ ho n hv
theorem p6(n:Nat):(fI n [CC.aa (.val (.bool false))])=af ((List.replicate n false).map bE):=by
 induction n with
 |zero=>rfl
 |succ n ih=>simp only[fI,ih];simp[af,bE,List.replicate_succ]
theorem l112:bq Tryz.prog Tryz.f112=some c112.er:=by kernel_rfl
theorem FG{l:List fq}{k:Nat}(h:k<l.length):dg (l.map fq.enc) (k:Nat)=some [.val (.bool l[k].has),.val (.int .i64 l[k].eJ),.val (.int .i64 l[k].cn)]:=by rw[bF,O6,tq h];rfl
structure Vz where
 p:Nat
 b:Mk
theorem dQ{ps:List bi}{k:Nat}(h:k<ps.length):dg (ps.map bi.enc) (k:Nat)=some [.val (.bool ps[k].a8),.val (.bool ps[k].fenced),.val (.int .i64 ps[k].code),wu ps[k].bd]:=by rw[bF,O6,tq h];rfl
theorem p7{l:List Obj}{ops:List bC}{ps:List bi}{a:Mk}{f:Nat}{args args0:List CV}{Q:Mk->Prop}(h:ar Tryz.prog f args0 (tn l ops ps a) (fun r m=>∃b,Q b/\r= .bG []/\m=tn l ops ps b))(X:Mem)(eC:args=args0.map (CV.aP (sg [4,0,5,6,1,2,3] (7+X.length)))){K:CV->Mem->Prop}(hK:∀b,Q b->K (.bG []) ([.var [.row 1 9 0 none,.row 2 2 0 none,.row 3 4 0 none],.row 9 (af (l.map Obj.enc)),.row 2 (af (ops.map bC.enc)),.row 4 (af (ps.map bi.enc)),.var [.ptr 0 0,.row 5 1 0 none,.row 6 1 0 none],.row 1 (af (b.O.map bE)),.row 1 (af (b.P.map bE))]++X)):
  ar Tryz.prog f args ([.var [.row 1 9 0 none,.row 2 2 0 none,.row 3 4 0 none],.row 9 (af (l.map Obj.enc)),.row 2 (af (ops.map bC.enc)),.row 4 (af (ps.map bi.enc)),.var [.ptr 0 0,.row 5 1 0 none,.row 6 1 0 none],.row 1 (af (a.O.map bE)),.row 1 (af (a.P.map bE))]++X) K:=by
 refine bv [4,0,5,6,1,2,3] (7+X.length) (by simp;omega) rfl rfl (by simp[eX]<;>omega) (args0:=args0) eC (fun i b' hi=>?_) h (fun r m1 hr=>?_)
 .match i,hi with
  |0,hi=>cases hi;exact .inr ⟨fun h=>h,_,rfl,.eq rfl aK⟩
  |1,hi=>cases hi;exact .inr ⟨fun h=>h,_,rfl,.eq rfl aK⟩
  |2,hi=>cases hi;exact .inr ⟨fun h=>h,_,rfl,.bR rfl⟩
  |3,hi=>cases hi;exact .inr ⟨fun h=>h,_,rfl,.bR rfl⟩
  |4,hi=>cases hi;exact .inr ⟨fun h=>h,_,rfl,.bR rfl⟩
  |5,hi=>cases hi;exact .inr ⟨fun h=>h,_,rfl,.bR rfl⟩
  |6,hi=>cases hi;exact .inr ⟨fun h=>h,_,rfl,.bR rfl⟩
  |n+7,hi=>simp[tn]at hi
 .obtain⟨b,hb,rfl,rfl⟩:=hr;refine⟨QN _,?_⟩;have e:∀(s:Nat)(ds:List (List Dt)),(Bk.row s (af ds)).aP (sg [4,0,5,6,1,2,3] (7+X.length))= .row s (af ds):=fun s ds=>by simp only[Bk.aP,dd]
  have hk:=hK b hb;have hw:cV ([.var [.row 1 9 0 none,.row 2 2 0 none,.row 3 4 0 none],.row 9 (af (l.map Obj.enc)),.row 2 (af (ops.map bC.enc)),.row 4 (af (ps.map bi.enc)),.var [.ptr 0 0,.row 5 1 0 none,.row 6 1 0 none],.row 1 (af (a.O.map bE)),.row 1 (af (a.P.map bE))]++X) [4,0,5,6,1,2,3] (pT (sg [4,0,5,6,1,2,3] (7+X.length)) (tn l ops ps b))=[.var [.row 1 9 0 none,.row 2 2 0 none,.row 3 4 0 none],.row 9 (af (l.map Obj.enc)),.row 2 (af (ops.map bC.enc)),.row 4 (af (ps.map bi.enc)),.var [.ptr 0 0,.row 5 1 0 none,.row 6 1 0 none],.row 1 (af (b.O.map bE)),.row 1 (af (b.P.map bE))]++X:=by simp only[tn,pT,e,cV,cg,aa6];rfl
  rw[hw];exact hk
theorem Dk(l:List Obj)(ops:List bC)(ps:List bi)(g:∀o,o∈l->o.sm)(hl:l.length<=4194304)(ho:ops.length<=4194304)(iI:ps.length<=4194304)(pi:∀p,p∈ps->p.bd.length<=10):
  body Tryz.prog c112 [.rv (.one (.ptr 0 0))] [.var [.row 1 9 0 none,.row 2 2 0 none,.row 3 4 0 none],.row 9 (af (l.map Obj.enc)),.row 2 (af (ops.map bC.enc)),.row 4 (af (ps.map bi.enc))] (fun r m=>∃b,k8 l ops ps b/\r= .rv (.one (.ptr 4 0))/\m=[.var [.row 1 9 0 none,.row 2 2 0 none,.row 3 4 0 none],.row 9 (af (l.map Obj.enc)),.row 2 (af (ops.map bC.enc)),.row 4 (af (ps.map bi.enc)),.var [.ptr 0 0,.row 5 1 0 none,.row 6 1 0 none],.row 1 (af (b.O.map bE)),.row 1 (af (b.P.map bE))]):=by
 refine⟨?_,?_⟩
 .skip
  refine b8 (ab4 _) ?_;refine⟨(by show(af (l.map Obj.enc)).length*1<=_;rw[bb,LW];omega),⟨rfl,rfl,trivial⟩,?_⟩
  refine b8 (ab4 _) ?_;refine⟨(by show(af (ops.map bC.enc)).length*1<=_;rw[bb,LW];omega),⟨rfl,rfl,trivial⟩,?_⟩
  refine⟨trivial,?_⟩;refine fC [0] [(3,.rv (.one (.ptr 4 0)))] ([.var [.row 1 9 0 none,.row 2 2 0 none,.row 3 4 0 none],.row 9 (af (l.map Obj.enc)),.row 2 (af (ops.map bC.enc)),.row 4 (af (ps.map bi.enc)),.var [.ptr 0 0,.row 5 1 0 none,.row 6 1 0 none],.row 1 (af ((xr l ops).O.map bE)),.row 1 (af ((xr l ops).P.map bE))]) (View.o1 7 [0,1,2,3,6,4,5] [] ?_) ?_
  .exact(.pe rfl rfl rfl (.pr rfl rfl rfl (.pr rfl rfl rfl (.pr rfl rfl rfl (.pe rfl rfl rfl (.pt rfl rfl (.bR (by show fI (af (l.map Obj.enc)).length _=_;rw[p6,bb,LW];rfl)) (.pt rfl rfl (.bR (by show fI (af (ops.map bC.enc)).length _=_;rw[p6,bb,LW];rfl)) (.nil _))))))))
  refine p7 ((nt l ops ps g ((xr l ops).mu+1)).1 (xr l ops) 0 ⟨by simp[xr],by simp[xr]⟩ (aaZ _)) [] rfl fun b0 wb=>?_
  refine aX (fun(s:Vz)=>s.p<=ps.length/\dn l ops ps s.b s.p 0) [3,28,29] (fun s=>[(30,an .i64 (s.p:Nat))]) (fun s=>[.var [.row 1 9 0 none,.row 2 2 0 none,.row 3 4 0 none],.row 9 (af (l.map Obj.enc)),.row 2 (af (ops.map bC.enc)),.row 4 (af (ps.map bi.enc)),.var [.ptr 0 0,.row 5 1 0 none,.row 6 1 0 none],.row 1 (af (s.b.O.map bE)),.row 1 (af (s.b.P.map bE))]) (fun s=>ps.length-s.p) ⟨0,b0⟩ ⟨XL _,.start wb⟩ ?_ (fun s hs=>?_)
  .refine View.o1 7 [0,1,2,3,4,5,6] [] ?_
   .exact(.pe rfl rfl rfl (.pr rfl rfl rfl (.pr rfl rfl rfl (.pr rfl rfl rfl (.pe rfl rfl rfl (.pr rfl rfl rfl (.pn rfl rfl rfl)))))))
  obtain⟨p,b⟩:=s;obtain⟨hp,hM⟩:=hs;have hp:p<=ps.length:=hp;have hM:dn l ops ps b p 0:=hM;refine aJ (fun h=>?_) (fun h=>?_)
  .have g9:p<ps.length:=by have h:(p:Int)<((af (ps.map bi.enc)).length:Int):=h;rw[bb,LW]at h;omega
   refine ag (bP (k:=p) (by show p<(af (ps.map bi.enc)).length;rw[bb,LW];exact g9)) ?_
   refine ag (bA bi.enc ps g9) ?_;have yE:=tq g9;have Fp:=pi _ (XP g9);generalize ps[p]=pr at yE Fp;refine aX (fun(s:Vz)=>s.p<=pr.bd.length/\dn l ops ps s.b p s.p) [3,5,28,29,30,35,36] (fun s=>[(37,an .i64 (s.p:Nat))]) (fun s=>[.var [.row 1 9 0 none,.row 2 2 0 none,.row 3 4 0 none],.row 9 (af (l.map Obj.enc)),.row 2 (af (ops.map bC.enc)),.row 4 (af (ps.map bi.enc)),.var [.ptr 0 0,.row 5 1 0 none,.row 6 1 0 none],.row 1 (af (s.b.O.map bE)),.row 1 (af (s.b.P.map bE)),.var (pr.enc.map .aa)]) (fun s=>pr.bd.length-s.p) ⟨0,b⟩ ⟨XL _,hM⟩ ?_ (fun s hs=>?_)
   .refine View.o1 8 [0,1,2,3,4,5,6,7] [] ?_
    .exact(.pe rfl rfl rfl (.pr rfl rfl rfl (.pr rfl rfl rfl (.pr rfl rfl rfl (.pe rfl rfl rfl (.pr rfl rfl rfl (.pr rfl rfl rfl (.pm rfl rfl rfl))))))))
   clear hM;obtain⟨j,b⟩:=s;obtain⟨hj,hM⟩:=hs;have hj:j<=pr.bd.length:=hj;have hM:dn l ops ps b p j:=hM;refine aJ (fun l4=>?_) (fun l4=>?_)
   .have dP:j<pr.bd.length:=by have h:(j:Int)<((pr.bd.map fq.enc).length:Int):=l4;rw[LW]at h;omega
    have M6:=tq dP;refine ag (FG dP) ?_;generalize pr.bd[j]=s at M6;refine ay (fun dG=>?_) (fun dG=>?_)
    .refine ay (fun hh=>?_) (fun hh=>?_)
     .refine p7 ((nt l ops ps g (b.mu+1)).2 b s.eJ s.cn ⟨by have:=hM.st.lo;simpa[xr]using this,by have:=hM.st.lp;simpa[xr]using this⟩ (aaZ _)) [_,_] rfl fun c hc=>?_
      refine⟨⟨j+1,c⟩,⟨dP,hM.OU yE dG M6 hh hc⟩,(show pr.bd.length-(j+1)<pr.bd.length-j by omega),View.o 9 [0,1,2,3,4,5,6,7] [] ?_ ?_⟩
      .repeat(first|exact .nil|refine .aq ?_|refine .put (.aP (aL om).symm) ?_|refine .eq rfl ?_)
      .exact(.pe rfl rfl rfl (.pr rfl rfl rfl (.pr rfl rfl rfl (.pr rfl rfl rfl (.pe rfl rfl rfl (.pr rfl rfl rfl (.pr rfl rfl rfl (.pm rfl rfl rfl))))))))
     .skip
      refine⟨⟨j+1,b⟩,⟨dP,hM.skip yE M6 (fun _=>hh)⟩,(show pr.bd.length-(j+1)<pr.bd.length-j by omega),View.o 9 [0,1,2,3,4,5,6,7] [] ?_ ?_⟩
      .repeat(first|exact .nil|refine .aq ?_|refine .put (.aP (aL om).symm) ?_|refine .eq rfl ?_)
      .exact(.pe rfl rfl rfl (.pr rfl rfl rfl (.pr rfl rfl rfl (.pr rfl rfl rfl (.pe rfl rfl rfl (.pr rfl rfl rfl (.pr rfl rfl rfl (.pm rfl rfl rfl))))))))
    .skip
     refine⟨⟨j+1,b⟩,⟨dP,hM.skip yE M6 (fun h=>absurd (h.symm.trans dG) aK)⟩,(show pr.bd.length-(j+1)<pr.bd.length-j by omega),View.o 9 [0,1,2,3,4,5,6,7] [] ?_ ?_⟩
     .repeat(first|exact .nil|refine .aq ?_|refine .put (.aP (aL om).symm) ?_|refine .eq rfl ?_)
     .exact(.pe rfl rfl rfl (.pr rfl rfl rfl (.pr rfl rfl rfl (.pr rfl rfl rfl (.pe rfl rfl rfl (.pr rfl rfl rfl (.pr rfl rfl rfl (.pm rfl rfl rfl))))))))
   .have Mj:j=pr.bd.length:=by have h:¬(j:Int)<((pr.bd.map fq.enc).length:Int):=l4;rw[LW]at h;omega
    subst Mj;refine⟨⟨p+1,b⟩,⟨g9,hM.next yE⟩,(show ps.length-(p+1)<ps.length-p by omega),View.o 8 [0,1,2,3,4,5,6] [] ?_ ?_⟩
    .repeat(first|exact .nil|refine .aq ?_|refine .put (.aP (aL om).symm) ?_|refine .eq rfl ?_)
    .exact(.pe rfl rfl rfl (.pr rfl rfl rfl (.pr rfl rfl rfl (.pr rfl rfl rfl (.pe rfl rfl rfl (.pr rfl rfl rfl (.pn rfl rfl rfl)))))))
  .have Ad:p=ps.length:=by have h:¬(p:Int)<((af (ps.map bi.enc)).length:Int):=h;rw[bb,LW]at h;omega
   subst Ad;exact⟨b,hM.hU,rfl,rfl⟩
 .skip
  refine b8 (ab4 _) ?_;refine⟨(by show(af (ops.map bC.enc)).length*1<=_;rw[bb,LW];omega),⟨rfl,rfl,trivial⟩,?_⟩
  refine b8 (ab4 _) ?_;refine⟨(by show(af (l.map Obj.enc)).length*1<=_;rw[bb,LW];omega),⟨rfl,rfl,trivial⟩,?_⟩
  refine⟨trivial,?_⟩;refine fC [0] [(3,.rv (.one (.ptr 4 0)))] ([.var [.row 1 9 0 none,.row 2 2 0 none,.row 3 4 0 none],.row 9 (af (l.map Obj.enc)),.row 2 (af (ops.map bC.enc)),.row 4 (af (ps.map bi.enc)),.var [.ptr 0 0,.row 5 1 0 none,.row 6 1 0 none],.row 1 (af ((xr l ops).O.map bE)),.row 1 (af ((xr l ops).P.map bE))]) (View.o1 7 [0,1,2,3,6,5,4] [] ?_) ?_
  .exact(.pe rfl rfl rfl (.pr rfl rfl rfl (.pr rfl rfl rfl (.pr rfl rfl rfl (.pe rfl rfl rfl (.pt rfl rfl (.bR (by show fI (af (l.map Obj.enc)).length _=_;rw[p6,bb,LW];rfl)) (.pt rfl rfl (.bR (by show fI (af (ops.map bC.enc)).length _=_;rw[p6,bb,LW];rfl)) (.nil _))))))))
  refine p7 ((nt l ops ps g ((xr l ops).mu+1)).1 (xr l ops) 0 ⟨by simp[xr],by simp[xr]⟩ (aaZ _)) [] rfl fun b0 wb=>?_
  refine aX (fun(s:Vz)=>s.p<=ps.length/\dn l ops ps s.b s.p 0) [3,28,29] (fun s=>[(30,an .i64 (s.p:Nat))]) (fun s=>[.var [.row 1 9 0 none,.row 2 2 0 none,.row 3 4 0 none],.row 9 (af (l.map Obj.enc)),.row 2 (af (ops.map bC.enc)),.row 4 (af (ps.map bi.enc)),.var [.ptr 0 0,.row 5 1 0 none,.row 6 1 0 none],.row 1 (af (s.b.O.map bE)),.row 1 (af (s.b.P.map bE))]) (fun s=>ps.length-s.p) ⟨0,b0⟩ ⟨XL _,.start wb⟩ ?_ (fun s hs=>?_)
  .refine View.o1 7 [0,1,2,3,4,5,6] [] ?_
   .exact(.pe rfl rfl rfl (.pr rfl rfl rfl (.pr rfl rfl rfl (.pr rfl rfl rfl (.pe rfl rfl rfl (.pr rfl rfl rfl (.pn rfl rfl rfl)))))))
  obtain⟨p,b⟩:=s;obtain⟨hp,hM⟩:=hs;have hp:p<=ps.length:=hp;have hM:dn l ops ps b p 0:=hM;refine aJ (fun h=>?_) (fun h=>?_)
  .have g9:p<ps.length:=by have h:(p:Int)<((af (ps.map bi.enc)).length:Int):=h;rw[bb,LW]at h;omega
   refine ag (bP (k:=p) (by show p<(af (ps.map bi.enc)).length;rw[bb,LW];exact g9)) ?_
   refine ag (bA bi.enc ps g9) ?_;have yE:=tq g9;have Fp:=pi _ (XP g9);generalize ps[p]=pr at yE Fp;refine aX (fun(s:Vz)=>s.p<=pr.bd.length/\dn l ops ps s.b p s.p) [3,5,28,29,30,35,36] (fun s=>[(37,an .i64 (s.p:Nat))]) (fun s=>[.var [.row 1 9 0 none,.row 2 2 0 none,.row 3 4 0 none],.row 9 (af (l.map Obj.enc)),.row 2 (af (ops.map bC.enc)),.row 4 (af (ps.map bi.enc)),.var [.ptr 0 0,.row 5 1 0 none,.row 6 1 0 none],.row 1 (af (s.b.O.map bE)),.row 1 (af (s.b.P.map bE)),.var (pr.enc.map .aa)]) (fun s=>pr.bd.length-s.p) ⟨0,b⟩ ⟨XL _,hM⟩ ?_ (fun s hs=>?_)
   .refine View.o1 8 [0,1,2,3,4,5,6,7] [] ?_
    .exact(.pe rfl rfl rfl (.pr rfl rfl rfl (.pr rfl rfl rfl (.pr rfl rfl rfl (.pe rfl rfl rfl (.pr rfl rfl rfl (.pr rfl rfl rfl (.pm rfl rfl rfl))))))))
   clear hM;obtain⟨j,b⟩:=s;obtain⟨hj,hM⟩:=hs;have hj:j<=pr.bd.length:=hj;have hM:dn l ops ps b p j:=hM;refine aJ (fun l4=>?_) (fun l4=>?_)
   .have dP:j<pr.bd.length:=by have h:(j:Int)<((pr.bd.map fq.enc).length:Int):=l4;rw[LW]at h;omega
    have M6:=tq dP;refine ag (FG dP) ?_;generalize pr.bd[j]=s at M6;refine ay (fun dG=>?_) (fun dG=>?_)
    .refine ay (fun hh=>?_) (fun hh=>?_)
     .refine p7 ((nt l ops ps g (b.mu+1)).2 b s.eJ s.cn ⟨by have:=hM.st.lo;simpa[xr]using this,by have:=hM.st.lp;simpa[xr]using this⟩ (aaZ _)) [_,_] rfl fun c hc=>?_
      refine⟨⟨j+1,c⟩,⟨dP,hM.OU yE dG M6 hh hc⟩,(show pr.bd.length-(j+1)<pr.bd.length-j by omega),View.o 9 [0,1,2,3,4,5,6,7] [] ?_ ?_⟩
      .repeat(first|exact .nil|refine .aq ?_|refine .put (.aP (aL om).symm) ?_|refine .eq rfl ?_)
      .exact(.pe rfl rfl rfl (.pr rfl rfl rfl (.pr rfl rfl rfl (.pr rfl rfl rfl (.pe rfl rfl rfl (.pr rfl rfl rfl (.pr rfl rfl rfl (.pm rfl rfl rfl))))))))
     .skip
      refine⟨⟨j+1,b⟩,⟨dP,hM.skip yE M6 (fun _=>hh)⟩,(show pr.bd.length-(j+1)<pr.bd.length-j by omega),View.o 9 [0,1,2,3,4,5,6,7] [] ?_ ?_⟩
      .repeat(first|exact .nil|refine .aq ?_|refine .put (.aP (aL om).symm) ?_|refine .eq rfl ?_)
      .exact(.pe rfl rfl rfl (.pr rfl rfl rfl (.pr rfl rfl rfl (.pr rfl rfl rfl (.pe rfl rfl rfl (.pr rfl rfl rfl (.pr rfl rfl rfl (.pm rfl rfl rfl))))))))
    .skip
     refine⟨⟨j+1,b⟩,⟨dP,hM.skip yE M6 (fun h=>absurd (h.symm.trans dG) aK)⟩,(show pr.bd.length-(j+1)<pr.bd.length-j by omega),View.o 9 [0,1,2,3,4,5,6,7] [] ?_ ?_⟩
     .repeat(first|exact .nil|refine .aq ?_|refine .put (.aP (aL om).symm) ?_|refine .eq rfl ?_)
     .exact(.pe rfl rfl rfl (.pr rfl rfl rfl (.pr rfl rfl rfl (.pr rfl rfl rfl (.pe rfl rfl rfl (.pr rfl rfl rfl (.pr rfl rfl rfl (.pm rfl rfl rfl))))))))
   .have Mj:j=pr.bd.length:=by have h:¬(j:Int)<((pr.bd.map fq.enc).length:Int):=l4;rw[LW]at h;omega
    subst Mj;refine⟨⟨p+1,b⟩,⟨g9,hM.next yE⟩,(show ps.length-(p+1)<ps.length-p by omega),View.o 8 [0,1,2,3,4,5,6] [] ?_ ?_⟩
    .repeat(first|exact .nil|refine .aq ?_|refine .put (.aP (aL om).symm) ?_|refine .eq rfl ?_)
    .exact(.pe rfl rfl rfl (.pr rfl rfl rfl (.pr rfl rfl rfl (.pr rfl rfl rfl (.pe rfl rfl rfl (.pr rfl rfl rfl (.pn rfl rfl rfl)))))))
  .have Ad:p=ps.length:=by have h:¬(p:Int)<((af (ps.map bi.enc)).length:Int):=h;rw[bb,LW]at h;omega
   subst Ad;exact⟨b,hM.hU,rfl,rfl⟩
theorem Ka(l:List Obj)(ops:List bC)(ps:List bi)(g:∀o,o∈l->o.sm)(hl:l.length<=4194304)(ho:ops.length<=4194304)(iI:ps.length<=4194304)(pi:∀p,p∈ps->p.bd.length<=10):
  ar Tryz.prog 112 [.rv (.one (.ptr 0 0))] [.var [.row 1 9 0 none,.row 2 2 0 none,.row 3 4 0 none],.row 9 (af (l.map Obj.enc)),.row 2 (af (ops.map bC.enc)),.row 4 (af (ps.map bi.enc))] (fun r m=>∃b,k8 l ops ps b/\r= .rv (.one (.ptr 4 0))/\m=[.var [.row 1 9 0 none,.row 2 2 0 none,.row 3 4 0 none],.row 9 (af (l.map Obj.enc)),.row 2 (af (ops.map bC.enc)),.row 4 (af (ps.map bi.enc)),.var [.ptr 0 0,.row 5 1 0 none,.row 6 1 0 none],.row 1 (af (b.O.map bE)),.row 1 (af (b.P.map bE))]):=
 cf Tryz.func112 l112 (Dk l ops ps g hl ho iI pi)
def nE(k:Nat):List Dt:=[.val (.int .i64 (k:Nat))]
end Go.Proofs.YthagjdhjmamakaaGreatDoor
