/- Part 19 of 43: what the law stands on. -/
import Derived.Test.YtojhmadmlnfpcaaGreatDoorK16
import Derived.Test.YtojhmadmlnfpcaaGreatDoorK18
set_option linter.unusedVariables false
set_option linter.unusedSimpArgs false
set_option linter.unnecessarySimpa false
set_option maxRecDepth 100000
set_option maxHeartbeats 64000000
namespace Go.Proofs.YtojhmadmlnfpcaaGreatDoor
open Go.AM Go.ChangeShapes Go.WideShapes Go.ChangeAt Go.RowKit
def c149:LF:= ⟨88,[],(.seq (.seq (.ai [qm 9 1,qu 10 (.aF .lss 9 (qi 0)),qm 11 10,qg 12 (.aD 1) 11 false,qg 13 (.aD 0) 11 false,qg 14 (.aW 13) 11 false,qg 15 (.bg 1 14) 11 false,qg 16 (.load false 1 15) 11 false,qg 17 (.len 1 16) 11 false,qg 18 (.aF .geq 12 17) 11 false,qu 19 (.pick 11 (qb true) 18),qm 20 19,qg 21 (.aD 0) 20 false,qg 22 (.aW 21) 20 false,qg 23 (.bg 1 22) 20 false,qg 24 (.load false 1 23) 20 false,qg 25 (.aD 1) 20 false,qg 26 (.bO 1 24 25) 20 false,qg 27 (.load false 1 26) 20 false,qu 28 (.pick 20 (qb true) 27),qm 29 28,qg 30 (.aD 0) 29 false,qg 31 (.aW 30) 29 false,qg 32 (.bg 0 31) 29 false,qg 33 (.load false 1 32) 29 false,qg 34 (.aW 33) 29 false,qg 35 (.bg 0 34) 29 false,qg 36 (.load false 1 35) 29 false,qg 37 (.aD 1) 29 false,qg 38 (.bO 9 36 37) 29 false,qg 39 (.bg 0 38) 29 false,qg 40 (.load false 1 39) 29 false,qg 41 (.aF .eql 40 (qi 0)) 29 false,qu 42 (.pick 29 (qb true) 41)]) (.cond 42 .ret .skip)) (.seq (.ai [qm 43 0,qu 44 (.aW 43),qf 45 1 44,ql 46 45,qm 47 1,qu 48 (.bO 1 46 47),qw (.store 1 48 (qb true))]) (.seq (.ai [qm 49 0,qu 50 (.aW 49),qf 51 0 50,ql 52 51,qu 53 (.aW 52),qf 54 0 53,ql 55 54,qm 56 1,qu 57 (.bO 9 55 56),qm 4 57]) (.seq (.seq (.ai [qm 58 4,qu 59 (.aW 58),qf 60 2 59,ql 61 60,qu 62 (.len 1 61),qu 63 (.aD (qi 0))]) (.block 0 (.loop (.seq (.ai [qu 64 (.aF .lss 63 62)]) (.seq (.cond 64 .skip (.exit 0)) (.seq (.block 1 (.seq (.ai [qu 65 (.bO 2 61 63),qL 66 2 65,qu 6 (.alloc [(.aa (.val (.string ⟨#[]⟩))),(qd 0)]),qw (.store 2 6 66)]) (.ai [qm 67 0,qf 68 1 6,ql 69 68,qu 70 (qc 149 [67,69])]))) (.ai [qu 71 (.aF .add 63 (qi 1)),qm 63 71]))))))) (.seq (.ai [qm 72 4,qu 73 (.aW 72),qf 74 5 73,ql 75 74,qu 76 (.len 1 75),qu 77 (.aD (qi 0))]) (.block 2 (.loop (.seq (.ai [qu 78 (.aF .lss 77 76)]) (.seq (.cond 78 .skip (.exit 2)) (.seq (.block 3 (.seq (.ai [qu 79 (.bO 4 75 77),qL 80 4 79,qu 8 (.alloc [.aI,(.aa (.val (.bool false))),(qd 0),(qd 0)]),qw (.store 4 8 80)]) (.seq (.ai [qf 81 1 8,ql 82 81]) (.cond 82 (.ai [qm 83 0,qf 84 2 8,qL 85 2 84,qu 86 (qc 150 [83,85])]) .skip)))) (.ai [qu 87 (.aF .add 77 (qi 1)),qm 77 87])))))))))))⟩
def c150:LF:= ⟨48,[],(.seq (.ai [qu 3 (.box 1)]) (.seq (.seq (.bQ [qf 4 0 3,ql 5 4,qu 6 (.aF .lss 5 (qi 0)),qm 7 6,qg 8 (.bg 0 3) 7 false,qg 9 (.load false 1 8) 7 false,qg 10 (.aD 0) 7 false,qg 11 (.aW 10) 7 false,qg 12 (.bg 2 11) 7 false,qg 13 (.load false 1 12) 7 false,qg 14 (.len 1 13) 7 false,qg 15 (.aF .geq 9 14) 7 false,qu 16 (.pick 7 (qb true) 15),qm 17 16,qg 18 (.aD 0) 17 false,qg 19 (.aW 18) 17 false,qg 20 (.bg 2 19) 17 false,qg 21 (.load false 1 20) 17 false,qg 22 (.bg 0 3) 17 false,qg 23 (.load false 1 22) 17 false,qg 24 (.bO 1 21 23) 17 false,qg 25 (.load false 1 24) 17 false,qu 26 (.pick 17 (qb true) 25)] [(.cons 0 none (.cons 1 none (.cons 2 none (.cons 3 none (.cons 4 none (.cons 5 none (.cons 6 none (.cons 7 none (.cons 8 none (.cons 9 none (.cons 10 none (.cons 11 none (.cons 12 none (.cons 13 none (.cons 14 none (.cons 15 none (.cons 16 none (.cons 17 none (.cons 18 none (.cons 19 none (.cons 20 none (.cons 21 none (.cons 22 none .nil)))))))))))))))))))))))]) (.cond 26 .ret .skip)) (.seq (.bQ [qm 27 0,qu 28 (.aW 27),qf 29 2 28,ql 30 29,qf 31 0 3,ql 32 31,qu 33 (.bO 1 30 32),qw (.store 1 33 (qb true))] [(.cons 0 none (.cons 1 none (.cons 2 none (.cons 3 none (.cons 4 none (.cons 5 none (.cons 6 none (.cons 7 (some []) .nil))))))))]) (.bQ [qm 34 0,qm 35 0,qu 36 (.aW 35),qf 37 0 36,ql 38 37,qu 39 (.aW 38),qf 40 1 39,ql 41 40,qf 42 0 3,ql 43 42,qu 44 (.bO 2 41 43),qf 45 0 44,ql 46 45,qu 47 (qc 149 [34,46])] [(.cons 0 none (.cons 1 none (.cons 2 none (.cons 3 none (.cons 4 none (.cons 5 none (.cons 6 none (.cons 7 none (.cons 8 none (.cons 9 none (.cons 10 none (.cons 11 none (.cons 12 none (.cons 13 (some []) .nil))))))))))))))]))))⟩
def bE(b:Bool):List Dt:=[.val (.bool b)]
theorem l149:bs Tryz.prog Tryz.f149=some c149:=by kernel_rfl
theorem l150:bs Tryz.prog Tryz.f150=some c150:=by kernel_rfl
def x4(l:List Obj)(ops:List bG)(a:Mk):Prop:=a.O.length=l.length/\a.P.length=ops.length
theorem sC{L:List Bool}{n:Nat}(h:n<L.length):df (af (L.map bE)) n=some [.aa (.val (.bool L[n]))]:=bI bE L h
theorem yV{L:List Bool}{n:Nat}(h:n<L.length):dU (n:Int) (lenOf (af (L.map bE)).length 0 none)=some n:=bT (by show n<(af (L.map bE)).length;rw[bc,aad];exact h)
theorem LW{L:List Bool}{n:Nat}:ba (af (L.map bE)) n [CC.aa (.val (.bool true))]=af ((L.set n true).map bE):=m5 bE L n true
theorem yU.QO{l:List Obj}{ops:List bG}{n:Nat}{a b:Mk}{k j:Nat}{es:List (ByteArray×Int)}{qs:List bw}(h:yU l ops n a b k j es qs):b.mu<=(⟨a.O.set n true,a.P⟩:Mk).mu:=by
 refine Nat.add_le_add (kz _ _ (by rw[aaE];exact h.st.lo) fun i hi=>?_) (kz _ _ h.st.lp h.st.mp)
 rcases kQ hi with hi|rfl
 .exact h.st.mo i hi
 .exact h.on
theorem O0{qs:List bw}{k:Nat}(h:k<qs.length):cy (qs.map bw.enc) (k:Nat)=some [.sl 1 qs[k].data,.val (.bool qs[k].has),.val (.int .i64 qs[k].eT),.val (.int .i64 qs[k].cf)]:=by rw[bl,aaf,aab h];rfl
structure StM where
 j:Nat
 b:Mk
def ut(l:List Obj)(ops:List bG)(ps:List bi)(a:Mk):Mem:=
 [.var [.ptr 1 0,.row 2 1 0 none,.row 3 1 0 none],.var [.row 4 9 0 none,.row 5 2 0 none,.row 6 4 0 none],.row 1 (af (a.O.map bE)),.row 1 (af (a.P.map bE)),.row 9 (af (l.map Obj.enc)),.row 2 (af (ops.map bG.enc)),.row 4 (af (ps.map bi.enc))]
theorem vS{l:List Obj}{ops:List bG}{ps:List bi}{a:Mk}{f:Nat}{args:List CV}{Q:Mk->Prop}(h:ar Tryz.prog f args (ut l ops ps a) (fun r m=>∃b,Q b/\r= .bF []/\m=ut l ops ps b))(x:Bk)(eY:args=args.map (CV.aQ (sg [0,1,2,3,4,5,6] 8))){K:CV->Mem->Prop}(hK:∀b,Q b->K (.bF []) [.var [.ptr 1 0,.row 2 1 0 none,.row 3 1 0 none],.var [.row 4 9 0 none,.row 5 2 0 none,.row 6 4 0 none],.row 1 (af (b.O.map bE)),.row 1 (af (b.P.map bE)),.row 9 (af (l.map Obj.enc)),.row 2 (af (ops.map bG.enc)),.row 4 (af (ps.map bi.enc)),x]):
  ar Tryz.prog f args [.var [.ptr 1 0,.row 2 1 0 none,.row 3 1 0 none],.var [.row 4 9 0 none,.row 5 2 0 none,.row 6 4 0 none],.row 1 (af (a.O.map bE)),.row 1 (af (a.P.map bE)),.row 9 (af (l.map Obj.enc)),.row 2 (af (ops.map bG.enc)),.row 4 (af (ps.map bi.enc)),x] K:=by
 refine bC [0,1,2,3,4,5,6] 8 rfl rfl rfl rfl (args0:=args) eY (fun i b' hi=>?_) h (fun r m1 hr=>?_)
 .match i,hi with
  |0,hi=>cases hi;exact .inr ⟨fun h=>h,_,rfl,.eq rfl aG⟩
  |1,hi=>cases hi;exact .inr ⟨fun h=>h,_,rfl,.eq rfl aG⟩
  |2,hi=>cases hi;exact .inr ⟨fun h=>h,_,rfl,.bV rfl⟩
  |3,hi=>cases hi;exact .inr ⟨fun h=>h,_,rfl,.bV rfl⟩
  |4,hi=>cases hi;exact .inr ⟨fun h=>h,_,rfl,.bV rfl⟩
  |5,hi=>cases hi;exact .inr ⟨fun h=>h,_,rfl,.bV rfl⟩
  |6,hi=>cases hi;exact .inr ⟨fun h=>h,_,rfl,.bV rfl⟩
  |n+7,hi=>simp[ut]at hi
 .obtain⟨b,hb,rfl,rfl⟩:=hr;refine⟨aaj _,?_⟩;have e2:(Bk.row 1 (af (b.O.map bE))).aQ (sg [0,1,2,3,4,5,6] 8)= .row 1 (af (b.O.map bE)):=by simp only[Bk.aQ,dC]
  have e3:(Bk.row 1 (af (b.P.map bE))).aQ (sg [0,1,2,3,4,5,6] 8)= .row 1 (af (b.P.map bE)):=by simp only[Bk.aQ,dC]
  show K _ [.var [.ptr 1 0,.row 2 1 0 none,.row 3 1 0 none],.var [.row 4 9 0 none,.row 5 2 0 none,.row 6 4 0 none],(Bk.row 1 (af (b.O.map bE))).aQ (sg [0,1,2,3,4,5,6] 8),(Bk.row 1 (af (b.P.map bE))).aQ (sg [0,1,2,3,4,5,6] 8),(Bk.row 9 (af (l.map Obj.enc))).aQ (sg [0,1,2,3,4,5,6] 8),(Bk.row 2 (af (ops.map bG.enc))).aQ (sg [0,1,2,3,4,5,6] 8),(Bk.row 4 (af (ps.map bi.enc))).aQ (sg [0,1,2,3,4,5,6] 8),x];have e4:(Bk.row 9 (af (l.map Obj.enc))).aQ (sg [0,1,2,3,4,5,6] 8)= .row 9 (af (l.map Obj.enc)):=by simp only[Bk.aQ,dC]
  have e5:(Bk.row 2 (af (ops.map bG.enc))).aQ (sg [0,1,2,3,4,5,6] 8)= .row 2 (af (ops.map bG.enc)):=by simp only[Bk.aQ,dC]
  have e6:(Bk.row 4 (af (ps.map bi.enc))).aQ (sg [0,1,2,3,4,5,6] 8)= .row 4 (af (ps.map bi.enc)):=by simp only[Bk.aQ,dC]
  rw[e2,e3,e4,e5,e6];exact hK b hb
theorem EO(l:List Obj)(ops:List bG)(ps:List bi)(g:∀o,o∈l->o.sm)(N:Nat)(To:∀a z,x4 l ops a->a.mu<N->ar Tryz.prog 149 [.rv (.one (.ptr 0 0)),an .i64 z] (ut l ops ps a) (fun r m=>∃b,PO l ops z a b/\r= .bF []/\m=ut l ops ps b))(YD:∀a z w,x4 l ops a->a.mu<N->ar Tryz.prog 150 [.rv (.one (.ptr 0 0)),.rv (.agg [.aa (.val (.int .i64 z)),.aa (.val (.int .i64 w))])] (ut l ops ps a) (fun r m=>∃b,PP l ops z a b/\r= .bF []/\m=ut l ops ps b))(a:Mk)(z:Int)(YE:x4 l ops a)(Vf:a.mu<=N):body Tryz.prog c149 [.rv (.one (.ptr 0 0)),an .i64 z] (ut l ops ps a) (fun r m=>∃b,PO l ops z a b/\r= .bF []/\m=ut l ops ps b):=by
 have hlen:∀L:List Bool,(af (L.map bE)).length=L.length:=fun L=>by rw[bc,aad]
 obtain⟨hO,hP⟩:=YE;refine aB (fun h=>?_) (fun h0=>?_)
 .exact⟨a,.none fun n hv=>by have:=hv.1;have h:z<0:=h;omega,rfl,rfl⟩
 obtain⟨n,rfl⟩:∃n:Nat,z=n:=⟨z.toNat,by have h:¬z<0:=h0;omega⟩
 refine aB (fun h=>?_) (fun h1=>?_)
 .refine⟨a,.none fun m hv=>?_,rfl,rfl⟩
  obtain⟨hz,o,ho,_⟩:=hv;have h:(n:Int)>=((af (a.O.map bE)).length:Int):=h;rw[hlen]at h;have:=(aac.1 ho).1;omega
 have hn:n<a.O.length:=by have h:¬(n:Int)>=((af (a.O.map bE)).length:Int):=h1;rw[hlen]at h;omega
 have kM:n<l.length:=om;refine ag (yV hn) ?_;refine ag (sC hn) ?_;refine aE (fun h2=>?_) (fun h2=>?_)
 .refine⟨a,.none fun m hv=>?_,rfl,rfl⟩
  have:m=n:=by have:=hv.1;omega
  subst this;exact(aab hn).trans (congrArg some h2)
 have LX:dU (n:Int) (lenOf (af (l.map Obj.enc)).length 0 none)=some n:=bT (by show n<(af (l.map Obj.enc)).length;rw[bc,aad];exact kM)
 have QP:=bI Obj.enc l kM;have B2:=aab kM;have Ec:=g _ (aau kM);generalize l[n]=o at QP B2 Ec;obtain⟨ah,data,ak,target,aJ,aj,aL,am,up⟩:=o;obtain⟨es,rfl⟩:∃es:List (ByteArray×Int),ak=es.map fq:=Ec.t.2.1;refine ag LX ?_;refine ag QP ?_;refine bH (fun h3=>?_) (fun h3=>?_)
 .refine⟨a,.none fun m hv=>?_,rfl,rfl⟩
  obtain⟨hz,o2,oM,hk⟩:=hv;have:m=n:=om;subst this;rw[B2]at oM;cases oM;exact absurd h3 hk
 have h3:ah≠0:=h3;have Ll:es.length<=8:=by have:=Ec.e;simpa using this
 have Bq:aj.length<=8:=Ec.q;have EP:=yU.start (l:=l) (ops:=ops) hn es aj;have Vg:(⟨a.O.set n true,a.P⟩:Mk).mu<N:=by have:=pR a.O n ((aab hn).trans (congrArg some h2));have Vf:ec a.O+ec a.P<=N:=Vf;show ec (a.O.set n true)+ec a.P<N;omega
 refine ag (yV hn) ?_;refine ag (sC hn) ?_;refine ag LX ?_;refine ag QP ?_;refine aO (fun(s:StM)=>s.j<=es.length/\yU l ops n a s.b s.j 0 es aj) [0,4,61,62] (fun s=>[(63,an .i64 (s.j:Nat))]) (fun s=>[.var [.ptr 1 0,.row 2 1 0 none,.row 3 1 0 none],.var [.row 4 9 0 none,.row 5 2 0 none,.row 6 4 0 none],.row 1 (af (s.b.O.map bE)),.row 1 (af (s.b.P.map bE)),.row 9 (af (l.map Obj.enc)),.row 2 (af (ops.map bG.enc)),.row 4 (af (ps.map bi.enc))]) (fun s=>es.length-s.j) ⟨0,_⟩ ⟨aao _,EP⟩ ?_ (fun s hs=>?_)
 .refine View.o1 7 [0,1,2,3,4,5,6] [] ?_
  .exact .pe rfl rfl rfl (.pe rfl rfl rfl (.pt rfl rfl (.bV LW) (.pr rfl rfl rfl (.pr rfl rfl rfl (.pr rfl rfl rfl (.pn rfl rfl rfl))))))
 obtain⟨j,b⟩:=s;obtain⟨hj,hM⟩:=hs;have hj:j<=es.length:=hj;have hM:yU l ops n a b j 0 es aj:=hM;refine aB (fun h=>?_) (fun h=>?_)
 .have dA:j<es.length:=by have h:(j:Int)<((es.map fq).length:Int):=h;rw[aad]at h;omega
  refine ag (OX dA) ?_;have RT:=hM.QO;refine vS (To b es[j].2 ⟨hM.st.lo.trans hO,hM.st.lp.trans hP⟩ om) _ rfl fun c hc=>?_
  refine⟨⟨j+1,c⟩,⟨dA,hM.Vb (aab dA) hc B2 rfl⟩,(show es.length-(j+1)<es.length-j by omega),View.o 8 [0,1,2,3,4,5,6] [] ?_ ?_⟩
  .repeat(first|exact .nil|refine .ap ?_|refine .put (.aQ (aq om).symm) ?_|refine .eq rfl ?_)
  .exact .pe rfl rfl rfl (.pe rfl rfl rfl (.pr rfl rfl rfl (.pr rfl rfl rfl (.pr rfl rfl rfl (.pr rfl rfl rfl (.pn rfl rfl rfl))))))
 .have N7:j=es.length:=by have h:¬(j:Int)<((es.map fq).length:Int):=h;rw[aad]at h;omega
  subst N7;refine ag QP ?_;refine aO (fun(s:StM)=>s.j<=aj.length/\yU l ops n a s.b es.length s.j es aj) [0,75,76] (fun s=>[(77,an .i64 (s.j:Nat))]) (fun s=>[.var [.ptr 1 0,.row 2 1 0 none,.row 3 1 0 none],.var [.row 4 9 0 none,.row 5 2 0 none,.row 6 4 0 none],.row 1 (af (s.b.O.map bE)),.row 1 (af (s.b.P.map bE)),.row 9 (af (l.map Obj.enc)),.row 2 (af (ops.map bG.enc)),.row 4 (af (ps.map bi.enc))]) (fun s=>aj.length-s.j) ⟨0,b⟩ ⟨aao _,hM⟩ ?_ (fun s hs=>?_)
  .refine View.o1 7 [0,1,2,3,4,5,6] [] ?_
   .exact .pe rfl rfl rfl (.pe rfl rfl rfl (.pr rfl rfl rfl (.pr rfl rfl rfl (.pr rfl rfl rfl (.pr rfl rfl rfl (.pn rfl rfl rfl))))))
  clear hM hj h;obtain⟨j,b⟩:=s;obtain⟨hj,hM⟩:=hs;have hj:j<=aj.length:=hj;have hM:yU l ops n a b es.length j es aj:=hM;refine aB (fun h=>?_) (fun h=>?_)
  .have dA:j<aj.length:=by have h:(j:Int)<((aj.map bw.enc).length:Int):=h;rw[aad]at h;omega
   have RM:=aab dA;refine ag (O0 dA) ?_;have RT:=hM.QO;refine aE (fun hh=>?_) (fun hh=>?_)
   .refine vS (YD b aj[j].eT aj[j].cf ⟨hM.st.lo.trans hO,hM.st.lp.trans hP⟩ om) _ rfl fun c hc=>?_
    refine⟨⟨j+1,c⟩,⟨dA,hM.Vc RM hh hc B2 rfl⟩,(show aj.length-(j+1)<aj.length-j by omega),View.o 8 [0,1,2,3,4,5,6] [] ?_ ?_⟩
    .repeat(first|exact .nil|refine .ap ?_|refine .put (.aQ (aq om).symm) ?_|refine .eq rfl ?_)
    .exact .pe rfl rfl rfl (.pe rfl rfl rfl (.pr rfl rfl rfl (.pr rfl rfl rfl (.pr rfl rfl rfl (.pr rfl rfl rfl (.pn rfl rfl rfl))))))
   .skip
    refine⟨⟨j+1,b⟩,⟨dA,hM.Ve RM hh⟩,(show aj.length-(j+1)<aj.length-j by omega),View.o 8 [0,1,2,3,4,5,6] [] ?_ ?_⟩
    .repeat(first|exact .nil|refine .ap ?_|refine .put (.aQ (aq om).symm) ?_|refine .eq rfl ?_)
    .exact .pe rfl rfl rfl (.pe rfl rfl rfl (.pr rfl rfl rfl (.pr rfl rfl rfl (.pr rfl rfl rfl (.pr rfl rfl rfl (.pn rfl rfl rfl))))))
  .have N7:j=aj.length:=by have h:¬(j:Int)<((aj.map bw.enc).length:Int):=h;rw[aad]at h;omega
   subst N7;exact⟨b,hM.fS B2 h3 rfl rfl,rfl,rfl⟩
theorem EQ(l:List Obj)(ops:List bG)(ps:List bi)(N:Nat)(To:∀a z,x4 l ops a->a.mu<N->ar Tryz.prog 149 [.rv (.one (.ptr 0 0)),an .i64 z] (ut l ops ps a) (fun r m=>∃b,PO l ops z a b/\r= .bF []/\m=ut l ops ps b))(a:Mk)(z w:Int)(YE:x4 l ops a)(Vf:a.mu<=N):body Tryz.prog c150 [.rv (.one (.ptr 0 0)),.rv (.agg [.aa (.val (.int .i64 z)),.aa (.val (.int .i64 w))])] (ut l ops ps a) (fun r m=>∃b m',PP l ops z a b/\r= .bF []/\m=ut l ops ps b++m'):=by
 have hlen:∀L:List Bool,(af (L.map bE)).length=L.length:=fun L=>by rw[bc,aad]
 obtain⟨hO,hP⟩:=YE;refine aB (fun h=>?_) (fun h0=>?_)
 .exact⟨a,[_],.none fun n hv=>by have:=hv.1;have h:z<0:=h;omega,rfl,rfl⟩
 obtain⟨n,rfl⟩:∃n:Nat,z=n:=⟨z.toNat,by have h:¬z<0:=h0;omega⟩
 refine aB (fun h=>?_) (fun h1=>?_)
 .refine⟨a,[_],.none fun m hv=>?_,rfl,rfl⟩
  obtain⟨hz,ho⟩:=hv;have h:(n:Int)>=((af (a.P.map bE)).length:Int):=h;rw[hlen]at h;omega
 have hn:n<a.P.length:=by have h:¬(n:Int)>=((af (a.P.map bE)).length:Int):=h1;rw[hlen]at h;omega
 have kM:n<ops.length:=om;refine ag (yV hn) ?_;refine ag (sC hn) ?_;refine aE (fun h2=>?_) (fun h2=>?_)
 .refine⟨a,[_],.none fun m hv=>?_,rfl,rfl⟩
  have:m=n:=by have:=hv.1;omega
  subst this;exact(aab hn).trans (congrArg some h2)
 have Vg:(⟨a.O,a.P.set n true⟩:Mk).mu<N:=by have:=pR a.P n ((aab hn).trans (congrArg some h2));have Vf:ec a.O+ec a.P<=N:=Vf;show ec a.O+ec (a.P.set n true)<N;omega
 refine ag (yV hn) ?_;refine ag (sC hn) ?_;refine⟨trivial,?_⟩;have LX:dU (n:Int) (lenOf (af (ops.map bG.enc)).length 0 none)=some n:=bT (by show n<(af (ops.map bG.enc)).length;rw[bc,aad];exact kM)
 refine ag LX ?_;refine ag (bI bG.enc ops kM) ?_;refine mA (lK:=[.rv (.one (.ptr 0 0)),an .i64 ops[n].bv]) (m':=ut l ops ps ⟨a.O,a.P.set n true⟩ ++ [.var [.aa (.val (.int .i64 (n:Nat))),.aa (.val (.int .i64 w))]]) (View.o 8 [0,1,2,3,4,5,6,7] [] (.eq rfl (.eq rfl .nil))
  (.pe rfl rfl rfl (.pe rfl rfl rfl (.pr rfl rfl rfl (.pt rfl rfl (.bV LW) (.pr rfl rfl rfl (.pr rfl rfl rfl (.pr rfl rfl rfl (.pm rfl rfl rfl))))))))) ?_
 refine vS (To ⟨a.O,a.P.set n true⟩ ops[n].bv ⟨hO,by simpa using hP⟩ Vg) _ rfl fun c hc=>?_
 exact⟨trivial,c,[_],PP.of hn (aab kM) hc,rfl,rfl⟩
theorem og(l:List Obj)(ops:List bG)(ps:List bi)(g:∀o,o∈l->o.sm):∀N,
  (∀a z,x4 l ops a->a.mu<N->ar Tryz.prog 149 [.rv (.one (.ptr 0 0)),an .i64 z] (ut l ops ps a) (fun r m=>∃b,PO l ops z a b/\r= .bF []/\m=ut l ops ps b))/\
  (∀a z w,x4 l ops a->a.mu<N->ar Tryz.prog 150 [.rv (.one (.ptr 0 0)),.rv (.agg [.aa (.val (.int .i64 z)),.aa (.val (.int .i64 w))])] (ut l ops ps a) (fun r m=>∃b,PP l ops z a b/\r= .bF []/\m=ut l ops ps b))
 |0=>⟨fun _ _ _ h=>absurd h (aaL _),fun _ _ _ _ h=>absurd h (aaL _)⟩
 |N+1=>by
  obtain⟨To,YD⟩:=og l ops ps g N;refine⟨fun a z hb hm=>aZ Tryz.func149 l149 (EO l ops ps g N To YD a z hb om),fun a z w hb hm=>?_⟩
  refine bN (aZ Tryz.func150 l150 (EQ l ops ps N To a z w hb om)) fun r m1⟨b,m',hp,hr,Ic⟩=>?_
  subst hr Ic;refine⟨.bF [],ut l ops ps b,View.of (7+m'.length) [0,1,2,3,4,5,6] [] (by simp[ut];omega) rfl rfl rfl rfl (by simp[fm]<;>omega) (.put (.bF rfl fun i r r' h=>by simp at h) .nil) ?_,⟨b,hp,rfl,rfl⟩⟩
  exact .pe rfl rfl rfl (.pe rfl rfl rfl (.pr rfl rfl rfl (.pr rfl rfl rfl (.pr rfl rfl rfl (.pr rfl rfl rfl (.pn rfl rfl rfl))))))
def c126:LF:= ⟨54,[.tmp 2],(.seq (.ai [qu 2 (.aD (.c (.rv (.one (.aa (.val (.pointer none)))))))]) (.seq (.bQ [qm 8 0,qm 9 0,qu 10 (.aW 9),qf 11 0 10,ql 12 11,qu 13 (.len 1 12),qu 14 (.oI 1 1 [(.aa (.val (.bool false)))] 13 13),qm 15 0,qu 16 (.aW 15),qf 17 1 16,ql 18 17,qu 19 (.len 1 18),qu 20 (.oI 1 1 [(.aa (.val (.bool false)))] 19 19),qu 21 (.build [(.aa (.val (.pointer none))),.aI,.aI] [(0,1,8),(1,1,14),(2,1,20)]),qu 22 (.box 21),qm 3 22] [(.cons 0 none (.cons 1 none (.cons 2 none (.cons 3 none (.cons 4 none (.cons 5 none (.cons 7 none (.cons 8 none (.cons 9 none (.cons 10 none (.cons 11 none (.xK (.cons 6 (some [11,10]) (.cons 12 (some [5,4]) (.cons 13 none (.cons 14 (some []) (.cons 15 none .nil))))) (.cons 12 (some [5,4]) (.cons 6 (some [11,10]) (.cons 13 none (.cons 14 (some []) (.cons 15 none .nil)))))))))))))))))]) (.cO (.seq (.ai [qm 23 3,qu 24 (qc 149 [23,(qi 0)])]) (.seq (.seq (.ai [qm 25 0,qu 26 (.aW 25),qf 27 2 26,ql 28 27,qu 29 (.len 1 28),qu 30 (.aD (qi 0))]) (.block 0 (.loop (.seq (.ai [qu 31 (.aF .lss 30 29)]) (.seq (.cond 31 .skip (.exit 0)) (.seq (.block 1 (.seq (.ai [qu 32 (.bO 4 28 30),qL 33 4 32,qu 5 (.alloc [(.aa (.val (.bool false))),(.aa (.val (.bool false))),(qd 0),.aI]),qw (.store 4 5 33)]) (.seq (.ai [qf 34 3 5,ql 35 34,qu 36 (.len 1 35),qu 37 (.aD (qi 0))]) (.block 2 (.loop (.seq (.ai [qu 38 (.aF .lss 37 36)]) (.seq (.cond 38 .skip (.exit 2)) (.seq (.block 3 (.seq (.ai [qu 39 (.bO 3 35 37),qL 40 3 39,qu 7 (.alloc [(.aa (.val (.bool false))),(qd 0),(qd 0)]),qw (.store 3 7 40)]) (.seq (.ai [qf 41 0 5,ql 42 41,qm 43 42,qg 44 (.bg 0 7) 43 true,qg 45 (.load false 1 44) 43 true,qu 46 (.pick 43 45 (qb false))]) (.cond 46 (.ai [qm 47 3,qf 48 1 7,qL 49 2 48,qu 50 (qc 150 [47,49])]) .skip)))) (.ai [qu 51 (.aF .add 37 (qi 1)),qm 37 51]))))))))) (.ai [qu 52 (.aF .add 30 (qi 1)),qm 30 52]))))))) (.seq (.ai [qm 53 3,qm 2 53]) .ret))))))⟩
def Hb(l:List Obj)(ops:List bG)(ps:List bi)(RO RP:Nat->Prop):Prop:=
 (∀n,vO l 0 n->RO n)/\∀(p:Nat)pr,ps[p]? =some pr->pr.aV=true->∀s,s∈pr.aU->s.has=true->∀c,vP ops s.eT c->RP c
structure gq(l:List Obj)(ops:List bG)(ps:List bi)(b:Mk):Prop where
 len:x4 l ops b
 nv:Hb l ops ps (dv b.O) (dv b.P)
 cl:Cl l ops (dv b.O) (dv b.P)
 nw:∀RO RP,Cl l ops RO RP->Hb l ops ps RO RP->Oh RO RP b
def yW(l:List Obj)(ops:List bG):Mk:=⟨List.replicate l.length false,List.replicate ops.length false⟩
theorem vU{n i:Nat}:¬dv (List.replicate n false) i:=by
 intro h;unfold dv at h;rw[ace]at h;split at h<;>cases h
structure dQ(l:List Obj)(ops:List bG)(ps:List bi)(b:Mk)(p j:Nat):Prop where
 st:Step l ops (fun _=>False) (yW l ops) b
 r0:∀n,vO l 0 n->dv b.O n
 rp:∀(i:Nat)pr,i<p->ps[i]? =some pr->pr.aV=true->∀s,s∈pr.aU->s.has=true->∀c,vP ops s.eT c->dv b.P c
 rj:∀pr,ps[p]? =some pr->pr.aV=true->∀(t:Nat)s,t<j->pr.aU[t]? =some s->s.has=true->∀c,vP ops s.eT c->dv b.P c
 nw:∀RO RP,Cl l ops RO RP->Hb l ops ps RO RP->Oh RO RP b
theorem dQ.start{l:List Obj}{ops:List bG}{ps:List bi}{b:Mk}(h:PO l ops 0 (yW l ops) b):dQ l ops ps b 0 0:=
 ⟨h.st,h.on,fun i pr h=>absurd h (aaL i),fun pr _ _ t s h=>absurd h (aaL t),fun RO RP gZ hr=>h.sd RO RP gZ ⟨fun i hi=>absurd hi vU,fun i hi=>absurd hi vU⟩ hr.1⟩
theorem dQ.QQ{l:List Obj}{ops:List bG}{ps:List bi}{b c:Mk}{p j:Nat}(h:dQ l ops ps b p j){pr:bi}(uu:ps[p]? =some pr)(dh:pr.aV=true){s:fH}(hs:pr.aU[j]? =some s)(hh:s.has=true)(hc:PP l ops s.eT b c):dQ l ops ps c p (j+1):=by
 refine⟨h.st.trans hc.st,fun n hn=>hc.st.mo n (h.r0 n hn),fun i x hi hx hl y hy Oi d hd=>hc.st.mp d (h.rp i x hi hx hl y hy Oi d hd),fun x hx hl t y ht hy Oi d hd=>?_,fun RO RP gZ hr=>hc.sd RO RP gZ (h.nw RO RP gZ hr) fun d hd=>hr.2 p pr uu dh s (aag hs) hh d hd⟩
 rcases aaq t j with Kl|Kl
 .exact hc.st.mp d (h.rj x hx hl t y Kl hy Oi d hd)
 .have:t=j:=om;subst this;rw[uu]at hx;cases hx;rw[hs]at hy;cases hy;exact hc.on d hd
theorem dQ.skip{l:List Obj}{ops:List bG}{ps:List bi}{b:Mk}{p j:Nat}(h:dQ l ops ps b p j){pr:bi}(uu:ps[p]? =some pr){s:fH}(hs:pr.aU[j]? =some s)(hh:pr.aV=true->s.has=false):dQ l ops ps b p (j+1):=by
 refine⟨h.st,h.r0,h.rp,fun x hx hl t y ht hy Oi d hd=>?_,h.nw⟩
 rcases aaq t j with Kl|Kl
 .exact h.rj x hx hl t y Kl hy Oi d hd
 .have:t=j:=om;subst this;rw[uu]at hx;cases hx;rw[hs]at hy;cases hy;rw[hh hl]at Oi;cases Oi
theorem dQ.next{l:List Obj}{ops:List bG}{ps:List bi}{b:Mk}{p:Nat}{pr:bi}(uu:ps[p]? =some pr)(h:dQ l ops ps b p pr.aU.length):dQ l ops ps b (p+1) 0:=by
 refine⟨h.st,h.r0,fun i x hi hx hl y hy Oi d hd=>?_,fun x _ _ t y ht=>absurd ht (aaL t),h.nw⟩
 rcases aaq i p with Tp|Tp
 .exact h.rp i x Tp hx hl y hy Oi d hd
 .have:i=p:=om;subst this;rw[uu]at hx;cases hx;obtain⟨t,ht⟩:=aam hy;exact h.rj pr uu hl t y (aac.1 ht).1 ht Oi d hd
theorem dQ.fS{l:List Obj}{ops:List bG}{ps:List bi}{b:Mk}(h:dQ l ops ps b ps.length 0):gq l ops ps b:=by
 refine⟨⟨by have:=h.st.lo;simpa[yW]using this,by have:=h.st.lp;simpa[yW]using this⟩,⟨h.r0,fun p pr hp hl s hs hh c hc=>h.rp p pr (aac.1 hp).1 hp hl s hs hh c hc⟩,⟨fun i o hi ho z n hz hv=>?_,fun i o hi ho z c hz hv=>?_,fun c o hc ho n hv=>?_⟩,h.nw⟩
 .exact(h.st.co i o hi vU (fun h=>h) ho).1 z n hz hv
 .exact(h.st.co i o hi vU (fun h=>h) ho).2 z c hz hv
 .exact h.st.cp c o hc vU ho n hv
theorem rm(n:Nat):(gg n [CC.aa (.val (.bool false))])=af ((List.replicate n false).map bE):=by
 induction n with
 |zero=>rfl
 |succ n ih=>simp only[gg,ih];simp[af,bE,List.replicate_succ]
theorem l126:bs Tryz.prog Tryz.f126=some c126.er:=by kernel_rfl
theorem uT{l:List fH}{k:Nat}(h:k<l.length):cy (l.map fH.enc) (k:Nat)=some [.val (.bool l[k].has),.val (.int .i64 l[k].eT),.val (.int .i64 l[k].cf)]:=by rw[bl,aaf,aab h];rfl
structure W6 where
 p:Nat
 b:Mk
theorem d5{ps:List bi}{k:Nat}(h:k<ps.length):cy (ps.map bi.enc) (k:Nat)=some [.val (.bool ps[k].aV),.val (.bool ps[k].fenced),.val (.int .i64 ps[k].code),xZ ps[k].aU]:=by rw[bl,aaf,aab h];rfl
theorem rn{l:List Obj}{ops:List bG}{ps:List bi}{a:Mk}{f:Nat}{args args0:List CV}{Q:Mk->Prop}(h:ar Tryz.prog f args0 (ut l ops ps a) (fun r m=>∃b,Q b/\r= .bF []/\m=ut l ops ps b))(X:Mem)(eY:args=args0.map (CV.aQ (sg [4,0,5,6,1,2,3] (7+X.length)))){K:CV->Mem->Prop}(hK:∀b,Q b->K (.bF []) ([.var [.row 1 9 0 none,.row 2 2 0 none,.row 3 4 0 none],.row 9 (af (l.map Obj.enc)),.row 2 (af (ops.map bG.enc)),.row 4 (af (ps.map bi.enc)),.var [.ptr 0 0,.row 5 1 0 none,.row 6 1 0 none],.row 1 (af (b.O.map bE)),.row 1 (af (b.P.map bE))]++X)):
  ar Tryz.prog f args ([.var [.row 1 9 0 none,.row 2 2 0 none,.row 3 4 0 none],.row 9 (af (l.map Obj.enc)),.row 2 (af (ops.map bG.enc)),.row 4 (af (ps.map bi.enc)),.var [.ptr 0 0,.row 5 1 0 none,.row 6 1 0 none],.row 1 (af (a.O.map bE)),.row 1 (af (a.P.map bE))]++X) K:=by
 refine bC [4,0,5,6,1,2,3] (7+X.length) (by simp;omega) rfl rfl (by simp[fm]<;>omega) (args0:=args0) eY (fun i b' hi=>?_) h (fun r m1 hr=>?_)
 .match i,hi with
  |0,hi=>cases hi;exact .inr ⟨fun h=>h,_,rfl,.eq rfl aG⟩
  |1,hi=>cases hi;exact .inr ⟨fun h=>h,_,rfl,.eq rfl aG⟩
  |2,hi=>cases hi;exact .inr ⟨fun h=>h,_,rfl,.bV rfl⟩
  |3,hi=>cases hi;exact .inr ⟨fun h=>h,_,rfl,.bV rfl⟩
  |4,hi=>cases hi;exact .inr ⟨fun h=>h,_,rfl,.bV rfl⟩
  |5,hi=>cases hi;exact .inr ⟨fun h=>h,_,rfl,.bV rfl⟩
  |6,hi=>cases hi;exact .inr ⟨fun h=>h,_,rfl,.bV rfl⟩
  |n+7,hi=>simp[ut]at hi
 .obtain⟨b,hb,rfl,rfl⟩:=hr;refine⟨aaj _,?_⟩;have e:∀(s:Nat)(ds:List (List Dt)),(Bk.row s (af ds)).aQ (sg [4,0,5,6,1,2,3] (7+X.length))= .row s (af ds):=fun s ds=>by simp only[Bk.aQ,dC]
  have hk:=hK b hb;have hw:dn ([.var [.row 1 9 0 none,.row 2 2 0 none,.row 3 4 0 none],.row 9 (af (l.map Obj.enc)),.row 2 (af (ops.map bG.enc)),.row 4 (af (ps.map bi.enc)),.var [.ptr 0 0,.row 5 1 0 none,.row 6 1 0 none],.row 1 (af (a.O.map bE)),.row 1 (af (a.P.map bE))]++X) [4,0,5,6,1,2,3] (rb (sg [4,0,5,6,1,2,3] (7+X.length)) (ut l ops ps b))=[.var [.row 1 9 0 none,.row 2 2 0 none,.row 3 4 0 none],.row 9 (af (l.map Obj.enc)),.row 2 (af (ops.map bG.enc)),.row 4 (af (ps.map bi.enc)),.var [.ptr 0 0,.row 5 1 0 none,.row 6 1 0 none],.row 1 (af (b.O.map bE)),.row 1 (af (b.P.map bE))]++X:=by simp only[ut,rb,e,dn,cr,abI];rfl
  rw[hw];exact hk
theorem ER(l:List Obj)(ops:List bG)(ps:List bi)(g:∀o,o∈l->o.sm)(hl:l.length<=4194304)(ho:ops.length<=4194304)(gE:ps.length<=4194304)(qq:∀p,p∈ps->p.aU.length<=10):
  body Tryz.prog c126 [.rv (.one (.ptr 0 0))] [.var [.row 1 9 0 none,.row 2 2 0 none,.row 3 4 0 none],.row 9 (af (l.map Obj.enc)),.row 2 (af (ops.map bG.enc)),.row 4 (af (ps.map bi.enc))] (fun r m=>∃b,gq l ops ps b/\r= .rv (.one (.ptr 4 0))/\m=[.var [.row 1 9 0 none,.row 2 2 0 none,.row 3 4 0 none],.row 9 (af (l.map Obj.enc)),.row 2 (af (ops.map bG.enc)),.row 4 (af (ps.map bi.enc)),.var [.ptr 0 0,.row 5 1 0 none,.row 6 1 0 none],.row 1 (af (b.O.map bE)),.row 1 (af (b.P.map bE))]):=by
 refine⟨?_,?_⟩
 .skip
  refine cF (acs _) ?_;refine⟨(by show(af (l.map Obj.enc)).length*1<=_;rw[bc,aad];omega),⟨rfl,rfl,trivial⟩,?_⟩
  refine cF (acs _) ?_;refine⟨(by show(af (ops.map bG.enc)).length*1<=_;rw[bc,aad];omega),⟨rfl,rfl,trivial⟩,?_⟩
  refine⟨trivial,?_⟩;refine fa [0] [(3,.rv (.one (.ptr 4 0)))] ([.var [.row 1 9 0 none,.row 2 2 0 none,.row 3 4 0 none],.row 9 (af (l.map Obj.enc)),.row 2 (af (ops.map bG.enc)),.row 4 (af (ps.map bi.enc)),.var [.ptr 0 0,.row 5 1 0 none,.row 6 1 0 none],.row 1 (af ((yW l ops).O.map bE)),.row 1 (af ((yW l ops).P.map bE))]) (View.o1 7 [0,1,2,3,6,4,5] [] ?_) ?_
  .exact(.pe rfl rfl rfl (.pr rfl rfl rfl (.pr rfl rfl rfl (.pr rfl rfl rfl (.pe rfl rfl rfl (.pt rfl rfl (.bV (by show gg (af (l.map Obj.enc)).length _=_;rw[rm,bc,aad];rfl)) (.pt rfl rfl (.bV (by show gg (af (ops.map bG.enc)).length _=_;rw[rm,bc,aad];rfl)) (.nil _))))))))
  refine rn ((og l ops ps g ((yW l ops).mu+1)).1 (yW l ops) 0 ⟨by simp[yW],by simp[yW]⟩ (abp _)) [] rfl fun b0 xO=>?_
  refine aO (fun(s:W6)=>s.p<=ps.length/\dQ l ops ps s.b s.p 0) [3,28,29] (fun s=>[(30,an .i64 (s.p:Nat))]) (fun s=>[.var [.row 1 9 0 none,.row 2 2 0 none,.row 3 4 0 none],.row 9 (af (l.map Obj.enc)),.row 2 (af (ops.map bG.enc)),.row 4 (af (ps.map bi.enc)),.var [.ptr 0 0,.row 5 1 0 none,.row 6 1 0 none],.row 1 (af (s.b.O.map bE)),.row 1 (af (s.b.P.map bE))]) (fun s=>ps.length-s.p) ⟨0,b0⟩ ⟨aao _,.start xO⟩ ?_ (fun s hs=>?_)
  .refine View.o1 7 [0,1,2,3,4,5,6] [] ?_
   .exact(.pe rfl rfl rfl (.pr rfl rfl rfl (.pr rfl rfl rfl (.pr rfl rfl rfl (.pe rfl rfl rfl (.pr rfl rfl rfl (.pn rfl rfl rfl)))))))
  obtain⟨p,b⟩:=s;obtain⟨hp,hM⟩:=hs;have hp:p<=ps.length:=hp;have hM:dQ l ops ps b p 0:=hM;refine aB (fun h=>?_) (fun h=>?_)
  .have gu:p<ps.length:=by have h:(p:Int)<((af (ps.map bi.enc)).length:Int):=h;rw[bc,aad]at h;omega
   refine ag (bT (k:=p) (by show p<(af (ps.map bi.enc)).length;rw[bc,aad];exact gu)) ?_
   refine ag (bI bi.enc ps gu) ?_;have uu:=aab gu;have DE:=qq _ (aau gu);generalize ps[p]=pr at uu DE;refine aO (fun(s:W6)=>s.p<=pr.aU.length/\dQ l ops ps s.b p s.p) [3,5,28,29,30,35,36] (fun s=>[(37,an .i64 (s.p:Nat))]) (fun s=>[.var [.row 1 9 0 none,.row 2 2 0 none,.row 3 4 0 none],.row 9 (af (l.map Obj.enc)),.row 2 (af (ops.map bG.enc)),.row 4 (af (ps.map bi.enc)),.var [.ptr 0 0,.row 5 1 0 none,.row 6 1 0 none],.row 1 (af (s.b.O.map bE)),.row 1 (af (s.b.P.map bE)),.var (pr.enc.map .aa)]) (fun s=>pr.aU.length-s.p) ⟨0,b⟩ ⟨aao _,hM⟩ ?_ (fun s hs=>?_)
   .refine View.o1 8 [0,1,2,3,4,5,6,7] [] ?_
    .exact(.pe rfl rfl rfl (.pr rfl rfl rfl (.pr rfl rfl rfl (.pr rfl rfl rfl (.pe rfl rfl rfl (.pr rfl rfl rfl (.pr rfl rfl rfl (.pm rfl rfl rfl))))))))
   clear hM;obtain⟨j,b⟩:=s;obtain⟨hj,hM⟩:=hs;have hj:j<=pr.aU.length:=hj;have hM:dQ l ops ps b p j:=hM;refine aB (fun mU=>?_) (fun mU=>?_)
   .have dA:j<pr.aU.length:=by have h:(j:Int)<((pr.aU.map fH.enc).length:Int):=mU;rw[aad]at h;omega
    have O1:=aab dA;refine ag (uT dA) ?_;generalize pr.aU[j]=s at O1;refine aE (fun dh=>?_) (fun dh=>?_)
    .refine aE (fun hh=>?_) (fun hh=>?_)
     .refine rn ((og l ops ps g (b.mu+1)).2 b s.eT s.cf ⟨by have:=hM.st.lo;simpa[yW]using this,by have:=hM.st.lp;simpa[yW]using this⟩ (abp _)) [_,_] rfl fun c hc=>?_
      refine⟨⟨j+1,c⟩,⟨dA,hM.QQ uu dh O1 hh hc⟩,(show pr.aU.length-(j+1)<pr.aU.length-j by omega),View.o 9 [0,1,2,3,4,5,6,7] [] ?_ ?_⟩
      .repeat(first|exact .nil|refine .ap ?_|refine .put (.aQ (aq om).symm) ?_|refine .eq rfl ?_)
      .exact(.pe rfl rfl rfl (.pr rfl rfl rfl (.pr rfl rfl rfl (.pr rfl rfl rfl (.pe rfl rfl rfl (.pr rfl rfl rfl (.pr rfl rfl rfl (.pm rfl rfl rfl))))))))
     .skip
      refine⟨⟨j+1,b⟩,⟨dA,hM.skip uu O1 (fun _=>hh)⟩,(show pr.aU.length-(j+1)<pr.aU.length-j by omega),View.o 9 [0,1,2,3,4,5,6,7] [] ?_ ?_⟩
      .repeat(first|exact .nil|refine .ap ?_|refine .put (.aQ (aq om).symm) ?_|refine .eq rfl ?_)
      .exact(.pe rfl rfl rfl (.pr rfl rfl rfl (.pr rfl rfl rfl (.pr rfl rfl rfl (.pe rfl rfl rfl (.pr rfl rfl rfl (.pr rfl rfl rfl (.pm rfl rfl rfl))))))))
    .skip
     refine⟨⟨j+1,b⟩,⟨dA,hM.skip uu O1 (fun h=>absurd (h.symm.trans dh) aG)⟩,(show pr.aU.length-(j+1)<pr.aU.length-j by omega),View.o 9 [0,1,2,3,4,5,6,7] [] ?_ ?_⟩
     .repeat(first|exact .nil|refine .ap ?_|refine .put (.aQ (aq om).symm) ?_|refine .eq rfl ?_)
     .exact(.pe rfl rfl rfl (.pr rfl rfl rfl (.pr rfl rfl rfl (.pr rfl rfl rfl (.pe rfl rfl rfl (.pr rfl rfl rfl (.pr rfl rfl rfl (.pm rfl rfl rfl))))))))
   .have N7:j=pr.aU.length:=by have h:¬(j:Int)<((pr.aU.map fH.enc).length:Int):=mU;rw[aad]at h;omega
    subst N7;refine⟨⟨p+1,b⟩,⟨gu,hM.next uu⟩,(show ps.length-(p+1)<ps.length-p by omega),View.o 8 [0,1,2,3,4,5,6] [] ?_ ?_⟩
    .repeat(first|exact .nil|refine .ap ?_|refine .put (.aQ (aq om).symm) ?_|refine .eq rfl ?_)
    .exact(.pe rfl rfl rfl (.pr rfl rfl rfl (.pr rfl rfl rfl (.pr rfl rfl rfl (.pe rfl rfl rfl (.pr rfl rfl rfl (.pn rfl rfl rfl)))))))
  .have BK:p=ps.length:=by have h:¬(p:Int)<((af (ps.map bi.enc)).length:Int):=h;rw[bc,aad]at h;omega
   subst BK;exact⟨b,hM.fS,rfl,rfl⟩
 .skip
  refine cF (acs _) ?_;refine⟨(by show(af (ops.map bG.enc)).length*1<=_;rw[bc,aad];omega),⟨rfl,rfl,trivial⟩,?_⟩
  refine cF (acs _) ?_;refine⟨(by show(af (l.map Obj.enc)).length*1<=_;rw[bc,aad];omega),⟨rfl,rfl,trivial⟩,?_⟩
  refine⟨trivial,?_⟩;refine fa [0] [(3,.rv (.one (.ptr 4 0)))] ([.var [.row 1 9 0 none,.row 2 2 0 none,.row 3 4 0 none],.row 9 (af (l.map Obj.enc)),.row 2 (af (ops.map bG.enc)),.row 4 (af (ps.map bi.enc)),.var [.ptr 0 0,.row 5 1 0 none,.row 6 1 0 none],.row 1 (af ((yW l ops).O.map bE)),.row 1 (af ((yW l ops).P.map bE))]) (View.o1 7 [0,1,2,3,6,5,4] [] ?_) ?_
  .exact(.pe rfl rfl rfl (.pr rfl rfl rfl (.pr rfl rfl rfl (.pr rfl rfl rfl (.pe rfl rfl rfl (.pt rfl rfl (.bV (by show gg (af (l.map Obj.enc)).length _=_;rw[rm,bc,aad];rfl)) (.pt rfl rfl (.bV (by show gg (af (ops.map bG.enc)).length _=_;rw[rm,bc,aad];rfl)) (.nil _))))))))
  refine rn ((og l ops ps g ((yW l ops).mu+1)).1 (yW l ops) 0 ⟨by simp[yW],by simp[yW]⟩ (abp _)) [] rfl fun b0 xO=>?_
  refine aO (fun(s:W6)=>s.p<=ps.length/\dQ l ops ps s.b s.p 0) [3,28,29] (fun s=>[(30,an .i64 (s.p:Nat))]) (fun s=>[.var [.row 1 9 0 none,.row 2 2 0 none,.row 3 4 0 none],.row 9 (af (l.map Obj.enc)),.row 2 (af (ops.map bG.enc)),.row 4 (af (ps.map bi.enc)),.var [.ptr 0 0,.row 5 1 0 none,.row 6 1 0 none],.row 1 (af (s.b.O.map bE)),.row 1 (af (s.b.P.map bE))]) (fun s=>ps.length-s.p) ⟨0,b0⟩ ⟨aao _,.start xO⟩ ?_ (fun s hs=>?_)
  .refine View.o1 7 [0,1,2,3,4,5,6] [] ?_
   .exact(.pe rfl rfl rfl (.pr rfl rfl rfl (.pr rfl rfl rfl (.pr rfl rfl rfl (.pe rfl rfl rfl (.pr rfl rfl rfl (.pn rfl rfl rfl)))))))
  obtain⟨p,b⟩:=s;obtain⟨hp,hM⟩:=hs;have hp:p<=ps.length:=hp;have hM:dQ l ops ps b p 0:=hM;refine aB (fun h=>?_) (fun h=>?_)
  .have gu:p<ps.length:=by have h:(p:Int)<((af (ps.map bi.enc)).length:Int):=h;rw[bc,aad]at h;omega
   refine ag (bT (k:=p) (by show p<(af (ps.map bi.enc)).length;rw[bc,aad];exact gu)) ?_
   refine ag (bI bi.enc ps gu) ?_;have uu:=aab gu;have DE:=qq _ (aau gu);generalize ps[p]=pr at uu DE;refine aO (fun(s:W6)=>s.p<=pr.aU.length/\dQ l ops ps s.b p s.p) [3,5,28,29,30,35,36] (fun s=>[(37,an .i64 (s.p:Nat))]) (fun s=>[.var [.row 1 9 0 none,.row 2 2 0 none,.row 3 4 0 none],.row 9 (af (l.map Obj.enc)),.row 2 (af (ops.map bG.enc)),.row 4 (af (ps.map bi.enc)),.var [.ptr 0 0,.row 5 1 0 none,.row 6 1 0 none],.row 1 (af (s.b.O.map bE)),.row 1 (af (s.b.P.map bE)),.var (pr.enc.map .aa)]) (fun s=>pr.aU.length-s.p) ⟨0,b⟩ ⟨aao _,hM⟩ ?_ (fun s hs=>?_)
   .refine View.o1 8 [0,1,2,3,4,5,6,7] [] ?_
    .exact(.pe rfl rfl rfl (.pr rfl rfl rfl (.pr rfl rfl rfl (.pr rfl rfl rfl (.pe rfl rfl rfl (.pr rfl rfl rfl (.pr rfl rfl rfl (.pm rfl rfl rfl))))))))
   clear hM;obtain⟨j,b⟩:=s;obtain⟨hj,hM⟩:=hs;have hj:j<=pr.aU.length:=hj;have hM:dQ l ops ps b p j:=hM;refine aB (fun mU=>?_) (fun mU=>?_)
   .have dA:j<pr.aU.length:=by have h:(j:Int)<((pr.aU.map fH.enc).length:Int):=mU;rw[aad]at h;omega
    have O1:=aab dA;refine ag (uT dA) ?_;generalize pr.aU[j]=s at O1;refine aE (fun dh=>?_) (fun dh=>?_)
    .refine aE (fun hh=>?_) (fun hh=>?_)
     .refine rn ((og l ops ps g (b.mu+1)).2 b s.eT s.cf ⟨by have:=hM.st.lo;simpa[yW]using this,by have:=hM.st.lp;simpa[yW]using this⟩ (abp _)) [_,_] rfl fun c hc=>?_
      refine⟨⟨j+1,c⟩,⟨dA,hM.QQ uu dh O1 hh hc⟩,(show pr.aU.length-(j+1)<pr.aU.length-j by omega),View.o 9 [0,1,2,3,4,5,6,7] [] ?_ ?_⟩
      .repeat(first|exact .nil|refine .ap ?_|refine .put (.aQ (aq om).symm) ?_|refine .eq rfl ?_)
      .exact(.pe rfl rfl rfl (.pr rfl rfl rfl (.pr rfl rfl rfl (.pr rfl rfl rfl (.pe rfl rfl rfl (.pr rfl rfl rfl (.pr rfl rfl rfl (.pm rfl rfl rfl))))))))
     .skip
      refine⟨⟨j+1,b⟩,⟨dA,hM.skip uu O1 (fun _=>hh)⟩,(show pr.aU.length-(j+1)<pr.aU.length-j by omega),View.o 9 [0,1,2,3,4,5,6,7] [] ?_ ?_⟩
      .repeat(first|exact .nil|refine .ap ?_|refine .put (.aQ (aq om).symm) ?_|refine .eq rfl ?_)
      .exact(.pe rfl rfl rfl (.pr rfl rfl rfl (.pr rfl rfl rfl (.pr rfl rfl rfl (.pe rfl rfl rfl (.pr rfl rfl rfl (.pr rfl rfl rfl (.pm rfl rfl rfl))))))))
    .skip
     refine⟨⟨j+1,b⟩,⟨dA,hM.skip uu O1 (fun h=>absurd (h.symm.trans dh) aG)⟩,(show pr.aU.length-(j+1)<pr.aU.length-j by omega),View.o 9 [0,1,2,3,4,5,6,7] [] ?_ ?_⟩
     .repeat(first|exact .nil|refine .ap ?_|refine .put (.aQ (aq om).symm) ?_|refine .eq rfl ?_)
     .exact(.pe rfl rfl rfl (.pr rfl rfl rfl (.pr rfl rfl rfl (.pr rfl rfl rfl (.pe rfl rfl rfl (.pr rfl rfl rfl (.pr rfl rfl rfl (.pm rfl rfl rfl))))))))
   .have N7:j=pr.aU.length:=by have h:¬(j:Int)<((pr.aU.map fH.enc).length:Int):=mU;rw[aad]at h;omega
    subst N7;refine⟨⟨p+1,b⟩,⟨gu,hM.next uu⟩,(show ps.length-(p+1)<ps.length-p by omega),View.o 8 [0,1,2,3,4,5,6] [] ?_ ?_⟩
    .repeat(first|exact .nil|refine .ap ?_|refine .put (.aQ (aq om).symm) ?_|refine .eq rfl ?_)
    .exact(.pe rfl rfl rfl (.pr rfl rfl rfl (.pr rfl rfl rfl (.pr rfl rfl rfl (.pe rfl rfl rfl (.pr rfl rfl rfl (.pn rfl rfl rfl)))))))
  .have BK:p=ps.length:=by have h:¬(p:Int)<((af (ps.map bi.enc)).length:Int):=h;rw[bc,aad]at h;omega
   subst BK;exact⟨b,hM.fS,rfl,rfl⟩
theorem LY(l:List Obj)(ops:List bG)(ps:List bi)(g:∀o,o∈l->o.sm)(hl:l.length<=4194304)(ho:ops.length<=4194304)(gE:ps.length<=4194304)(qq:∀p,p∈ps->p.aU.length<=10):
  ar Tryz.prog 126 [.rv (.one (.ptr 0 0))] [.var [.row 1 9 0 none,.row 2 2 0 none,.row 3 4 0 none],.row 9 (af (l.map Obj.enc)),.row 2 (af (ops.map bG.enc)),.row 4 (af (ps.map bi.enc))] (fun r m=>∃b,gq l ops ps b/\r= .rv (.one (.ptr 4 0))/\m=[.var [.row 1 9 0 none,.row 2 2 0 none,.row 3 4 0 none],.row 9 (af (l.map Obj.enc)),.row 2 (af (ops.map bG.enc)),.row 4 (af (ps.map bi.enc)),.var [.ptr 0 0,.row 5 1 0 none,.row 6 1 0 none],.row 1 (af (b.O.map bE)),.row 1 (af (b.P.map bE))]):=
 cm Tryz.func126 l126 (ER l ops ps g hl ho gE qq)
end Go.Proofs.YtojhmadmlnfpcaaGreatDoor
