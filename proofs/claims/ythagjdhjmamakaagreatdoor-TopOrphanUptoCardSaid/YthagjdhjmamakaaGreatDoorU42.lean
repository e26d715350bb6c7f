/- Part 42 of 43: what the law stands on. -/
import Derived.Test.YthagjdhjmamakaaGreatDoorT16
import Derived.Test.YthagjdhjmamakaaGreatDoorT23
import Derived.Test.YthagjdhjmamakaaGreatDoorU39
set_option linter.unusedVariables false
set_option linter.unusedSimpArgs false
set_option linter.unnecessarySimpa false
set_option maxRecDepth 100000
set_option maxHeartbeats 64000000
namespace Go.Proofs.YthagjdhjmamakaaGreatDoor
open Go.AM Go.ChangeShapes Go.WideShapes Go.ChangeAt Go.RowKit
def c13:LF:= ⟨25,[.tmp 4],(.seq (.ai [qu 4 (.aD (qb false))]) (.seq (.ai [qm 8 0,qu 9 (qc 17 [8]),qm 10 1,qu 11 (qc 17 [10]),qu 5 (.alloc [(.aa (.val (.bool false))),(.aa (.val (.bool false))),(.aa (.val (.bool false))),(.aa (.val (.bool false))),(.aa (.val (.bool false))),(.aa (.val (.bool false))),(.aa (.val (.bool false))),(.aa (.val (.bool false))),(.aa (.val (.bool false))),(.aa (.val (.bool false))),(.aa (.val (.bool false))),(.aa (.val (.bool false)))]),qu 6 (.alloc [(.aa (.val (.bool false))),(.aa (.val (.bool false))),(.aa (.val (.bool false))),(.aa (.val (.bool false))),(.aa (.val (.bool false))),(.aa (.val (.bool false))),(.aa (.val (.bool false))),(.aa (.val (.bool false))),(.aa (.val (.bool false))),(.aa (.val (.bool false))),(.aa (.val (.bool false))),(.aa (.val (.bool false)))]),qw (.store 12 5 9),qw (.store 12 6 11)]) (.seq (.seq (.ai [qu 12 (.aD (qi 0))]) (.block 0 (.loop (.seq (.ai [qu 13 (.aE .lss 12 (qi 12))]) (.seq (.cond 13 .skip (.exit 0)) (.seq (.block 1 (.seq (.ai [qm 14 12,qm 7 14]) (.seq (.ai [qm 15 7,qu 16 (.tP 12 1 5 15),ql 17 16,qm 18 17,qg 19 (.aD 7) 18 true,qg 20 (.tP 12 1 6 19) 18 true,qg 21 (.load false 1 20) 18 true,qg 22 (.un .not 21) 18 true,qu 23 (.pick 18 22 (qb false))]) (.cond 23 (.seq (.ai [qu 4 (.aD (qb false))]) .ret) .skip)))) (.ai [qu 24 (.aE .add 12 (qi 1)),qm 12 24]))))))) (.seq (.ai [qu 4 (.aD (qb true))]) .ret))))⟩
namespace Kn
open Tb
theorem l17:bq Tryz.prog Tryz.f17=some c17:=by kernel_rfl
def kT(n k:Nat):List Dt:=(List.range 12).map fun i=>.val (.bool (decide (i<k)&&n.testBit i))
theorem EV{n k:Nat}(h:k<12)(b:Bool)(hb:b=n.testBit k):((kT n k).map CC.aa).set k (.aa (.val (.bool b)))=(kT n (k+1)).map CC.aa:=by
 subst hb;apply aaI;intro i;rw[aaq];simp only[kT,aaN,LW,List.length_range,O6];by_cases hi:k=i
 .subst hi;rw[if_pos rfl,if_pos h,abq h];simp
 .rw[if_neg hi];rcases XN i 12 with h2|h2
  .rw[abq h2];have:(i<k)↔(i<k+1):=om;simp[this]
  .rw[aaj (by simpa using h2)]
   rfl
theorem U8(n k:Nat):((((n/2^k:Nat):Int).tmod 2)==1)=n.testBit k:=by
 rw[show(2:Int)=((2:Nat):Int)from rfl,<-Int.ofNat_tmod,Nat.testBit,Nat.shiftRight_eq_div_pow];have h:n/2^k%2<2:=Nat.mod_lt _ om;have e:1&&&n/2^k=n/2^k%2:=by rw[Nat.and_comm,Nat.and_one_is_mod]
 rw[e];generalize n/2^k%2=x at h
 match x,h with
 |0,_=>rfl
 |1,_=>rfl
theorem U9(n k:Nat)(hn:n<=4095):IntKind.i64.wrap (((n/2^k:Nat):Int).tdiv 2)=((n/2^(k+1):Nat):Int):=by
 have e:(((n/2^k:Nat):Int).tdiv 2)=((n/2^(k+1):Nat):Int):=by rw[show(2:Int)=((2:Nat):Int)from rfl,<-Int.ofNat_tdiv,Nat.div_div_eq_div_mul,Nat.pow_succ]
 rw[e];have:n/2^(k+1)<=n:=Nat.div_le_self _ _;exact gO om
def Pv(n:Nat):CV:= .rv (.agg ((kT n 12).map CC.aa))
theorem IA(n:Nat)(hn:n<=4095):body Tryz.prog c17 [an .i64 n] [] (fun r m=>r=Pv n):=by
 refine nq (fun k=>k<=12) (fun k=>[(5,an .i64 (k:Nat)),(0,an .i64 ((n/2^k:Nat):Int)),(4,.aq),(6,.aq),(7,.aq),(8,.aq),(9,.aq),(10,.aq),(11,.aq),(12,.aq),(13,.aq),(14,.aq),(15,.aq)])
  (fun k=>[.var ((kT 0 0).map CC.aa),.var ((kT n k).map CC.aa)]) (fun k=>12-k) 0 (XL _) ?_ (fun k hk=>?_)
 .refine View.o 2 [0,1] [] ?_ ?_
  .repeat(first|exact .nil|refine .aq ?_|refine .eq rfl ?_|refine .eq (congrArg (fun x:Nat=>an .i64 (x:Int)) (show n/2^0=n by simp)) ?_)
  .refine .put (by simp[bs]) rfl (.fz ?_) (.put (by simp[bs]) rfl (.fz ?_) (.nil _))
   .rfl
   .simp[kT,List.range,List.range.loop]
 .refine ay (fun h=>?_) (fun h=>?_)
  .have aF:k<12:=by have h:(k:Int)<12:=of_decide_eq_true h;omega
   refine ag (bP aF) ?_;have hw:fj ((kT n k).map CC.aa) (0+k*1) [.aa (.val (.bool ((((n/2^k:Nat):Int).tmod 2)==1)))]=some ((kT n (k+1)).map CC.aa):=by
    rw[show 0+k*1=k by omega,uB (by simp[kT];exact aF),EV aF _ (U8 n k)]
   refine ag hw ?_;refine⟨k+1,aF,?_,View.o 2 [0,1] [] ?_ ?_⟩
   .show 12-(k+1)<12-k;omega
   .repeat(first|exact .nil|refine .aq ?_|refine .put (.aP (aL om).symm) ?_|refine .eq (congrArg (fun x=>an .i64 x) (U9 n k hn).symm) ?_|refine .eq rfl ?_)
   .exact .put (by simp[bs]) rfl (.fz rfl) (.put (by simp[bs]) rfl (.fz rfl) (.nil _))
  .have ef:k=12:=by have h:¬(k:Int)<12:=of_decide_eq_false h;have:k<=12:=hk;omega
   subst ef;exact rfl
theorem Gs(n:Nat)(hn:n<=4095){m:Mem}{K:CV->Mem->Prop}(h:K (Pv n) m):ar Tryz.prog 17 [an .i64 n] m K:=
 bo Tryz.func17 l17 rfl (T3 rfl) (IA n hn) rfl rfl h
theorem l13:bq Tryz.prog Tryz.f13=some c13:=by kernel_rfl
def r8(a b:Nat):Bool:=(List.range 12).all fun k=>!(a.testBit k&& !b.testBit k)
theorem B3{n k:Nat}(h:k<12):gH ((kT n 12).map CC.aa) (0+k*1) 1=some [.aa (.val (.bool (n.testBit k)))]:=by
 rw[show 0+k*1=k by omega]
 apply rh;simp only[kT,aaN,O6,abq h];simp[h]
theorem zu(a b:Nat)(ha:a<=4095)(hb:b<=4095):body Tryz.prog c13 [an .i64 a,an .i64 b] [] (fun r m=>r=aA (r8 a b)):=by
 refine Gs a ha ?_;refine Gs b hb ?_;refine nq (fun k=>k<=12/\∀i,i<k->(a.testBit i&& !b.testBit i)=false) (fun k=>[(12,an .i64 (k:Nat)),(7,.aq),(9,.aq),(11,.aq),(13,.aq),(14,.aq),(15,.aq),(16,.aq),(17,.aq),(18,.aq),(19,.aq),(20,.aq),(21,.aq),(22,.aq),(23,.aq),(24,.aq)])
  (fun k=>[.var ((kT a 12).map CC.aa),.var ((kT b 12).map CC.aa)]) (fun k=>12-k) 0 ⟨XL _,fun i h=>absurd h (aal i)⟩ ?_ (fun k hk=>?_)
 .refine View.o1 2 [0,1] [] ?_
  .exact .put (by simp[bs]) rfl (.fz rfl) (.put (by simp[bs]) rfl (.fz rfl) (.nil _))
 .refine ay (fun h=>?_) (fun h=>?_)
  .have aF:k<12:=by have h:(k:Int)<12:=of_decide_eq_true h;omega
   have hU:(a.testBit k&& !b.testBit k)=true->r8 a b=false:=by
    intro h;rw[r8,abS];exact⟨k,by simpa using aF,by simp only[h];decide⟩
   have go:(a.testBit k&& !b.testBit k)=false->∀i,i<k+1->(a.testBit i&& !b.testBit i)=false:=by
    intro h i hi;rcases XN i k with h5|h5
    .exact hk.2 i h5
    .have:i=k:=om;rw[this];exact h
   refine ag (bP aF) ?_;refine ag (B3 aF) ?_;refine ay (fun h1=>?_) (fun h1=>?_)
   .refine ag (bP aF) ?_;refine ag (B3 aF) ?_;refine ay (fun h2=>?_) (fun h2=>?_)
    .show aA _=aA _;rw[hU (by rw[h1];exact h2)]
    .refine⟨k+1,⟨aF,go (by rw[h1];exact h2)⟩,?_,View.o 2 [0,1] [] ?_ ?_⟩
     .show 12-(k+1)<12-k;omega
     .repeat(first|exact .nil|refine .aq ?_|refine .put (.aP (aL om).symm) ?_|refine .eq rfl ?_)
     .exact .put (by simp[bs]) rfl (.fz rfl) (.put (by simp[bs]) rfl (.fz rfl) (.nil _))
   .refine⟨k+1,⟨aF,go (by rw[h1];rfl)⟩,?_,View.o 2 [0,1] [] ?_ ?_⟩
    .show 12-(k+1)<12-k;omega
    .repeat(first|exact .nil|refine .aq ?_|refine .put (.aP (aL om).symm) ?_|refine .eq rfl ?_)
    .exact .put (by simp[bs]) rfl (.fz rfl) (.put (by simp[bs]) rfl (.fz rfl) (.nil _))
  .have ef:k=12:=by have h:¬(k:Int)<12:=of_decide_eq_false h;have:k<=12:=hk.1;omega
   subst ef;show aA _=aA _;have:r8 a b=true:=by
    rw[r8,aas];intro i hi;rw[hk.2 i (by simpa using hi)];rfl
   rw[this]
theorem mz(a b:Nat)(ha:a<=4095)(hb:b<=4095){m:Mem}{K:CV->Mem->Prop}(h:K (aA (r8 a b)) m):ar Tryz.prog 13 [an .i64 a,an .i64 b] m K:=
 bo Tryz.func13 l13 rfl (T3 rfl) (zu a b ha hb) rfl rfl h
theorem mA(a b:Nat)(ha:a<=4095)(hb:b<=4095):r8 a b=Tb.cm a b:=by
 have e1:BitVec.ofInt 64 (a:Int)=BitVec.ofNat 64 a:=aK;have e2:BitVec.ofInt 64 (b:Int)=BitVec.ofNat 64 b:=aK;have hx:∀i,((BitVec.ofNat 64 a&&& ~~~ BitVec.ofNat 64 b).toNat).testBit i=(a.testBit i&& !b.testBit i):=by
  intro i;rw[BitVec.testBit_toNat];rcases XN i 64 with h|h
  .rw[BitVec.getLsbD_and,BitVec.getLsbD_not,BitVec.getLsbD_ofNat,BitVec.getLsbD_ofNat];simp[h]
  .have:a.testBit i=false:=Nat.testBit_lt_two_pow (aaf (by omega:a<2^12) (Nat.pow_le_pow_right om om))
   simp[this,BitVec.getLsbD_of_ge _ _ h]
 have YR:(BitVec.ofNat 64 a&&& ~~~ BitVec.ofNat 64 b).toNat<=a:=by rw[BitVec.toNat_and];refine aaC Nat.and_le_left ?_;simp;omega
 rw[Tb.cm,e1,e2,gO om];cases hs:r8 a b
 .rw[r8,abS]at hs;obtain⟨k,_,hk⟩:=hs;have hk:(a.testBit k&& !b.testBit k)=true:=by
   cases h:(a.testBit k&& !b.testBit k)
   .rw[h]at hk;exact absurd rfl hk
   .rfl
  symm;rw[beq_eq_false_iff_ne];intro h0;have h0:(BitVec.ofNat 64 a&&& ~~~ BitVec.ofNat 64 b).toNat=0:=om;have:=hx k;rw[h0,hk]at this;simp at this
 .rw[r8,aas]at hs;symm;rw[beq_iff_eq];have:(BitVec.ofNat 64 a&&& ~~~ BitVec.ofNat 64 b).toNat=0:=by
   apply Nat.eq_of_testBit_eq;intro i;rw[hx i,Nat.zero_testBit];rcases XN i 12 with h|h
   .have:=hs i (by simpa using h)
    cases h2:(a.testBit i&& !b.testBit i)
    .rfl
    .rw[h2]at this;cases this
   .have:a.testBit i=false:=Nat.testBit_lt_two_pow (aaf (by omega:a<2^12) (Nat.pow_le_pow_right om h))
    simp[this]
  omega
end Kn
def c5:LF:= ⟨94,[.tmp 4],(.seq (.ai [qu 4 (.aD (qb false))]) (.seq (.seq (.ai [qu 11 (qc 8 []),qu 12 (.un .not 11)]) (.cond 12 (.seq (.ai [qu 4 (.aD (qb false))]) .ret) .skip)) (.seq (.seq (.ai [qm 13 0,qu 14 (.aE .lss 13 (qi 0)),qm 15 14,qg 16 (.aD 0) 15 false,qg 17 (.aE .gtr 16 (qi 4095)) 15 false,qu 18 (.pick 15 (qb true) 17),qm 19 18,qg 20 (.aD 1) 19 false,qg 21 (.aE .lss 20 (qi 0)) 19 false,qu 22 (.pick 19 (qb true) 21),qm 23 22,qg 24 (.aD 1) 23 false,qg 25 (.aE .gtr 24 (qi 4095)) 23 false,qu 26 (.pick 23 (qb true) 25),qm 27 26,qg 28 (.aD 1) 27 false,qg 29 (.aD 0) 27 false,qg 30 (qc 13 [28,29]) 27 false,qg 31 (.un .not 30) 27 false,qu 32 (.pick 27 (qb true) 31)]) (.cond 32 (.seq (.ai [qu 4 (.aD (qb true))]) .ret) .skip)) (.seq (.ai [qm 33 0,qu 34 (qc 9 [(.c (.rv (.one (.aa (.val (.string ⟨#[47,102]⟩)))))),(qi 1),33]),qu 35 (.build [(qd 0),(qd 0),(qd 0),(qd 0),(qd 0),(qd 0),(qd 0),(.aa (.val (.string ⟨#[]⟩))),.aB] [(1,1,(qi 15))]),qu 36 (.build [(qd 0),(qd 0),(qd 0),(qd 0),(qd 0),(qd 0),(qd 0),(.aa (.val (.string ⟨#[]⟩))),.aB] [(1,1,(qi 18))]),qm 37 1,qu 38 (.build [(qd 0),(qd 0),(qd 0),(qd 0),(qd 0),(qd 0),(qd 0),(.aa (.val (.string ⟨#[]⟩))),.aB] [(1,1,(qi 9)),(2,1,(qi 1)),(6,1,37)]),qu 39 (.build [(qd 0),(qd 0),(qd 0),(qd 0),(qd 0),(qd 0),(qd 0),(.aa (.val (.string ⟨#[]⟩))),.aB] [(1,1,(qi 16)),(2,1,(qi 2)),(3,1,(qi 1))]),qu 40 (.build [(qd 0),(qd 0),(qd 0),(qd 0),(qd 0),(qd 0),(qd 0),(.aa (.val (.string ⟨#[]⟩))),.aB] [(0,1,(qi 1)),(1,1,(qi 7)),(2,1,(qi 1))]),qu 41 (.build [(qd 0),(qd 0),(qd 0),(qd 0),(qd 0),(qd 0),(qd 0),(.aa (.val (.string ⟨#[]⟩))),.aB] [(0,1,(qi 1)),(1,1,(qi 17)),(2,1,(qi 3))]),qu 42 (.build [(qd 0),(qd 0),(qd 0),(qd 0),(qd 0),(qd 0),(qd 0),(.aa (.val (.string ⟨#[]⟩))),.aB] [(0,1,(qi 1)),(1,1,(qi 4)),(2,1,(qi 1)),(4,1,(qi 1))]),qu 43 (.build [(qd 0),(qd 0),(qd 0),(qd 0),(qd 0),(qd 0),(qd 0),(.aa (.val (.string ⟨#[]⟩))),.aB] [(0,1,(qi 1)),(1,1,(qi 5)),(2,1,(qi 1))]),qu 44 (.build [(qd 0),(qd 0),(qd 0),(qd 0),(qd 0),(qd 0),(qd 0),(.aa (.val (.string ⟨#[]⟩))),.aB] [(0,1,(qi 1)),(1,1,(qi 10)),(2,1,(qi 1))]),qu 45 (.lu 9 [(qd 0),(qd 0),(qd 0),(qd 0),(qd 0),(qd 0),(qd 0),(.aa (.val (.string ⟨#[]⟩))),.aB] 10 [(0,34),(1,35),(2,36),(3,38),(4,39),(5,40),(6,41),(7,42),(8,43),(9,44)]),qm 5 45]) (.seq (.ai [qm 47 5,qu 48 (qc 11 [qe,47]),qm 46 48,qu 49 (.ext 46 0),qu 50 (.ext 46 1),qu 51 (.ext 46 2),qu 6 (.alloc [.aB,.aB,.aB]),qw (.store 3 6 49),qm 7 50,qm 8 51]) (.seq (.seq (.ai [qm 52 8,qu 53 (.aE .neq 52 (qi 0)),qm 54 53,qg 55 (.aD 7) 54 false,qg 56 (.b7 4 55 (qi 2)) 54 false,qg 57 (.bQ 1 56) 54 false,qg 58 (.load false 1 57) 54 false,qg 59 (.aE .neq 58 (qi 1)) 54 false,qu 60 (.pick 54 (qb true) 59),qm 61 60,qg 62 (.aD 7) 61 false,qg 63 (.b7 4 62 (qi 6)) 61 false,qg 64 (.bQ 0 63) 61 false,qg 65 (.load false 1 64) 61 false,qg 66 (.aE .neq 65 (qi 0)) 61 false,qu 67 (.pick 61 (qb true) 66),qm 68 67,qg 69 (.aD 7) 68 false,qg 70 (.b7 4 69 (qi 6)) 68 false,qg 71 (.bQ 2 70) 68 false,qg 72 (.load false 1 71) 68 false,qg 73 (.aE .neq 72 (qi 1)) 68 false,qu 74 (.pick 68 (qb true) 73)]) (.cond 74 (.seq (.ai [qu 4 (.aD (qb false))]) .ret) .skip)) (.seq (.seq (.ai [qu 75 (.lu 1 [(qd 0)] 3 [(0,(qi 1)),(1,(qi 2)),(2,(qi 128))]),qu 76 (.len 1 75),qu 77 (.aD (qi 0))]) (.block 0 (.loop (.seq (.ai [qu 78 (.aE .lss 77 76)]) (.seq (.cond 78 .skip (.exit 0)) (.seq (.block 1 (.seq (.ai [qm 79 77,qu 80 (.b7 1 75 77),ql 81 80,qm 9 79,qm 10 81]) (.seq (.bT [qm 82 7,qm 83 9,qu 84 (.aE .add (qi 7) 83),qu 85 (.b7 4 82 84),qf 86 0 85,ql 87 86,qu 88 (.aE .eql 87 (qi 0)),qm 89 10,qm 90 1,qu 91 (qc 13 [89,90]),qu 92 (.beq true 88 91)] [(.cons 0 none (.cons 1 none (.cons 2 none (.cons 3 none (.cons 4 none (.cons 5 none (.cons 6 none (.cons 7 none (.cons 8 none (.cons 9 (some [5,3]) (.cons 10 none .nil)))))))))))]) (.cond 92 (.seq (.ai [qu 4 (.aD (qb false))]) .ret) .skip)))) (.ai [qu 93 (.aE .add 77 (qi 1)),qm 77 93]))))))) (.seq (.ai [qu 4 (.aD (qb true))]) .ret))))))))⟩
namespace Kn
theorem lT5:bq Tryz.prog Tryz.f5=some c5.er:=by kernel_rfl
theorem Va(r q:Int):BR (zo r q):=by
 refine⟨by simp[zo],fun c hc=>?_⟩
 simp only[zo,aad,aaS,or_false]at hc;rcases hc with rfl|rfl|rfl|rfl|rfl|rfl|rfl|rfl|rfl|rfl<;>simp[BS,L7,L8,Od,Rr,Rs,Oe,U1,U2,U3,rW]
theorem IB(n l:Int):body Tryz.prog c5 [an .i64 n,an .i64 l] [] (fun r _=>r=aA true):=by
 refine rY ?_;refine ay (fun h=>rfl) (fun h1=>?_)
 have h1:¬n<0:=of_decide_eq_false h1;refine ay (fun h=>rfl) (fun h2=>?_)
 have h2:¬n>4095:=of_decide_eq_false h2;refine ay (fun h=>rfl) (fun h3=>?_)
 have h3:¬l<0:=of_decide_eq_false h3;refine ay (fun h=>rfl) (fun h4=>?_)
 have h4:¬l>4095:=of_decide_eq_false h4;obtain⟨a,rfl⟩:∃a:Nat,n=a:=⟨n.toNat,om⟩;obtain⟨b,rfl⟩:∃b:Nat,l=b:=⟨l.toNat,om⟩;refine mz b a om om ?_;refine ay (fun h=>rfl) (fun h5=>?_)
 have h5:Tb.cm (b:Nat) (a:Nat)=true:=by rw[<-mA b a om om];simpa using h5
 refine nP [47,102] 1 a ?_;refine ir (lJ:=[dM [],EN (zo a b)]) (m':=[.aZ]) (View.o 1 [0] [0] ?_ (.aZ (.nil _))) ?_
 .refine .put (.rv (.one (.eu (.aB 2)))) (.put (.rv (.one (.eu (ep.eu (Z:=fun k=>bs [0] k=true) ?_ rfl rfl)))) .nil)
  repeat(first|exact gx.nil|exact ep.nil|refine ep.cons ?_ ?_|refine gx.cons ?_ ?_|exact .aa _|exact .aB 1)
 refine tN [] (zo a b) (Va _ _) (fun h=>absurd ET h) (fun _ h=>absurd h (by simp[zo])) fun _ _ l' hp hr=>?_
 rw[vN hp,Of a b ⟨om,om⟩ ⟨om,om⟩ h5];generalize kS (ja []) bw (zo a b)=k;have e1:r8 1 b=Tb.cm 1 (b:Nat):=mA 1 b om om;have e2:r8 2 b=Tb.cm 2 (b:Nat):=mA 2 b om om;have e3:r8 128 b=Tb.cm 128 (b:Nat):=mA 128 b om om;generalize Tb.cm 1 (b:Nat)=w1 at e1⊢;generalize Tb.cm 2 (b:Nat)=w2 at e2⊢;generalize Tb.cm 128 (b:Nat)=w3 at e3⊢;have r1:∀{m:Mem}{K:CV->Mem->Prop},K (aA w1) m->ar Tryz.prog 13 [an .i64 1,an .i64 (b:Nat)] m K:=fun h=>mz 1 b om om (by rw[e1];exact h)
 have r2:∀{m:Mem}{K:CV->Mem->Prop},K (aA w2) m->ar Tryz.prog 13 [an .i64 2,an .i64 (b:Nat)] m K:=fun h=>mz 2 b om om (by rw[e2];exact h)
 have r3:∀{m:Mem}{K:CV->Mem->Prop},K (aA w3) m->ar Tryz.prog 13 [an .i64 128,an .i64 (b:Nat)] m K:=fun h=>mz 128 b om om (by rw[e3];exact h)
 clear e1 e2 e3;refine aX (fun i=>i<=3) [1,7,75,76] (fun i=>[(77,an .i64 (i:Nat))]) (fun _=>[.aZ,.aZ,.row 1 [[.aa (.val (.int .i64 1))],[.aa (.val (.int .i64 2))],[.aa (.val (.int .i64 128))]]]) (fun i=>3-i) 0 (XL _) ?_ (fun i hi=>?_)
 .refine View.o1 3 [0,1,2] [] ?_
  .exact .aZ (.aZ (.pm rfl rfl rfl))
 have hi:i<=3:=hi;refine aJ (fun h=>?_) (fun h=>?_)
 .have aF:i<3:=by have h:(i:Int)<3:=h;omega
  have hc:i=0\/i=1\/i=2:=om;have hv:∀j:Nat,eN (sg [0,1,2] 3) [.aZ,.aZ,.row 1 [[.aa (.val (.int .i64 1))],[.aa (.val (.int .i64 2))],[.aa (.val (.int .i64 128))]]] (fun k=>bs [] k=true) 0 [.aZ,.aZ,.row 1 [[.aa (.val (.int .i64 1))],[.aa (.val (.int .i64 2))],[.aa (.val (.int .i64 128))]]]:=
   fun j=>.aZ (.aZ (.pm rfl rfl rfl))
  rcases hc with rfl|rfl|rfl
  .refine r1 ?_;refine⟨⟨rfl,rfl,trivial⟩,?_⟩;cases w1<;>(refine⟨1,(show 1<=3 by omega),(show 3-1<3-0 by omega),View.o 3 [0,1,2] [] ?_ (hv 0)⟩;repeat(first|exact .nil|refine .aq ?_|refine .eq rfl ?_))
  .refine r2 ?_;refine⟨⟨rfl,rfl,trivial⟩,?_⟩;cases w2<;>(refine⟨2,(show 2<=3 by omega),(show 3-2<3-1 by omega),View.o 3 [0,1,2] [] ?_ (hv 0)⟩;repeat(first|exact .nil|refine .aq ?_|refine .eq rfl ?_))
  .refine r3 ?_;refine⟨⟨rfl,rfl,trivial⟩,?_⟩;cases w3<;>(refine⟨3,(show 3<=3 by omega),(show 3-3<3-2 by omega),View.o 3 [0,1,2] [] ?_ (hv 0)⟩;repeat(first|exact .nil|refine .aq ?_|refine .eq rfl ?_))
 .exact rfl
theorem Mc(n l:Int):ar Tryz.prog 5 [an .i64 n,an .i64 l] [] fun r _=>r=aA true:=
 fL Tryz.func5 lT5 rfl (T3 rfl) (IB n l)
end Kn
end Go.Proofs.YthagjdhjmamakaaGreatDoor
