/- Part 44 of 43: what the law stands on. -/
import Derived.Test.YtojhmadmlnfpcaaGreatDoorK16
import Derived.Test.YtojhmadmlnfpcaaGreatDoorK23
import Derived.Test.YtojhmadmlnfpcaaGreatDoorK40
set_option linter.unusedVariables false
set_option linter.unusedSimpArgs false
set_option linter.unnecessarySimpa false
set_option maxRecDepth 100000
set_option maxHeartbeats 64000000
namespace Go.Proofs.YtojhmadmlnfpcaaGreatDoor
open Go.AM Go.ChangeShapes Go.WideShapes Go.ChangeAt Go.RowKit
def c16:LF:= ⟨25,[.tmp 4],(.seq (.ai [qu 4 (.aD (qb false))]) (.seq (.ai [qm 8 0,qu 9 (qc 27 [8]),qm 10 1,qu 11 (qc 27 [10]),qu 5 (.alloc [(.aa (.val (.bool false))),(.aa (.val (.bool false))),(.aa (.val (.bool false))),(.aa (.val (.bool false))),(.aa (.val (.bool false))),(.aa (.val (.bool false))),(.aa (.val (.bool false))),(.aa (.val (.bool false))),(.aa (.val (.bool false))),(.aa (.val (.bool false))),(.aa (.val (.bool false))),(.aa (.val (.bool false)))]),qu 6 (.alloc [(.aa (.val (.bool false))),(.aa (.val (.bool false))),(.aa (.val (.bool false))),(.aa (.val (.bool false))),(.aa (.val (.bool false))),(.aa (.val (.bool false))),(.aa (.val (.bool false))),(.aa (.val (.bool false))),(.aa (.val (.bool false))),(.aa (.val (.bool false))),(.aa (.val (.bool false))),(.aa (.val (.bool false)))]),qw (.store 12 5 9),qw (.store 12 6 11)]) (.seq (.seq (.ai [qu 12 (.aD (qi 0))]) (.block 0 (.loop (.seq (.ai [qu 13 (.aF .lss 12 (qi 12))]) (.seq (.cond 13 .skip (.exit 0)) (.seq (.block 1 (.seq (.ai [qm 14 12,qm 7 14]) (.seq (.ai [qm 15 7,qu 16 (.pA 12 1 5 15),ql 17 16,qm 18 17,qg 19 (.aD 7) 18 true,qg 20 (.pA 12 1 6 19) 18 true,qg 21 (.load false 1 20) 18 true,qg 22 (.un .not 21) 18 true,qu 23 (.pick 18 22 (qb false))]) (.cond 23 (.seq (.ai [qu 4 (.aD (qb false))]) .ret) .skip)))) (.ai [qu 24 (.aF .add 12 (qi 1)),qm 12 24]))))))) (.seq (.ai [qu 4 (.aD (qb true))]) .ret))))⟩
namespace Kn
open Tb
theorem l27:bs Tryz.prog Tryz.f27=some c27:=by kernel_rfl
def lS(n k:Nat):List Dt:=(List.range 12).map fun i=>.val (.bool (decide (i<k)&&n.testBit i))
theorem Gu{n k:Nat}(h:k<12)(b:Bool)(hb:b=n.testBit k):((lS n k).map CC.aa).set k (.aa (.val (.bool b)))=(lS n (k+1)).map CC.aa:=by
 subst hb;apply aa7;intro i;rw[aaQ];simp only[lS,abd,aad,List.length_range,aaf];by_cases hi:k=i
 .subst hi;rw[if_pos rfl,if_pos h,abP h];simp
 .rw[if_neg hi];rcases aaq i 12 with h2|h2
  .rw[abP h2];have:(i<k)↔(i<k+1):=om;simp[this]
  .rw[aaG (by simpa using h2)]
   rfl
theorem Wv(n k:Nat):((((n/2^k:Nat):Int).tmod 2)==1)=n.testBit k:=by
 rw[show(2:Int)=((2:Nat):Int)from rfl,<-Int.ofNat_tmod,Nat.testBit,Nat.shiftRight_eq_div_pow];have h:n/2^k%2<2:=Nat.mod_lt _ om;have e:1&&&n/2^k=n/2^k%2:=by rw[Nat.and_comm,Nat.and_one_is_mod]
 rw[e];generalize n/2^k%2=x at h
 match x,h with
 |0,_=>rfl
 |1,_=>rfl
theorem Ww(n k:Nat)(hn:n<=4095):IntKind.i64.wrap (((n/2^k:Nat):Int).tdiv 2)=((n/2^(k+1):Nat):Int):=by
 have e:(((n/2^k:Nat):Int).tdiv 2)=((n/2^(k+1):Nat):Int):=by rw[show(2:Int)=((2:Nat):Int)from rfl,<-Int.ofNat_tdiv,Nat.div_div_eq_div_mul,Nat.pow_succ]
 rw[e];have:n/2^(k+1)<=n:=Nat.div_le_self _ _;exact jN om
def Rl(n:Nat):CV:= .rv (.agg ((lS n 12).map CC.aa))
theorem Ka(n:Nat)(hn:n<=4095):body Tryz.prog c27 [an .i64 n] [] (fun r m=>r=Rl n):=by
 refine oc (fun k=>k<=12) (fun k=>[(5,an .i64 (k:Nat)),(0,an .i64 ((n/2^k:Nat):Int)),(4,.ap),(6,.ap),(7,.ap),(8,.ap),(9,.ap),(10,.ap),(11,.ap),(12,.ap),(13,.ap),(14,.ap),(15,.ap)])
  (fun k=>[.var ((lS 0 0).map CC.aa),.var ((lS n k).map CC.aa)]) (fun k=>12-k) 0 (aao _) ?_ (fun k hk=>?_)
 .refine View.o 2 [0,1] [] ?_ ?_
  .repeat(first|exact .nil|refine .ap ?_|refine .eq rfl ?_|refine .eq (congrArg (fun x:Nat=>an .i64 (x:Int)) (show n/2^0=n by simp)) ?_)
  .refine .put (by simp[bq]) rfl (.fK ?_) (.put (by simp[bq]) rfl (.fK ?_) (.nil _))
   .rfl
   .simp[lS,List.range,List.range.loop]
 .refine aE (fun h=>?_) (fun h=>?_)
  .have aC:k<12:=by have h:(k:Int)<12:=of_decide_eq_true h;omega
   refine ag (bT aC) ?_;have hw:fz ((lS n k).map CC.aa) (0+k*1) [.aa (.val (.bool ((((n/2^k:Nat):Int).tmod 2)==1)))]=some ((lS n (k+1)).map CC.aa):=by
    rw[show 0+k*1=k by omega,vK (by simp[lS];exact aC),Gu aC _ (Wv n k)]
   refine ag hw ?_;refine⟨k+1,aC,?_,View.o 2 [0,1] [] ?_ ?_⟩
   .show 12-(k+1)<12-k;omega
   .repeat(first|exact .nil|refine .ap ?_|refine .put (.aQ (aq om).symm) ?_|refine .eq (congrArg (fun x=>an .i64 x) (Ww n k hn).symm) ?_|refine .eq rfl ?_)
   .exact .put (by simp[bq]) rfl (.fK rfl) (.put (by simp[bq]) rfl (.fK rfl) (.nil _))
  .have ei:k=12:=by have h:¬(k:Int)<12:=of_decide_eq_false h;have:k<=12:=hk;omega
   subst ei;exact rfl
theorem HS(n:Nat)(hn:n<=4095){m:Mem}{K:CV->Mem->Prop}(h:K (Rl n) m):ar Tryz.prog 27 [an .i64 n] m K:=
 bm Tryz.func27 l27 rfl (aak rfl) (Ka n hn) rfl rfl h
theorem l16:bs Tryz.prog Tryz.f16=some c16:=by kernel_rfl
def xl(a b:Nat):Bool:=(List.range 12).all fun k=>!(a.testBit k&& !b.testBit k)
theorem Dw{n k:Nat}(h:k<12):io ((lS n 12).map CC.aa) (0+k*1) 1=some [.aa (.val (.bool (n.testBit k)))]:=by
 rw[show 0+k*1=k by omega]
 apply su;simp only[lS,abd,aaf,abP h];simp[h]
theorem A7(a b:Nat)(ha:a<=4095)(hb:b<=4095):body Tryz.prog c16 [an .i64 a,an .i64 b] [] (fun r m=>r=ay (xl a b)):=by
 refine HS a ha ?_;refine HS b hb ?_;refine oc (fun k=>k<=12/\∀i,i<k->(a.testBit i&& !b.testBit i)=false) (fun k=>[(12,an .i64 (k:Nat)),(7,.ap),(9,.ap),(11,.ap),(13,.ap),(14,.ap),(15,.ap),(16,.ap),(17,.ap),(18,.ap),(19,.ap),(20,.ap),(21,.ap),(22,.ap),(23,.ap),(24,.ap)])
  (fun k=>[.var ((lS a 12).map CC.aa),.var ((lS b 12).map CC.aa)]) (fun k=>12-k) 0 ⟨aao _,fun i h=>absurd h (aaL i)⟩ ?_ (fun k hk=>?_)
 .refine View.o1 2 [0,1] [] ?_
  .exact .put (by simp[bq]) rfl (.fK rfl) (.put (by simp[bq]) rfl (.fK rfl) (.nil _))
 .refine aE (fun h=>?_) (fun h=>?_)
  .have aC:k<12:=by have h:(k:Int)<12:=of_decide_eq_true h;omega
   have fS:(a.testBit k&& !b.testBit k)=true->xl a b=false:=by
    intro h;rw[xl,aci];exact⟨k,by simpa using aC,by simp only[h];decide⟩
   have go:(a.testBit k&& !b.testBit k)=false->∀i,i<k+1->(a.testBit i&& !b.testBit i)=false:=by
    intro h i hi;rcases aaq i k with h5|h5
    .exact hk.2 i h5
    .have:i=k:=om;rw[this];exact h
   refine ag (bT aC) ?_;refine ag (Dw aC) ?_;refine aE (fun h1=>?_) (fun h1=>?_)
   .refine ag (bT aC) ?_;refine ag (Dw aC) ?_;refine aE (fun h2=>?_) (fun h2=>?_)
    .show ay _=ay _;rw[fS (by rw[h1];exact h2)]
    .refine⟨k+1,⟨aC,go (by rw[h1];exact h2)⟩,?_,View.o 2 [0,1] [] ?_ ?_⟩
     .show 12-(k+1)<12-k;omega
     .repeat(first|exact .nil|refine .ap ?_|refine .put (.aQ (aq om).symm) ?_|refine .eq rfl ?_)
     .exact .put (by simp[bq]) rfl (.fK rfl) (.put (by simp[bq]) rfl (.fK rfl) (.nil _))
   .refine⟨k+1,⟨aC,go (by rw[h1];rfl)⟩,?_,View.o 2 [0,1] [] ?_ ?_⟩
    .show 12-(k+1)<12-k;omega
    .repeat(first|exact .nil|refine .ap ?_|refine .put (.aQ (aq om).symm) ?_|refine .eq rfl ?_)
    .exact .put (by simp[bq]) rfl (.fK rfl) (.put (by simp[bq]) rfl (.fK rfl) (.nil _))
  .have ei:k=12:=by have h:¬(k:Int)<12:=of_decide_eq_false h;have:k<=12:=hk.1;omega
   subst ei;show ay _=ay _;have:xl a b=true:=by
    rw[xl,aaW];intro i hi;rw[hk.2 i (by simpa using hi)];rfl
   rw[this]
theorem xm(a b:Nat)(ha:a<=4095)(hb:b<=4095){m:Mem}{K:CV->Mem->Prop}(h:K (ay (xl a b)) m):ar Tryz.prog 16 [an .i64 a,an .i64 b] m K:=
 bm Tryz.func16 l16 rfl (aak rfl) (A7 a b ha hb) rfl rfl h
theorem Gv(a b:Nat)(ha:a<=4095)(hb:b<=4095):xl a b=Tb.d6 a b:=by
 have e1:BitVec.ofInt 64 (a:Int)=BitVec.ofNat 64 a:=aG;have e2:BitVec.ofInt 64 (b:Int)=BitVec.ofNat 64 b:=aG;have hx:∀i,((BitVec.ofNat 64 a&&& ~~~ BitVec.ofNat 64 b).toNat).testBit i=(a.testBit i&& !b.testBit i):=by
  intro i;rw[BitVec.testBit_toNat];rcases aaq i 64 with h|h
  .rw[BitVec.getLsbD_and,BitVec.getLsbD_not,BitVec.getLsbD_ofNat,BitVec.getLsbD_ofNat];simp[h]
  .have:a.testBit i=false:=Nat.testBit_lt_two_pow (aaH (by omega:a<2^12) (Nat.pow_le_pow_right om om))
   simp[this,BitVec.getLsbD_of_ge _ _ h]
 have aaa:(BitVec.ofNat 64 a&&& ~~~ BitVec.ofNat 64 b).toNat<=a:=by rw[BitVec.toNat_and];refine aa0 Nat.and_le_left ?_;simp;omega
 rw[Tb.d6,e1,e2,jN om];cases hs:xl a b
 .rw[xl,aci]at hs;obtain⟨k,_,hk⟩:=hs;have hk:(a.testBit k&& !b.testBit k)=true:=by
   cases h:(a.testBit k&& !b.testBit k)
   .rw[h]at hk;exact absurd rfl hk
   .rfl
  symm;rw[beq_eq_false_iff_ne];intro h0;have h0:(BitVec.ofNat 64 a&&& ~~~ BitVec.ofNat 64 b).toNat=0:=om;have:=hx k;rw[h0,hk]at this;simp at this
 .rw[xl,aaW]at hs;symm;rw[beq_iff_eq];have:(BitVec.ofNat 64 a&&& ~~~ BitVec.ofNat 64 b).toNat=0:=by
   apply Nat.eq_of_testBit_eq;intro i;rw[hx i,Nat.zero_testBit];rcases aaq i 12 with h|h
   .have:=hs i (by simpa using h)
    cases h2:(a.testBit i&& !b.testBit i)
    .rfl
    .rw[h2]at this;cases this
   .have:a.testBit i=false:=Nat.testBit_lt_two_pow (aaH (by omega:a<2^12) (Nat.pow_le_pow_right om h))
    simp[this]
  omega
end Kn
def c7:LF:= ⟨92,[.tmp 4],(.seq (.ai [qu 4 (.aD (qb false))]) (.seq (.seq (.ai [qu 14 (qc 8 []),qu 15 (.un .not 14)]) (.cond 15 (.seq (.ai [qu 4 (.aD (qb false))]) .ret) .skip)) (.seq (.seq (.ai [qm 16 0,qu 17 (qc 9 [16]),qu 18 (.On false 0 1 17),qu 19 (.aF .neq 18 (qi 0))]) (.cond 19 (.seq (.ai [qu 4 (.aD (qb true))]) .ret) .skip)) (.seq (.ai [qu 20 (.qz),qw (.kF (.i .i64) 20 (qi 3) (qi 8)),qw (.kF (.i .i64) 20 (qi 4) (qi 1)),qw (.kF (.i .i64) 20 (qi 5) (qi 2)),qw (.kF (.i .i64) 20 (qi 6) (qi 4)),qw (.kF (.i .i64) 20 (qi 10) (qi 128)),qw (.kF (.i .i64) 20 (qi 11) (qi 64)),qw (.kF (.i .i64) 20 (qi 12) (qi 24)),qw (.kF (.i .i64) 20 (qi 13) (qi 24)),qw (.kF (.i .i64) 20 (qi 14) (qi 40)),qw (.kF (.i .i64) 20 (qi 16) (qi 256)),qw (.kF (.i .i64) 20 (qi 17) (qi 512)),qw (.kF (.i .i64) 20 (qi 20) (qi 2048)),qw (.kF (.i .i64) 20 (qi 21) (qi 1024)),qm 21 20,qm 5 21]) (.seq (.ai [qm 23 0,qm 24 1,qu 25 (qc 10 [23,24]),qm 22 25,qu 26 (.ext 22 0),qu 27 (.ext 22 1),qm 6 26,qm 7 27]) (.seq (.seq (.ai [qm 28 1,qu 29 (.len 1 28),qu 30 (.aD (qi 0))]) (.block 0 (.loop (.seq (.ai [qu 31 (.aF .lss 30 29)]) (.seq (.cond 31 .skip (.exit 0)) (.seq (.block 1 (.seq (.ai [qm 32 30,qu 33 (.bO 9 28 30),qL 34 9 33,qu 9 (.alloc [(qd 0),(qd 0),(qd 0),(qd 0),(qd 0),(qd 0),(qd 0),(.aa (.val (.string ⟨#[]⟩))),.aI]),qm 8 32,qw (.store 9 9 34)]) (.seq (.ai [qm 36 5,qf 37 1 9,ql 38 37,qu 39 (.Bw (.one (qd 0)) (.i .i64) 36 38 true),qm 35 39,qu 40 (.ext 35 0),qu 41 (.ext 35 1),qm 10 40,qm 11 41]) (.seq (.seq (.ai [qm 42 11,qu 43 (.un .not 42),qm 44 43,qg 45 (.aD 7) 44 false,qg 46 (.aD 8) 44 false,qg 47 (.bO 4 45 46) 44 false,qg 48 (.bg 0 47) 44 false,qg 49 (.load false 1 48) 44 false,qg 50 (.aF .neq 49 (qi 0)) 44 false,qu 51 (.pick 44 (qb true) 50)]) (.cond 51 (.exit 1) .skip)) (.seq (.seq (.bQ [qf 52 0 9,ql 53 52,qu 54 (.aF .lss 53 (qi 0)),qm 55 54,qg 56 (.bg 0 9) 55 false,qg 57 (.load false 1 56) 55 false,qg 58 (.aD 6) 55 false,qg 59 (.aD 8) 55 false,qg 60 (.bO 3 58 59) 55 false,qg 61 (.bg 2 60) 55 false,qg 62 (.load false 1 61) 55 false,qg 63 (.len 1 62) 55 false,qg 64 (.aF .geq 57 63) 55 false,qu 65 (.pick 55 (qb true) 64)] [(.cons 0 none (.cons 1 none (.cons 2 none (.cons 3 none (.cons 4 none (.cons 5 none (.cons 6 none (.cons 7 none (.cons 8 none (.cons 9 none (.cons 10 none (.cons 11 none (.cons 12 none (.cons 13 none .nil))))))))))))))]) (.cond 65 (.seq (.ai [qu 4 (.aD (qb false))]) .ret) .skip)) (.seq (.bQ [qm 67 6,qm 68 8,qu 69 (.bO 3 67 68),qf 70 2 69,ql 71 70,qf 72 0 9,ql 73 72,qu 74 (.bO 4 71 73),qf 75 3 74,ql 76 75,qf 77 2 9,ql 78 77,qu 79 (qc 15 [76,78]),qm 66 79,qu 80 (.ext 66 0),qu 81 (.ext 66 1),qu 12 (.alloc [(qd 0),(qd 0)]),qw (.store 2 12 80),qm 13 81] [(.cons 0 none (.cons 1 none (.cons 2 none (.cons 3 none (.cons 4 none (.cons 5 none (.cons 6 none (.cons 7 none (.cons 8 none (.cons 9 none (.cons 10 none (.cons 11 none (.xK (.cons 12 (some []) (.cons 13 none (.cons 14 none (.cons 15 none (.cons 16 (some [11,9,7,6,4,2]) (.cons 17 (some []) (.cons 18 none .nil))))))) (.cons 16 (some [11,9,7,6,4,2]) (.cons 12 (some []) (.cons 13 none (.cons 14 none (.cons 15 none (.cons 17 (some []) (.cons 18 none .nil))))))))))))))))))))]) (.seq (.ai [qm 82 13,qu 83 (.aF .neq 82 (qi 0)),qm 84 83,qg 85 (.aD 10) 84 false,qg 86 (.bg 1 12) 84 false,qg 87 (.load false 1 86) 84 false,qg 88 (qc 16 [85,87]) 84 false,qg 89 (.un .not 88) 84 false,qu 90 (.pick 84 (qb true) 89)]) (.cond 90 (.seq (.ai [qu 4 (.aD (qb false))]) .ret) .skip)))))))) (.ai [qu 91 (.aF .add 30 (qi 1)),qm 30 91]))))))) (.seq (.ai [qu 4 (.aD (qb true))]) .ret)))))))⟩
namespace Kn
theorem l9k:bs Tryz.prog Tryz.f7=some c7.er:=by kernel_rfl
def nE(k v:Int):ME:=⟨.int .i64 k,.one (.aa (.val (.int .i64 v)))⟩
theorem Dx(l:List fH)(fd:Int){m:Mem}{K:CV->Mem->Prop}(h:K (.bF [(Tb.dt (l.map lh) fd).1.rv,cH (Tb.dt (l.map lh) fd).2]) m):ar Tryz.prog 15 [j7 l,an .i64 fd] m K:=by rw[sU];exact Tb.Pb _ fd h
def xn:List (Int×Nat):=[(3,8),(4,1),(5,2),(6,4),(10,128),(11,64),(12,24),(13,24),(14,40),(16,256),(17,512),(20,2048),(21,1024)]
def Wx:List ME:=xn.map fun p=>nE p.1 (p.2:Nat)
def pz(x:Int):List (Int×Nat)->Option Nat
 | []=>none
 |e::r=>if x=e.1 then some e.2 else pz x r
theorem xp(x:Int):∀L:List (Int×Nat),qC (.int .i64 x) (L.map fun p=>nE p.1 (p.2:Nat))=some ((pz x L).map fun(n:Nat)=>.one (.aa (.val (.int .i64 (n:Nat)))))
 | []=>rfl
 |e::r=>by
  have ih:=xp x r;simp only[aaX,qC,nE,qB,decide_true,pz];by_cases h:x=e.1
  .simp[h]
  .rw[if_neg h,<-ih,show(x==e.1)=false by simpa using h];rfl
structure Wy(k:Kr)(c:Cl)(n:Nat):Prop where
 has:∃(p:Nat)(hp:p<k.ps.length)(o:Int)(r:Nat),c.aL=p/\r<=4095/\Tb.dt (k.ps[p].aU.map lh) c.fd=(⟨o,r⟩,0)/\xl n r=true
theorem zr{x:Int}{n:Nat}:∀{L:List (Int×Nat)},pz x L=some n->(x,n)∈L
 | [],h=>by cases h
 |e::r,h=>by
  simp only[pz]at h;split at h
  .rename_i he;cases h;rw[he];exact .head _
  .exact .tail _ (zr h)
theorem HT(x:BitVec 64):BitVec.ofInt 64 (IntKind.i64.wrap (x.toNat:Int))=x:=by
 apply BitVec.eq_of_toNat_eq;have:=x.isLt;simp only[IntKind.wrap,IntKind.signed,IntKind.bits,BitVec.toNat_ofInt];simp only[ack,decide_eq_true_eq];split<;>omega
theorem Gw{a b:Int}:Tb.d6 a b=true↔BitVec.ofInt 64 a&&& ~~~ BitVec.ofInt 64 b=0#64:=by
 unfold Tb.d6;generalize BitVec.ofInt 64 a&&& ~~~ BitVec.ofInt 64 b=x;constructor
 .intro h;have h:IntKind.i64.wrap (x.toNat:Int)=0:=by simpa using h
  have e:=HT x;rw[h]at e;rw[<-e];rfl
 .intro h;rw[h];decide
theorem Gx{k:Kr}(hk:KI k){p:Nat}(hp:p<k.ps.length){fd need:Int}(he:(bu k p fd need).2.2=0):
  ∃(o:Int)(r:Nat),r<=4095/\Tb.dt (k.ps[p].aU.map lh) fd=(⟨o,r⟩,0)/\Tb.d6 need r=true:=by
 obtain⟨n,o,j,x,h1,h2,h3,h4,h5,h6,h7,h8⟩:=hk.bu he;have hs:aT k.ps p=k.ps[p].aU:=by simp[aT,aab hp]
 have hw:(gM (aT k.ps p) fd need).2=0:=by
  unfold Kn.bu at he;split at he
  .exact he
  .rename_i h;exact Decidable.of_not_not h
 have hr:(bu k p fd need).1.2=(Tb.kU (k.ps[p].aU.map lh) fd need).1.cf:=by
  rw[Kn.bu,if_neg (by simp[hw]),gM,hs]
 have hw:(Tb.kU (k.ps[p].aU.map lh) fd need).2=0:=by rw[<-hs];exact hw
 have hg:Tb.kU (k.ps[p].aU.map lh) fd need=Tb.dt (k.ps[p].aU.map lh) fd/\Tb.d6 need (Tb.dt (k.ps[p].aU.map lh) fd).1.cf=true:=by
  unfold Tb.kU at hw⊢;split at hw
  .cases hw
  .rename_i h;rw[if_neg h];refine⟨rfl,?_⟩;cases hb:Tb.d6 need (Tb.dt (k.ps[p].aU.map lh) fd).1.cf with
   |true=>rfl
   |false=>exact absurd ⟨hw,hb⟩ h
 rw[hr,hg.1]at h7 h8;rw[hg.1]at hw;have ur:=hg.2;generalize hG:Tb.dt (k.ps[p].aU.map lh) fd=G at h7 h8 hw ur;obtain⟨⟨go,gr⟩,ge⟩:=G;refine⟨go,gr.toNat,?_,?_,?_⟩
 .have h8:gr<=4095:=h8;omega
 .have h7:0<=gr:=h7;have hw:ge=0:=hw;rw[Int.toNat_of_nonneg h7,hw]
 .have h7:0<=gr:=h7;rw[Int.toNat_of_nonneg h7];exact ur
theorem Rm{x y z:BitVec 64}(h:(x|||y)&&&z=0#64):x&&&z=0#64:=by
 apply BitVec.eq_of_getLsbD_eq;intro i hi;have hb:((x|||y)&&&z).getLsbD i=false:=by rw[h];simp
 rw[BitVec.getLsbD_and,BitVec.getLsbD_or]at hb;rw[BitVec.getLsbD_and];cases hx:x.getLsbD i with
 |false=>simp
 |true=>rw[hx]at hb;simp at hb;simp[hb]
theorem Wz(a b:Int):BitVec.ofInt 64 (Py a b)=BitVec.ofInt 64 a|||BitVec.ofInt 64 b:=by rw[Py,HT]
theorem Qb{c:Cl}{r:Int}(h:Tb.d6 (jP c) r=true):Tb.d6 8 r=true:=by
 rw[Gw]at h⊢;unfold jP at h;split at h<;>split at h
 all_goals
  simp only[Wz]at h;generalize ~~~ BitVec.ofInt 64 r=z at h⊢
 .exact Rm (Rm (Rm h))
 .exact Rm (Rm h)
 .exact Rm (Rm h)
 .exact Rm h
theorem A8{prog:List dB}{k:Kr}{c:Cl}(h:(jj prog k c).2.iL=0):∃p:Nat,c.aL=p/\∃hp:p<k.ps.length,k.ps[p].aV=true/\1<=c.ah/\c.ah<=22/\(gP k p c).2.iL=0/\jj prog k c=(i9 (gP k p c).1,(gP k p c).2):=by
 unfold jj at h⊢;split at h
 .cases h
 rename_i h1;split at h
 .cases h
 rename_i h2;split at h
 .cases h
 rename_i h3;obtain⟨p,hc,hp,hl⟩:=oo (by simpa using h1)
 unfold Om at h⊢;split at h
 .rename_i h4;exact absurd h h4
 rename_i h4;rw[hc,aaw]at h h3 h4;rw[hc]at h1;refine⟨p,hc,hp,hl,om,om,h,?_⟩;rw[hc,if_neg h1,if_neg h2,aaw,if_neg h3,if_neg h4]
theorem HU{x:Int}{n:Nat}(h:pz x xn=some n):n<=4095:=by
 have fl:∀L:List (Int×Nat),(∀p,p∈L->p.2<=4095)->pz x L=some n->n<=4095:=by
  intro L
  induction L with
  |nil=>intro _ h;cases h
  |cons e r ih=>
   intro hL h;simp only[pz]at h;split at h
   .cases h;exact hL e aG
   .exact ih (fun p hp=>hL p (by simp[hp])) h
 exact fl xn (by decide) h
theorem Qc{prog:List dB}{k:Kr}(hk:KI k){c:Cl}{n:Nat}(h:(jj prog k c).2.iL=0)(hn:pz c.ah xn=some n):Wy k c n:=by
 obtain⟨p,hc,hp,hl,-,-,ho,-⟩:=A8 h;have fS:∀need:Int,(bu k p c.fd need).2.2=0->(∀r:Int,Tb.d6 need r=true->Tb.d6 (n:Nat) r=true)->Wy k c n:=by
  intro need he hm;obtain⟨o,r,hr,hg,hw⟩:=Gx hk hp he;exact⟨p,hp,o,r,hc,hr,hg,by rw[Gv n r (HU hn) hr];exact hm _ hw⟩
 have kN:=zr hn;simp only[xn,aaJ,abB,or_false,acG]at kN;unfold gP at ho;rcases kN with⟨e,rfl⟩|⟨e,rfl⟩|⟨e,rfl⟩|⟨e,rfl⟩|⟨e,rfl⟩|⟨e,rfl⟩|⟨e,rfl⟩|⟨e,rfl⟩|⟨e,rfl⟩|⟨e,rfl⟩|⟨e,rfl⟩|⟨e,rfl⟩|⟨e,rfl⟩
 .simp (config:={decide:=true}) only[e,if_true,if_false,or_true,true_or,or_false,false_or,gN]at ho;split at ho
  .cases ho
  .split at ho
   .rename_i hx;exact absurd ho hx
   .rename_i hx;exact fS _ (Decidable.of_not_not hx) fun r hr=>Qb hr
 .simp (config:={decide:=true}) only[e,if_true,if_false,or_true,true_or,or_false,false_or,fZ,jg,lP]at ho;split at ho
  .rename_i hx;exact absurd ho hx
  .rename_i hx;exact fS _ (Decidable.of_not_not hx) fun r hr=>hr
 .simp (config:={decide:=true}) only[e,if_true,if_false,or_true,true_or,or_false,false_or,fZ,jg,lP]at ho;split at ho
  .rename_i hx;exact absurd ho hx
  .rename_i hx;exact fS _ (Decidable.of_not_not hx) fun r hr=>hr
 .simp (config:={decide:=true}) only[e,if_true,if_false,or_true,true_or,or_false,false_or,fZ,jg,lP]at ho;split at ho
  .rename_i hx;exact absurd ho hx
  .rename_i hx;exact fS _ (Decidable.of_not_not hx) fun r hr=>hr
 .simp (config:={decide:=true}) only[e,if_true,if_false,or_true,true_or,or_false,false_or,jh,l7,C0]at ho;split at ho
  .rename_i hx;exact absurd ho hx
  .rename_i hx;exact fS _ (Decidable.of_not_not hx) fun r hr=>hr
 .simp (config:={decide:=true}) only[e,if_true,if_false,or_true,true_or,or_false,false_or,jh,l7,C0]at ho;split at ho
  .rename_i hx;exact absurd ho hx
  .rename_i hx;exact fS _ (Decidable.of_not_not hx) fun r hr=>hr
 .simp (config:={decide:=true}) only[e,if_true,if_false,or_true,true_or,or_false,false_or,iE,JH,ic,rF,An.no]at ho;split at ho
  .rename_i hx;exact absurd ho hx
  .rename_i hx;exact fS _ (Decidable.of_not_not hx) fun r hr=>hr
 .simp (config:={decide:=true}) only[e,if_true,if_false,or_true,true_or,or_false,false_or,iE,JH,ic,rF,An.no]at ho;split at ho
  .rename_i hx;exact absurd ho hx
  .rename_i hx;exact fS _ (Decidable.of_not_not hx) fun r hr=>hr
 .simp (config:={decide:=true}) only[e,if_true,if_false,or_true,true_or,or_false,false_or,iE,JH,ic,rF,An.no]at ho;split at ho
  .rename_i hx;exact absurd ho hx
  .rename_i hx;exact fS _ (Decidable.of_not_not hx) fun r hr=>hr
 .simp (config:={decide:=true}) only[e,if_true,if_false,or_true,true_or,or_false,false_or,k6,wN]at ho;split at ho
  .rename_i hx;exact absurd ho hx
  .rename_i hx;exact fS _ (Decidable.of_not_not hx) fun r hr=>hr
 .simp (config:={decide:=true}) only[e,if_true,if_false,or_true,true_or,or_false,false_or,k7,wO]at ho;split at ho
  .rename_i hx;exact absurd ho hx
  .rename_i hx;exact fS _ (Decidable.of_not_not hx) fun r hr=>hr
 .simp (config:={decide:=true}) only[e,if_true,if_false,or_true,true_or,or_false,false_or,eS,jG]at ho;split at ho
  .rename_i hx;exact absurd ho hx
  .rename_i hx;exact fS _ (Decidable.of_not_not hx) fun r hr=>hr
 .simp (config:={decide:=true}) only[e,if_true,if_false,or_true,true_or,or_false,false_or,eS,jG]at ho;split at ho
  .rename_i hx;exact absurd ho hx
  .rename_i hx;exact fS _ (Decidable.of_not_not hx) fun r hr=>hr
theorem Dy(l:List bU)(cs:List Cl)(dG:rL cs):body Tryz.prog c7 [cS l,p7 cs] [] (fun r m=>r=ay true):=by
 refine nj ?_;refine oX l ?_;refine br (fun hw=>?_) (fun hw=>?_)
 .exact rfl
 have hw:(bX l).1=0:=hw;refine s9 l hw cs dG fun l' hp hr=>?_
 generalize dy l'=prog;refine aO (fun i=>i<=cs.length) [5,6,7,28,29] (fun i=>[(30,an .i64 (i:Nat))]) (fun i=>[.mp Wx]) (fun i=>cs.length-i) 0 (aao _) ?_ (fun i hi=>?_)
 .refine View.o1 1 [0] [] ?_
  .exact .pm rfl rfl rfl
 have hi:i<=cs.length:=hi;have gZ:=dG.l;refine aB (fun h=>?_) (fun h=>?_)
 rotate_left
 .exact rfl
 have aC:i<cs.length:=by have h:(i:Int)<((cs.map Cl.enc).length:Int):=h;rw[aad]at h;omega
 refine ag (xd aC) ?_;have vY:=KI.kS (prog:=prog) (cs.take i) ni;have k1:=xe prog cs (acu aC);have ha:=AZ prog cs aC;have nY:=fun n=>@Qc prog (kS prog bt (cs.take i)) vY cs[i] n
 generalize jj prog (kS prog bt (cs.take i)) cs[i]=D at ha nY;generalize kS prog bt (cs.take i)=k at k1 vY nY;generalize cs[i]=c at nY;refine ag (xp c.ah xn) ?_;cases JN:pz c.ah xn with
 |none=>
  refine⟨i+1,aC,(show cs.length-(i+1)<cs.length-i by omega),View.o 2 [0] [] ?_ ?_⟩
  .repeat(first|exact .nil|refine .ap ?_|refine .put (.aQ (aq om).symm) ?_|refine .eq rfl ?_)
  .exact .pm rfl rfl rfl
 |some n=>
  have nY:=fun h=>nY n h JN
  refine ag ha ?_;refine br (fun hz=>?_) (fun hz=>?_)
  .refine⟨i+1,aC,(show cs.length-(i+1)<cs.length-i by omega),View.o 2 [0] [] ?_ ?_⟩
   .repeat(first|exact .nil|refine .ap ?_|refine .put (.aQ (aq om).symm) ?_|refine .eq rfl ?_)
   .exact .pm rfl rfl rfl
  obtain⟨p,hp,o,r,hc,hr4,hg,hs⟩:=(nY hz).has;refine aB (fun h1=>?_) (fun h1=>?_)
  .have h1:c.aL<0:=h1;omega
  refine ag k1 ?_;refine aB (fun h2=>?_) (fun h2=>?_)
  .have h2:c.aL>=((k.ps.map bi.enc).length:Int):=h2;rw[aad]at h2;omega
  have hq:cy (k.ps.map bi.enc) c.aL=some k.ps[p].enc:=by rw[hc,bl,aaf,aab hp];rfl
  refine ag k1 ?_;refine ag hq ?_;have hn4:n<=4095:=HU JN;refine⟨?_,?_⟩
  .refine Dx k.ps[p].aU c.fd ?_;rw[hg];refine⟨trivial,⟨rfl,rfl,ag hq rfl,rfl,rfl,ag k1 rfl,trivial⟩,trivial,?_⟩;refine xm n r hn4 hr4 ?_;rw[hs];refine⟨i+1,aC,(show cs.length-(i+1)<cs.length-i by omega),View.o 3 [0] [] ?_ ?_⟩
   .repeat(first|exact .nil|refine .ap ?_|refine .put (.aQ (aq om).symm) ?_|refine .eq rfl ?_)
   .exact .pm rfl rfl rfl
  .refine⟨⟨rfl,rfl,ag hq rfl,rfl,rfl,ag k1 rfl,trivial⟩,?_⟩;refine Dx k.ps[p].aU c.fd ?_;rw[hg];refine⟨trivial,trivial,?_⟩;refine xm n r hn4 hr4 ?_;rw[hs];refine⟨i+1,aC,(show cs.length-(i+1)<cs.length-i by omega),View.o 3 [0] [] ?_ ?_⟩
   .repeat(first|exact .nil|refine .ap ?_|refine .put (.aQ (aq om).symm) ?_|refine .eq rfl ?_)
   .exact .pm rfl rfl rfl
theorem Kb(l:List bU)(cs:List Cl)(dG:rL cs):ar Tryz.prog 7 [cS l,p7 cs] [] (fun r _=>r=ay true):=
 js Tryz.func7 l9k rfl (aak rfl) (Dy l cs dG) rfl rfl rfl
end Kn
end Go.Proofs.YtojhmadmlnfpcaaGreatDoor
