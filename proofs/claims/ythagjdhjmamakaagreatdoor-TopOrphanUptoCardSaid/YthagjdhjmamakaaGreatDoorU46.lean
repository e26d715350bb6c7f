/- Part 46 of 43: what the law stands on. -/
import Derived.Test.YthagjdhjmamakaaGreatDoorT16
import Derived.Test.YthagjdhjmamakaaGreatDoorU44
set_option linter.unusedVariables false
set_option linter.unusedSimpArgs false
set_option linter.unnecessarySimpa false
set_option maxRecDepth 100000
set_option maxHeartbeats 64000000
namespace Go.Proofs.YthagjdhjmamakaaGreatDoor
open Go.AM Go.ChangeShapes Go.WideShapes Go.ChangeAt Go.RowKit
def c7:LF:= ⟨163,[.tmp 6],(.seq (.ai [qu 6 (.aD (qb false))]) (.seq (.seq (.ai [qu 16 (qc 8 []),qu 17 (.un .not 16)]) (.cond 17 (.seq (.ai [qu 6 (.aD (qb false))]) .ret) .skip)) (.seq (.seq (.ai [qm 18 0,qu 19 (.aE .lss 18 (qi 0)),qm 20 19,qg 21 (.aD 0) 20 false,qg 22 (.aE .gtr 21 (qi 5)) 20 false,qu 23 (.pick 20 (qb true) 22),qm 24 23,qg 25 (.aD 2) 24 false,qg 26 (.aE .lss 25 (qi 0)) 24 false,qu 27 (.pick 24 (qb true) 26),qm 28 27,qg 29 (.aD 2) 28 false,qg 30 (.aE .gtr 29 (qi 255)) 28 false,qu 31 (.pick 28 (qb true) 30)]) (.cond 31 (.seq (.ai [qu 6 (.aD (qb true))]) .ret) .skip)) (.seq (.ai [qu 32 (.build [(qd 0),(qd 0),(qd 0),(qd 0),(qd 0),(qd 0),(qd 0),(.aa (.val (.string ⟨#[]⟩))),.aB] [(1,1,(qi 15))]),qu 33 (.build [(qd 0),(qd 0),(qd 0),(qd 0),(qd 0),(qd 0),(qd 0),(.aa (.val (.string ⟨#[]⟩))),.aB] [(1,1,(qi 18))]),qu 34 (.build [(qd 0),(qd 0),(qd 0),(qd 0),(qd 0),(qd 0),(qd 0),(.aa (.val (.string ⟨#[]⟩))),.aB] [(1,1,(qi 7)),(2,1,(qi 2))]),qu 35 (.build [(qd 0),(qd 0),(qd 0),(qd 0),(qd 0),(qd 0),(qd 0),(.aa (.val (.string ⟨#[]⟩))),.aB] [(0,1,(qi 1)),(1,1,(qi 7)),(2,1,(qi 1))]),qu 36 (.build [(qd 0),(qd 0),(qd 0),(qd 0),(qd 0),(qd 0),(qd 0),(.aa (.val (.string ⟨#[]⟩))),.aB] [(1,1,(qi 21)),(2,1,(qi 3))]),qu 37 (.lu 9 [(qd 0),(qd 0),(qd 0),(qd 0),(qd 0),(qd 0),(qd 0),(.aa (.val (.string ⟨#[]⟩))),.aB] 5 [(0,32),(1,33),(2,34),(3,35),(4,36)]),qm 7 37]) (.seq (.seq (.ai [qm 38 1]) (.cond 38 (.ai [qm 39 7,qm 40 2,qu 41 (.build [(qd 0),(qd 0),(qd 0),(qd 0),(qd 0),(qd 0),(qd 0),(.aa (.val (.string ⟨#[]⟩))),.aB] [(0,1,(qi 1)),(1,1,(qi 19)),(4,1,40)]),qu 42 (.build [(qd 0),(qd 0),(qd 0),(qd 0),(qd 0),(qd 0),(qd 0),(.aa (.val (.string ⟨#[]⟩))),.aB] [(1,1,(qi 21)),(2,1,(qi 3))]),qu 43 (.lu 9 [(qd 0),(qd 0),(qd 0),(qd 0),(qd 0),(qd 0),(qd 0),(.aa (.val (.string ⟨#[]⟩))),.aB] 2 [(0,41),(1,42)]),qu 44 (.mY 9 96 39 43),qm 7 44]) .skip)) (.seq (.seq (.ai [qm 45 0,qu 46 (.aD (qi 0))]) (.block 0 (.loop (.seq (.ai [qu 47 (.aE .lss 46 45)]) (.seq (.cond 47 .skip (.exit 0)) (.seq (.block 1 (.ai [qm 48 7,qu 49 (.build [(qd 0),(qd 0),(qd 0),(qd 0),(qd 0),(qd 0),(qd 0),(.aa (.val (.string ⟨#[]⟩))),.aB] [(1,1,(qi 8)),(2,1,(qi 3))]),qu 50 (.lu 9 [(qd 0),(qd 0),(qd 0),(qd 0),(qd 0),(qd 0),(qd 0),(.aa (.val (.string ⟨#[]⟩))),.aB] 1 [(0,49)]),qu 51 (.mY 9 96 48 50),qm 7 51])) (.ai [qu 52 (.aE .add 46 (qi 1)),qm 46 52]))))))) (.seq (.ai [qm 53 7,qu 54 (.len 1 53),qm 8 54]) (.seq (.seq (.ai [qm 55 0,qu 56 (.aE .add 55 (qi 1)),qu 57 (.aD (qi 0))]) (.block 2 (.loop (.seq (.ai [qu 58 (.aE .lss 57 56)]) (.seq (.cond 58 .skip (.exit 2)) (.seq (.block 3 (.seq (.ai [qm 59 57,qm 9 59]) (.seq (.ai [qu 10 (.aD (qi 3))]) (.seq (.seq (.ai [qm 60 9,qu 61 (.aE .gtr 60 (qi 0))]) (.cond 61 (.ai [qu 62 (.lu 1 [(qd 0)] 5 [(0,(qi 2)),(1,(qi 4)),(2,(qi 5)),(3,(qi 6)),(4,(qi 7))]),qm 63 9,qu 64 (.aE .sub 63 (qi 1)),qu 65 (.b7 1 62 64),ql 66 65,qm 10 66]) .skip)) (.ai [qm 67 7,qu 68 (.build [(qd 0),(qd 0),(qd 0),(qd 0),(qd 0),(qd 0),(qd 0),(.aa (.val (.string ⟨#[]⟩))),.aB] [(1,1,(qi 17)),(2,1,(qi 1))]),qm 69 10,qu 70 (.build [(qd 0),(qd 0),(qd 0),(qd 0),(qd 0),(qd 0),(qd 0),(.aa (.val (.string ⟨#[]⟩))),.aB] [(1,1,(qi 7)),(2,1,69)]),qu 71 (.lu 9 [(qd 0),(qd 0),(qd 0),(qd 0),(qd 0),(qd 0),(qd 0),(.aa (.val (.string ⟨#[]⟩))),.aB] 2 [(0,68),(1,70)]),qu 72 (.mY 9 96 67 71),qm 7 72]))))) (.ai [qu 73 (.aE .add 57 (qi 1)),qm 57 73]))))))) (.seq (.ai [qm 74 7,qu 75 (.build [(qd 0),(qd 0),(qd 0),(qd 0),(qd 0),(qd 0),(qd 0),(.aa (.val (.string ⟨#[]⟩))),.aB] [(1,1,(qi 17)),(2,1,(qi 1))]),qu 76 (.build [(qd 0),(qd 0),(qd 0),(qd 0),(qd 0),(qd 0),(qd 0),(.aa (.val (.string ⟨#[]⟩))),.aB] [(0,1,(qi 1)),(1,1,(qi 22))]),qu 77 (.lu 9 [(qd 0),(qd 0),(qd 0),(qd 0),(qd 0),(qd 0),(qd 0),(.aa (.val (.string ⟨#[]⟩))),.aB] 2 [(0,75),(1,76)]),qu 78 (.mY 9 96 74 77),qm 7 78]) (.seq (.ai [qm 80 7,qu 81 (qc 11 [qe,80]),qm 79 81,qu 82 (.ext 79 0),qu 83 (.ext 79 1),qu 84 (.ext 79 2),qu 11 (.alloc [.aB,.aB,.aB]),qw (.store 3 11 82),qm 12 83,qm 13 84]) (.seq (.seq (.ai [qm 85 13,qu 86 (.aE .neq 85 (qi 0)),qm 87 86,qg 88 (.aD 12) 87 false,qg 89 (.b7 4 88 (qi 4)) 87 false,qg 90 (.bQ 0 89) 87 false,qg 91 (.load false 1 90) 87 false,qg 92 (.aE .neq 91 (qi 16)) 87 false,qu 93 (.pick 87 (qb true) 92),qm 94 93,qg 95 (.bQ 2 11) 94 false,qg 96 (.load false 1 95) 94 false,qg 97 (.len 1 96) 94 false,qg 98 (.aE .neq 97 (qi 1)) 94 false,qu 99 (.pick 94 (qb true) 98)]) (.cond 99 (.seq (.ai [qu 6 (.aD (qb false))]) .ret) .skip)) (.seq (.seq (.ai [qm 100 1,qm 101 100,qg 102 (.aD 12) 101 true,qg 103 (.b7 4 102 (qi 6)) 101 true,qg 104 (.bQ 0 103) 101 true,qg 105 (.load false 1 104) 101 true,qg 106 (.aE .neq 105 (qi 0)) 101 true,qg 107 (.aD 106) 101 true,qg 108 (.aD 12) 107 false,qg 109 (.b7 4 108 (qi 6)) 107 false,qg 110 (.bQ 1 109) 107 false,qg 111 (.load false 1 110) 107 false,qg 112 (.aD 2) 107 false,qg 113 (.aE .neq 111 112) 107 false,qg 114 (.pick 107 (qb true) 113) 101 true,qu 115 (.pick 101 114 (qb false))]) (.cond 115 (.seq (.ai [qu 6 (.aD (qb false))]) .ret) .skip)) (.seq (.seq (.ai [qm 116 0,qu 117 (.aE .add 116 (qi 1)),qu 118 (.aD (qi 0))]) (.block 4 (.loop (.seq (.ai [qu 119 (.aE .lss 118 117)]) (.seq (.cond 119 .skip (.exit 4)) (.seq (.block 5 (.seq (.ai [qm 120 118,qm 14 120]) (.seq (.ai [qu 15 (.aD (qi 16))]) (.seq (.seq (.ai [qm 121 1]) (.cond 121 (.ai [qu 15 (.aD (qi 17))]) .skip)) (.seq (.ai [qm 122 12,qm 123 8,qm 124 14,qu 125 (.aE .mul (qi 2) 124),qu 126 (.aE .add 123 125),qu 127 (.b7 4 122 126),qf 128 0 127,ql 129 128,qm 130 15,qu 131 (.aE .neq 129 130),qm 132 131,qg 133 (.aD 12) 132 false,qg 134 (.aD 8) 132 false,qg 135 (.aD 14) 132 false,qg 136 (.aE .mul (qi 2) 135) 132 false,qg 137 (.aE .add 134 136) 132 false,qg 138 (.aE .add 137 (qi 1)) 132 false,qg 139 (.b7 4 133 138) 132 false,qg 140 (.bQ 0 139) 132 false,qg 141 (.load false 1 140) 132 false,qg 142 (.aE .neq 141 (qi 0)) 132 false,qu 143 (.pick 132 (qb true) 142)]) (.cond 143 (.seq (.ai [qu 6 (.aD (qb false))]) .ret) .skip)))))) (.ai [qu 144 (.aE .add 118 (qi 1)),qm 118 144]))))))) (.seq (.ai [qm 145 12,qm 146 12,qu 147 (.len 1 146),qu 148 (.aE .sub 147 (qi 2)),qu 149 (.b7 4 145 148),qf 150 0 149,ql 151 150,qu 152 (.aE .eql 151 (qi 17)),qm 153 152,qg 154 (.aD 12) 153 true,qg 155 (.aD 12) 153 true,qg 156 (.len 1 155) 153 true,qg 157 (.aE .sub 156 (qi 1)) 153 true,qg 158 (.b7 4 154 157) 153 true,qg 159 (.bQ 0 158) 153 true,qg 160 (.load false 1 159) 153 true,qg 161 (.aE .eql 160 (qi 6)) 153 true,qu 162 (.pick 153 161 (qb false)),qm 6 162]) .ret))))))))))))))⟩
namespace Kn
theorem lT7:bq Tryz.prog Tryz.f7=some c7.er:=by kernel_rfl
theorem orH_len:orH.length=5:=rfl
theorem orX_len(code:Int):(orX code).length=2:=rfl
theorem orD_len(n:Nat):(orD n).length=n:=by simp[orD]
def dup3:List Cl:=[{rW with ah:=8,fd:=3}]
theorem orD_succ(n:Nat):orD (n+1)=orD n++dup3:=by rw[orD,orD,List.replicate_succ'];rfl
def rnC(k:Nat):List Cl:=[{rW with ah:=17,fd:=1},{rW with ah:=7,fd:=fdO k}]
def orQ(k:Nat):List Cl:=(List.range k).flatMap rnC
theorem orQ_zero:orQ 0=[]:=rfl
theorem orQ_succ(k:Nat):orQ (k+1)=orQ k++rnC k:=by rw[orQ,List.range_succ,List.flatMap_append];simp[orQ]
theorem orQ_len:∀k,(orQ k).length=2*k
 |0=>rfl
 |k+1=>by rw[orQ_succ,aaw,orQ_len k];simp[rnC];omega
theorem gx.Md{m:Mem}{Z:Nat->Prop}{p:Option Nat}:∀ds:List Dt,gx m Z p (ds.map .aa) ds
 | []=>.nil
 |d::r=>.cons (.aa d) (gx.Md r)
theorem ep.Md{m:Mem}{Z:Nat->Prop}{p:Option Nat}:∀ds:List (List Dt),ep m Z p (af ds) ds
 | []=>.nil
 |d::r=>.cons (gx.Md d) (ep.Md r)
theorem ep.mY{m:Mem}{Z:Nat->Prop}{p:Option Nat}{a c:List (List CC)}{b d:List (List Dt)}(h:ep m Z p a b)(g:ep m Z p c d):ep m Z p (a++c) (b++d):=by
 induction h with
 |nil=>exact g
 |cons h _ ih=>exact .cons h ih
theorem fdO_cl(c:Cl)(h:c∈orE\/c∈orH\/(∃n,c∈orD n)\/(∃n,c∈orQ n)\/∃k,c∈orX k):c.data=[]:=by
 rcases h with h|h|⟨n,h⟩|⟨n,h⟩|⟨n,h⟩
 .simp only[orE,aad,aaS,or_false]at h;rcases h with rfl|rfl<;>rfl
 .simp only[orH,aad,aaS,or_false]at h;rcases h with rfl|rfl|rfl|rfl|rfl<;>rfl
 .rw[(List.mem_replicate.1 h).2];rfl
 .obtain⟨k,_,h⟩:=List.mem_flatMap.1 h;simp only[rnC,aad,aaS,or_false]at h;rcases h with rfl|rfl<;>rfl
 .simp only[orX,aad,aaS,or_false]at h;rcases h with rfl|rfl<;>rfl
theorem or_f(n:Nat)(hn:n<=5):aS P0 bw (orH++orD n++orQ (n+1)++orE)=[⟨0,1,2,[]⟩,⟨0,1,3,[]⟩,An.no 0,An.no 0,An.no 16]++(orDa n++(orW n++orZ))/\(kS P0 bw (orH++orD n++orQ (n+1)++orE)).ps.length=1:=by
 have h:orH++orD n++orQ (n+1)++orE=orH++orT n:=by rw[abw,abw];rfl
 rw[h,EQ,EP,or_h,show kS P0 bw orH=K5 from rfl,(or_t n hn).1];exact⟨rfl,(or_t n hn).2⟩
theorem or_tr(code:Int)(h0:0<=code)(h1:code<=255)(n:Nat)(hn:n<=5):aS P0 bw (orH++orX code++orD n++orQ (n+1)++orE)=[⟨0,1,2,[]⟩,⟨0,1,3,[]⟩,An.no 0,An.no 0,An.no 16,An.no 0,⟨0,code,0,[]⟩]++(orDa n++(orV n++orZ))/\(kS P0 bw (orH++orX code++orD n++orQ (n+1)++orE)).ps.length=1:=by
 have h:orH++orX code++orD n++orQ (n+1)++orE=orH++(orX code++orT n):=by rw[abw,abw,abw];rfl
 have hx:aS P0 K5 (orX code)=[An.no 0,⟨0,code,0,[]⟩]/\kS P0 K5 (orX code)=K6 code:=by
  have e1:=or_x code h0 h1;have e2:=or_w code;constructor
  .show [(iR P0 K5 (exC code)).2,(iR P0 (iR P0 K5 (exC code)).1 waC).2]=_;rw[e1,e2]
  .show(iR P0 (iR P0 K5 (exC code)).1 waC).1=_;rw[e1,e2]
 rw[h,EQ,EP,EQ,EP,or_h,show kS P0 bw orH=K5 from rfl,hx.1,hx.2,(or_tx code n hn).1];exact⟨rfl,(or_tx code n hn).2⟩
end Kn
namespace Kn
theorem orphF_body(n:Int)(code:Int):body Tryz.prog c7 [an .i64 n,aA false,an .i64 code] [] (fun r _=>r=aA true):=by
 refine rY ?_;refine ay (fun h=>rfl) (fun h1=>?_)
 have h1:¬n<0:=of_decide_eq_false h1;refine ay (fun h=>rfl) (fun h2=>?_)
 have h2:¬n>5:=of_decide_eq_false h2;refine ay (fun h=>rfl) (fun h3=>?_)
 have h3:¬code<0:=of_decide_eq_false h3;refine ay (fun h=>rfl) (fun h4=>?_)
 have h4:¬code>255:=of_decide_eq_false h4;obtain⟨a,rfl⟩:∃a:Nat,n=a:=⟨n.toNat,om⟩;have ha:a<=5:=om;have hw:∀i:Nat,i<=5->IntKind.i64.wrap ((i:Int)+1)=((i+1:Nat):Int):=fun i hi=>by
  rw[show((i:Int)+1)=((i+1:Nat):Int) by omega];exact gO om
 .refine aX (fun i=>i<=a) [0,1,2,45] (fun i=>[(46,an .i64 (i:Nat)),(7,.rv (.one (.row 0 9 0 none)))]) (fun i=>[.row 9 (af ((orH++orD i).map Cl.enc))]) (fun i=>a-i) 0 (XL _) ?_ (fun i hi=>?_)
  .refine View.o1 1 [0] [] ?_
   .refine .pt rfl rfl (jZ.row ?_) (.nil _);repeat(first|exact jZ.nil|exact mX.nil|refine jZ.cons ?_ ?_|refine mX.cons (.aP (.aa _)) ?_|refine mX.cons (.eu (.aB 1)) ?_)
  have hi:i<=a:=hi;refine aJ (fun h=>?_) (fun h=>?_)
  .have aF:i<a:=by have h:(i:Int)<(a:Int):=h;omega
   refine⟨by simp only[ct,af,LW,XR,aat,aaw,orH_len,orX_len,orD_len];omega,?_⟩
   refine⟨i+1,aF,(show a-(i+1)<a-i by omega),View.o 3 [2] [] ?_ ?_⟩
   .repeat(first|exact .nil|refine .aq ?_|refine .put (.aP (aL om).symm) ?_|refine .eq rfl ?_)
   .refine .pt rfl rfl (jZ.row ?_) (.nil _);have hR:af ((orH++orD (i+1)).map Cl.enc)=af ((orH++orD i).map Cl.enc)++af (dup3.map Cl.enc):=by rw[orD_succ,<-abw,aax,cG]
    rw[hR];refine jZ.mY (a:=af ((orH++orD i).map Cl.enc)) (.Md _) ?_;repeat(first|exact jZ.nil|exact mX.nil|refine jZ.cons ?_ ?_|refine mX.cons (.aP (.aa _)) ?_|refine mX.cons (.eu (.aB 1)) ?_)
  have ko:i=a:=by have h:¬(i:Int)<(a:Int):=h;omega
  subst ko;refine aX (fun k=>k<=i+1) [0,1,2,8,56] (fun k=>[(57,an .i64 (k:Nat)),(7,.rv (.one (.row 0 9 0 none)))]) (fun k=>[.row 9 (af ((orH++orD i++orQ k).map Cl.enc))]) (fun k=>i+1-k) 0 (XL _) ?_ (fun k hk=>?_)
  .refine View.o1 1 [0] [] ?_
   .rw[orQ_zero,aa6];exact .pn rfl rfl rfl
  have hk:k<=i+1:=hk;have hlQ:(orH++orD i++orQ k).length<=80:=by simp only[aaw,orH_len,orX_len,orD_len,orQ_len];omega
  refine aJ (fun h=>?_) (fun h=>?_)
  .have aF:k<i+1:=by have h:(k:Int)<IntKind.i64.wrap ((i:Int)+1):=h;rw[hw i om]at h;omega
   have hR:af ((orH++orD i++orQ (k+1)).map Cl.enc)=af ((orH++orD i++orQ k).map Cl.enc)++af ((rnC k).map Cl.enc):=by rw[orQ_succ,<-abw,aax,cG]
   refine ay (fun h=>?_) (fun h=>?_)
   .have IG:0<k:=by have h:(k:Int)>0:=of_decide_eq_true h;omega
    have hc:k=1\/k=2\/k=3\/k=4\/k=5:=om;rcases hc with rfl|rfl|rfl|rfl|rfl
    .refine⟨by simp only[ct,af,LW,XR,aat]at*;omega,?_⟩
     refine⟨2,aF,(show i+1-2<i+1-1 by omega),View.o1 4 [3] [] ?_⟩
     .refine .pt rfl rfl (jZ.row ?_) (.nil _);rw[hR];refine jZ.mY (a:=af ((orH++orD i++orQ 1).map Cl.enc)) (.Md _) ?_;repeat(first|exact jZ.nil|exact mX.nil|refine jZ.cons ?_ ?_|refine mX.cons (.aP (.aa _)) ?_|refine mX.cons (.eu (.aB 1)) ?_)
    .refine⟨by simp only[ct,af,LW,XR,aat]at*;omega,?_⟩
     refine⟨3,aF,(show i+1-3<i+1-2 by omega),View.o1 4 [3] [] ?_⟩
     .refine .pt rfl rfl (jZ.row ?_) (.nil _);rw[hR];refine jZ.mY (a:=af ((orH++orD i++orQ 2).map Cl.enc)) (.Md _) ?_;repeat(first|exact jZ.nil|exact mX.nil|refine jZ.cons ?_ ?_|refine mX.cons (.aP (.aa _)) ?_|refine mX.cons (.eu (.aB 1)) ?_)
    .refine⟨by simp only[ct,af,LW,XR,aat]at*;omega,?_⟩
     refine⟨4,aF,(show i+1-4<i+1-3 by omega),View.o1 4 [3] [] ?_⟩
     .refine .pt rfl rfl (jZ.row ?_) (.nil _);rw[hR];refine jZ.mY (a:=af ((orH++orD i++orQ 3).map Cl.enc)) (.Md _) ?_;repeat(first|exact jZ.nil|exact mX.nil|refine jZ.cons ?_ ?_|refine mX.cons (.aP (.aa _)) ?_|refine mX.cons (.eu (.aB 1)) ?_)
    .refine⟨by simp only[ct,af,LW,XR,aat]at*;omega,?_⟩
     refine⟨5,aF,(show i+1-5<i+1-4 by omega),View.o1 4 [3] [] ?_⟩
     .refine .pt rfl rfl (jZ.row ?_) (.nil _);rw[hR];refine jZ.mY (a:=af ((orH++orD i++orQ 4).map Cl.enc)) (.Md _) ?_;repeat(first|exact jZ.nil|exact mX.nil|refine jZ.cons ?_ ?_|refine mX.cons (.aP (.aa _)) ?_|refine mX.cons (.eu (.aB 1)) ?_)
    .refine⟨by simp only[ct,af,LW,XR,aat]at*;omega,?_⟩
     refine⟨6,aF,(show i+1-6<i+1-5 by omega),View.o1 4 [3] [] ?_⟩
     .refine .pt rfl rfl (jZ.row ?_) (.nil _);rw[hR];refine jZ.mY (a:=af ((orH++orD i++orQ 5).map Cl.enc)) (.Md _) ?_;repeat(first|exact jZ.nil|exact mX.nil|refine jZ.cons ?_ ?_|refine mX.cons (.aP (.aa _)) ?_|refine mX.cons (.eu (.aB 1)) ?_)
   .have IG:k=0:=by have h:¬(k:Int)>0:=of_decide_eq_false h;omega
    subst IG;refine⟨by simp only[ct,af,LW,XR,aat];omega,?_⟩
    refine⟨1,aF,(show i+1-1<i+1-0 by omega),View.o1 3 [2] [] ?_⟩
    .refine .pt rfl rfl (jZ.row ?_) (.nil _);rw[hR];refine jZ.mY (a:=af ((orH++orD i++orQ 0).map Cl.enc)) (.Md _) ?_;repeat(first|exact jZ.nil|exact mX.nil|refine jZ.cons ?_ ?_|refine mX.cons (.aP (.aa _)) ?_|refine mX.cons (.eu (.aB 1)) ?_)
  .have yF:k=i+1:=by have h:¬(k:Int)<IntKind.i64.wrap ((i:Int)+1):=h;rw[hw i om]at h;omega
   subst yF;refine⟨by simp only[ct,af,LW,XR,aat]at*;omega,?_⟩
   have hth:=or_f i ha;have gK:BR (orH++orD i++orQ (i+1)++orE)/\(orH++orD i++orQ (i+1)++orE).length<=80:=by
    have hl:(orH++orD i++orQ (i+1)++orE).length<=80:=by simp only[aaw,orH_len,orX_len,orD_len,orQ_len];simp[orE];omega
    refine⟨⟨om,fun c hc=>?_⟩,hl⟩
    have hd:c.data=[]:=by
     refine fdO_cl c ?_;simp only[aaF]at hc;rcases hc with((h|h)|h)|h
     .exact .inr (.inl h)
     .exact .inr (.inr (.inl ⟨_,h⟩))
     .exact .inr (.inr (.inr (.inl ⟨_,h⟩)))
     .exact .inl h
    rw[hd];simp
   refine ir (lJ:=[dM [],EN (orH++orD i++orQ (i+1)++orE)]) (m':=[.aZ,.aZ,.aZ]) (View.o 3 [0,1,2] [2] ?_ (.aZ (.aZ (.aZ (.nil _))))) ?_
   .refine .put (.rv (.one (.eu (.aB 2)))) (.put (.rv (.one (.eu (ep.eu (Z:=fun k=>bs [2] k=true) ?_ rfl rfl)))) .nil)
    rw[show(orH++orD i++orQ (i+1)++orE).map Cl.enc=(orH++orD i++orQ (i+1)).map Cl.enc++orE.map Cl.enc from aax];refine ep.mY (a:=af ((orH++orD i++orQ (i+1)).map Cl.enc)) (ep.Md _) ?_;repeat(first|exact gx.nil|exact ep.nil|refine ep.cons ?_ ?_|refine gx.cons ?_ ?_|exact .aa _|exact .aB 1)
   refine tN [] (orH++orD i++orQ (i+1)++orE) gK.1 (fun h=>absurd ET h) (fun _ h=>absurd h om) fun _ _ l' hp hr=>?_
   rw[vN hp,hth.1];have i4:=hth.2;generalize kS P0 bw (orH++orD i++orQ (i+1)++orE)=k at i4⊢;obtain⟨kl,ko,kp⟩:=k;obtain⟨p,rfl⟩:=List.length_eq_one_iff.mp i4;clear hth gK hlQ;have hc6:i=0\/i=1\/i=2\/i=3\/i=4\/i=5:=om;rcases hc6 with rfl|rfl|rfl|rfl|rfl|rfl
   .refine aX (fun j=>j<=1) [1,8,12,117] (fun j=>[(118,an .i64 (j:Nat))]) (fun _=>[.aZ,.aZ,.aZ,.aZ]) (fun j=>1-j) 0 (XL _) ?_ (fun j hj=>?_)
    .refine View.o 4 [0,1,2,3] [] ?_ (.aZ (.aZ (.aZ (.aZ (.nil _)))));repeat(first|exact .nil|refine .aq ?_|refine .eq rfl ?_)
    have hj:j<=1:=hj;refine aJ (fun h=>?_) (fun h=>rfl)
    have aF:j<1:=by have h:(j:Int)<IntKind.i64.wrap (((0:Nat):Int)+1):=h;rw[hw 0 om]at h;omega
    have hc:j=0:=om;subst hc;refine⟨1,(show 1<=1 by omega),(show 1-1<1-0 by omega),View.o 4 [0,1,2,3] [] ?_ (.aZ (.aZ (.aZ (.aZ (.nil _)))))⟩
    repeat(first|exact .nil|refine .aq ?_|refine .eq rfl ?_)
   .refine aX (fun j=>j<=2) [1,8,12,117] (fun j=>[(118,an .i64 (j:Nat))]) (fun _=>[.aZ,.aZ,.aZ,.aZ]) (fun j=>2-j) 0 (XL _) ?_ (fun j hj=>?_)
    .refine View.o 4 [0,1,2,3] [] ?_ (.aZ (.aZ (.aZ (.aZ (.nil _)))));repeat(first|exact .nil|refine .aq ?_|refine .eq rfl ?_)
    have hj:j<=2:=hj;refine aJ (fun h=>?_) (fun h=>rfl)
    have aF:j<2:=by have h:(j:Int)<IntKind.i64.wrap (((1:Nat):Int)+1):=h;rw[hw 1 om]at h;omega
    have hc:j=0\/j=1:=om;rcases hc with rfl|rfl
    .refine⟨1,(show 1<=2 by omega),(show 2-1<2-0 by omega),View.o 4 [0,1,2,3] [] ?_ (.aZ (.aZ (.aZ (.aZ (.nil _)))))⟩
     repeat(first|exact .nil|refine .aq ?_|refine .eq rfl ?_)
    .refine⟨2,(show 2<=2 by omega),(show 2-2<2-1 by omega),View.o 4 [0,1,2,3] [] ?_ (.aZ (.aZ (.aZ (.aZ (.nil _)))))⟩
     repeat(first|exact .nil|refine .aq ?_|refine .eq rfl ?_)
   .refine aX (fun j=>j<=3) [1,8,12,117] (fun j=>[(118,an .i64 (j:Nat))]) (fun _=>[.aZ,.aZ,.aZ,.aZ]) (fun j=>3-j) 0 (XL _) ?_ (fun j hj=>?_)
    .refine View.o 4 [0,1,2,3] [] ?_ (.aZ (.aZ (.aZ (.aZ (.nil _)))));repeat(first|exact .nil|refine .aq ?_|refine .eq rfl ?_)
    have hj:j<=3:=hj;refine aJ (fun h=>?_) (fun h=>rfl)
    have aF:j<3:=by have h:(j:Int)<IntKind.i64.wrap (((2:Nat):Int)+1):=h;rw[hw 2 om]at h;omega
    have hc:j=0\/j=1\/j=2:=om;rcases hc with rfl|rfl|rfl
    .refine⟨1,(show 1<=3 by omega),(show 3-1<3-0 by omega),View.o 4 [0,1,2,3] [] ?_ (.aZ (.aZ (.aZ (.aZ (.nil _)))))⟩
     repeat(first|exact .nil|refine .aq ?_|refine .eq rfl ?_)
    .refine⟨2,(show 2<=3 by omega),(show 3-2<3-1 by omega),View.o 4 [0,1,2,3] [] ?_ (.aZ (.aZ (.aZ (.aZ (.nil _)))))⟩
     repeat(first|exact .nil|refine .aq ?_|refine .eq rfl ?_)
    .refine⟨3,(show 3<=3 by omega),(show 3-3<3-2 by omega),View.o 4 [0,1,2,3] [] ?_ (.aZ (.aZ (.aZ (.aZ (.nil _)))))⟩
     repeat(first|exact .nil|refine .aq ?_|refine .eq rfl ?_)
   .refine aX (fun j=>j<=4) [1,8,12,117] (fun j=>[(118,an .i64 (j:Nat))]) (fun _=>[.aZ,.aZ,.aZ,.aZ]) (fun j=>4-j) 0 (XL _) ?_ (fun j hj=>?_)
    .refine View.o 4 [0,1,2,3] [] ?_ (.aZ (.aZ (.aZ (.aZ (.nil _)))));repeat(first|exact .nil|refine .aq ?_|refine .eq rfl ?_)
    have hj:j<=4:=hj;refine aJ (fun h=>?_) (fun h=>rfl)
    have aF:j<4:=by have h:(j:Int)<IntKind.i64.wrap (((3:Nat):Int)+1):=h;rw[hw 3 om]at h;omega
    have hc:j=0\/j=1\/j=2\/j=3:=om;rcases hc with rfl|rfl|rfl|rfl
    .refine⟨1,(show 1<=4 by omega),(show 4-1<4-0 by omega),View.o 4 [0,1,2,3] [] ?_ (.aZ (.aZ (.aZ (.aZ (.nil _)))))⟩
     repeat(first|exact .nil|refine .aq ?_|refine .eq rfl ?_)
    .refine⟨2,(show 2<=4 by omega),(show 4-2<4-1 by omega),View.o 4 [0,1,2,3] [] ?_ (.aZ (.aZ (.aZ (.aZ (.nil _)))))⟩
     repeat(first|exact .nil|refine .aq ?_|refine .eq rfl ?_)
    .refine⟨3,(show 3<=4 by omega),(show 4-3<4-2 by omega),View.o 4 [0,1,2,3] [] ?_ (.aZ (.aZ (.aZ (.aZ (.nil _)))))⟩
     repeat(first|exact .nil|refine .aq ?_|refine .eq rfl ?_)
    .refine⟨4,(show 4<=4 by omega),(show 4-4<4-3 by omega),View.o 4 [0,1,2,3] [] ?_ (.aZ (.aZ (.aZ (.aZ (.nil _)))))⟩
     repeat(first|exact .nil|refine .aq ?_|refine .eq rfl ?_)
   .refine aX (fun j=>j<=5) [1,8,12,117] (fun j=>[(118,an .i64 (j:Nat))]) (fun _=>[.aZ,.aZ,.aZ,.aZ]) (fun j=>5-j) 0 (XL _) ?_ (fun j hj=>?_)
    .refine View.o 4 [0,1,2,3] [] ?_ (.aZ (.aZ (.aZ (.aZ (.nil _)))));repeat(first|exact .nil|refine .aq ?_|refine .eq rfl ?_)
    have hj:j<=5:=hj;refine aJ (fun h=>?_) (fun h=>rfl)
    have aF:j<5:=by have h:(j:Int)<IntKind.i64.wrap (((4:Nat):Int)+1):=h;rw[hw 4 om]at h;omega
    have hc:j=0\/j=1\/j=2\/j=3\/j=4:=om;rcases hc with rfl|rfl|rfl|rfl|rfl
    .refine⟨1,(show 1<=5 by omega),(show 5-1<5-0 by omega),View.o 4 [0,1,2,3] [] ?_ (.aZ (.aZ (.aZ (.aZ (.nil _)))))⟩
     repeat(first|exact .nil|refine .aq ?_|refine .eq rfl ?_)
    .refine⟨2,(show 2<=5 by omega),(show 5-2<5-1 by omega),View.o 4 [0,1,2,3] [] ?_ (.aZ (.aZ (.aZ (.aZ (.nil _)))))⟩
     repeat(first|exact .nil|refine .aq ?_|refine .eq rfl ?_)
    .refine⟨3,(show 3<=5 by omega),(show 5-3<5-2 by omega),View.o 4 [0,1,2,3] [] ?_ (.aZ (.aZ (.aZ (.aZ (.nil _)))))⟩
     repeat(first|exact .nil|refine .aq ?_|refine .eq rfl ?_)
    .refine⟨4,(show 4<=5 by omega),(show 5-4<5-3 by omega),View.o 4 [0,1,2,3] [] ?_ (.aZ (.aZ (.aZ (.aZ (.nil _)))))⟩
     repeat(first|exact .nil|refine .aq ?_|refine .eq rfl ?_)
    .refine⟨5,(show 5<=5 by omega),(show 5-5<5-4 by omega),View.o 4 [0,1,2,3] [] ?_ (.aZ (.aZ (.aZ (.aZ (.nil _)))))⟩
     repeat(first|exact .nil|refine .aq ?_|refine .eq rfl ?_)
   .refine aX (fun j=>j<=6) [1,8,12,117] (fun j=>[(118,an .i64 (j:Nat))]) (fun _=>[.aZ,.aZ,.aZ,.aZ]) (fun j=>6-j) 0 (XL _) ?_ (fun j hj=>?_)
    .refine View.o 4 [0,1,2,3] [] ?_ (.aZ (.aZ (.aZ (.aZ (.nil _)))));repeat(first|exact .nil|refine .aq ?_|refine .eq rfl ?_)
    have hj:j<=6:=hj;refine aJ (fun h=>?_) (fun h=>rfl)
    have aF:j<6:=by have h:(j:Int)<IntKind.i64.wrap (((5:Nat):Int)+1):=h;rw[hw 5 om]at h;omega
    have hc:j=0\/j=1\/j=2\/j=3\/j=4\/j=5:=om;rcases hc with rfl|rfl|rfl|rfl|rfl|rfl
    .refine⟨1,(show 1<=6 by omega),(show 6-1<6-0 by omega),View.o 4 [0,1,2,3] [] ?_ (.aZ (.aZ (.aZ (.aZ (.nil _)))))⟩
     repeat(first|exact .nil|refine .aq ?_|refine .eq rfl ?_)
    .refine⟨2,(show 2<=6 by omega),(show 6-2<6-1 by omega),View.o 4 [0,1,2,3] [] ?_ (.aZ (.aZ (.aZ (.aZ (.nil _)))))⟩
     repeat(first|exact .nil|refine .aq ?_|refine .eq rfl ?_)
    .refine⟨3,(show 3<=6 by omega),(show 6-3<6-2 by omega),View.o 4 [0,1,2,3] [] ?_ (.aZ (.aZ (.aZ (.aZ (.nil _)))))⟩
     repeat(first|exact .nil|refine .aq ?_|refine .eq rfl ?_)
    .refine⟨4,(show 4<=6 by omega),(show 6-4<6-3 by omega),View.o 4 [0,1,2,3] [] ?_ (.aZ (.aZ (.aZ (.aZ (.nil _)))))⟩
     repeat(first|exact .nil|refine .aq ?_|refine .eq rfl ?_)
    .refine⟨5,(show 5<=6 by omega),(show 6-5<6-4 by omega),View.o 4 [0,1,2,3] [] ?_ (.aZ (.aZ (.aZ (.aZ (.nil _)))))⟩
     repeat(first|exact .nil|refine .aq ?_|refine .eq rfl ?_)
    .refine⟨6,(show 6<=6 by omega),(show 6-6<6-5 by omega),View.o 4 [0,1,2,3] [] ?_ (.aZ (.aZ (.aZ (.aZ (.nil _)))))⟩
     repeat(first|exact .nil|refine .aq ?_|refine .eq rfl ?_)
end Kn
namespace Kn
theorem orphT_body(n:Int)(code:Int):body Tryz.prog c7 [an .i64 n,aA true,an .i64 code] [] (fun r _=>r=aA true):=by
 refine rY ?_;refine ay (fun h=>rfl) (fun h1=>?_)
 have h1:¬n<0:=of_decide_eq_false h1;refine ay (fun h=>rfl) (fun h2=>?_)
 have h2:¬n>5:=of_decide_eq_false h2;refine ay (fun h=>rfl) (fun h3=>?_)
 have h3:¬code<0:=of_decide_eq_false h3;refine ay (fun h=>rfl) (fun h4=>?_)
 have h4:¬code>255:=of_decide_eq_false h4;obtain⟨a,rfl⟩:∃a:Nat,n=a:=⟨n.toNat,om⟩;have ha:a<=5:=om;have hw:∀i:Nat,i<=5->IntKind.i64.wrap ((i:Int)+1)=((i+1:Nat):Int):=fun i hi=>by
  rw[show((i:Int)+1)=((i+1:Nat):Int) by omega];exact gO om
 .refine⟨by show(5+2)*96<=140737488355328;omega,?_⟩
  refine aX (fun i=>i<=a) [0,1,2,45] (fun i=>[(46,an .i64 (i:Nat)),(7,.rv (.one (.row 0 9 0 none)))]) (fun i=>[.row 9 (af ((orH++orX code++orD i).map Cl.enc))]) (fun i=>a-i) 0 (XL _) ?_ (fun i hi=>?_)
  .refine View.o1 3 [2] [] ?_
   .refine .pt rfl rfl (jZ.row ?_) (.nil _);repeat(first|exact jZ.nil|exact mX.nil|refine jZ.cons ?_ ?_|refine mX.cons (.aP (.aa _)) ?_|refine mX.cons (.eu (.aB 1)) ?_)
  have hi:i<=a:=hi;refine aJ (fun h=>?_) (fun h=>?_)
  .have aF:i<a:=by have h:(i:Int)<(a:Int):=h;omega
   refine⟨by simp only[ct,af,LW,XR,aat,aaw,orH_len,orX_len,orD_len];omega,?_⟩
   refine⟨i+1,aF,(show a-(i+1)<a-i by omega),View.o 3 [2] [] ?_ ?_⟩
   .repeat(first|exact .nil|refine .aq ?_|refine .put (.aP (aL om).symm) ?_|refine .eq rfl ?_)
   .refine .pt rfl rfl (jZ.row ?_) (.nil _);have hR:af ((orH++orX code++orD (i+1)).map Cl.enc)=af ((orH++orX code++orD i).map Cl.enc)++af (dup3.map Cl.enc):=by rw[orD_succ,<-abw,aax,cG]
    rw[hR];refine jZ.mY (a:=af ((orH++orX code++orD i).map Cl.enc)) (.Md _) ?_;repeat(first|exact jZ.nil|exact mX.nil|refine jZ.cons ?_ ?_|refine mX.cons (.aP (.aa _)) ?_|refine mX.cons (.eu (.aB 1)) ?_)
  have ko:i=a:=by have h:¬(i:Int)<(a:Int):=h;omega
  subst ko;refine aX (fun k=>k<=i+1) [0,1,2,8,56] (fun k=>[(57,an .i64 (k:Nat)),(7,.rv (.one (.row 0 9 0 none)))]) (fun k=>[.row 9 (af ((orH++orX code++orD i++orQ k).map Cl.enc))]) (fun k=>i+1-k) 0 (XL _) ?_ (fun k hk=>?_)
  .refine View.o1 1 [0] [] ?_
   .rw[orQ_zero,aa6];exact .pn rfl rfl rfl
  have hk:k<=i+1:=hk;have hlQ:(orH++orX code++orD i++orQ k).length<=80:=by simp only[aaw,orH_len,orX_len,orD_len,orQ_len];omega
  refine aJ (fun h=>?_) (fun h=>?_)
  .have aF:k<i+1:=by have h:(k:Int)<IntKind.i64.wrap ((i:Int)+1):=h;rw[hw i om]at h;omega
   have hR:af ((orH++orX code++orD i++orQ (k+1)).map Cl.enc)=af ((orH++orX code++orD i++orQ k).map Cl.enc)++af ((rnC k).map Cl.enc):=by rw[orQ_succ,<-abw,aax,cG]
   refine ay (fun h=>?_) (fun h=>?_)
   .have IG:0<k:=by have h:(k:Int)>0:=of_decide_eq_true h;omega
    have hc:k=1\/k=2\/k=3\/k=4\/k=5:=om;rcases hc with rfl|rfl|rfl|rfl|rfl
    .refine⟨by simp only[ct,af,LW,XR,aat]at*;omega,?_⟩
     refine⟨2,aF,(show i+1-2<i+1-1 by omega),View.o1 4 [3] [] ?_⟩
     .refine .pt rfl rfl (jZ.row ?_) (.nil _);rw[hR];refine jZ.mY (a:=af ((orH++orX code++orD i++orQ 1).map Cl.enc)) (.Md _) ?_;repeat(first|exact jZ.nil|exact mX.nil|refine jZ.cons ?_ ?_|refine mX.cons (.aP (.aa _)) ?_|refine mX.cons (.eu (.aB 1)) ?_)
    .refine⟨by simp only[ct,af,LW,XR,aat]at*;omega,?_⟩
     refine⟨3,aF,(show i+1-3<i+1-2 by omega),View.o1 4 [3] [] ?_⟩
     .refine .pt rfl rfl (jZ.row ?_) (.nil _);rw[hR];refine jZ.mY (a:=af ((orH++orX code++orD i++orQ 2).map Cl.enc)) (.Md _) ?_;repeat(first|exact jZ.nil|exact mX.nil|refine jZ.cons ?_ ?_|refine mX.cons (.aP (.aa _)) ?_|refine mX.cons (.eu (.aB 1)) ?_)
    .refine⟨by simp only[ct,af,LW,XR,aat]at*;omega,?_⟩
     refine⟨4,aF,(show i+1-4<i+1-3 by omega),View.o1 4 [3] [] ?_⟩
     .refine .pt rfl rfl (jZ.row ?_) (.nil _);rw[hR];refine jZ.mY (a:=af ((orH++orX code++orD i++orQ 3).map Cl.enc)) (.Md _) ?_;repeat(first|exact jZ.nil|exact mX.nil|refine jZ.cons ?_ ?_|refine mX.cons (.aP (.aa _)) ?_|refine mX.cons (.eu (.aB 1)) ?_)
    .refine⟨by simp only[ct,af,LW,XR,aat]at*;omega,?_⟩
     refine⟨5,aF,(show i+1-5<i+1-4 by omega),View.o1 4 [3] [] ?_⟩
     .refine .pt rfl rfl (jZ.row ?_) (.nil _);rw[hR];refine jZ.mY (a:=af ((orH++orX code++orD i++orQ 4).map Cl.enc)) (.Md _) ?_;repeat(first|exact jZ.nil|exact mX.nil|refine jZ.cons ?_ ?_|refine mX.cons (.aP (.aa _)) ?_|refine mX.cons (.eu (.aB 1)) ?_)
    .refine⟨by simp only[ct,af,LW,XR,aat]at*;omega,?_⟩
     refine⟨6,aF,(show i+1-6<i+1-5 by omega),View.o1 4 [3] [] ?_⟩
     .refine .pt rfl rfl (jZ.row ?_) (.nil _);rw[hR];refine jZ.mY (a:=af ((orH++orX code++orD i++orQ 5).map Cl.enc)) (.Md _) ?_;repeat(first|exact jZ.nil|exact mX.nil|refine jZ.cons ?_ ?_|refine mX.cons (.aP (.aa _)) ?_|refine mX.cons (.eu (.aB 1)) ?_)
   .have IG:k=0:=by have h:¬(k:Int)>0:=of_decide_eq_false h;omega
    subst IG;refine⟨by simp only[ct,af,LW,XR,aat];omega,?_⟩
    refine⟨1,aF,(show i+1-1<i+1-0 by omega),View.o1 3 [2] [] ?_⟩
    .refine .pt rfl rfl (jZ.row ?_) (.nil _);rw[hR];refine jZ.mY (a:=af ((orH++orX code++orD i++orQ 0).map Cl.enc)) (.Md _) ?_;repeat(first|exact jZ.nil|exact mX.nil|refine jZ.cons ?_ ?_|refine mX.cons (.aP (.aa _)) ?_|refine mX.cons (.eu (.aB 1)) ?_)
  .have yF:k=i+1:=by have h:¬(k:Int)<IntKind.i64.wrap ((i:Int)+1):=h;rw[hw i om]at h;omega
   subst yF;refine⟨by simp only[ct,af,LW,XR,aat]at*;omega,?_⟩
   have hth:=or_tr code om om i ha;have gK:BR (orH++orX code++orD i++orQ (i+1)++orE)/\(orH++orX code++orD i++orQ (i+1)++orE).length<=80:=by
    have hl:(orH++orX code++orD i++orQ (i+1)++orE).length<=80:=by simp only[aaw,orH_len,orX_len,orD_len,orQ_len];simp[orE];omega
    refine⟨⟨om,fun c hc=>?_⟩,hl⟩
    have hd:c.data=[]:=by
     refine fdO_cl c ?_;simp only[aaF]at hc;rcases hc with(((h|h)|h)|h)|h
     .exact .inr (.inl h)
     .exact .inr (.inr (.inr (.inr ⟨_,h⟩)))
     .exact .inr (.inr (.inl ⟨_,h⟩))
     .exact .inr (.inr (.inr (.inl ⟨_,h⟩)))
     .exact .inl h
    rw[hd];simp
   refine ir (lJ:=[dM [],EN (orH++orX code++orD i++orQ (i+1)++orE)]) (m':=[.aZ,.aZ,.aZ]) (View.o 3 [0,1,2] [2] ?_ (.aZ (.aZ (.aZ (.nil _))))) ?_
   .refine .put (.rv (.one (.eu (.aB 2)))) (.put (.rv (.one (.eu (ep.eu (Z:=fun k=>bs [2] k=true) ?_ rfl rfl)))) .nil)
    rw[show(orH++orX code++orD i++orQ (i+1)++orE).map Cl.enc=(orH++orX code++orD i++orQ (i+1)).map Cl.enc++orE.map Cl.enc from aax];refine ep.mY (a:=af ((orH++orX code++orD i++orQ (i+1)).map Cl.enc)) (ep.Md _) ?_;repeat(first|exact gx.nil|exact ep.nil|refine ep.cons ?_ ?_|refine gx.cons ?_ ?_|exact .aa _|exact .aB 1)
   refine tN [] (orH++orX code++orD i++orQ (i+1)++orE) gK.1 (fun h=>absurd ET h) (fun _ h=>absurd h om) fun _ _ l' hp hr=>?_
   rw[vN hp,hth.1];have i4:=hth.2;generalize kS P0 bw (orH++orX code++orD i++orQ (i+1)++orE)=k at i4⊢;obtain⟨kl,ko,kp⟩:=k;obtain⟨p,rfl⟩:=List.length_eq_one_iff.mp i4;clear hth gK hlQ;have hc6:i=0\/i=1\/i=2\/i=3\/i=4\/i=5:=om;rcases hc6 with rfl|rfl|rfl|rfl|rfl|rfl
   .refine sM (show(code !=code)=false by simp) ?_
    refine aX (fun j=>j<=1) [1,8,12,117] (fun j=>[(118,an .i64 (j:Nat))]) (fun _=>[.aZ,.aZ,.aZ,.aZ]) (fun j=>1-j) 0 (XL _) ?_ (fun j hj=>?_)
    .refine View.o 4 [0,1,2,3] [] ?_ (.aZ (.aZ (.aZ (.aZ (.nil _)))));repeat(first|exact .nil|refine .aq ?_|refine .eq rfl ?_)
    have hj:j<=1:=hj;refine aJ (fun h=>?_) (fun h=>rfl)
    have aF:j<1:=by have h:(j:Int)<IntKind.i64.wrap (((0:Nat):Int)+1):=h;rw[hw 0 om]at h;omega
    have hc:j=0:=om;subst hc;refine⟨1,(show 1<=1 by omega),(show 1-1<1-0 by omega),View.o 4 [0,1,2,3] [] ?_ (.aZ (.aZ (.aZ (.aZ (.nil _)))))⟩
    repeat(first|exact .nil|refine .aq ?_|refine .eq rfl ?_)
   .refine sM (show(code !=code)=false by simp) ?_
    refine aX (fun j=>j<=2) [1,8,12,117] (fun j=>[(118,an .i64 (j:Nat))]) (fun _=>[.aZ,.aZ,.aZ,.aZ]) (fun j=>2-j) 0 (XL _) ?_ (fun j hj=>?_)
    .refine View.o 4 [0,1,2,3] [] ?_ (.aZ (.aZ (.aZ (.aZ (.nil _)))));repeat(first|exact .nil|refine .aq ?_|refine .eq rfl ?_)
    have hj:j<=2:=hj;refine aJ (fun h=>?_) (fun h=>rfl)
    have aF:j<2:=by have h:(j:Int)<IntKind.i64.wrap (((1:Nat):Int)+1):=h;rw[hw 1 om]at h;omega
    have hc:j=0\/j=1:=om;rcases hc with rfl|rfl
    .refine⟨1,(show 1<=2 by omega),(show 2-1<2-0 by omega),View.o 4 [0,1,2,3] [] ?_ (.aZ (.aZ (.aZ (.aZ (.nil _)))))⟩
     repeat(first|exact .nil|refine .aq ?_|refine .eq rfl ?_)
    .refine⟨2,(show 2<=2 by omega),(show 2-2<2-1 by omega),View.o 4 [0,1,2,3] [] ?_ (.aZ (.aZ (.aZ (.aZ (.nil _)))))⟩
     repeat(first|exact .nil|refine .aq ?_|refine .eq rfl ?_)
   .refine sM (show(code !=code)=false by simp) ?_
    refine aX (fun j=>j<=3) [1,8,12,117] (fun j=>[(118,an .i64 (j:Nat))]) (fun _=>[.aZ,.aZ,.aZ,.aZ]) (fun j=>3-j) 0 (XL _) ?_ (fun j hj=>?_)
    .refine View.o 4 [0,1,2,3] [] ?_ (.aZ (.aZ (.aZ (.aZ (.nil _)))));repeat(first|exact .nil|refine .aq ?_|refine .eq rfl ?_)
    have hj:j<=3:=hj;refine aJ (fun h=>?_) (fun h=>rfl)
    have aF:j<3:=by have h:(j:Int)<IntKind.i64.wrap (((2:Nat):Int)+1):=h;rw[hw 2 om]at h;omega
    have hc:j=0\/j=1\/j=2:=om;rcases hc with rfl|rfl|rfl
    .refine⟨1,(show 1<=3 by omega),(show 3-1<3-0 by omega),View.o 4 [0,1,2,3] [] ?_ (.aZ (.aZ (.aZ (.aZ (.nil _)))))⟩
     repeat(first|exact .nil|refine .aq ?_|refine .eq rfl ?_)
    .refine⟨2,(show 2<=3 by omega),(show 3-2<3-1 by omega),View.o 4 [0,1,2,3] [] ?_ (.aZ (.aZ (.aZ (.aZ (.nil _)))))⟩
     repeat(first|exact .nil|refine .aq ?_|refine .eq rfl ?_)
    .refine⟨3,(show 3<=3 by omega),(show 3-3<3-2 by omega),View.o 4 [0,1,2,3] [] ?_ (.aZ (.aZ (.aZ (.aZ (.nil _)))))⟩
     repeat(first|exact .nil|refine .aq ?_|refine .eq rfl ?_)
   .refine sM (show(code !=code)=false by simp) ?_
    refine aX (fun j=>j<=4) [1,8,12,117] (fun j=>[(118,an .i64 (j:Nat))]) (fun _=>[.aZ,.aZ,.aZ,.aZ]) (fun j=>4-j) 0 (XL _) ?_ (fun j hj=>?_)
    .refine View.o 4 [0,1,2,3] [] ?_ (.aZ (.aZ (.aZ (.aZ (.nil _)))));repeat(first|exact .nil|refine .aq ?_|refine .eq rfl ?_)
    have hj:j<=4:=hj;refine aJ (fun h=>?_) (fun h=>rfl)
    have aF:j<4:=by have h:(j:Int)<IntKind.i64.wrap (((3:Nat):Int)+1):=h;rw[hw 3 om]at h;omega
    have hc:j=0\/j=1\/j=2\/j=3:=om;rcases hc with rfl|rfl|rfl|rfl
    .refine⟨1,(show 1<=4 by omega),(show 4-1<4-0 by omega),View.o 4 [0,1,2,3] [] ?_ (.aZ (.aZ (.aZ (.aZ (.nil _)))))⟩
     repeat(first|exact .nil|refine .aq ?_|refine .eq rfl ?_)
    .refine⟨2,(show 2<=4 by omega),(show 4-2<4-1 by omega),View.o 4 [0,1,2,3] [] ?_ (.aZ (.aZ (.aZ (.aZ (.nil _)))))⟩
     repeat(first|exact .nil|refine .aq ?_|refine .eq rfl ?_)
    .refine⟨3,(show 3<=4 by omega),(show 4-3<4-2 by omega),View.o 4 [0,1,2,3] [] ?_ (.aZ (.aZ (.aZ (.aZ (.nil _)))))⟩
     repeat(first|exact .nil|refine .aq ?_|refine .eq rfl ?_)
    .refine⟨4,(show 4<=4 by omega),(show 4-4<4-3 by omega),View.o 4 [0,1,2,3] [] ?_ (.aZ (.aZ (.aZ (.aZ (.nil _)))))⟩
     repeat(first|exact .nil|refine .aq ?_|refine .eq rfl ?_)
   .refine sM (show(code !=code)=false by simp) ?_
    refine aX (fun j=>j<=5) [1,8,12,117] (fun j=>[(118,an .i64 (j:Nat))]) (fun _=>[.aZ,.aZ,.aZ,.aZ]) (fun j=>5-j) 0 (XL _) ?_ (fun j hj=>?_)
    .refine View.o 4 [0,1,2,3] [] ?_ (.aZ (.aZ (.aZ (.aZ (.nil _)))));repeat(first|exact .nil|refine .aq ?_|refine .eq rfl ?_)
    have hj:j<=5:=hj;refine aJ (fun h=>?_) (fun h=>rfl)
    have aF:j<5:=by have h:(j:Int)<IntKind.i64.wrap (((4:Nat):Int)+1):=h;rw[hw 4 om]at h;omega
    have hc:j=0\/j=1\/j=2\/j=3\/j=4:=om;rcases hc with rfl|rfl|rfl|rfl|rfl
    .refine⟨1,(show 1<=5 by omega),(show 5-1<5-0 by omega),View.o 4 [0,1,2,3] [] ?_ (.aZ (.aZ (.aZ (.aZ (.nil _)))))⟩
     repeat(first|exact .nil|refine .aq ?_|refine .eq rfl ?_)
    .refine⟨2,(show 2<=5 by omega),(show 5-2<5-1 by omega),View.o 4 [0,1,2,3] [] ?_ (.aZ (.aZ (.aZ (.aZ (.nil _)))))⟩
     repeat(first|exact .nil|refine .aq ?_|refine .eq rfl ?_)
    .refine⟨3,(show 3<=5 by omega),(show 5-3<5-2 by omega),View.o 4 [0,1,2,3] [] ?_ (.aZ (.aZ (.aZ (.aZ (.nil _)))))⟩
     repeat(first|exact .nil|refine .aq ?_|refine .eq rfl ?_)
    .refine⟨4,(show 4<=5 by omega),(show 5-4<5-3 by omega),View.o 4 [0,1,2,3] [] ?_ (.aZ (.aZ (.aZ (.aZ (.nil _)))))⟩
     repeat(first|exact .nil|refine .aq ?_|refine .eq rfl ?_)
    .refine⟨5,(show 5<=5 by omega),(show 5-5<5-4 by omega),View.o 4 [0,1,2,3] [] ?_ (.aZ (.aZ (.aZ (.aZ (.nil _)))))⟩
     repeat(first|exact .nil|refine .aq ?_|refine .eq rfl ?_)
   .refine sM (show(code !=code)=false by simp) ?_
    refine aX (fun j=>j<=6) [1,8,12,117] (fun j=>[(118,an .i64 (j:Nat))]) (fun _=>[.aZ,.aZ,.aZ,.aZ]) (fun j=>6-j) 0 (XL _) ?_ (fun j hj=>?_)
    .refine View.o 4 [0,1,2,3] [] ?_ (.aZ (.aZ (.aZ (.aZ (.nil _)))));repeat(first|exact .nil|refine .aq ?_|refine .eq rfl ?_)
    have hj:j<=6:=hj;refine aJ (fun h=>?_) (fun h=>rfl)
    have aF:j<6:=by have h:(j:Int)<IntKind.i64.wrap (((5:Nat):Int)+1):=h;rw[hw 5 om]at h;omega
    have hc:j=0\/j=1\/j=2\/j=3\/j=4\/j=5:=om;rcases hc with rfl|rfl|rfl|rfl|rfl|rfl
    .refine⟨1,(show 1<=6 by omega),(show 6-1<6-0 by omega),View.o 4 [0,1,2,3] [] ?_ (.aZ (.aZ (.aZ (.aZ (.nil _)))))⟩
     repeat(first|exact .nil|refine .aq ?_|refine .eq rfl ?_)
    .refine⟨2,(show 2<=6 by omega),(show 6-2<6-1 by omega),View.o 4 [0,1,2,3] [] ?_ (.aZ (.aZ (.aZ (.aZ (.nil _)))))⟩
     repeat(first|exact .nil|refine .aq ?_|refine .eq rfl ?_)
    .refine⟨3,(show 3<=6 by omega),(show 6-3<6-2 by omega),View.o 4 [0,1,2,3] [] ?_ (.aZ (.aZ (.aZ (.aZ (.nil _)))))⟩
     repeat(first|exact .nil|refine .aq ?_|refine .eq rfl ?_)
    .refine⟨4,(show 4<=6 by omega),(show 6-4<6-3 by omega),View.o 4 [0,1,2,3] [] ?_ (.aZ (.aZ (.aZ (.aZ (.nil _)))))⟩
     repeat(first|exact .nil|refine .aq ?_|refine .eq rfl ?_)
    .refine⟨5,(show 5<=6 by omega),(show 6-5<6-4 by omega),View.o 4 [0,1,2,3] [] ?_ (.aZ (.aZ (.aZ (.aZ (.nil _)))))⟩
     repeat(first|exact .nil|refine .aq ?_|refine .eq rfl ?_)
    .refine⟨6,(show 6<=6 by omega),(show 6-6<6-5 by omega),View.o 4 [0,1,2,3] [] ?_ (.aZ (.aZ (.aZ (.aZ (.nil _)))))⟩
     repeat(first|exact .nil|refine .aq ?_|refine .eq rfl ?_)
end Kn
namespace Kn
theorem torphan_ok(n:Int)(x:Bool)(code:Int):ar Tryz.prog 7 [an .i64 n,aA x,an .i64 code] [] fun r _=>r=aA true:=
 fL Tryz.func7 lT7 rfl (T3 rfl) (by
  cases x
  .exact orphF_body n code
  .exact orphT_body n code)
end Kn
end Go.Proofs.YthagjdhjmamakaaGreatDoor
