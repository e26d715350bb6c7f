/- Part 44 of 43: what the law stands on. -/
import Derived.Test.YthagjdhjmamakaaGreatDoorT16
import Derived.Test.YthagjdhjmamakaaGreatDoorU42
set_option linter.unusedVariables false
set_option linter.unusedSimpArgs false
set_option linter.unnecessarySimpa false
set_option maxRecDepth 100000
set_option maxHeartbeats 64000000
namespace Go.Proofs.YthagjdhjmamakaaGreatDoor
open Go.AM Go.ChangeShapes Go.WideShapes Go.ChangeAt Go.RowKit
def c6:LF:= ⟨88,[.tmp 4],(.seq (.ai [qu 4 (.aD (qb false))]) (.seq (.seq (.ai [qu 11 (qc 8 []),qu 12 (.un .not 11)]) (.cond 12 (.seq (.ai [qu 4 (.aD (qb false))]) .ret) .skip)) (.seq (.seq (.ai [qm 13 0,qu 14 (.len 0 13),qu 15 (.aE .gtr 14 (qi 60)),qm 16 15,qg 17 (.aD 1) 16 false,qg 18 (.aE .lss 17 (qi 0)) 16 false,qu 19 (.pick 16 (qb true) 18),qm 20 19,qg 21 (.aD 1) 20 false,qg 22 (.aE .gtr 21 (qi 70)) 20 false,qu 23 (.pick 20 (qb true) 22)]) (.cond 23 (.seq (.ai [qu 4 (.aD (qb true))]) .ret) .skip)) (.seq (.ai [qu 24 (qc 9 [(.c (.rv (.one (.aa (.val (.string ⟨#[47,102]⟩)))))),(qi 1),(qi 4095)]),qm 25 0,qu 26 (qc 10 [(qi 1),25]),qu 27 (.build [(qd 0),(qd 0),(qd 0),(qd 0),(qd 0),(qd 0),(qd 0),(.aa (.val (.string ⟨#[]⟩))),.aB] [(1,1,(qi 14)),(7,1,(.c (.rv (.one (.aa (.val (.string ⟨#[102]⟩)))))))]),qu 28 (.build [(qd 0),(qd 0),(qd 0),(qd 0),(qd 0),(qd 0),(qd 0),(.aa (.val (.string ⟨#[]⟩))),.aB] [(1,1,(qi 6)),(2,1,(qi 1))]),qu 29 (.build [(qd 0),(qd 0),(qd 0),(qd 0),(qd 0),(qd 0),(qd 0),(.aa (.val (.string ⟨#[]⟩))),.aB] [(1,1,(qi 4)),(2,1,(qi 1)),(4,1,(qi 99))]),qu 30 (.build [(qd 0),(qd 0),(qd 0),(qd 0),(qd 0),(qd 0),(qd 0),(.aa (.val (.string ⟨#[]⟩))),.aB] [(1,1,(qi 7)),(2,1,(qi 1))]),qu 31 (.build [(qd 0),(qd 0),(qd 0),(qd 0),(qd 0),(qd 0),(qd 0),(.aa (.val (.string ⟨#[]⟩))),.aB] [(1,1,(qi 10))]),qu 32 (.lu 9 [(qd 0),(qd 0),(qd 0),(qd 0),(qd 0),(qd 0),(qd 0),(.aa (.val (.string ⟨#[]⟩))),.aB] 7 [(0,24),(1,26),(2,27),(3,28),(4,29),(5,30),(6,31)]),qm 5 32]) (.seq (.seq (.ai [qm 33 1,qu 34 (.aE .quo 33 (qi 3)),qu 35 (.aD (qi 0))]) (.block 0 (.loop (.seq (.ai [qu 36 (.aE .lss 35 34)]) (.seq (.cond 36 .skip (.exit 0)) (.seq (.block 1 (.ai [qm 37 5,qu 38 (qc 9 [(.c (.rv (.one (.aa (.val (.string ⟨#[47,103]⟩)))))),(qi 1),(qi 1)]),qu 39 (.build [(qd 0),(qd 0),(qd 0),(qd 0),(qd 0),(qd 0),(qd 0),(.aa (.val (.string ⟨#[]⟩))),.aB] [(1,1,(qi 14)),(7,1,(.c (.rv (.one (.aa (.val (.string ⟨#[103]⟩)))))))]),qu 40 (.build [(qd 0),(qd 0),(qd 0),(qd 0),(qd 0),(qd 0),(qd 0),(.aa (.val (.string ⟨#[]⟩))),.aB] [(1,1,(qi 7)),(2,1,(qi 1))]),qu 41 (.lu 9 [(qd 0),(qd 0),(qd 0),(qd 0),(qd 0),(qd 0),(qd 0),(.aa (.val (.string ⟨#[]⟩))),.aB] 3 [(0,38),(1,39),(2,40)]),qu 42 (.mY 9 96 37 41),qm 5 42])) (.ai [qu 43 (.aE .add 35 (qi 1)),qm 35 43]))))))) (.seq (.ai [qm 45 5,qu 46 (qc 11 [qe,45]),qm 44 46,qu 47 (.ext 44 0),qu 48 (.ext 44 1),qu 49 (.ext 44 2),qu 6 (.alloc [.aB,.aB,.aB]),qw (.store 3 6 47),qm 7 48,qm 8 49]) (.seq (.seq (.ai [qm 50 8,qu 51 (.aE .neq 50 (qi 0)),qm 52 51,qg 53 (.aD 7) 52 false,qg 54 (.b7 4 53 (qi 4)) 52 false,qg 55 (.bQ 3 54) 52 false,qg 56 (.load false 1 55) 52 false,qg 57 (.Mf 56) 52 false,qg 58 (.aD 0) 52 false,qg 59 (.aE .neq 57 58) 52 false,qu 60 (.pick 52 (qb true) 59),qm 61 60,qg 62 (.aD 7) 61 false,qg 63 (.b7 4 62 (qi 6)) 61 false,qg 64 (.bQ 2 63) 61 false,qg 65 (.load false 1 64) 61 false,qg 66 (.aE .neq 65 (qi 0)) 61 false,qu 67 (.pick 61 (qb true) 66)]) (.cond 67 (.seq (.ai [qu 4 (.aD (qb false))]) .ret) .skip)) (.seq (.seq (.ai [qm 68 7,qu 69 (.len 1 68),qu 70 (.aD (qi 0))]) (.block 2 (.loop (.seq (.ai [qu 71 (.aE .lss 70 69)]) (.seq (.cond 71 .skip (.exit 2)) (.seq (.block 3 (.seq (.ai [qu 72 (.b7 4 68 70),qL 73 4 72,qu 10 (.alloc [(qd 0),(qd 0),(qd 0),.aB]),qw (.store 4 10 73)]) (.seq (.ai [qf 74 0 10,ql 75 74,qu 76 (.aE .neq 75 (qi 0))]) (.cond 76 (.seq (.ai [qu 4 (.aD (qb false))]) .ret) .skip)))) (.ai [qu 77 (.aE .add 70 (qi 1)),qm 70 77]))))))) (.seq (.ai [qf 78 0 6,ql 79 78,qu 80 (.len 1 79),qu 81 (.aE .eql 80 (qi 1)),qm 82 81,qg 83 (.bQ 1 6) 82 true,qg 84 (.load false 1 83) 82 true,qg 85 (.len 1 84) 82 true,qg 86 (.aE .eql 85 (qi 1)) 82 true,qu 87 (.pick 82 86 (qb false)),qm 4 87]) .ret)))))))))⟩
namespace Kn
inductive mX(σ:Nat->Nat)(m:Mem)(Z:Nat->Prop)(p:Option Nat):List CC->List CC->Prop
 |nil:mX σ m Z p [] []
 |cons {c c':CC} {r r':List CC} (h:pj σ m Z p c c') (hr:mX σ m Z p r r'):mX σ m Z p (c::r) (c'::r')
theorem mX.len{σ:Nat->Nat}{m:Mem}{Z:Nat->Prop}{p:Option Nat}{a b:List CC}(h:mX σ m Z p a b):a.length=b.length:=by induction h<;>simp[*]
theorem mX.get{σ:Nat->Nat}{m:Mem}{Z:Nat->Prop}{p:Option Nat}{a b:List CC}(h:mX σ m Z p a b):∀(i:Nat)c d,a[i]? =some c->b[i]? =some d->pj σ m Z p c d:=by
 induction h with
 |nil=>intro i c d h;simp at h
 |cons h hr ih=>
  intro i c d h1 h2;cases i with
  |zero=>simp at h1 h2;subst h1 h2;exact h
  |succ i=>exact ih i c d (by simpa using h1) (by simpa using h2)
theorem mX.Md{σ:Nat->Nat}{m:Mem}{Z:Nat->Prop}{p:Option Nat}:∀ds:List Dt,mX σ m Z p (ds.map .aa) (ds.map .aa)
 | []=>.nil
 |d::r=>.cons (.aP (.aa d)) (mX.Md r)
inductive jZ(σ:Nat->Nat)(m:Mem)(Z:Nat->Prop)(p:Option Nat):List (List CC)->List (List CC)->Prop
 |nil:jZ σ m Z p [] []
 |cons {c c':List CC} {r r':List (List CC)} (h:mX σ m Z p c c') (hr:jZ σ m Z p r r'):jZ σ m Z p (c::r) (c'::r')
theorem jZ.len{σ:Nat->Nat}{m:Mem}{Z:Nat->Prop}{p:Option Nat}{a b:List (List CC)}(h:jZ σ m Z p a b):a.length=b.length:=by induction h<;>simp[*]
theorem jZ.get{σ:Nat->Nat}{m:Mem}{Z:Nat->Prop}{p:Option Nat}{a b:List (List CC)}(h:jZ σ m Z p a b):∀(i:Nat)c d,a[i]? =some c->b[i]? =some d->mX σ m Z p c d:=by
 induction h with
 |nil=>intro i c d h;simp at h
 |cons h hr ih=>
  intro i c d h1 h2;cases i with
  |zero=>simp at h1 h2;subst h1 h2;exact h
  |succ i=>exact ih i c d (by simpa using h1) (by simpa using h2)
theorem jZ.Md{σ:Nat->Nat}{m:Mem}{Z:Nat->Prop}{p:Option Nat}:∀ds:List (List Dt),jZ σ m Z p (af ds) (af ds)
 | []=>.nil
 |d::r=>.cons (.Md d) (jZ.Md r)
theorem jZ.mY{σ:Nat->Nat}{m:Mem}{Z:Nat->Prop}{p:Option Nat}{a b c d:List (List CC)}(h:jZ σ m Z p a b)(g:jZ σ m Z p c d):jZ σ m Z p (a++c) (b++d):=by
 induction h with
 |nil=>exact g
 |cons h _ ih=>exact .cons h ih
theorem jZ.row{σ:Nat->Nat}{m:Mem}{Z:Nat->Prop}{id s:Nat}{a b:List (List CC)}(h:jZ σ m Z (some id) a b):lU σ m Z id (.row s a) (.row s b):=
 .row s h.len (fun i c d h1 h2=>(h.get i c d h1 h2).len) fun i c d j x y h1 h2 h3 h4=>(h.get i c d h1 h2).get j x y h3 h4
theorem lT6:bq Tryz.prog Tryz.f6=some c6.er:=by kernel_rfl
theorem Pw(s:List Int)(hs:s.length<=60)(q:Nat)(hq:q<=23):BR (lT s++iF q)/\(lT s++iF q).length<=80:=by
 have hl:∀n,(iF n).length=3*n:=fun n=>by
  induction n with
  |zero=>rfl
  |succ n ih=>rw[iF,aaw,ih];simp[Iy];omega
 have hr:∀n c,c∈iF n->c.data.length<=4194304:=fun n=>by
  induction n with
  |zero=>intro c hc;cases hc
  |succ n ih=>
   intro c hc;rw[iF]at hc;rcases aaF.1 hc with hc|hc
   .exact ih c hc
   .simp only[Iy,aad,aaS,or_false]at hc;rcases hc with rfl|rfl|rfl<;>simp[BS,U5,U4,rW]
 have h7:(lT s).length=7:=rfl;refine⟨⟨by rw[aaw,hl];omega,fun c hc=>?_⟩,by rw[aaw,hl];omega⟩
 rcases aaF.1 hc with hc|hc
 .simp only[lT,aad,aaS,or_false]at hc;rcases hc with rfl|rfl|rfl|rfl|rfl|rfl|rfl<;>simp[BS,Ps,Gq,U5,k6,U4,rW]<;>omega
 .exact hr q c hc
theorem IC(s:ByteArray)(Ru:s.size<=4194304)(n:Int):body Tryz.prog c6 [dk s,an .i64 n] [] (fun r _=>r=aA true):=by
 refine rY ?_;refine ay (fun h=>rfl) (fun h1=>?_)
 have h1:¬(s.size:Int)>60:=of_decide_eq_false h1;refine ay (fun h=>rfl) (fun h2=>?_)
 have h2:¬n<0:=of_decide_eq_false h2;refine ay (fun h=>rfl) (fun h3=>?_)
 have h3:¬n>70:=of_decide_eq_false h3;obtain⟨a,rfl⟩:∃a:Nat,n=a:=⟨n.toNat,om⟩;have hq:IntKind.i64.wrap ((a:Int).tdiv 3)=((a/3:Nat):Int):=by rw[show(3:Int)=((3:Nat):Int)from rfl,<-Int.ofNat_tdiv];exact gO om
 have YS:a/3<=23:=om;refine nP [47,102] 1 4095 ?_;refine xX 1 s Ru ?_;have hl:(m5 s).length<=60:=by rw[tO];omega
 refine aX (fun i=>i<=a/3) [0,34] (fun i=>[(35,an .i64 (i:Nat)),(5,.rv (.one (.row 0 9 0 none)))]) (fun i=>[.row 9 (af ((lT (m5 s)++iF i).map Cl.enc))]) (fun i=>a/3-i) 0 (XL _) ?_ (fun i hi=>?_)
 .refine View.o1 1 [0] [] ?_
  .refine .pt rfl rfl (jZ.row ?_) (.nil _);rw[iF,aa6];repeat(first|exact jZ.nil|exact mX.nil|refine jZ.cons ?_ ?_|refine mX.cons (.aP (.aa _)) ?_|refine mX.cons (.eu (.aB 1)) ?_)
 have hi:i<=a/3:=hi;refine aJ (fun h=>?_) (fun h=>?_)
 .have aF:i<a/3:=by have h:(i:Int)<IntKind.i64.wrap ((a:Int).tdiv 3):=h;rw[hq]at h;omega
  have hlen:(lT (m5 s)++iF i).length<=80:=(Pw (m5 s) hl i om).2;refine nP [47,103] 1 1 ?_;refine⟨by simp only[ct,af,LW,XR,aat];omega,?_⟩
  refine⟨i+1,aF,(show a/3-(i+1)<a/3-i by omega),View.o 3 [2] [] ?_ ?_⟩
  .repeat(first|exact .nil|refine .aq ?_|refine .put (.aP (aL om).symm) ?_|refine .eq rfl ?_)
  .refine .pt rfl rfl (jZ.row ?_) (.nil _);have hR:af ((lT (m5 s)++iF (i+1)).map Cl.enc)=af ((lT (m5 s)++iF i).map Cl.enc)++af (Iy.map Cl.enc):=by rw[iF,<-abw,aax,cG]
   rw[hR];refine jZ.mY (a:=af ((lT (m5 s)++iF i).map Cl.enc)) (.Md _) ?_;repeat(first|exact jZ.nil|exact mX.nil|refine jZ.cons ?_ ?_|refine mX.cons (.aP (.aa _)) ?_|refine mX.cons (.eu (.aB 1)) ?_)
 .have ko:i=a/3:=by have h:¬(i:Int)<IntKind.i64.wrap ((a:Int).tdiv 3):=h;rw[hq]at h;omega
  subst ko;have gK:=Pw (m5 s) hl (a/3) YS;refine ir (lJ:=[dM [],EN (lT (m5 s)++iF (a/3))]) (m':=[.aZ]) (View.o 1 [0] [0] ?_ (.aZ (.nil _))) ?_
  .exact .put (.rv (.one (.eu (.aB 2)))) (.put (.rv (.one (.eu (dm.d6 (Z:=fun k=>bs [0] k=true) (ds:=(lT (m5 s)++iF (a/3)).map Cl.enc) rfl rfl 0 none)))) .nil)
  refine tN [] (lT (m5 s)++iF (a/3)) gK.1 (fun h=>absurd ET h) (fun _ h=>absurd h om) fun _ _ l' hp hr=>?_
  have eB:=Og (m5 s) hl (a/3);have Jj:(aS P0 bw (lT (m5 s)++iF (a/3))).length<=80:=by rw[EM];exact gK.2
  rw[vN hp,Rt (m5 s) hl (a/3)];rw[Ma (m5 s) hl (a/3)]at eB Jj⊢;generalize aS P0 bw (iF (a/3))=A at eB Jj⊢;have nX:=gw (m5 s);have hE:(!((strOfNums (m5 s)).toList==s.toList))=false:=by
   have h:=oh s 0 (m5 s).length;rw[abe,aak,aan]at h;have h2:s.extract 0 (m5 s).length=s:=by rw[tO];exact ByteArray.extract_zero_size
   rw[h,h2];simp
  unfold U6 at eB Jj⊢;generalize dh (m5 s)=BX at nX eB Jj⊢;refine ag nX ?_;refine sM hE ?_;have h6:dg ((([⟨0,1,0,[]⟩,⟨0,((m5 s).length:Nat),0,[]⟩,An.no 0,An.no 0,⟨0,((m5 s).length:Nat),0,BX⟩,An.no 0,⟨0,2,0,[]⟩]:List An)++A).map An.enc) 6=some (An.enc ⟨0,2,0,[]⟩):=rfl;generalize ([⟨0,1,0,[]⟩,⟨0,((m5 s).length:Nat),0,[]⟩,An.no 0,An.no 0,⟨0,((m5 s).length:Nat),0,BX⟩,An.no 0,⟨0,2,0,[]⟩]:List An)++A=L at eB Jj h6⊢;refine ag h6 ?_;refine aX (fun i=>i<=L.length) [6,68,69] (fun i=>[(70,an .i64 (i:Nat))]) (fun _=>[.aZ,.var ((kC bw.l bw.ops bw.ps).map .aa)]) (fun i=>L.length-i) 0 (XL _) ?_ (fun i hi=>?_)
  .refine View.o1 2 [0,1] [] ?_
   .exact .aZ (.pm rfl rfl rfl)
  have hi:i<=L.length:=hi;refine aJ (fun h=>?_) (fun h=>?_)
  .have aF:i<L.length:=by have h:(i:Int)<((L.map An.enc).length:Int):=h;rw[LW]at h;omega
   have hg:dg (L.map An.enc) (i:Nat)=some (L[i].enc):=by rw[bF,O6,tq aF];rfl
   have h0:=eB L[i] (XP aF);refine ag hg ?_;refine sM (show(L[i].ix !=0)=false by rw[h0];rfl) ?_
   refine⟨i+1,aF,(show L.length-(i+1)<L.length-i by omega),View.o 3 [0,1] [] ?_ ?_⟩
   .repeat(first|exact .nil|refine .aq ?_|refine .put (.aP (aL om).symm) ?_|refine .eq rfl ?_)
   .exact .aZ (.pm rfl rfl rfl)
  .exact rfl
theorem Me(s:ByteArray)(Ru:s.size<=4194304)(n:Int):ar Tryz.prog 6 [dk s,an .i64 n] [] fun r _=>r=aA true:=
 fL Tryz.func6 lT6 rfl (T3 rfl) (IC s Ru n)
end Kn
end Go.Proofs.YthagjdhjmamakaaGreatDoor
