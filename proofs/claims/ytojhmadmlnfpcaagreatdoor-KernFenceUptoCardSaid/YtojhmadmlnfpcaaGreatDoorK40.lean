/- Part 40 of 43: what the law stands on. -/
import Derived.Test.YtojhmadmlnfpcaaGreatDoorK16
import Derived.Test.YtojhmadmlnfpcaaGreatDoorK37
import Derived.Test.YtojhmadmlnfpcaaGreatDoorK38
import Derived.Test.YtojhmadmlnfpcaaGreatDoorK39
set_option linter.unusedVariables false
set_option linter.unusedSimpArgs false
set_option linter.unnecessarySimpa false
set_option maxRecDepth 100000
set_option maxHeartbeats 64000000
namespace Go.Proofs.YtojhmadmlnfpcaaGreatDoor
open Go.AM Go.ChangeShapes Go.WideShapes Go.ChangeAt Go.RowKit
def c17:LF:= ⟨52,[.cell true 3 4,.tmp 5,.tmp 6],(.seq (.ai [qu 4 (.alloc [.aI,.aI,.aI]),qu 5 (.aD qe),qu 6 (.aD (qi 0))]) (.seq (.ai [qm 16 0,qu 17 (qc 20 [16]),qm 15 17,qu 18 (.ext 15 0),qu 19 (.ext 15 1),qu 8 (.alloc [(qd 0),(qd 0)]),qm 7 18,qw (.store 2 8 19)]) (.seq (.seq (.ai [qf 20 0 8,ql 21 20,qu 22 (.aF .neq 21 (qi 0))]) (.cond 22 (.seq (.bQ [qu 23 (.build [.aI,.aI,.aI] []),qf 24 0 8,ql 25 24,qw (.store 3 4 23),qu 5 (.aD qe),qm 6 25] [(.cons 0 none (.cons 1 none (.cons 2 none (.cons 3 (some [2]) (.cons 4 none (.cons 5 none .nil))))))]) .ret) .skip)) (.seq (.seq (.ai [qm 26 1,qu 27 (.len 1 26),qu 28 (.aF .gtr 27 (qi 80))]) (.cond 28 (.seq (.ai [qu 29 (.build [.aI,.aI,.aI] []),qw (.store 3 4 29),qu 5 (.aD qe),qu 6 (.aD (qi 5))]) .ret) .skip)) (.seq (.ai [qu 30 (qc 28 []),qu 9 (.alloc [.aI,.aI,.aI]),qw (.store 3 9 30)]) (.seq (.ai [qu 10 (.aD qe)]) (.seq (.seq (.ai [qm 31 1,qu 32 (.len 1 31),qu 33 (.aD (qi 0))]) (.block 0 (.loop (.seq (.ai [qu 34 (.aF .lss 33 32)]) (.seq (.cond 34 .skip (.exit 0)) (.seq (.block 1 (.seq (.ai [qu 35 (.bO 9 31 33),qL 36 9 35,qu 12 (.alloc [(qd 0),(qd 0),(qd 0),(qd 0),(qd 0),(qd 0),(qd 0),(.aa (.val (.string ⟨#[]⟩))),.aI]),qw (.store 9 12 36)]) (.seq (.ai [qm 38 7,qL 39 3 9,qL 40 9 12,qu 41 (qc 21 [38,39,40]),qm 37 41,qu 42 (.ext 37 0),qu 43 (.ext 37 1),qu 13 (.alloc [.aI,.aI,.aI]),qu 14 (.alloc [(qd 0),(qd 0),(qd 0),.aI]),qw (.store 3 13 42),qw (.store 4 14 43)]) (.seq (.ai [qL 44 3 13,qw (.store 3 9 44)]) (.ai [qm 45 10,qL 46 4 14,qu 47 (.mh 4 [(qd 0),(qd 0),(qd 0),.aI] 1 [(0,46)]),qu 48 (.nO 4 48 45 47),qm 10 48]))))) (.ai [qu 49 (.aF .add 33 (qi 1)),qm 33 49]))))))) (.seq (.ai [qL 50 3 9,qm 51 10,qw (.store 3 4 50),qm 5 51,qu 6 (.aD (qi 0))]) .ret))))))))⟩
namespace Kn
def kS(prog:List dB)(k:Kr):List Cl->Kr
 | []=>k
 |c::r=>kS prog (jj prog k c).1 r
def aS(prog:List dB)(k:Kr):List Cl->List An
 | []=>[]
 |c::r=>(jj prog k c).2::aS prog (jj prog k c).1 r
def DO(prog:List dB)(k:Kr):List Cl->List Kr
 | []=>[k]
 |c::r=>k::DO prog (jj prog k c).1 r
theorem uY(prog:List dB):∀(k:Kr)(cs:List Cl)(c:Cl),kS prog k (cs++ [c])=(jj prog (kS prog k cs) c).1
 |_,[],_=>rfl
 |k,x::r,c=>uY prog (jj prog k x).1 r c
theorem AW(prog:List dB):∀(k:Kr)(cs:List Cl)(c:Cl),aS prog k (cs++ [c])=aS prog k cs++ [(jj prog (kS prog k cs) c).2]
 |_,[],_=>rfl
 |k,x::r,c=>by show(jj prog k x).2::aS prog (jj prog k x).1 (r++ [c])=_;rw[AW prog (jj prog k x).1 r c];rfl
theorem Dn(prog:List dB):∀(k:Kr)(cs:List Cl)(c:Cl),DO prog k (cs++ [c])=DO prog k cs++ [(jj prog (kS prog k cs) c).1]
 |_,[],_=>rfl
 |k,x::r,c=>by show k::DO prog (jj prog k x).1 (r++ [c])=_;rw[Dn prog (jj prog k x).1 r c];rfl
theorem KI.kS{prog:List dB}:∀{k:Kr}(cs:List Cl),KI k->KI (Kn.kS prog k cs)
 |_,[],h=>h
 |_,c::r,h=>KI.kS r (h.do_ prog c)
theorem AX(prog:List dB):∀(k:Kr)(cs:List Cl),(aS prog k cs).length=cs.length
 |_,[]=>rfl
 |k,c::r=>by simp[aS,AX prog (jj prog k c).1 r]
theorem HN(prog:List dB):∀(k:Kr)(cs:List Cl),(DO prog k cs).length=cs.length+1
 |_,[]=>rfl
 |k,c::r=>by simp[DO,HN prog (jj prog k c).1 r]
theorem ni:KI bt:=by
 have hm:∀o,o∈bt.l->o=gO:=fun o ho=>by simpa[bt]using ho
 have hp:∀x,x∈bt.ps->x=⟨true,false,0,[⟨true,0,4095⟩]⟩:=fun x hx=>by simpa[bt]using hx
 refine⟨by simp[bt],by simp[bt],by simp[bt],w9.sm,w9.sl,w9.ne,fun x hx hl=>?_,fun x hx s hs hh=>?_,fun o ho q hq=>?_,fun o ho h5=>?_,fun o ho=>?_,fun o ho hk=>?_,fun i o ho hk=>?_,fun o ho=>?_,fun o ho=>?_,?_⟩
 .rw[hp x hx]at hl;cases hl
 .rw[hp x hx]at hs;have:s=⟨true,0,4095⟩:=by simpa using hs
  subst this;exact⟨⟨by decide,by decide⟩,0,⟨0,0⟩,rfl,rfl,0,gO,rfl,rfl,by simp[gO]⟩
 .rw[hm o ho]at hq;cases hq
 .rw[hm o ho]at h5;simp[gO]at h5
 .rw[hm o ho];exact⟨rfl,List.Pairwise.nil,fun _=>rfl,fun e he=>by cases he⟩
 .rw[hm o ho]at hk;simp[gO]at hk
 .rw[hm o (aag ho)]at hk;simp[gO]at hk
 .have:o=⟨0,0⟩:=by simpa[bt]using ho
  subst this;exact⟨ab3 _,by show(0:Int)<=64;omega⟩
 .rw[hm o ho];simp[gO]
 .have one:∀(i:Nat)d,(bt.l.map uB)[i]? =some d->i=0/\d=uB gO:=fun i d hd=>by
   match i,hd with
   |0,hd=>cases hd;exact⟨rfl,rfl⟩
   |n+1,hd=>simp[bt]at hd
  refine⟨fun i d hd hz=>?_,⟨uB gO,rfl,rfl,rfl,rfl⟩,fun i d e hd he=>?_,fun i i' d d' e e' hd zK he=>?_,fun i d hd _=>?_,fun i d hd hz=>?_,fun i d hd=>?_,fun i d hd=>?_⟩
  .rw[(one i d hd).2]at hz;simp[uB,gO]at hz
  .rw[(one i d hd).2]at he;cases he
  .rw[(one i d hd).2]at he;cases he
  .rw[(one i d hd).1];exact .au
  .rw[(one i d hd).2]at hz;simp[uB,gO]at hz
  .rw[(one i d hd).2];exact .inr rfl
  .rw[(one i d hd).2,(one i d hd).1];exact .inl rfl
def p7(cs:List Cl):CV:= .rv (.one (.aa (.sl 9 (cs.map Cl.enc))))
def S7(al:List An):Dt:= .sl 4 (al.map An.enc)
def xb(k:Kr)(al:List An)(e:Int):CV:= .bF [iQ k,.one (.aa (S7 al)),cH e]
theorem l17:bs Tryz.prog Tryz.f17=some c17.er:=by kernel_rfl
theorem xd{cs:List Cl}{i:Nat}(h:i<cs.length):cy (cs.map Cl.enc) (i:Nat)=some (cs[i].enc):=by rw[bl,aaf,aab h];rfl
theorem HO{m:Mem}{e:Int}:cJ m (.bF [.agg [.aI,.aI,.aI],.one .aI,cH e]) (xb m9 [] e):=by
 refine .bF rfl fun i r r' h1 h2=>?_
 match i,h1,h2 with
 |0,h1,h2=>cases h1;cases h2;exact gK
 |1,h1,h2=>cases h1;cases h2;exact .one (.aI 4)
 |2,h1,h2=>cases h1;cases h2;exact eP.self rfl
 |n+3,h1,h2=>simp at h1
structure NQ(cs:List Cl):Prop where
 l:cs.length<=1048576
 d:∀c,c∈cs->c.data.length<=4194304
theorem J8(l:List bU)(cs:List Cl)(dG:NQ cs):body Tryz.prog c17 [cS l,p7 cs] []
  (fun r m=>((bX l).1≠0->cJ m r (xb m9 [] (bX l).1))/\((bX l).1=0->cs.length>80->cJ m r (xb m9 [] 5))/\
   ((bX l).1=0->cs.length<=80->∃l',l'.Perm l/\gW l'/\cJ m r (xb (kS (dy l') bt cs) (aS (dy l') bt cs) 0))):=by
 refine HM l (fun hw=>?_) (fun hw l' hp hr=>?_)
 .refine br (fun he=>?_) (fun he=>absurd he hw)
  refine⟨⟨rfl,trivial⟩,?_⟩;exact⟨fun _=>HO,fun h=>absurd h hw,fun h=>absurd h hw⟩
 .generalize Z5:dy l'=prog;refine aB (fun P9=>?_) (fun P9=>?_)
  .have P9:cs.length>80:=by have P9:((cs.map Cl.enc).length:Int)>80:=P9;rw[aad]at P9;omega
   exact⟨fun h=>absurd hw h,fun _ _=>HO,fun _ h=>om⟩
  have P9:cs.length<=80:=by have P9:¬((cs.map Cl.enc).length:Int)>80:=P9;rw[aad]at P9;omega
  refine P8 ?_;refine aO (fun i=>i<=cs.length) [4,7,9,31,32] (fun i=>[(33,an .i64 (i:Nat)),(10,.rv (.one (.row 3 4 0 none)))])
   (fun i=>[.var [.aI,.aI,.aI],.var [.aa (.val (.int .i64 0)),.aa (.val (.int .i64 0))],kB (kS prog bt (cs.take i)),.row 4 (af ((aS prog bt (cs.take i)).map An.enc))]) (fun i=>cs.length-i) 0 (aao _) ?_ (fun i hi=>?_)
  .refine View.trans (View.aI 10 4 3 rfl rfl rfl) (View.o1 4 [0,1,2,3] [] ?_)
   .exact .pe rfl rfl rfl (.pe rfl rfl rfl (.pt rfl rfl (.eq rfl (cR _)) (.pn rfl rfl rfl)))
  have hi:i<=cs.length:=hi;refine aB (fun h=>?_) (fun h=>?_)
  .have aC:i<cs.length:=by have h:(i:Int)<((cs.map Cl.enc).length:Int):=h;rw[aad]at h;omega
   have vY:=KI.kS (prog:=prog) (cs.take i) ni;have ht:cs.take (i+1)=cs.take i++ [cs[i]]:=ph (aab aC);have Kh:=uY prog bt (cs.take i) cs[i];have has:=AW prog bt (cs.take i) cs[i];rw[<-ht]at Kh has;have Qt:(aS prog bt (cs.take i)).length<=80:=by rw[AX,aaz];omega
   refine ag (xd aC) ?_;refine NC prog (kS prog bt (cs.take i)) vY cs[i] (dG.d _ (aau aC)) ?_;generalize jj prog (kS prog bt (cs.take i)) cs[i]=D at Kh has;obtain⟨k2,a2⟩:=D;refine⟨by simp only[cw,af,aad,aax,aaT];omega,?_⟩
   refine⟨i+1,aC,(show cs.length-(i+1)<cs.length-i by omega),View.o 9 [0,1,2,8] [] ?_ ?_⟩
   .repeat(first|exact .nil|refine .ap ?_|refine .put (.aQ (aq om).symm) ?_|refine .eq rfl ?_)
   .rw[Kh,has,aaU];exact .pe rfl rfl rfl (.pe rfl rfl rfl (.pt rfl rfl (.eq rfl (cR _)) (.pt rfl rfl (.bV (cD (List.map An.enc _) (List.map An.enc [_])).symm) (.nil _))))
  .have lA:i=cs.length:=by have h:¬(i:Int)<((cs.map Cl.enc).length:Int):=h;rw[aad]at h;omega
   subst lA;rw[aaO];subst Z5;refine⟨fun h=>absurd hw h,fun _ h=>om,fun _ _=>⟨l',hp,hr,?_⟩⟩
   refine .bF rfl fun i r r' h1 h2=>?_
   match i,h1,h2 with
   |0,h1,h2=>cases h1;cases h2;exact eP.self (Ak (Kn.kS (dy l') bt cs))
   |1,h1,h2=>cases h1;cases h2;exact .one (eI.eE (ds:=(aS (dy l') bt cs).map An.enc) rfl 0 none)
   |2,h1,h2=>cases h1;cases h2;exact eP.self rfl
   |n+3,h1,h2=>simp at h1
theorem HP(l:List bU)(cs:List Cl)(dG:NQ cs){m:Mem}{K:CV->Mem->Prop}(h1:(bX l).1≠0->K (xb m9 [] (bX l).1) m)(h2:(bX l).1=0->cs.length>80->K (xb m9 [] 5) m)(h3:(bX l).1=0->cs.length<=80->∀l',l'.Perm l->gW l'->K (xb (kS (dy l') bt cs) (aS (dy l') bt cs) 0) m):ar Tryz.prog 17 [cS l,p7 cs] m K:=
 bb (cm Tryz.func17 l17 (J8 l cs dG)) (by simp[cS,p7,CV.dx,CC.dx,RV.dx]) fun r m1 hf=>by
  by_cases hw:(bX l).1=0
  .by_cases h8:cs.length<=80
   .obtain⟨l',hp,hr,hf⟩:=hf.2.2 hw h8;exact⟨_,hf,h3 hw h8 l' hp hr⟩
   .exact⟨_,hf.2.1 hw om,h2 hw om⟩
  .exact⟨_,hf.1 hw,h1 hw⟩
end Kn
def c8:LF:= ⟨67,[.tmp 0],(.seq (.ai [qu 0 (.aD (qb false))]) (.seq (.ai [qu 6 (qc 18 []),qu 7 (.build [(qd 0),(qd 0),(qd 0),(qd 0),(qd 0),(qd 0),(qd 0),(.aa (.val (.string ⟨#[]⟩))),.aI] [(1,1,(qi 3)),(7,1,(.c (.rv (.one (.aa (.val (.string ⟨#[102]⟩))))))),(5,1,(qi 1)),(6,1,(qi 7))]),qu 8 (.mh 1 [(.aa (.val (.int .u8 (0))))] 3 [(0,(.c (.rv (.one (.aa (.val (.int .u8 (104)))))))),(1,(.c (.rv (.one (.aa (.val (.int .u8 (101)))))))),(2,(.c (.rv (.one (.aa (.val (.int .u8 (121))))))))]),qu 9 (.TJ 8),qu 10 (.build [(qd 0),(qd 0),(qd 0),(qd 0),(qd 0),(qd 0),(qd 0),(.aa (.val (.string ⟨#[]⟩))),.aI] [(1,1,(qi 5)),(2,1,(qi 1)),(8,1,9)]),qu 11 (.build [(qd 0),(qd 0),(qd 0),(qd 0),(qd 0),(qd 0),(qd 0),(.aa (.val (.string ⟨#[]⟩))),.aI] [(1,1,(qi 6)),(2,1,(qi 1))]),qu 12 (.build [(qd 0),(qd 0),(qd 0),(qd 0),(qd 0),(qd 0),(qd 0),(.aa (.val (.string ⟨#[]⟩))),.aI] [(1,1,(qi 1))]),qu 13 (.build [(qd 0),(qd 0),(qd 0),(qd 0),(qd 0),(qd 0),(qd 0),(.aa (.val (.string ⟨#[]⟩))),.aI] [(1,1,(qi 4)),(2,1,(qi 1)),(4,1,(qi 9))]),qu 14 (.build [(qd 0),(qd 0),(qd 0),(qd 0),(qd 0),(qd 0),(qd 0),(.aa (.val (.string ⟨#[]⟩))),.aI] [(1,1,(qi 2)),(7,1,(.c (.rv (.one (.aa (.val (.string ⟨#[47,102]⟩))))))),(6,1,(qi 1))]),qu 15 (.mh 9 [(qd 0),(qd 0),(qd 0),(qd 0),(qd 0),(qd 0),(qd 0),(.aa (.val (.string ⟨#[]⟩))),.aI] 6 [(0,7),(1,10),(2,11),(3,12),(4,13),(5,14)]),qu 16 (qc 17 [6,15]),qm 5 16,qu 17 (.ext 5 0),qu 18 (.ext 5 1),qu 19 (.ext 5 2),qu 1 (.alloc [.aI,.aI,.aI]),qw (.store 3 1 17),qm 2 18,qm 3 19]) (.seq (.ai [qu 20 (.build [(qd 0),(qd 0),(qd 0),(qd 0),(qd 0),(qd 0),(qd 0),(.aa (.val (.string ⟨#[]⟩))),.aI] [(1,1,(qi 3)),(2,1,(qi (-1)))]),qu 21 (qc 14 [20]),qu 4 (.alloc [(qd 0),(qd 0),(qd 0),(qd 0),(qd 0),(qd 0)]),qw (.store 6 4 21)]) (.cO (.seq (.ai [qm 22 3,qu 23 (.aF .eql 22 (qi 0)),qm 24 23,qg 25 (.aD 2) 24 true,qg 26 (.len 1 25) 24 true,qg 27 (.aF .eql 26 (qi 6)) 24 true,qu 28 (.pick 24 27 (qb false)),qm 29 28,qg 30 (.aD 2) 29 true,qg 31 (.bO 4 30 (qi 0)) 29 true,qg 32 (.bg 1 31) 29 true,qg 33 (.load false 1 32) 29 true,qg 34 (.aF .eql 33 (qi 1)) 29 true,qu 35 (.pick 29 34 (qb false)),qm 36 35,qg 37 (.aD 2) 36 true,qg 38 (.bO 4 37 (qi 4)) 36 true,qg 39 (.bg 3 38) 36 true,qg 40 (.load false 1 39) 36 true,qg 41 (.Kv 40) 36 true,qg 42 (.aF .eql 41 (.c (.rv (.one (.aa (.val (.string ⟨#[104,101,121]⟩))))))) 36 true,qu 43 (.pick 36 42 (qb false)),qm 44 43,qg 45 (.aD 2) 44 true,qg 46 (.bO 4 45 (qi 5)) 44 true,qg 47 (.bg 0 46) 44 true,qg 48 (.load false 1 47) 44 true,qg 49 (.aF .eql 48 (qi 9)) 44 true,qu 50 (.pick 44 49 (qb false)),qm 51 50,qg 52 (.bg 2 1) 51 true,qg 53 (.load false 1 52) 51 true,qg 54 (.len 1 53) 51 true,qg 55 (.aF .eql 54 (qi 1)) 51 true,qu 56 (.pick 51 55 (qb false)),qm 57 56,qg 58 (.pA 6 1 4 (qi 0)) 57 true,qg 59 (.load false 1 58) 57 true,qg 60 (.aF .eql 59 (qi 3)) 57 true,qu 61 (.pick 57 60 (qb false)),qm 62 61,qg 63 (.pA 6 1 4 (qi 1)) 62 true,qg 64 (.load false 1 63) 62 true,qg 65 (.aF .eql 64 (qi 2147483647)) 62 true,qu 66 (.pick 62 65 (qb false)),qm 0 66]) .ret)))))⟩
def c18:LF:= ⟨13,[.tmp 0],(.seq (.ai [qu 0 (.aD qe)]) (.seq (.ai [qu 1 (.aD qe)]) (.seq (.seq (.ai [qu 2 (.aD (qi 1))]) (.block 0 (.loop (.seq (.seq (.ai [qm 3 2,qu 4 (.aF .leq 3 (qi 22))]) (.cond 4 .skip (.exit 0))) (.seq (.block 1 (.ai [qm 7 1,qm 8 2,qu 9 (.build [(qd 0),.aI] [(0,1,8)]),qu 10 (.mh 2 [(qd 0),.aI] 1 [(0,9)]),qu 11 (.nO 2 32 7 10),qm 1 11])) (.ai [qm 5 2,qu 6 (.aF .add 5 (qi 1)),qm 2 6])))))) (.seq (.ai [qm 12 1,qm 0 12]) .ret))))⟩
namespace Kn
def x9:List bU:=(List.range 22).map fun(i:Nat)=>⟨(i:Int)+1,[]⟩
def S8:Cl:=⟨0,0,0,0,0,0,0,[],[]⟩
def J9:List Cl:=[{S8 with ah:=3,cA:=[102],bx:=1,a8:=7},{S8 with ah:=5,fd:=1,data:=[104,101,121]},{S8 with ah:=6,fd:=1},{S8 with ah:=1},{S8 with ah:=4,fd:=1,n:=9},{S8 with ah:=2,cA:=[47,102],a8:=1}]
def Z6:List An:=[⟨0,1,0,[]⟩,⟨0,3,0,[]⟩,An.no 0,An.no 0,⟨0,3,0,fM [104,101,121]⟩,An.no 9]
theorem Z7:aS (dy x9) bt J9=Z6:=by kernel_rfl
theorem S9:(bX x9).1=0:=by kernel_rfl
theorem NR{l:List bU}(hp:l.Perm x9)(hr:gW l):l=x9:=by
 refine List.Perm.eq_of_pairwise (le:=fun(a b:bU)=>a.call<b.call) (fun a b _ _ h1 h2=>by exfalso;have h1:a.call<b.call:=h1;have h2:b.call<a.call:=h2;omega) hr ?_ hp
 decide
theorem l18:bs Tryz.prog Tryz.f18=some c18.er:=by kernel_rfl
def Rk(n:Nat):List bU:=(List.range n).map fun(i:Nat)=>⟨(i:Int)+1,[]⟩
theorem Qa{σ:Nat->Nat}{m:Mem}{Z:Nat->Prop}{id:Nat}(R:List bU)(k:Int){es:List (List CC)}(h:es=af (R.map bU.enc)):
  mZ σ m Z id (.row 2 (es++ [[.aa (.val (.int .i64 k)),.aI]])) (.row 2 (af ((R++ [(⟨k,[]⟩:bU)]).map bU.enc))):=by
 rw[h,aaU,cD];refine mZ.EG (s:=2) (by rw[af,abd];exact abA fun x _=>by simp[CC.aQ]) rfl fun j c c' h1 h2=>?_
 match j,h1,h2 with
 |0,h1,h2=>cases h1;cases h2;exact .aQ (.aa _)
 |1,h1,h2=>cases h1;cases h2;exact .fv (.aI 2)
 |n+2,h1,h2=>simp at h1
theorem NS:body Tryz.prog c18 [] [] (fun r m=>cJ m r (cS x9)):=by
 refine aO (fun i=>i<=22) [] (fun i=>[(2,an .i64 ((i:Nat)+1)),(1,.rv (.one (.row 0 2 0 none)))]) (fun i=>[.row 2 (af ((Rk i).map bU.enc))]) (fun i=>22-i) 0 (aao _) ?_ (fun i hi=>?_)
 .refine View.trans (View.aI 1 2 0 rfl rfl rfl) (View.o1 1 [0] [] ?_)
  .exact .pt rfl rfl (.eq rfl (by simp[Rk,af])) (.nil _)
 have hi:i<=22:=hi;refine aB (fun h=>?_) (fun h=>?_)
 .have aC:i<22:=by have h:((i:Int)+1)<=22:=h;omega
  refine⟨by simp only[cw,Rk,af,aad,List.length_range,aax,aaT];omega,?_⟩
  refine⟨i+1,aC,(show 22-(i+1)<22-i by omega),View.o 3 [2] [] ?_ ?_⟩
  .repeat(first|exact .nil|refine .ap ?_|refine .put (.aQ (aq (k:=i+1) om).symm) ?_|refine .eq rfl ?_)
  .rw[show Rk (i+1)=Rk i++ [⟨(i:Int)+1,[]⟩] by simp[Rk,List.range_succ]]
   exact .pt rfl rfl (Qa (Rk i) _ rfl) (.nil _)
 .have lA:i=22:=by have h:¬((i:Int)+1)<=22:=h;omega
  subst lA;exact cJ.rv (.one (eI.eE (ds:=(Rk 22).map bU.enc) rfl 0 none))
theorem NT{m:Mem}{K:CV->Mem->Prop}(h:K (cS x9) m):ar Tryz.prog 18 [] m K:=
 bb (cm Tryz.func18 l18 NS) aG fun r m1 hf=>⟨_,hf,h⟩
theorem l8:bs Tryz.prog Tryz.f8=some c8.er:=by kernel_rfl
def clR:Cl:={S8 with ah:=3,fd:= -1}
theorem Z8:NQ J9:=⟨by decide,by decide⟩
theorem k25:(kS (dy x9) bt J9).ps.length=1:=by kernel_rfl
def G25:LC:=pj (bK (bK (bK c8.code)))
def asX(X:List (List Dt)):List An:=[⟨0,1,0,[]⟩,⟨0,3,0,[]⟩,An.no 0,An.no 0,⟨0,3,0,X⟩,An.no 9]
theorem Wt(kl:List Obj)(ko:List bG)(p:bi)(X:List (List Dt))(s:ByteArray)(hn:∃xs,tz (X.map fun ds=>ds.map CC.aa)=some xs/\strOfNums xs=s)(c:ByteArray)(hc:c=ByteArray.mk #[104,101,121])(hx:(s.toList==c.toList)=true):aw Tryz.prog 0 G25 (nG Tryz.prog c8.lj (fun r m=>r=ay true))
  ⟨mg 67 [(1,.rv (.one (.ptr 0 0))),(2,.rv (.one (.aa (S7 (asX X))))),(3,an .i64 0),(4,.rv (.one (.ptr 1 0)))],[.var ((kC kl ko [p]).map .aa),.var [.aa (.val (.int .i64 3)),.aa (.val (.int .i64 2147483647)),.aa (.val (.int .i64 0)),.aa (.val (.int .i64 0)),.aa (.val (.int .i64 0)),.aa (.val (.int .i64 0))]]⟩:=by
 obtain⟨xs,hn,hs⟩:=hn;refine ag hn ?_;refine cF (t:=((strOfNums xs).toList==(ByteArray.mk #[104,101,121]).toList)) (by rw[hs,<-hc];exact hx) ?_
 exact rfl
theorem Z9:((strOfNums [104,101,121]).toList==(ByteArray.mk #[104,101,121]).toList)=true:=by decide+kernel
theorem AY:body Tryz.prog c8 [] [] (fun r m=>r=ay true):=by
 refine NT ?_;refine mA (lK:=[cS x9,p7 J9]) (m':=[.bh,.bh]) (View.o 2 [0,1] [0,1] ?_ (.bh (.bh (.nil _)))) ?_
 .refine .eq rfl (.put (.rv (.one (.fv (gv.fv (Z:=fun k=>bq [0,1] k=true) ?_ rfl rfl)))) .nil)
  repeat(first|exact jO.nil|exact gv.nil|refine gv.cons ?_ ?_|refine jO.cons ?_ ?_|exact .aa _|exact .aI 1|exact dP.eE (Z:=fun k=>bq [0,1] k=true) (ds:=fM [104,101,121]) rfl rfl 0 none)
 refine HP x9 J9 Z8 (fun h=>absurd S9 h) (fun _ h=>absurd h (by decide)) fun _ _ l' hp hr=>?_
 rw[NR hp hr,Z7];have hk:=k25;generalize kS (dy x9) bt J9=k at hk;refine mA (lK:=[clR.cv]) (m':=[.bh,.bh,.var ((kC k.l k.ops k.ps).map .aa)]) (View.o 3 [0,1,2] [] ?_ (.bh (.bh (.pt rfl rfl (.fK rfl) (.nil _))))) ?_
 .refine .put (pw.agg ?_) .nil;repeat(first|exact .nil|refine .cons (.aQ (.aa _)) ?_|refine .cons (.fv (.aI 1)) ?_)
 refine ta clR ?_;obtain⟨kl,ko,kp⟩:=k;obtain⟨p,rfl⟩:=List.length_eq_one_iff.mp hk;have eO:=Wt kl ko p (fM [104,101,121]) (strOfNums [104,101,121]) ⟨[104,101,121],rfl,rfl⟩ (ByteArray.mk #[104,101,121]) rfl Z9;refine⟨_,View.o1 4 [2,3] [] ?_,eO⟩
 .exact .pe rfl rfl rfl (.pm rfl rfl rfl)
theorem nj{m:Mem}{K:CV->Mem->Prop}(h:K (ay true) m):ar Tryz.prog 8 [] m K:=
 js Tryz.func8 l8 rfl (aak rfl) AY rfl rfl h
end Kn
def c10:LF:= ⟨55,[.tmp 4,.tmp 5],(.seq (.ai [qu 4 (.aD qe),qu 5 (.aD qe)]) (.seq (.ai [qm 18 0,qu 19 (qc 20 [18]),qm 17 19,qu 20 (.ext 17 0),qu 21 (.ext 17 1),qu 7 (.alloc [(qd 0),(qd 0)]),qm 6 20,qw (.store 2 7 21)]) (.seq (.ai [qm 23 0,qu 24 (qc 17 [23,qe]),qm 22 24,qu 25 (.ext 22 0),qu 26 (.ext 22 1),qu 27 (.ext 22 2),qu 8 (.alloc [.aI,.aI,.aI]),qw (.store 3 8 25),qm 9 26,qm 10 27]) (.seq (.ai [qL 28 3 8,qu 29 (.mh 3 [.aI,.aI,.aI] 1 [(0,28)]),qm 11 29]) (.seq (.ai [qu 12 (.aD qe)]) (.seq (.seq (.ai [qm 30 1,qu 31 (.len 1 30),qu 32 (.aD (qi 0))]) (.block 0 (.loop (.seq (.ai [qu 33 (.aF .lss 32 31)]) (.seq (.cond 33 .skip (.exit 0)) (.seq (.block 1 (.seq (.ai [qu 34 (.bO 9 30 32),qL 35 9 34,qu 14 (.alloc [(qd 0),(qd 0),(qd 0),(qd 0),(qd 0),(qd 0),(qd 0),(.aa (.val (.string ⟨#[]⟩))),.aI]),qw (.store 9 14 35)]) (.seq (.ai [qm 37 6,qL 38 3 8,qL 39 9 14,qu 40 (qc 21 [37,38,39]),qm 36 40,qu 41 (.ext 36 0),qu 42 (.ext 36 1),qu 15 (.alloc [.aI,.aI,.aI]),qu 16 (.alloc [(qd 0),(qd 0),(qd 0),.aI]),qw (.store 3 15 41),qw (.store 4 16 42)]) (.seq (.ai [qL 43 3 15,qw (.store 3 8 43)]) (.seq (.ai [qm 44 11,qL 45 3 8,qu 46 (.mh 3 [.aI,.aI,.aI] 1 [(0,45)]),qu 47 (.nO 3 72 44 46),qm 11 47]) (.ai [qm 48 12,qL 49 4 16,qu 50 (.mh 4 [(qd 0),(qd 0),(qd 0),.aI] 1 [(0,49)]),qu 51 (.nO 4 48 48 50),qm 12 51])))))) (.ai [qu 52 (.aF .add 32 (qi 1)),qm 32 52]))))))) (.seq (.ai [qm 53 11,qm 54 12,qm 4 53,qm 5 54]) .ret)))))))⟩
namespace Kn
def kE(k:Kr):List Dt:=kC k.l k.ops k.ps
def ksD(ks:List Kr):Dt:= .sl 3 (ks.map kE)
def Wu(prog:List dB)(cs:List Cl):CV:= .bF [.one (.aa (ksD (DO prog bt cs))),.one (.aa (S7 (aS prog bt cs)))]
theorem l10:bs Tryz.prog Tryz.f10=some c10.er:=by kernel_rfl
structure rL(cs:List Cl):Prop where
 l:cs.length<=1048576
 d:∀c,c∈cs->c.data.length<=4194304
theorem wT(l:List bU)(hw:(bX l).1=0)(cs:List Cl)(dG:rL cs):body Tryz.prog c10 [cS l,p7 cs] []
  (fun r m=>∃l',l'.Perm l/\gW l'/\cJ m r (Wu (dy l') cs)):=by
 refine HM l (fun h=>absurd hw h) (fun _ l' hp hr=>?_)
 generalize Z5:dy l'=prog;refine IH (.dK (.aI 9 .nil)) (HP l [] ⟨aG,aG⟩ (fun h=>absurd hw h) (fun _ h=>absurd h aG) fun _ _ l2 Ks uz=>?_)
 rw[show kS (dy l2) bt []=bt from rfl,show aS (dy l2) bt []=[]from rfl];refine aO (fun i=>i<=cs.length) [6,8,30,31] (fun i=>[(32,an .i64 (i:Nat)),(11,.rv (.one (.row 2 3 0 none))),(12,.rv (.one (.row 3 4 0 none)))])
   (fun i=>[.var [.aa (.val (.int .i64 0)),.aa (.val (.int .i64 0))],kB (kS prog bt (cs.take i)),.row 3 (af ((DO prog bt (cs.take i)).map kE)),.row 4 (af ((aS prog bt (cs.take i)).map An.enc))]) (fun i=>cs.length-i) 0 (aao _) ?_ (fun i hi=>?_)
 .refine View.trans (View.aI 12 4 3 rfl rfl rfl) (View.o1 4 [0,1,2,3] [] ?_)
  .exact .pe rfl rfl rfl (.pt rfl rfl (.eq rfl (cR _)) (.pr rfl rfl rfl (.pn rfl rfl rfl)))
 have hi:i<=cs.length:=hi;refine aB (fun h=>?_) (fun h=>?_)
 .have aC:i<cs.length:=by have h:(i:Int)<((cs.map Cl.enc).length:Int):=h;rw[aad]at h;omega
  have vY:=KI.kS (prog:=prog) (cs.take i) ni;have ht:cs.take (i+1)=cs.take i++ [cs[i]]:=ph (aab aC);have Kh:=uY prog bt (cs.take i) cs[i];have yE:=Dn prog bt (cs.take i) cs[i];have has:=AW prog bt (cs.take i) cs[i];rw[<-ht]at Kh has yE;have gZ:=dG.l;have Qt:(aS prog bt (cs.take i)).length<=1048576:=by rw[AX,aaz];omega
  have fP:(DO prog bt (cs.take i)).length<=1048577:=by rw[HN,aaz];omega
  refine ag (xd aC) ?_;refine NC prog (kS prog bt (cs.take i)) vY cs[i] (dG.d _ (aau aC)) ?_;generalize jj prog (kS prog bt (cs.take i)) cs[i]=D at Kh has yE;obtain⟨k2,a2⟩:=D;refine⟨by simp only[cw,af,aad,aax,aaT];omega,?_⟩
  refine⟨by simp only[cw,af,aad,aax,aaT];omega,?_⟩
  refine⟨i+1,aC,(show cs.length-(i+1)<cs.length-i by omega),View.o 11 [0,1,8,10] [] ?_ ?_⟩
  .repeat(first|exact .nil|refine .ap ?_|refine .put (.aQ (aq om).symm) ?_|refine .eq rfl ?_)
  .rw[Kh,has,yE,aaU,aaU];exact .pe rfl rfl rfl (.pt rfl rfl (.eq rfl (cR _)) (.pt rfl rfl (.bV (cD (List.map kE _) (List.map kE [_])).symm) (.pt rfl rfl (.bV (cD (List.map An.enc _) (List.map An.enc [_])).symm) (.nil _))))
 .have lA:i=cs.length:=by have h:¬(i:Int)<((cs.map Cl.enc).length:Int):=h;rw[aad]at h;omega
  subst lA;rw[aaO];subst Z5;refine⟨l',hp,hr,?_⟩;refine .bF rfl fun i r r' h1 h2=>?_
  match i,h1,h2 with
  |0,h1,h2=>cases h1;cases h2;exact .one (eI.eE (ds:=(DO (dy l') bt cs).map kE) rfl 0 none)
  |1,h1,h2=>cases h1;cases h2;exact .one (eI.eE (ds:=(aS (dy l') bt cs).map An.enc) rfl 0 none)
  |n+2,h1,h2=>simp at h1
theorem s9(l:List bU)(hw:(bX l).1=0)(cs:List Cl)(dG:rL cs){m:Mem}{K:CV->Mem->Prop}(h:∀l',l'.Perm l->gW l'->K (Wu (dy l') cs) m):ar Tryz.prog 10 [cS l,p7 cs] m K:=
 bb (cm Tryz.func10 l10 (wT l hw cs dG)) (by simp[cS,p7,CV.dx,CC.dx,RV.dx]) fun r m1 hf=>by obtain⟨l',hp,hr,hf⟩:=hf;exact⟨_,hf,h l' hp hr⟩
end Kn
def c3:LF:= ⟨61,[.tmp 4],(.seq (.ai [qu 4 (.aD (qb false))]) (.seq (.seq (.ai [qu 9 (qc 8 []),qu 10 (.un .not 9)]) (.cond 10 (.seq (.ai [qu 4 (.aD (qb false))]) .ret) .skip)) (.seq (.seq (.ai [qm 11 0,qu 12 (qc 9 [11]),qu 13 (.On false 0 1 12),qu 14 (.aF .neq 13 (qi 0))]) (.cond 14 (.seq (.ai [qu 4 (.aD (qb true))]) .ret) .skip)) (.seq (.ai [qm 16 0,qm 17 1,qu 18 (qc 10 [16,17]),qm 15 18,qu 19 (.ext 15 0),qu 20 (.ext 15 1),qm 5 19,qm 6 20]) (.seq (.seq (.ai [qm 21 6,qu 22 (.len 1 21),qu 23 (.aD (qi 0))]) (.block 0 (.loop (.seq (.ai [qu 24 (.aF .lss 23 22)]) (.seq (.cond 24 .skip (.exit 0)) (.seq (.block 1 (.seq (.ai [qm 25 23,qu 26 (.bO 4 21 23),qL 27 4 26,qu 8 (.alloc [(qd 0),(qd 0),(qd 0),.aI]),qm 7 25,qw (.store 4 8 27)]) (.seq (.bQ [qf 28 0 8,ql 29 28,qu 30 (.aF .neq 29 (qi 0)),qm 31 30,qg 32 (.aD 5) 31 true,qg 33 (.aD 7) 31 true,qg 34 (.bO 3 32 33) 31 true,qg 35 (.load true 3 34) 31 true,qg 36 (.aD 5) 31 true,qg 37 (.aD 7) 31 true,qg 38 (.aF .add 37 (qi 1)) 31 true,qg 39 (.bO 3 36 38) 31 true,qg 40 (.load true 3 39) 31 true,qg 41 (qc 11 [35,40]) 31 true,qg 42 (.un .not 41) 31 true,qg 43 (.aD 42) 31 true,qg 44 (.bg 1 8) 43 false,qg 45 (.load false 1 44) 43 false,qg 46 (.aF .neq 45 (qi 0)) 43 false,qg 47 (.pick 43 (qb true) 46) 31 true,qg 48 (.aD 47) 31 true,qg 49 (.bg 2 8) 48 false,qg 50 (.load false 1 49) 48 false,qg 51 (.aF .neq 50 (qi 0)) 48 false,qg 52 (.pick 48 (qb true) 51) 31 true,qg 53 (.aD 52) 31 true,qg 54 (.bg 3 8) 53 false,qg 55 (.load false 1 54) 53 false,qg 56 (.len 1 55) 53 false,qg 57 (.aF .gtr 56 (qi 0)) 53 false,qg 58 (.pick 53 (qb true) 57) 31 true,qu 59 (.pick 31 58 (qb false))] [(.cons 0 none (.cons 1 none (.cons 2 none (.cons 3 none (.cons 4 none (.cons 5 none (.cons 6 none (.cons 7 none (.cons 8 none (.cons 9 none (.cons 10 none (.cons 11 none (.cons 12 none (.cons 13 (some []) (.cons 14 none (.cons 15 none (.cons 16 none (.cons 17 none (.cons 18 none (.cons 19 none (.cons 20 none (.cons 21 none (.cons 22 none (.cons 23 none (.cons 24 none (.cons 25 none (.cons 26 none (.cons 27 none (.cons 28 none (.cons 29 none (.cons 30 none (.cons 31 none .nil))))))))))))))))))))))))))))))))]) (.cond 59 (.seq (.ai [qu 4 (.aD (qb false))]) .ret) .skip)))) (.ai [qu 60 (.aF .add 23 (qi 1)),qm 23 60]))))))) (.seq (.ai [qu 4 (.aD (qb true))]) .ret))))))⟩
namespace Kn
theorem HQ(prog:List dB):∀(k:Kr)(cs:List Cl)(i:Nat),i<=cs.length->(DO prog k cs)[i]? =some (kS prog k (cs.take i))
 |k,[],0,_=>rfl
 |k,c::r,0,_=>rfl
 |k,c::r,i+1,h=>by
  show(DO prog (jj prog k c).1 r)[i]? =_;rw[HQ prog _ r i (by simpa using h)]
  rfl
theorem NU(prog:List dB):∀(k:Kr)(cs:List Cl)(i:Nat)(h:i<cs.length),(aS prog k cs)[i]? =some (jj prog (kS prog k (cs.take i)) cs[i]).2
 |k,c::r,0,_=>rfl
 |k,c::r,i+1,h=>by
  show(aS prog (jj prog k c).1 r)[i]? =_;rw[NU prog _ r i (by simpa using h)]
  rfl
theorem xe(prog:List dB)(cs:List Cl){i:Nat}(h:i<=cs.length):cy ((DO prog bt cs).map kE) (i:Nat)=some (kE (kS prog bt (cs.take i))):=by rw[bl,aaf,HQ prog _ _ _ h];rfl
theorem HR(prog:List dB)(cs:List Cl){i:Nat}(h:i<cs.length):cy ((DO prog bt cs).map kE) ((i:Int)+1)=some (kE (jj prog (kS prog bt (cs.take i)) cs[i]).1):=by rw[show((i:Int)+1)=((i+1:Nat):Int)from rfl,xe prog cs h];rw[ph (aab h),uY]
theorem AZ(prog:List dB)(cs:List Cl){i:Nat}(h:i<cs.length):cy ((aS prog bt cs).map An.enc) (i:Nat)=some (jj prog (kS prog bt (cs.take i)) cs[i]).2.enc:=by rw[bl,aaf,NU prog _ _ _ h];rfl
theorem A0{prog:List dB}{k:Kr}{c:Cl}(h:(jj prog k c).2.iL≠0):∃e,jj prog k c=(k,An.no e):=by
 unfold jj at h⊢;split
 .exact⟨_,rfl⟩
 rename_i h1;rw[if_neg h1]at h;split
 .exact⟨_,rfl⟩
 rename_i h2;rw[if_neg h2]at h;split
 .exact⟨_,rfl⟩
 rename_i h3;rw[if_neg h3]at h;unfold Om at h⊢;split
 .exact⟨_,rfl⟩
 rename_i h4;rw[if_neg h4]at h;exact absurd h h4
theorem l3:bs Tryz.prog Tryz.f3=some c3.er:=by kernel_rfl
theorem A2(l:List bU)(cs:List Cl)(dG:rL cs):body Tryz.prog c3 [cS l,p7 cs] [] (fun r m=>r=ay true):=by
 refine nj ?_;refine oX l ?_;refine br (fun hw=>?_) (fun hw=>?_)
 .exact rfl
 have hw:(bX l).1=0:=hw;refine s9 l hw cs dG fun l' hp hr=>?_
 generalize dy l'=prog;refine aO (fun i=>i<=cs.length) [5,21,22] (fun i=>[(23,an .i64 (i:Nat))]) (fun i=>[]) (fun i=>cs.length-i) 0 (aao _) ?_ (fun i hi=>?_)
 .refine View.o 0 [] [] ?_ (.nil _);repeat(first|exact .nil|refine .ap ?_|refine .eq rfl ?_)
 have hi:i<=cs.length:=hi;have gZ:=dG.l;refine aB (fun h=>?_) (fun h=>?_)
 .have aC:i<cs.length:=by have h:(i:Int)<(((aS prog bt cs).map An.enc).length:Int):=h;rw[aad,AX]at h;omega
  refine ag (AZ prog cs aC) ?_;have vY:=KI.kS (prog:=prog) (cs.take i) ni;have k1:=xe prog cs (acu aC);have k2:=HR prog cs aC;have he:= @A0 prog (kS prog bt (cs.take i)) cs[i];generalize jj prog (kS prog bt (cs.take i)) cs[i]=D at k2 he;generalize kS prog bt (cs.take i)=k at k1 vY he;refine br (fun hz=>?_) (fun hz=>?_)
  .obtain⟨e,rfl⟩:=he hz;have k2:cy ((DO prog bt cs).map kE) (IntKind.i64.wrap ((i:Int)+1))=some (kE k):=by have:=jN (n:=i+1) om;rw[show IntKind.i64.wrap ((i:Int)+1)=(i:Int)+1 from this];exact k2
   refine ag k1 ?_;refine ag k2 ?_;refine Mh k vY.kr ?_;refine⟨trivial,i+1,aC,(show cs.length-(i+1)<cs.length-i by omega),View.o 1 [] [] ?_ (.nil _)⟩
   repeat(first|exact .nil|refine .ap ?_|refine .put (.aQ (aq om).symm) ?_|refine .eq rfl ?_)
  .refine⟨trivial,i+1,aC,(show cs.length-(i+1)<cs.length-i by omega),View.o 1 [] [] ?_ (.nil _)⟩
   repeat(first|exact .nil|refine .ap ?_|refine .put (.aQ (aq om).symm) ?_|refine .eq rfl ?_)
 .exact rfl
theorem Gq(l:List bU)(cs:List Cl)(dG:rL cs):ar Tryz.prog 3 [cS l,p7 cs] [] (fun r _=>r=ay true):=
 js Tryz.func3 l3 rfl (aak rfl) (A2 l cs dG) rfl rfl rfl
end Kn
end Go.Proofs.YtojhmadmlnfpcaaGreatDoor
