/- Part 39 of 39: what the law stands on. -/
import Derived.Test.YtodckkkbiidffaaGreatDoorT16
import Derived.Test.YtodckkkbiidffaaGreatDoorT23
import Derived.Test.YtodckkkbiidffaaGreatDoorT24
import Derived.Test.YtodckkkbiidffaaGreatDoorT29
import Derived.Test.YtodckkkbiidffaaGreatDoorT37
import Derived.Test.YtodckkkbiidffaaGreatDoorT38
set_option linter.unusedVariables false
set_option linter.unusedSimpArgs false
set_option linter.unnecessarySimpa false
set_option maxRecDepth 100000
set_option maxHeartbeats 64000000
namespace Go.Proofs.YtodckkkbiidffaaGreatDoor
open Go.AM Go.ChangeShapes Go.WideShapes Go.ChangeAt Go.RowKit
def c18:LF:= ⟨10,[.cell true 3 0],(.seq (.ai [qu 0 (.alloc [.aB,.aB,.aB])]) (.seq (.ai [qu 1 (qc 28 []),qu 2 (.build [(qd 0),(qd 0)] []),qu 3 (.l5 2 [(qd 0),(qd 0)] 1 [(0,2)]),qu 4 (.build [(qd 0),(qd 0)] [(1,1,(qi 4095))]),qu 5 (.build [(.aa (.val (.bool false))),(qd 0),(qd 0)] [(0,1,(qb true)),(1,2,4)]),qu 6 (.l5 3 [(.aa (.val (.bool false))),(qd 0),(qd 0)] 1 [(0,5)]),qu 7 (.build [(.aa (.val (.bool false))),(.aa (.val (.bool false))),(qd 0),.aB] [(0,1,(qb true)),(3,1,6)]),qu 8 (.l5 4 [(.aa (.val (.bool false))),(.aa (.val (.bool false))),(qd 0),.aB] 1 [(0,7)]),qu 9 (.build [.aB,.aB,.aB] [(0,1,1),(1,1,3),(2,1,8)]),qw (.store 3 0 9)]) .ret))⟩
theorem l18:bs Tryz.prog Tryz.f18=some c18:=by kernel_rfl
def fA:Obj:=⟨2,[],[],⟨#[]⟩,-1,[],-1,1,0⟩
def cy:Kr:=⟨[fA],[⟨0,0⟩],[⟨true,false,0,[⟨true,0,4095⟩]⟩]⟩
theorem P1{m:Mem}{Z:Nat->Prop}{p:Option Nat}:gV m Z p [.aa (.val (.int .i64 2)),.aB,.aB,.aa (.val (.string ⟨#[]⟩)),.aa (.val (.int .i64 (-1))),.aB,.aa (.val (.int .i64 (-1))),.aa (.val (.int .i64 1)),.aa (.val (.int .i64 0))] fA.enc:=
 .cons (.aa _) (.cons (.aB 1) (.cons (.aB 2) (.cons (.aa _) (.cons (.aa _) (.cons (.aB 4) (.cons (.aa _) (.cons (.aa _) (.cons (.aa _) .nil))))))))
theorem KD:body Tryz.prog c28 [] [] (fun r m=>∃r' m',View 0 ⟨[r],m⟩ ⟨[r'],m'⟩/\r'=cq [fA]/\m'=[]):=
 ⟨_,[],View.o 1 [] [0] (.put (.rv (.one (.eZ (dY.eZ (Z:=fun k=>bz [0] k=true) (.cons P1 .nil) rfl rfl)))) .nil) (.nil _),rfl,rfl⟩
theorem P2{m:Mem}{K:CV->Mem->Prop}(h:K (cq [fA]) m):aq Tryz.prog 28 [] m K:=by
 refine aY (K0:=fun r m=>r=cq [fA]/\m=[]) (bK (aX Tryz.func28 l28 KD) fun r m1 h=>h) aI fun r m1 hr=>?_
 obtain⟨rfl,rfl⟩:=hr;exact⟨_,cw.self rfl,h⟩
theorem Hc:body Tryz.prog c18 [] [] (fun r m=>∃r' m',View 0 ⟨[r],m⟩ ⟨[r'],m'⟩/\r'=dR cy.l cy.ops cy.ps/\m'=[]):=by
 refine P2 ?_;refine⟨_,[],View.o 4 [] [1,2,3] (.put (nT.agg (.cons (.aQ (.aa _)) (.cons (.eZ (dY.eZ (Z:=fun k=>bz [1,2,3] k=true) (.cons (.cons (.aa _) (.cons (.aa _) .nil)) .nil) rfl rfl))
  (.cons (.eZ (dY.eZ (Z:=fun k=>bz [1,2,3] k=true) (.cons (.cons (.aa _) (.cons (.aa _) (.cons (.aa _) (.cons (dY.eZ (.cons (.cons (.aa _) (.cons (.aa _) (.cons (.aa _) .nil))) .nil) rfl rfl) .nil)))) .nil) rfl rfl)) .nil)))) .nil) (.nil _),rfl,rfl⟩
theorem MT{m:Mem}{K:CV->Mem->Prop}(h:K (dR cy.l cy.ops cy.ps) m):aq Tryz.prog 18 [] m K:=by
 refine aY (K0:=fun r m=>r=dR cy.l cy.ops cy.ps/\m=[]) (bK (aX Tryz.func18 l18 Hc) fun r m1 h=>h) aI fun r m1 hr=>?_
 obtain⟨rfl,rfl⟩:=hr;exact⟨_,cw.self rfl,h⟩
theorem uR:dz cy.l cy.ops cy.ps:=
 ⟨fun o ho=>by simp[cy]at ho;subst ho;exact⟨⟨⟨[],rfl⟩,⟨[],rfl⟩,fun q hq=>by simp[fA]at hq⟩,by simp[fA],by simp[fA],by simp[fA],fun q hq=>by simp[fA]at hq⟩,by simp[cy],by simp[cy],by simp[cy],fun p hp=>by simp[cy]at hp;subst hp;simp,by simp[cy]⟩
def c11:LF:= ⟨52,[.cell true 3 4,.tmp 5,.tmp 6],(.seq (.ai [qu 4 (.alloc [.aB,.aB,.aB]),qu 5 (.aF qe),qu 6 (.aF (qi 0))]) (.seq (.ai [qm 16 0,qu 17 (qc 17 [16]),qm 15 17,qu 18 (.ext 15 0),qu 19 (.ext 15 1),qu 8 (.alloc [(qd 0),(qd 0)]),qm 7 18,qw (.store 2 8 19)]) (.seq (.seq (.ai [qf 20 0 8,ql 21 20,qu 22 (.aH .neq 21 (qi 0))]) (.cond 22 (.seq (.bU [qu 23 (.build [.aB,.aB,.aB] []),qf 24 0 8,ql 25 24,qw (.store 3 4 23),qu 5 (.aF qe),qm 6 25] [(.cons 0 none (.cons 1 none (.cons 2 none (.cons 3 (some [2]) (.cons 4 none (.cons 5 none .nil))))))]) .ret) .skip)) (.seq (.seq (.ai [qm 26 1,qu 27 (.len 1 26),qu 28 (.aH .gtr 27 (qi 80))]) (.cond 28 (.seq (.ai [qu 29 (.build [.aB,.aB,.aB] []),qw (.store 3 4 29),qu 5 (.aF qe),qu 6 (.aF (qi 5))]) .ret) .skip)) (.seq (.ai [qu 30 (qc 18 []),qu 9 (.alloc [.aB,.aB,.aB]),qw (.store 3 9 30)]) (.seq (.ai [qu 10 (.aF qe)]) (.seq (.seq (.ai [qm 31 1,qu 32 (.len 1 31),qu 33 (.aF (qi 0))]) (.block 0 (.loop (.seq (.ai [qu 34 (.aH .lss 33 32)]) (.seq (.cond 34 .skip (.exit 0)) (.seq (.block 1 (.seq (.ai [qu 35 (.cr 9 31 33),qL 36 9 35,qu 12 (.alloc [(qd 0),(qd 0),(qd 0),(qd 0),(qd 0),(qd 0),(qd 0),(.aa (.val (.string ⟨#[]⟩))),.aB]),qw (.store 9 12 36)]) (.seq (.ai [qm 38 7,qL 39 3 9,qL 40 9 12,qu 41 (qc 19 [38,39,40]),qm 37 41,qu 42 (.ext 37 0),qu 43 (.ext 37 1),qu 13 (.alloc [.aB,.aB,.aB]),qu 14 (.alloc [(qd 0),(qd 0),(qd 0),.aB]),qw (.store 3 13 42),qw (.store 4 14 43)]) (.seq (.ai [qL 44 3 13,qw (.store 3 9 44)]) (.ai [qm 45 10,qL 46 4 14,qu 47 (.l5 4 [(qd 0),(qd 0),(qd 0),.aB] 1 [(0,46)]),qu 48 (.mE 4 48 45 47),qm 10 48]))))) (.ai [qu 49 (.aH .add 33 (qi 1)),qm 33 49]))))))) (.seq (.ai [qL 50 3 9,qm 51 10,qw (.store 3 4 50),qm 5 51,qu 6 (.aF (qi 0))]) .ret))))))))⟩
namespace Kn
def kS(prog:List dS)(k:Kr):List Cl->Kr
 | []=>k
 |c::r=>kS prog (nI prog k c).1 r
def aS(prog:List dS)(k:Kr):List Cl->List An
 | []=>[]
 |c::r=>(nI prog k c).2::aS prog (nI prog k c).1 r
theorem E4(prog:List dS):∀(k:Kr)(cs:List Cl)(c:Cl),kS prog k (cs++ [c])=(nI prog (kS prog k cs) c).1
 |_,[],_=>rfl
 |k,x::r,c=>E4 prog (nI prog k x).1 r c
theorem E5(prog:List dS):∀(k:Kr)(cs:List Cl)(c:Cl),aS prog k (cs++ [c])=aS prog k cs++ [(nI prog (kS prog k cs) c).2]
 |_,[],_=>rfl
 |k,x::r,c=>by show(nI prog k x).2::aS prog (nI prog k x).1 (r++ [c])=_;rw[E5 prog (nI prog k x).1 r c];rfl
theorem KI.kS{prog:List dS}:∀{k:Kr}(cs:List Cl),KI k->KI (Kn.kS prog k cs)
 |_,[],h=>h
 |_,c::r,h=>KI.kS r (h.do_ prog c)
theorem KE(prog:List dS):∀(k:Kr)(cs:List Cl),(aS prog k cs).length=cs.length
 |_,[]=>rfl
 |k,c::r=>by simp[aS,KE prog (nI prog k c).1 r]
theorem MU:KI cy:=by
 have hm:∀o,o∈cy.l->o=fA:=fun o ho=>by simpa[cy]using ho
 have hp:∀x,x∈cy.ps->x=⟨true,false,0,[⟨true,0,4095⟩]⟩:=fun x hx=>by simpa[cy]using hx
 refine⟨by simp[cy],by simp[cy],by simp[cy],uR.sm,uR.sl,uR.ne,fun x hx hl=>?_,fun x hx s hs hh=>?_,fun o ho q hq=>?_,fun o ho h5=>?_,fun o ho=>?_,fun o ho hk=>?_,fun i o ho hk=>?_,fun o ho=>?_,fun o ho=>?_,?_⟩
 .rw[hp x hx]at hl;cases hl
 .rw[hp x hx]at hs;have:s=⟨true,0,4095⟩:=by simpa using hs
  subst this;exact⟨⟨by decide,by decide⟩,0,⟨0,0⟩,rfl,rfl,0,fA,rfl,rfl,by simp[fA]⟩
 .rw[hm o ho]at hq;cases hq
 .rw[hm o ho]at h5;simp[fA]at h5
 .rw[hm o ho];exact⟨rfl,List.Pairwise.nil,fun _=>rfl,fun e he=>by cases he⟩
 .rw[hm o ho]at hk;simp[fA]at hk
 .rw[hm o (NQ ho)]at hk;simp[fA]at hk
 .have:o=⟨0,0⟩:=by simpa[cy]using ho
  subst this;exact⟨abK _,by show(0:Int)<=64;omega⟩
 .rw[hm o ho];simp[fA]
 .have one:∀(i:Nat)d,(cy.l.map sD)[i]? =some d->i=0/\d=sD fA:=fun i d hd=>by
   match i,hd with
   |0,hd=>cases hd;exact⟨rfl,rfl⟩
   |n+1,hd=>simp[cy]at hd
  refine⟨fun i d hd hz=>?_,⟨sD fA,rfl,rfl,rfl,rfl⟩,fun i d e hd he=>?_,fun i i' d d' e e' hd xq he=>?_,fun i d hd _=>?_,fun i d hd hz=>?_,fun i d hd=>?_,fun i d hd=>?_⟩
  .rw[(one i d hd).2]at hz;simp[sD,fA]at hz
  .rw[(one i d hd).2]at he;cases he
  .rw[(one i d hd).2]at he;cases he
  .rw[(one i d hd).1];exact .ap
  .rw[(one i d hd).2]at hz;simp[sD,fA]at hz
  .rw[(one i d hd).2];exact .inr rfl
  .rw[(one i d hd).2,(one i d hd).1];exact .inl rfl
def KF(cs:List Cl):CV:= .rv (.one (.aa (.sl 9 (cs.map Cl.enc))))
def Xf(al:List An):Dt:= .sl 4 (al.map An.enc)
def uS(k:Kr)(al:List An)(e:Int):CV:= .bF [gW k,.one (.aa (Xf al)),cC e]
theorem l11:bs Tryz.prog Tryz.f11=some c11.er:=by kernel_rfl
theorem P3{cs:List Cl}{i:Nat}(h:i<cs.length):dg (cs.map Cl.enc) (i:Nat)=some (cs[i].enc):=by rw[bI,NO,sA h];rfl
theorem E6{m:Mem}{e:Int}:cw m (.bF [.agg [.aB,.aB,.aB],.one .aB,cC e]) (uS lS [] e):=by
 refine .bF rfl fun i r r' h1 h2=>?_
 match i,h1,h2 with
 |0,h1,h2=>cases h1;cases h2;exact fT
 |1,h1,h2=>cases h1;cases h2;exact .one (.aB 4)
 |2,h1,h2=>cases h1;cases h2;exact d8.self rfl
 |n+3,h1,h2=>simp at h1
structure KG(cs:List Cl):Prop where
 l:cs.length<=1048576
 d:∀c,c∈cs->c.data.length<=4194304
theorem Hd(l:List cY)(cs:List Cl)(eY:KG cs):body Tryz.prog c11 [ec l,KF cs] []
  (fun r m=>((cX l).1≠0->cw m r (uS lS [] (cX l).1))/\((cX l).1=0->cs.length>80->cw m r (uS lS [] 5))/\
   ((cX l).1=0->cs.length<=80->∃l',l'.Perm l/\nj l'/\cw m r (uS (kS (iU l') cy cs) (aS (iU l') cy cs) 0))):=by
 refine MS l (fun hw=>?_) (fun hw l' hp hr=>?_)
 .refine bt (fun he=>?_) (fun he=>absurd he hw)
  refine⟨⟨rfl,trivial⟩,?_⟩;exact⟨fun _=>E6,fun h=>absurd h hw,fun h=>absurd h hw⟩
 .generalize hpg:iU l'=prog;refine aJ (fun MV=>?_) (fun MV=>?_)
  .have MV:cs.length>80:=by have MV:((cs.map Cl.enc).length:Int)>80:=MV;rw[KB]at MV;omega
   exact⟨fun h=>absurd hw h,fun _ _=>E6,fun _ h=>om⟩
  have MV:cs.length<=80:=by have MV:¬((cs.map Cl.enc).length:Int)>80:=MV;rw[KB]at MV;omega
  refine MT ?_;refine ba (fun i=>i<=cs.length) [4,7,9,31,32] (fun i=>[(33,an .i64 (i:Nat)),(10,.rv (.one (.row 3 4 0 none)))])
   (fun i=>[.var [.aB,.aB,.aB],.var [.aa (.val (.int .i64 0)),.aa (.val (.int .i64 0))],kB (kS prog cy (cs.take i)),.row 4 (af ((aS prog cy (cs.take i)).map An.enc))]) (fun i=>cs.length-i) 0 (Wi _) ?_ (fun i hi=>?_)
  .refine View.trans (View.aB 10 4 3 rfl rfl rfl) (View.o1 4 [0,1,2,3] [] ?_)
   .exact .pe rfl rfl rfl (.pe rfl rfl rfl (.pt rfl rfl (.eq rfl (eX _)) (.pn rfl rfl rfl)))
  have hi:i<=cs.length:=hi;refine aJ (fun h=>?_) (fun h=>?_)
  .have aE:i<cs.length:=by have h:(i:Int)<((cs.map Cl.enc).length:Int):=h;rw[KB]at h;omega
   have Qi:=KI.kS (prog:=prog) (cs.take i) MU;have ht:cs.take (i+1)=cs.take i++ [cs[i]]:=rV (sA aE);have RK:=E4 prog cy (cs.take i) cs[i];have has:=E5 prog cy (cs.take i) cs[i];rw[<-ht]at RK has;have Rc:(aS prog cy (cs.take i)).length<=80:=by rw[KE,Z3];omega
   refine ag (P3 aE) ?_;refine PW prog (kS prog cy (cs.take i)) Qi cs[i] (eY.d _ (Wl aE)) ?_;generalize nI prog (kS prog cy (cs.take i)) cs[i]=D at RK has;obtain⟨k2,a2⟩:=D;refine⟨by simp only[cu,af,KB,Wo,aaq];omega,?_⟩
   refine⟨i+1,aE,(show cs.length-(i+1)<cs.length-i by omega),View.o 9 [0,1,2,8] [] ?_ ?_⟩
   .repeat(first|exact .nil|refine .ar ?_|refine .put (.aQ (aL om).symm) ?_|refine .eq rfl ?_)
   .rw[RK,has,aav];exact .pe rfl rfl rfl (.pe rfl rfl rfl (.pt rfl rfl (.eq rfl (eX _)) (.pt rfl rfl (.bP (cN (List.map An.enc _) (List.map An.enc [_])).symm) (.nil _))))
  .have kT:i=cs.length:=by have h:¬(i:Int)<((cs.map Cl.enc).length:Int):=h;rw[KB]at h;omega
   subst kT;rw[aal];subst hpg;refine⟨fun h=>absurd hw h,fun _ h=>om,fun _ _=>⟨l',hp,hr,?_⟩⟩
   refine .bF rfl fun i r r' h1 h2=>?_
   match i,h1,h2 with
   |0,h1,h2=>cases h1;cases h2;exact d8.self (xU (Kn.kS (iU l') cy cs))
   |1,h1,h2=>cases h1;cases h2;exact .one (dU.dX (ds:=(aS (iU l') cy cs).map An.enc) rfl 0 none)
   |2,h1,h2=>cases h1;cases h2;exact d8.self rfl
   |n+3,h1,h2=>simp at h1
theorem E7(l:List cY)(cs:List Cl)(eY:KG cs){m:Mem}{K:CV->Mem->Prop}(h1:(cX l).1≠0->K (uS lS [] (cX l).1) m)(h2:(cX l).1=0->cs.length>80->K (uS lS [] 5) m)(h3:(cX l).1=0->cs.length<=80->∀l',l'.Perm l->nj l'->K (uS (kS (iU l') cy cs) (aS (iU l') cy cs) 0) m):aq Tryz.prog 11 [ec l,KF cs] m K:=
 aY (ce Tryz.func11 l11 (Hd l cs eY)) (by simp[ec,KF,CV.c6,CC.c6,RV.c6]) fun r m1 hf=>by
  by_cases hw:(cX l).1=0
  .by_cases h8:cs.length<=80
   .obtain⟨l',hp,hr,hf⟩:=hf.2.2 hw h8;exact⟨_,hf,h3 hw h8 l' hp hr⟩
   .exact⟨_,hf.2.1 hw om,h2 hw om⟩
  .exact⟨_,hf.1 hw,h1 hw⟩
end Kn
def c12:LF:= ⟨13,[.tmp 0],(.seq (.ai [qu 0 (.aF qe)]) (.seq (.ai [qu 1 (.aF qe)]) (.seq (.seq (.ai [qu 2 (.aF (qi 1))]) (.block 0 (.loop (.seq (.seq (.ai [qm 3 2,qu 4 (.aH .leq 3 (qi 22))]) (.cond 4 .skip (.exit 0))) (.seq (.block 1 (.ai [qm 7 1,qm 8 2,qu 9 (.build [(qd 0),.aB] [(0,1,8)]),qu 10 (.l5 2 [(qd 0),.aB] 1 [(0,9)]),qu 11 (.mE 2 32 7 10),qm 1 11])) (.ai [qm 5 2,qu 6 (.aH .add 5 (qi 1)),qm 2 6])))))) (.seq (.ai [qm 12 1,qm 0 12]) .ret))))⟩
namespace Kn
def rn:List cY:=(List.range 22).map fun(i:Nat)=>⟨(i:Int)+1,[]⟩
def Hv:Cl:=⟨0,0,0,0,0,0,0,[],[]⟩
theorem KH:(cX rn).1=0:=by kernel_rfl
theorem AW{l:List cY}(hp:l.Perm rn)(hr:nj l):l=rn:=by
 refine List.Perm.eq_of_pairwise (le:=fun(a b:cY)=>a.call<b.call) (fun a b _ _ h1 h2=>by exfalso;have h1:a.call<b.call:=h1;have h2:b.call<a.call:=h2;omega) hr ?_ hp
 decide
theorem l12:bs Tryz.prog Tryz.f12=some c12.er:=by kernel_rfl
def N8(n:Nat):List cY:=(List.range n).map fun(i:Nat)=>⟨(i:Int)+1,[]⟩
theorem MW{σ:Nat->Nat}{m:Mem}{Z:Nat->Prop}{id:Nat}(R:List cY)(k:Int){es:List (List CC)}(h:es=af (R.map cY.enc)):
  lA σ m Z id (.row 2 (es++ [[.aa (.val (.int .i64 k)),.aB]])) (.row 2 (af ((R++ [(⟨k,[]⟩:cY)]).map cY.enc))):=by
 rw[h,aav,cN];refine lA.B6 (s:=2) (by rw[af,aaS];exact abe fun x _=>by simp[CC.aQ]) rfl fun j c c' h1 h2=>?_
 match j,h1,h2 with
 |0,h1,h2=>cases h1;cases h2;exact .aQ (.aa _)
 |1,h1,h2=>cases h1;cases h2;exact .eZ (.aB 2)
 |n+2,h1,h2=>simp at h1
theorem KJ:body Tryz.prog c12 [] [] (fun r m=>cw m r (ec rn)):=by
 refine ba (fun i=>i<=22) [] (fun i=>[(2,an .i64 ((i:Nat)+1)),(1,.rv (.one (.row 0 2 0 none)))]) (fun i=>[.row 2 (af ((N8 i).map cY.enc))]) (fun i=>22-i) 0 (Wi _) ?_ (fun i hi=>?_)
 .refine View.trans (View.aB 1 2 0 rfl rfl rfl) (View.o1 1 [0] [] ?_)
  .exact .pt rfl rfl (.eq rfl (by simp[N8,af])) (.nil _)
 have hi:i<=22:=hi;refine aJ (fun h=>?_) (fun h=>?_)
 .have aE:i<22:=by have h:((i:Int)+1)<=22:=h;omega
  refine⟨by simp only[cu,N8,af,KB,List.length_range,Wo,aaq];omega,?_⟩
  refine⟨i+1,aE,(show 22-(i+1)<22-i by omega),View.o 3 [2] [] ?_ ?_⟩
  .repeat(first|exact .nil|refine .ar ?_|refine .put (.aQ (aL (k:=i+1) om).symm) ?_|refine .eq rfl ?_)
  .rw[show N8 (i+1)=N8 i++ [⟨(i:Int)+1,[]⟩] by simp[N8,List.range_succ]]
   exact .pt rfl rfl (MW (N8 i) _ rfl) (.nil _)
 .have kT:i=22:=by have h:¬((i:Int)+1)<=22:=h;omega
  subst kT;exact cw.rv (.one (dU.dX (ds:=(N8 22).map cY.enc) rfl 0 none))
theorem AX{m:Mem}{K:CV->Mem->Prop}(h:K (ec rn) m):aq Tryz.prog 12 [] m K:=
 aY (ce Tryz.func12 l12 KJ) aI fun r m1 hf=>⟨_,hf,h⟩
end Kn
namespace Kn
def Qv(bm:bp.cQ)(bi aR:Int):Cl:={Hv with ah:=2,bm:=bm,bi:=bi,aR:=aR}
def TD(fd:Int)(d:List Int):Cl:={Hv with ah:=5,fd:=fd,data:=d}
def Xg:Obj:={fA with aj:=[[.val (.string ⟨#[102]⟩),.val (.int .i64 1)]]}
def fO(d:List (List Dt)):Obj:=⟨1,d,[],⟨#[]⟩,-1,[],-1,1,0⟩
def s1:List fq:=[⟨true,0,4095⟩,⟨true,1,4095⟩]
def s2:List fq:=[⟨true,0,4095⟩,⟨true,1,4095⟩,⟨true,1,4095⟩]
def s3:List fq:=[⟨true,0,4095⟩,⟨true,1,4095⟩,⟨true,1,4095⟩,⟨true,2,1⟩]
end Kn
namespace Kn
def s0:List fq:=[⟨true,0,4095⟩]
def kA:Kr:=⟨[Xg,fO []],[⟨0,0⟩],[⟨true,false,0,s0⟩]⟩
def YA(r:Int):Prop:=0<=r/\r<=4095
theorem YA.b{r:Int}(h:YA r):Tb.dN r=true:=by obtain⟨h1,h2⟩:=h;simp[Tb.dN,h1,h2]
end Kn
namespace Kn
theorem DH(P:List dS):∀(a b:List Cl)(k:Kr),aS P k (a++b)=aS P k a++aS P (kS P k a) b
 | [],b,k=>rfl
 |c::r,b,k=>by show _::aS P _ (r++b)=_::(aS P _ r++aS P (kS P _ r) b);rw[DH P r b]
end Kn
def c9:LF:= ⟨11,[.cell true 9 6],(.seq (.ai [qu 6 (.alloc [(qd 0),(qd 0),(qd 0),(qd 0),(qd 0),(qd 0),(qd 0),(.aa (.val (.string ⟨#[]⟩))),.aB])]) (.seq (.ai [qm 7 0,qm 8 1,qm 9 2,qu 10 (.build [(qd 0),(qd 0),(qd 0),(qd 0),(qd 0),(qd 0),(qd 0),(.aa (.val (.string ⟨#[]⟩))),.aB] [(1,1,(qi 2)),(7,1,7),(5,1,8),(6,1,9)]),qw (.store 9 6 10)]) .ret))⟩
def c10:LF:= ⟨9,[.cell true 9 4],(.seq (.ai [qu 4 (.alloc [(qd 0),(qd 0),(qd 0),(qd 0),(qd 0),(qd 0),(qd 0),(.aa (.val (.string ⟨#[]⟩))),.aB])]) (.seq (.ai [qm 5 0,qm 6 1,qu 7 (.Oa 6),qu 8 (.build [(qd 0),(qd 0),(qd 0),(qd 0),(qd 0),(qd 0),(qd 0),(.aa (.val (.string ⟨#[]⟩))),.aB] [(1,1,(qi 5)),(2,1,5),(8,1,7)]),qw (.store 9 4 8)]) .ret))⟩
namespace Kn
inductive uT(m:Mem):List CC->List CC->Prop
 |nil:uT m [] []
 |cons {c c':CC} {r r':List CC} (h:dU m c c') (hr:uT m r r'):uT m (c::r) (c'::r')
theorem uT.len{m:Mem}{a b:List CC}(h:uT m a b):a.length=b.length:=by induction h<;>simp[*]
theorem uT.get{m:Mem}{a b:List CC}(h:uT m a b):∀(i:Nat)c d,a[i]? =some c->b[i]? =some d->dU m c d:=by
 induction h with
 |nil=>intro i c d h;simp at h
 |cons h hr ih=>
  intro i c d h1 h2;cases i with
  |zero=>simp at h1 h2;subst h1 h2;exact h
  |succ i=>exact ih i c d (by simpa using h1) (by simpa using h2)
theorem uT.agg{m:Mem}{a b:List CC}(h:uT m a b):d8 m (.agg a) (.agg b):= .agg h.len h.get
theorem lT9:bs Tryz.prog Tryz.f9=some c9:=by kernel_rfl
theorem Xh:bs Tryz.prog Tryz.f10=some c10:=by kernel_rfl
theorem uU(bm:bp.cQ)(bi aR:Int){m:Mem}{K:CV->Mem->Prop}(h:K (Qv bm bi aR).cv m):aq Tryz.prog 9 [bp.vT bm,an .i64 bi,an .i64 aR] m K:=by
 have hb:body Tryz.prog c9 [bp.vT bm,an .i64 bi,an .i64 aR] [] (fun r m=>cw m r (Qv bm bi aR).cv):=by
  refine cw.rv (uT.agg ?_);repeat(first|exact .nil|refine .cons (.aa _) ?_|refine .cons (.aB 1) ?_)
 exact aY (lJ Tryz.func9 lT9 rfl (V5 rfl) hb) (by simp[bp.vT,dh,an,CV.c6,RV.c6,CC.c6]) fun r m1 hf=>⟨_,hf,h⟩
theorem wW(fd:Int)(s:ByteArray)(hs:s.size<=4194304){m:Mem}{K:CV->Mem->Prop}(h:K (TD fd (s.data.toList.map fun b=>((b.toNat:Nat):Int))).cv m):aq Tryz.prog 10 [an .i64 fd,dh s] m K:=by
 have hb:body Tryz.prog c10 [an .i64 fd,dh s] [] (fun r m=>cw m r (TD fd (s.data.toList.map fun b=>((b.toNat:Nat):Int))).cv):=by
  refine⟨om,?_⟩;refine cw.rv (uT.agg ?_);refine .cons (.aa _) (.cons (.aa _) (.cons (.aa _) (.cons (.aa _) (.cons (.aa _) (.cons (.aa _) (.cons (.aa _) (.cons (.aa _) (.cons ?_ .nil))))))));refine dU.dX (ds:=fB (s.data.toList.map fun b=>((b.toNat:Nat):Int))) ?_ 0 none
  show some (Bk.row 1 (js s))=_;simp[js,fB]
 exact aY (lJ Tryz.func10 Xh rfl (V5 rfl) hb) (by simp[dh,an,CV.c6,RV.c6,CC.c6]) fun r m1 hf=>⟨_,hf,h⟩
end Kn
def c8:LF:= ⟨34,[.tmp 0],(.seq (.ai [qu 0 (.aF (qb false))]) (.seq (.ai [qu 5 (qc 12 []),qu 6 (.build [(qd 0),(qd 0),(qd 0),(qd 0),(qd 0),(qd 0),(qd 0),(.aa (.val (.string ⟨#[]⟩))),.aB] [(1,1,(qi 15))]),qu 7 (.build [(qd 0),(qd 0),(qd 0),(qd 0),(qd 0),(qd 0),(qd 0),(.aa (.val (.string ⟨#[]⟩))),.aB] [(1,1,(qi 22))]),qu 8 (.l5 9 [(qd 0),(qd 0),(qd 0),(qd 0),(qd 0),(qd 0),(qd 0),(.aa (.val (.string ⟨#[]⟩))),.aB] 2 [(0,6),(1,7)]),qu 9 (qc 11 [5,8]),qm 4 9,qu 10 (.ext 4 0),qu 11 (.ext 4 1),qu 12 (.ext 4 2),qu 1 (.alloc [.aB,.aB,.aB]),qw (.store 3 1 10),qm 2 11,qm 3 12]) (.seq (.ai [qm 13 3,qu 14 (.aH .eql 13 (qi 0)),qm 15 14,qg 16 (.aF 2) 15 true,qg 17 (.len 1 16) 15 true,qg 18 (.aH .eql 17 (qi 2)) 15 true,qu 19 (.pick 15 18 (qb false)),qm 20 19,qg 21 (.aF 2) 20 true,qg 22 (.cr 4 21 (qi 0)) 20 true,qg 23 (.bX 1 22) 20 true,qg 24 (.load false 1 23) 20 true,qg 25 (.aH .eql 24 (qi 1)) 20 true,qu 26 (.pick 20 25 (qb false)),qm 27 26,qg 28 (.aF 2) 27 true,qg 29 (.cr 4 28 (qi 0)) 27 true,qg 30 (.bX 2 29) 27 true,qg 31 (.load false 1 30) 27 true,qg 32 (.aH .eql 31 (qi 2)) 27 true,qu 33 (.pick 27 32 (qb false)),qm 0 33]) .ret)))⟩
namespace Kn
theorem lT8:bs Tryz.prog Tryz.f8=some c8.er:=by kernel_rfl
def MX:List Cl:=[{Hv with ah:=15},{Hv with ah:=22}]
theorem aS8:aS (iU rn) cy MX=[⟨0,1,2,[]⟩,⟨0,0,0,[]⟩]:=by kernel_rfl
theorem AY:body Tryz.prog c8 [] [] (fun r m=>r=ay true):=by
 refine AX ?_;refine nu (nS:=[ec rn,KF MX]) (m':=[.aO]) (View.o 1 [0] [0] ?_ (.aO (.nil _))) ?_
 .refine .eq rfl (.put (.rv (.one (.eZ (dY.eZ (Z:=fun k=>bz [0] k=true) ?_ rfl rfl)))) .nil)
  repeat(first|exact gV.nil|exact dY.nil|refine dY.cons ?_ ?_|refine gV.cons ?_ ?_|exact .aa _|exact .aB 1)
 refine E7 rn MX ⟨by decide,by decide⟩ (fun h=>absurd KH h) (fun _ h=>absurd h (by decide)) fun _ _ l' hp hr=>?_
 rw[AW hp hr,aS8];generalize kS (iU rn) cy MX=k;exact rfl
theorem He{m:Mem}{K:CV->Mem->Prop}(h:K (ay true) m):aq Tryz.prog 8 [] m K:=
 zy Tryz.func8 lT8 rfl (V5 rfl) AY rfl rfl h
def Hw(s:ByteArray):List Int:=s.data.toList.map fun b=>((b.toNat:Nat):Int)
theorem MY(s:ByteArray):(Hw s).length=s.size:=by simp only[Hw,KB,aaZ];rfl
theorem lm(l:List Int):nK ((fB l).map fun ds=>ds.map CC.aa)=some l:=by
 induction l with
 |nil=>rfl
 |cons b r ih=>
  have ih:nK ((fB r).map fun ds=>ds.map CC.aa)=some r:=ih
  simp only[fB,aar,abE,nK]at ih⊢;rw[ih]
theorem KK(l:List Int)(n:Nat):(fB l).take n=fB (l.take n):=by simp[fB,abd]
theorem Hf(s:ByteArray)(a n:Nat):strOfNums (((Hw s).drop a).take n)=s.extract a (a+n):=by
 have h:∀l:List UInt8,(l.map fun b=>((b.toNat:Nat):Int)).map (fun n=>UInt8.ofNat n.toNat)=l:=by
  intro l
  induction l with
  |nil=>rfl
  |cons b r ih=>simp only[aar,ih];simp
 apply ByteArray.ext;rw[ByteArray.data_extract];simp only[strOfNums,Hw,<-List.map_drop,<-List.map_take,h];apply Array.toList_inj.1;rw[Array.toList_extract];simp[List.extract_eq_take_drop]
end Kn
namespace Kn
inductive yC(σ:Nat->Nat)(m:Mem)(Z:Nat->Prop)(p:Option Nat):List CC->List CC->Prop
 |nil:yC σ m Z p [] []
 |cons {c c':CC} {r r':List CC} (h:oQ σ m Z p c c') (hr:yC σ m Z p r r'):yC σ m Z p (c::r) (c'::r')
theorem yC.len{σ:Nat->Nat}{m:Mem}{Z:Nat->Prop}{p:Option Nat}{a b:List CC}(h:yC σ m Z p a b):a.length=b.length:=by induction h<;>simp[*]
theorem yC.get{σ:Nat->Nat}{m:Mem}{Z:Nat->Prop}{p:Option Nat}{a b:List CC}(h:yC σ m Z p a b):∀(i:Nat)c d,a[i]? =some c->b[i]? =some d->oQ σ m Z p c d:=by
 induction h with
 |nil=>intro i c d h;simp at h
 |cons h hr ih=>
  intro i c d h1 h2;cases i with
  |zero=>simp at h1 h2;subst h1 h2;exact h
  |succ i=>exact ih i c d (by simpa using h1) (by simpa using h2)
inductive ro(σ:Nat->Nat)(m:Mem)(Z:Nat->Prop)(p:Option Nat):List (List CC)->List (List CC)->Prop
 |nil:ro σ m Z p [] []
 |cons {c c':List CC} {r r':List (List CC)} (h:yC σ m Z p c c') (hr:ro σ m Z p r r'):ro σ m Z p (c::r) (c'::r')
theorem ro.len{σ:Nat->Nat}{m:Mem}{Z:Nat->Prop}{p:Option Nat}{a b:List (List CC)}(h:ro σ m Z p a b):a.length=b.length:=by induction h<;>simp[*]
theorem ro.get{σ:Nat->Nat}{m:Mem}{Z:Nat->Prop}{p:Option Nat}{a b:List (List CC)}(h:ro σ m Z p a b):∀(i:Nat)c d,a[i]? =some c->b[i]? =some d->yC σ m Z p c d:=by
 induction h with
 |nil=>intro i c d h;simp at h
 |cons h hr ih=>
  intro i c d h1 h2;cases i with
  |zero=>simp at h1 h2;subst h1 h2;exact h
  |succ i=>exact ih i c d (by simpa using h1) (by simpa using h2)
theorem ro.mE{σ:Nat->Nat}{m:Mem}{Z:Nat->Prop}{p:Option Nat}{a b c d:List (List CC)}(h:ro σ m Z p a b)(g:ro σ m Z p c d):ro σ m Z p (a++c) (b++d):=by
 induction h with
 |nil=>exact g
 |cons h _ ih=>exact .cons h ih
theorem ro.row{σ:Nat->Nat}{m:Mem}{Z:Nat->Prop}{id s:Nat}{a b:List (List CC)}(h:ro σ m Z (some id) a b):lA σ m Z id (.row s a) (.row s b):=
 .row s h.len (fun i c d h1 h2=>(h.get i c d h1 h2).len) fun i c d j x y h1 h2 h3 h4=>(h.get i c d h1 h2).get j x y h3 h4
end Kn
namespace Kn
theorem dY.mE{m:Mem}{Z:Nat->Prop}{p:Option Nat}{a c:List (List CC)}{b d:List (List Dt)}(h:dY m Z p a b)(g:dY m Z p c d):dY m Z p (a++c) (b++d):=by
 induction h with
 |nil=>exact g
 |cons h _ ih=>exact .cons h ih
end Kn
namespace Kn
def JP(r:R4):Prop:=r.f4≠0\/r.br= -1\/r.br=1\/r.br=3
structure JL(l:List Ob):Prop where
 k1:(iT l 1).ah=2
 k3:(iT l 3).ah=1
 f:∀w,jH l 1 w<0\/jH l 1 w=3\/jH l 1 w=4/\(iT l 4).ah=3
theorem JP.no{e:Int}(h:e≠0):JP (R4.no e):= .inl h
theorem uV{l:List Ob}(h:JL l)(rec:Nat->List bp.cQ->Nat->R4)(sw:∀rest k,JP (rec 1 rest k)):∀(todo:List bp.cQ)(a:Nat),a=1\/a=3->JP (Ad l 1 true true rec todo a)
 | [],a,ha=>by
  rw[Ad];rcases ha with rfl|rfl
  .exact .inr (.inr (.inl rfl))
  .exact .inr (.inr (.inr rfl))
 |w::rest,a,ha=>by
  rw[Ad];rcases ha with rfl|rfl
  .rw[if_neg (by rw[h.k1];decide)]
   by_cases hw:w=[46,46]
   .rw[if_pos hw,if_pos ⟨rfl,rfl⟩];exact JP.no (by decide)
   rw[if_neg hw];by_cases hf:jH l 1 w<0
   .rw[if_pos hf];split
    .exact JP.no (by decide)
    .exact .inr (.inl rfl)
   rw[if_neg hf];rcases h.f w with h0|h3|⟨h4,k4⟩
   .exact absurd h0 hf
   .rw[h3,show((3:Int).toNat)=3 from rfl,if_neg (by rw[h.k3];simp)]
    split
    .exact .inr (.inr (.inr rfl))
    .exact uV h rec sw rest 3 (.inr rfl)
   .rw[h4,show((4:Int).toNat)=4 from rfl,if_pos ⟨k4,.inl rfl⟩];exact sw rest 4
  .rw[if_pos (by rw[h.k3];decide)]
   exact JP.no (by decide)
theorem E8{l:List Ob}(h:JL l):∀(n:Nat)(todo:List bp.cQ),JP (wB l 1 true true n todo 1)
 |0,todo=>uV h _ (fun _ _=>JP.no (by decide)) todo 1 (.inl rfl)
 |n+1,todo=>by
  rw[wB];refine uV h _ (fun rest k=>?_) todo 1 (.inl rfl)
  rw[K3];split
  .exact JP.no (by assumption)
  .split
   .exact JP.no (by decide)
   .rename_i h1 h2;rw[if_neg (fun hh=>h2 ⟨hh,rfl⟩)]
    exact E8 h n _
theorem Hg{l:List Ob}(h:JL l)(hs:lN l 1 0=true)(s:bp.cQ):JP (mf l 1 s true true):=by
 rw[mf,if_pos hs,if_neg (by show ¬(iT l 1).ah≠2;rw[h.k1];decide)]
 split
 .exact JP.no (by assumption)
 .split
  .exact JP.no (by decide)
  .rename_i h1 h2;rw[if_neg (fun hh=>h2 ⟨hh,rfl⟩)]
   exact E8 h 6 _
end Kn
namespace Kn
def PA:List dS:=iU rn
def YB(bm:bp.cQ):Cl:={Hv with ah:=12,bm:=bm}
def MZ(bm:bp.cQ)(d:List Int):Cl:={Hv with ah:=13,bm:=bm,data:=d}
def c71:Cl:={Hv with ah:=7,fd:=1}
def Hh:List Cl:=[YB [106,97,105,108],Qv [47,115,101,99,114,101,116] 1 4095,TD 1 [83,69,67,82,69,84],c71,Qv [47,106,97,105,108,47,109,105,110,101] 1 4095,TD 1 [109,105,110,101],c71]
def AZ:List Cl:=[Qv [47,106,97,105,108] 0 4095,{Hv with ah:=7},{Hv with ah:=1}]
def sU(bm:bp.cQ):Cl:={Hv with ah:=3,fd:=1,bm:=bm,aR:=1}
def M0(n:Int):Cl:={Hv with ah:=4,n:=n}
def jE(n:ByteArray)(k:Int):List Dt:=[.val (.string n),.val (.int .i64 k)]
def TE:Obj:={fA with aj:=[jE ⟨#[106,97,105,108]⟩ 1,jE ⟨#[115,101,99,114,101,116]⟩ 2]}
def TF(es:List (List Dt)):Obj:=⟨2,[],es,⟨#[]⟩,-1,[],-1,1,0⟩
def eM:List Dt:=jE ⟨#[109,105,110,101]⟩ 3
def eL:List Dt:=jE ⟨#[108]⟩ 4
def DI(t:ByteArray):Obj:=⟨3,[],[],t,-1,[],-1,1,0⟩
def jK(es:List (List Dt))(r:List Obj)(ops:List bD)(Te:Bool)(sl:List fq):Kr:=⟨TE::TF es::fO (fB [83,69,67,82,69,84])::fO (fB [109,105,110,101])::r,ops,[⟨true,Te,0,sl⟩]⟩
def s4:List fq:=[⟨true,0,4095⟩]
def s5:List fq:=[⟨false,0,0⟩,⟨true,1,4095⟩]
def k7:Kr:=jK [eM] [] [⟨0,0⟩] false s4
theorem ja7:kS PA cy Hh=k7:=by kernel_rfl
theorem Xi:aS PA cy Hh=[An.no 0,⟨0,1,0,[]⟩,⟨0,6,0,[]⟩,An.no 0,⟨0,1,0,[]⟩,⟨0,4,0,[]⟩,An.no 0]:=by kernel_rfl
def lp:bp.cQ:=[106,97,105,108,47,108]
theorem Xj(d:List Int):nI PA k7 (MZ lp d)=u4 k7 (Hu (gZ k7 (MZ lp d) ((0,4095),0,0))):=by kernel_rfl
theorem Xk(d:List Int):u4 k7 (Hu (mi k7 (MZ lp d) (fW k7 0 lp true false)))=(jK [eL,eM] [DI (bp.b7 (mh d))] [⟨0,0⟩] false s4,An.no 0):=by kernel_rfl
theorem ja8(d:List Int):∃es r a,nI PA k7 (MZ lp d)=(jK es r [⟨0,0⟩] false s4,a)/\(es=[eM]/\r=[]\/∃t,es=[eL,eM]/\r=[DI t]):=by
 rw[Xj,gZ,if_neg aI];by_cases h:(bp.cm (mh d)).2.2≠0
 .rw[if_pos ⟨rfl,h⟩];refine⟨[eM],[],An.no (bp.cm (mh d)).2.2,?_,.inl ⟨rfl,rfl⟩⟩;rw[u4,if_pos (show(Hu (k7,(bp.cm (mh (MZ lp d).data)).2.2)).2.f4≠0 from h)];rfl
 .rw[if_neg (fun hh=>h hh.2)]
  exact⟨[eL,eM],[DI (bp.b7 (mh d))],An.no 0,Xk d,.inr ⟨_,rfl,rfl⟩⟩
theorem Xl(es:List (List Dt))(r:List Obj)(h:es=[eM]/\r=[]\/∃t,es=[eL,eM]/\r=[DI t]):kS PA (jK es r [⟨0,0⟩] false s4) AZ=jK es r [⟨-1,0⟩,⟨1,0⟩] true s5/\aS PA (jK es r [⟨0,0⟩] false s4) AZ=[⟨0,1,0,[]⟩,An.no 0,An.no 0]:=by
 rcases h with⟨rfl,rfl⟩|⟨t,rfl,rfl⟩
 .exact⟨by kernel_rfl,by kernel_rfl⟩
 .exact⟨by kernel_rfl,by kernel_rfl⟩
theorem TG(L:List NE)(a:ByteArray)(x:Int)(name:ByteArray):dG ((a,x)::L) name=x\/dG ((a,x)::L) name=dG L name:=by
 simp only[dG,List.find?_cons];by_cases h:decide (a.toList=name.toList)=true
 .rw[h];exact .inl rfl
 .rw[abm]at h;rw[h];exact .inr rfl
theorem N9(es:List (List Dt))(r:List Obj)(h:es=[eM]/\r=[]\/∃t,es=[eL,eM]/\r=[DI t]):JL ((jK es r [⟨-1,0⟩,⟨1,0⟩] true s5).l.map Obj.ob)/\lN ((jK es r [⟨-1,0⟩,⟨1,0⟩] true s5).l.map Obj.ob) 1 0=true:=by
 have h3:∀w:bp.cQ,dG [(⟨#[109,105,110,101]⟩,3)] (bp.b7 w)<0\/dG [(⟨#[109,105,110,101]⟩,3)] (bp.b7 w)=3:=fun w=>by
  rcases TG [] ⟨#[109,105,110,101]⟩ 3 (bp.b7 w)with h|h
  .exact .inr h
  .rw[h];exact .inl (show(-1:Int)<0 by decide)
 rcases h with⟨rfl,rfl⟩|⟨t,rfl,rfl⟩
 .refine⟨⟨by kernel_rfl,by kernel_rfl,fun w=>?_⟩,by kernel_rfl⟩
  rcases h3 w with h|h
  .exact .inl h
  .exact .inr (.inl h)
 .refine⟨⟨by kernel_rfl,by kernel_rfl,fun w=>?_⟩,by kernel_rfl⟩
  rcases TG [(⟨#[109,105,110,101]⟩,3)] ⟨#[108]⟩ 4 (bp.b7 w)with h|h
  .exact .inr (.inr ⟨h,by kernel_rfl⟩)
  .rcases h3 w with g|g
   .exact .inl (h▸g:dG [(⟨#[108]⟩,4),(⟨#[109,105,110,101]⟩,3)] (bp.b7 w)<0)
   .exact .inr (.inl (h.trans g))
theorem Xm(es:List (List Dt))(r:List Obj)(bm:bp.cQ)(h:es=[eM]/\r=[]\/∃t,es=[eL,eM]/\r=[DI t]):
  nI PA (jK es r [⟨-1,0⟩,⟨1,0⟩] true s5) (sU bm)=u4 (jK es r [⟨-1,0⟩,⟨1,0⟩] true s5) (eI 0 (sU bm) (bR (jK es r [⟨-1,0⟩,⟨1,0⟩] true s5) (sU bm) (fW (jK es r [⟨-1,0⟩,⟨1,0⟩] true s5) 1 bm true true))):=by
 rcases h with⟨rfl,rfl⟩|⟨t,rfl,rfl⟩
 .kernel_rfl
 .kernel_rfl
def JA(n:Nat)(a b:An):Prop:=a.f4≠0/\b.f4=6\/a.f4=0/\a.n=0/\(b=An.no 12\/b.f4=0/\b.data=(fB [109,105,110,101]).take n)
abbrev jT(es:List (List Dt))(r:List Obj):Kr:=jK es r [⟨-1,0⟩,⟨1,0⟩] true s5
abbrev jU(es:List (List Dt))(r:List Obj)(o:Int):Kr:=jK es r [⟨o,0⟩,⟨1,0⟩] true [⟨true,0,1⟩,⟨true,1,4095⟩]
abbrev JH(es:List (List Dt))(r:List Obj):Prop:=es=[eM]/\r=[]\/∃t,es=[eL,eM]/\r=[DI t]
theorem YC(es r)(h:JH es r)(n:Int):nI PA (jT es r) (M0 n)=(jT es r,An.no 6):=by
 rcases h with⟨rfl,rfl⟩|⟨t,rfl,rfl⟩
 .kernel_rfl
 .kernel_rfl
theorem jo1(es r)(h:JH es r)(bm:bp.cQ):u4 (jT es r) (eI 0 (sU bm) (jT es r,1,0))=(jU es r 1,⟨0,0,0,[]⟩):=by
 rcases h with⟨rfl,rfl⟩|⟨t,rfl,rfl⟩
 .kernel_rfl
 .kernel_rfl
theorem jo3(es r)(h:JH es r)(bm:bp.cQ):u4 (jT es r) (eI 0 (sU bm) (jT es r,3,0))=(jU es r 3,⟨0,0,0,[]⟩):=by
 rcases h with⟨rfl,rfl⟩|⟨t,rfl,rfl⟩
 .kernel_rfl
 .kernel_rfl
theorem jr1(es r)(h:JH es r)(n:Int):nI PA (jU es r 1) (M0 n)=(jU es r 1,An.no 12):=by
 rcases h with⟨rfl,rfl⟩|⟨t,rfl,rfl⟩
 .kernel_rfl
 .kernel_rfl
theorem jr3(es r)(h:JH es r)(n:Int):nI PA (jU es r 3) (M0 n)=u4 (jU es r 3) (oF (jU es r 3) 0 0 (gm 1 (fB [109,105,110,101]) 0 n)):=by
 rcases h with⟨rfl,rfl⟩|⟨t,rfl,rfl⟩
 .kernel_rfl
 .kernel_rfl
theorem P4(es r)(h:JH es r)(bm:bp.cQ)(n:Nat):JA n (nI PA (jT es r) (sU bm)).2 (nI PA (nI PA (jT es r) (sU bm)).1 (M0 n)).2:=by
 have hj:=Hg (N9 es r h).1 (N9 es r h).2 bm;rw[Xm es r bm h];have hj:JP (fW (jT es r) 1 bm true true):=hj;generalize fW (jT es r) 1 bm true true=f at hj⊢;by_cases he:f.f4≠0
 .have h1:u4 (jT es r) (eI 0 (sU bm) (bR (jT es r) (sU bm) f))=(jT es r,An.no f.f4):=by rw[bR,if_pos he,eI,if_pos he,u4,if_pos (show(An.no f.f4).f4≠0 from he)];rfl
  rw[h1,YC es r h];exact .inl ⟨he,rfl⟩
 have he:f.f4=0:=by simpa using he
 rcases hj with h0|h0|h0|h0
 .exact absurd he h0
 .have h1:u4 (jT es r) (eI 0 (sU bm) (bR (jT es r) (sU bm) f))=(jT es r,An.no 6):=by
   rw[bR,if_neg (by simp[he]),if_pos (by rw[h0];decide),if_pos (show iK (sU bm).bi 1=0 by kernel_rfl),eI,if_pos aI,u4,if_pos (by simp[An.no])]
   rfl
  rw[h1,YC es r h];exact .inl ⟨by simp[An.no],rfl⟩
 .have h1:u4 (jT es r) (eI 0 (sU bm) (bR (jT es r) (sU bm) f))=(jU es r 1,⟨0,0,0,[]⟩):=by
   rw[bR,if_neg (by simp[he]),if_neg (by rw[h0];decide),if_neg (fun hh=>hh.1 (show iK (sU bm).bi 2=0 by kernel_rfl)),h0]
   exact jo1 es r h bm
  rw[h1,jr1 es r h];exact .inr ⟨rfl,rfl,.inl rfl⟩
 .have h1:u4 (jT es r) (eI 0 (sU bm) (bR (jT es r) (sU bm) f))=(jU es r 3,⟨0,0,0,[]⟩):=by
   rw[bR,if_neg (by simp[he]),if_neg (by rw[h0];decide),if_neg (fun hh=>hh.1 (show iK (sU bm).bi 2=0 by kernel_rfl)),h0]
   exact jo3 es r h bm
  rw[h1,jr3 es r h];have hr:gm 1 (fB [109,105,110,101]) 0 (n:Nat)=((fB [109,105,110,101]).take n,0):=by
   rw[gm,if_neg (by decide),if_neg (by decide),if_neg om,Wk]
   have e1:df (0:Int).toNat (fB [109,105,110,101]).length=0:=rfl;rw[CI,e1,abt,aai,aa9];congr 1;unfold df;split
   .rename_i h4;rw[aal,aaR om]
   .rfl
  rw[hr,oF,if_neg aI];rw[u4,if_neg aI];exact .inr ⟨rfl,rfl,.inr ⟨rfl,rfl⟩⟩
end Kn
def c3:LF:= ⟨110,[.tmp 6],(.seq (.ai [qu 6 (.aF (qb false))]) (.seq (.seq (.ai [qu 13 (qc 8 []),qu 14 (.un .not 13)]) (.cond 14 (.seq (.ai [qu 6 (.aF (qb false))]) .ret) .skip)) (.seq (.seq (.ai [qm 15 2,qu 16 (.aH .lss 15 (qi 0)),qm 17 16,qg 18 (.aF 2) 17 false,qg 19 (.aH .gtr 18 (qi 60)) 17 false,qu 20 (.pick 17 (qb true) 19)]) (.cond 20 (.seq (.ai [qu 6 (.aF (qb true))]) .ret) .skip)) (.seq (.ai [qu 21 (.build [(qd 0),(qd 0),(qd 0),(qd 0),(qd 0),(qd 0),(qd 0),(.aa (.val (.string ⟨#[]⟩))),.aB] [(1,1,(qi 12)),(7,1,(.c (.rv (.one (.aa (.val (.string ⟨#[106,97,105,108]⟩)))))))]),qu 22 (qc 9 [(.c (.rv (.one (.aa (.val (.string ⟨#[47,115,101,99,114,101,116]⟩)))))),(qi 1),(qi 4095)]),qu 23 (qc 10 [(qi 1),(.c (.rv (.one (.aa (.val (.string ⟨#[83,69,67,82,69,84]⟩))))))]),qu 24 (.build [(qd 0),(qd 0),(qd 0),(qd 0),(qd 0),(qd 0),(qd 0),(.aa (.val (.string ⟨#[]⟩))),.aB] [(1,1,(qi 7)),(2,1,(qi 1))]),qu 25 (qc 9 [(.c (.rv (.one (.aa (.val (.string ⟨#[47,106,97,105,108,47,109,105,110,101]⟩)))))),(qi 1),(qi 4095)]),qu 26 (qc 10 [(qi 1),(.c (.rv (.one (.aa (.val (.string ⟨#[109,105,110,101]⟩))))))]),qu 27 (.build [(qd 0),(qd 0),(qd 0),(qd 0),(qd 0),(qd 0),(qd 0),(.aa (.val (.string ⟨#[]⟩))),.aB] [(1,1,(qi 7)),(2,1,(qi 1))]),qm 28 1,qu 29 (.Oa 28),qu 30 (.build [(qd 0),(qd 0),(qd 0),(qd 0),(qd 0),(qd 0),(qd 0),(.aa (.val (.string ⟨#[]⟩))),.aB] [(1,1,(qi 13)),(7,1,(.c (.rv (.one (.aa (.val (.string ⟨#[106,97,105,108,47,108]⟩))))))),(8,1,29)]),qu 31 (qc 9 [(.c (.rv (.one (.aa (.val (.string ⟨#[47,106,97,105,108]⟩)))))),(qi 0),(qi 4095)]),qu 32 (.build [(qd 0),(qd 0),(qd 0),(qd 0),(qd 0),(qd 0),(qd 0),(.aa (.val (.string ⟨#[]⟩))),.aB] [(1,1,(qi 7))]),qu 33 (.build [(qd 0),(qd 0),(qd 0),(qd 0),(qd 0),(qd 0),(qd 0),(.aa (.val (.string ⟨#[]⟩))),.aB] [(1,1,(qi 1))]),qm 34 0,qu 35 (.build [(qd 0),(qd 0),(qd 0),(qd 0),(qd 0),(qd 0),(qd 0),(.aa (.val (.string ⟨#[]⟩))),.aB] [(1,1,(qi 3)),(2,1,(qi 1)),(7,1,34),(6,1,(qi 1))]),qm 36 2,qu 37 (.build [(qd 0),(qd 0),(qd 0),(qd 0),(qd 0),(qd 0),(qd 0),(.aa (.val (.string ⟨#[]⟩))),.aB] [(1,1,(qi 4)),(4,1,36)]),qu 38 (.l5 9 [(qd 0),(qd 0),(qd 0),(qd 0),(qd 0),(qd 0),(qd 0),(.aa (.val (.string ⟨#[]⟩))),.aB] 13 [(0,21),(1,22),(2,23),(3,24),(4,25),(5,26),(6,27),(7,30),(8,31),(9,32),(10,33),(11,35),(12,37)]),qm 7 38]) (.cI (.seq (.ai [qu 40 (qc 12 []),qm 41 7,qu 42 (qc 11 [40,41]),qm 39 42,qu 43 (.ext 39 0),qu 44 (.ext 39 1),qu 45 (.ext 39 2),qu 8 (.alloc [.aB,.aB,.aB]),qw (.store 3 8 43),qm 9 44,qm 10 45]) (.seq (.seq (.ai [qm 46 10,qu 47 (.aH .neq 46 (qi 0)),qm 48 47,qg 49 (.aF 9) 48 false,qg 50 (.len 1 49) 48 false,qg 51 (.aF 7) 48 false,qg 52 (.len 1 51) 48 false,qg 53 (.aH .neq 50 52) 48 false,qu 54 (.pick 48 (qb true) 53)]) (.cond 54 (.seq (.ai [qu 6 (.aF (qb false))]) .ret) .skip)) (.seq (.seq (.ai [qu 55 (.aF (qi 0))]) (.block 0 (.loop (.seq (.ai [qu 56 (.aH .lss 55 (qi 11))]) (.seq (.cond 56 .skip (.exit 0)) (.seq (.block 1 (.seq (.ai [qm 57 55,qm 11 57]) (.seq (.ai [qm 58 9,qm 59 11,qu 60 (.cr 4 58 59),qf 61 0 60,ql 62 61,qu 63 (.aH .neq 62 (qi 0)),qm 64 63,qg 65 (.aF 11) 64 true,qg 66 (.aH .neq 65 (qi 7)) 64 true,qu 67 (.pick 64 66 (qb false))]) (.cond 67 (.seq (.ai [qu 6 (.aF (qb false))]) .ret) .skip)))) (.ai [qu 68 (.aH .add 55 (qi 1)),qm 55 68]))))))) (.seq (.seq (.ai [qm 69 9,qu 70 (.cr 4 69 (qi 11)),qf 71 0 70,ql 72 71,qu 73 (.aH .neq 72 (qi 0))]) (.cond 73 (.seq (.ai [qm 74 9,qu 75 (.cr 4 74 (qi 12)),qf 76 0 75,ql 77 76,qu 78 (.aH .eql 77 (qi 6)),qm 6 78]) .ret) .skip)) (.seq (.ai [qm 79 9,qu 80 (.cr 4 79 (qi 12)),qf 81 3 80,ql 82 81,qu 83 (.Oc 82),qm 12 83]) (.seq (.ai [qm 84 9,qu 85 (.cr 4 84 (qi 11)),qf 86 1 85,ql 87 86,qu 88 (.aH .eql 87 (qi 0)),qm 89 88,qg 90 (.aF 9) 89 true,qg 91 (.cr 4 90 (qi 12)) 89 true,qg 92 (.bX 0 91) 89 true,qg 93 (.load false 1 92) 89 true,qg 94 (.aH .eql 93 (qi 12)) 89 true,qg 95 (.aF 94) 89 true,qg 96 (.aF 9) 95 false,qg 97 (.cr 4 96 (qi 12)) 95 false,qg 98 (.bX 0 97) 95 false,qg 99 (.load false 1 98) 95 false,qg 100 (.aH .eql 99 (qi 0)) 95 false,qg 101 (.aF 100) 95 false,qg 102 (.aF 12) 101 true,qg 103 (.aF 2) 101 true,qg 104 (.hC false [103,(qi 4)]) 101 true,qg 105 (.Bl (.c (.rv (.one (.aa (.val (.string ⟨#[109,105,110,101]⟩)))))) none (some 104)) 101 true,qg 106 (.aH .eql 102 105) 101 true,qg 107 (.pick 101 106 (qb false)) 95 false,qg 108 (.pick 95 (qb true) 107) 89 true,qu 109 (.pick 89 108 (qb false)),qm 6 109]) .ret)))))))))))⟩
namespace Kn
theorem lT3:bs Tryz.prog Tryz.f3=some c3.er:=by kernel_rfl
def K6(lk:List Int)(bm:bp.cQ)(n:Int):List Cl:=Hh++(MZ lp lk::(AZ++ [sU bm,M0 n]))
theorem M1(lk:List Int)(bm:bp.cQ)(n:Nat):∃a8 a b,aS PA cy (K6 lk bm n)=[An.no 0,⟨0,1,0,[]⟩,⟨0,6,0,[]⟩,An.no 0,⟨0,1,0,[]⟩,⟨0,4,0,[]⟩,An.no 0,a8,⟨0,1,0,[]⟩,An.no 0,An.no 0,a,b]/\JA n a b:=by obtain⟨es,r,a8,h8,nD⟩:=ja8 lk;refine⟨a8,(nI PA (jT es r) (sU bm)).2,(nI PA (nI PA (jT es r) (sU bm)).1 (M0 n)).2,?_,P4 es r nD bm n⟩;have C9:=Xl es r nD;rw[K6,DH,Xi,ja7];show _++((nI PA k7 (MZ lp lk)).2::aS PA (nI PA k7 (MZ lp lk)).1 (AZ++ [sU bm,M0 n]))=_;rw[h8];show _++(a8::aS PA (jK es r [⟨0,0⟩] false s4) (AZ++ [sU bm,M0 n]))=_;rw[DH,C9.1,C9.2];rfl
theorem Xn(lk:List Int)(hl:lk.length<=4194304)(bm:bp.cQ)(n:Int):KG (K6 lk bm n):=by
 refine⟨by simp[K6,Hh,AZ],fun c hc=>?_⟩
 simp only[K6,Hh,AZ,aaN,aaf,abf,or_false]at hc;rcases hc with(rfl|rfl|rfl|rfl|rfl|rfl|rfl)|rfl|(rfl|rfl|rfl)|rfl|rfl<;>simp[Qv,TD,YB,MZ,sU,M0,c71,Hv]<;>omega
theorem Hi(p k:ByteArray)(sM:p.size<=4194304)(Ba:k.size<=4194304)(n:Int):body Tryz.prog c3 [dh p,dh k,an .i64 n] [] (fun r _=>r=ay true):=by
 refine He ?_;refine aD (fun h=>rfl) (fun h1=>?_)
 have h1:¬n<0:=of_decide_eq_false h1;refine aD (fun h=>rfl) (fun h2=>?_)
 have h2:¬n>60:=of_decide_eq_false h2;obtain⟨a,rfl⟩:∃a:Nat,n=a:=⟨n.toNat,om⟩;obtain⟨t,rfl⟩:=bp.x5 p;refine uU [47,115,101,99,114,101,116] 1 4095 ?_;refine wW 1 ⟨#[83,69,67,82,69,84]⟩ (by decide) ?_
 refine uU [47,106,97,105,108,47,109,105,110,101] 1 4095 ?_;refine wW 1 ⟨#[109,105,110,101]⟩ (by decide) ?_
 refine⟨om,?_⟩;refine uU [47,106,97,105,108] 0 4095 ?_;have fj:(Hw k).length<=4194304:=by rw[MY];exact Ba
 refine⟨⟨kR 110 [(2,an .i64 (a:Nat)),(7,KF (K6 (Hw k) t a))],[.aO,.aO]⟩,View.o 2 [0,1] [0,1] ?_ (.aO (.aO (.nil _))),?_⟩
 .repeat(first|exact .nil|refine .ar ?_|refine .eq rfl ?_|refine .put (.rv (.one (.eZ (dY.eZ (Z:=fun k=>bz [0,1] k=true) ?_ rfl rfl)))) ?_)
  repeat(first|exact gV.nil|exact dY.nil|refine dY.cons ?_ ?_|refine gV.cons ?_ ?_|exact .aa _|exact .aB 1|exact dj.dX (Z:=fun k=>bz [0,1] k=true) (ds:=fB (Hw k)) rfl (show some (Bk.row 1 (js k))=_ by simp[js,fB,Hw,af]) 0 none)
  all_goals repeat(first|exact .nil|refine .ar ?_|refine .eq rfl ?_)
 refine AX ?_;refine E7 rn (K6 (Hw k) t a) (Xn _ fj _ _) (fun h=>absurd KH h) (fun _ h=>absurd h (by simp[K6,Hh,AZ])) fun _ _ l' hp hr=>?_
 obtain⟨a8,x,y,hA,hJ⟩:=M1 (Hw k) t a;have hA:aS (iU rn) cy (K6 (Hw k) t a)=_:=hA;rw[AW hp hr,hA];generalize kS (iU rn) cy (K6 (Hw k) t a)=kk;refine ba (fun i=>i<=11) [2,9] (fun i=>[(55,an .i64 (i:Nat))]) (fun _=>[.aO,.aO,.aO]) (fun i=>11-i) 0 (Wi _) ?_ (fun i hi=>?_)
 .refine View.o 3 [0,1,2] [] ?_ (.aO (.aO (.aO (.nil _))));repeat(first|exact .nil|refine .ar ?_|refine .eq rfl ?_)
 have hi:i<=11:=hi;refine aJ (fun h=>?_) (fun h=>?_)
 .have aE:i<11:=by have h:(i:Int)<11:=h;omega
  have hc:i=0\/i=1\/i=2\/i=3\/i=4\/i=5\/i=6\/i=7\/i=8\/i=9\/i=10:=om;rcases hc with rfl|rfl|rfl|rfl|rfl|rfl|rfl|rfl|rfl|rfl|rfl
  .refine⟨1,(show 1<=11 by omega),(show 11-1<11-0 by omega),View.o 3 [0,1,2] [] ?_ (.aO (.aO (.aO (.nil _))))⟩
   repeat(first|exact .nil|refine .ar ?_|refine .eq rfl ?_)
  .refine⟨2,(show 2<=11 by omega),(show 11-2<11-1 by omega),View.o 3 [0,1,2] [] ?_ (.aO (.aO (.aO (.nil _))))⟩
   repeat(first|exact .nil|refine .ar ?_|refine .eq rfl ?_)
  .refine⟨3,(show 3<=11 by omega),(show 11-3<11-2 by omega),View.o 3 [0,1,2] [] ?_ (.aO (.aO (.aO (.nil _))))⟩
   repeat(first|exact .nil|refine .ar ?_|refine .eq rfl ?_)
  .refine⟨4,(show 4<=11 by omega),(show 11-4<11-3 by omega),View.o 3 [0,1,2] [] ?_ (.aO (.aO (.aO (.nil _))))⟩
   repeat(first|exact .nil|refine .ar ?_|refine .eq rfl ?_)
  .refine⟨5,(show 5<=11 by omega),(show 11-5<11-4 by omega),View.o 3 [0,1,2] [] ?_ (.aO (.aO (.aO (.nil _))))⟩
   repeat(first|exact .nil|refine .ar ?_|refine .eq rfl ?_)
  .refine⟨6,(show 6<=11 by omega),(show 11-6<11-5 by omega),View.o 3 [0,1,2] [] ?_ (.aO (.aO (.aO (.nil _))))⟩
   repeat(first|exact .nil|refine .ar ?_|refine .eq rfl ?_)
  .refine⟨7,(show 7<=11 by omega),(show 11-7<11-6 by omega),View.o 3 [0,1,2] [] ?_ (.aO (.aO (.aO (.nil _))))⟩
   repeat(first|exact .nil|refine .ar ?_|refine .eq rfl ?_)
  .refine aD (fun h=>?_) (fun h=>?_)
   .refine⟨8,(show 8<=11 by omega),(show 11-8<11-7 by omega),View.o 3 [0,1,2] [] ?_ (.aO (.aO (.aO (.nil _))))⟩
    repeat(first|exact .nil|refine .ar ?_|refine .eq rfl ?_)
   .refine⟨8,(show 8<=11 by omega),(show 11-8<11-7 by omega),View.o 3 [0,1,2] [] ?_ (.aO (.aO (.aO (.nil _))))⟩
    repeat(first|exact .nil|refine .ar ?_|refine .eq rfl ?_)
  .refine⟨9,(show 9<=11 by omega),(show 11-9<11-8 by omega),View.o 3 [0,1,2] [] ?_ (.aO (.aO (.aO (.nil _))))⟩
   repeat(first|exact .nil|refine .ar ?_|refine .eq rfl ?_)
  .refine⟨10,(show 10<=11 by omega),(show 11-10<11-9 by omega),View.o 3 [0,1,2] [] ?_ (.aO (.aO (.aO (.nil _))))⟩
   repeat(first|exact .nil|refine .ar ?_|refine .eq rfl ?_)
  .refine⟨11,(show 11<=11 by omega),(show 11-11<11-10 by omega),View.o 3 [0,1,2] [] ?_ (.aO (.aO (.aO (.nil _))))⟩
   repeat(first|exact .nil|refine .ar ?_|refine .eq rfl ?_)
 .rcases hJ with⟨hx,hy⟩|⟨hx,hn,hy⟩
  .refine cj (show(x.f4 !=0)=true by simpa using hx) ?_
   show ay (y.f4==6)=ay true;rw[hy];rfl
  .refine tJ (show(x.f4 !=0)=false by rw[hx];rfl) ?_
   rcases hy with rfl|⟨hy,hd⟩
   .refine cj (show(x.n==0)=true by rw[hn];rfl) ?_
    exact rfl
   .obtain⟨ye,yn,ym,yd⟩:=y;have hy:ye=0:=hy;have hd:yd=(fB [109,105,110,101]).take a:=hd;subst hy;rw[KK]at hd;have nX:=lm (([109,105,110,101]:List Int).take a);rw[<-hd]at nX;clear hd;refine ag nX ?_;refine cj (show(x.n==0)=true by rw[hn];rfl) ?_
    have hm4:df a 4<=4:=by unfold df;split<;>omega
    have hN:nC (an .i64 (if(4:Int)<(a:Int)then 4 else(a:Int)))=some (df a 4):=by
     unfold df;by_cases h4:4<a
     .rw[if_pos h4,if_pos om];rfl
     .rw[if_neg h4,if_neg om];rfl
    refine ag hN ?_;refine cj (show(Nat.ble 0 (df a 4)&&Nat.ble (df a 4) 4)=true by rw[Nat.ble_eq_true_of_le hm4];rfl) ?_
    show ay ((strOfNums (([109,105,110,101]:List Int).take a)).toList==((⟨#[109,105,110,101]⟩:ByteArray).extract 0 (df a 4)).toList)=ay true;have hE:strOfNums (([109,105,110,101]:List Int).take a)=(⟨#[109,105,110,101]⟩:ByteArray).extract 0 (df a 4):=by
     have h:=Hf ⟨#[109,105,110,101]⟩ 0 (df a 4);rw[abt,aai]at h;rw[<-h];congr 1;show List.take a _=List.take (df a 4) _;unfold df;split
     .rw[aaR (by simp;omega)];rfl
     .rfl
    rw[hE];simp
theorem KL(p:ByteArray)(sM:p.size<=4194304)(k:ByteArray)(Ba:k.size<=4194304)(n:Int):aq Tryz.prog 3 [dh p,dh k,an .i64 n] [] fun r _=>r=ay true:=
 i5 Tryz.func3 lT3 rfl (V5 rfl) (Hi p k sM Ba n)
end Kn
end Go.Proofs.YtodckkkbiidffaaGreatDoor
