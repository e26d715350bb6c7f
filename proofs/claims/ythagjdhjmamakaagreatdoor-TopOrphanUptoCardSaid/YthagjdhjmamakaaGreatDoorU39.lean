/- Part 39 of 43: what the law stands on. -/
import Derived.Test.YthagjdhjmamakaaGreatDoorT16
import Derived.Test.YthagjdhjmamakaaGreatDoorT24
import Derived.Test.YthagjdhjmamakaaGreatDoorT29
import Derived.Test.YthagjdhjmamakaaGreatDoorT37
import Derived.Test.YthagjdhjmamakaaGreatDoorT38
set_option linter.unusedVariables false
set_option linter.unusedSimpArgs false
set_option linter.unnecessarySimpa false
set_option maxRecDepth 100000
set_option maxHeartbeats 64000000
namespace Go.Proofs.YthagjdhjmamakaaGreatDoor
open Go.AM Go.ChangeShapes Go.WideShapes Go.ChangeAt Go.RowKit
def c15:LF:= ⟨10,[.cell true 3 0],(.seq (.ai [qu 0 (.alloc [.aB,.aB,.aB])]) (.seq (.ai [qu 1 (qc 24 []),qu 2 (.build [(qd 0),(qd 0)] []),qu 3 (.lu 2 [(qd 0),(qd 0)] 1 [(0,2)]),qu 4 (.build [(qd 0),(qd 0)] [(1,1,(qi 4095))]),qu 5 (.build [(.aa (.val (.bool false))),(qd 0),(qd 0)] [(0,1,(qb true)),(1,2,4)]),qu 6 (.lu 3 [(.aa (.val (.bool false))),(qd 0),(qd 0)] 1 [(0,5)]),qu 7 (.build [(.aa (.val (.bool false))),(.aa (.val (.bool false))),(qd 0),.aB] [(0,1,(qb true)),(3,1,6)]),qu 8 (.lu 4 [(.aa (.val (.bool false))),(.aa (.val (.bool false))),(qd 0),.aB] 1 [(0,7)]),qu 9 (.build [.aB,.aB,.aB] [(0,1,1),(1,1,3),(2,1,8)]),qw (.store 3 0 9)]) .ret))⟩
theorem l15:bq Tryz.prog Tryz.f15=some c15:=by kernel_rfl
def fH:Obj:=⟨2,[],[],⟨#[]⟩,-1,[],-1,1,0⟩
def bw:Kr:=⟨[fH],[⟨0,0⟩],[⟨true,false,0,[⟨true,0,4095⟩]⟩]⟩
theorem Rm{m:Mem}{Z:Nat->Prop}{p:Option Nat}:gx m Z p [.aa (.val (.int .i64 2)),.aB,.aB,.aa (.val (.string ⟨#[]⟩)),.aa (.val (.int .i64 (-1))),.aB,.aa (.val (.int .i64 (-1))),.aa (.val (.int .i64 1)),.aa (.val (.int .i64 0))] fH.enc:=
 .cons (.aa _) (.cons (.aB 1) (.cons (.aB 2) (.cons (.aa _) (.cons (.aa _) (.cons (.aB 4) (.cons (.aa _) (.cons (.aa _) (.cons (.aa _) .nil))))))))
theorem LY:body Tryz.prog c24 [] [] (fun r m=>∃r' m',View 0 ⟨[r],m⟩ ⟨[r'],m'⟩/\r'=cq [fH]/\m'=[]):=
 ⟨_,[],View.o 1 [] [0] (.put (.rv (.one (.eu (ep.eu (Z:=fun k=>bs [0] k=true) (.cons Rm .nil) rfl rfl)))) .nil) (.nil _),rfl,rfl⟩
theorem Rn{m:Mem}{K:CV->Mem->Prop}(h:K (cq [fH]) m):ar Tryz.prog 24 [] m K:=by
 refine aY (K0:=fun r m=>r=cq [fH]/\m=[]) (bK (aW Tryz.func24 l24 LY) fun r m1 h=>h) aK fun r m1 hr=>?_
 obtain⟨rfl,rfl⟩:=hr;exact⟨_,cw.self rfl,h⟩
theorem Iw:body Tryz.prog c15 [] [] (fun r m=>∃r' m',View 0 ⟨[r],m⟩ ⟨[r'],m'⟩/\r'=dX bw.l bw.ops bw.ps/\m'=[]):=by
 refine Rn ?_;refine⟨_,[],View.o 4 [] [1,2,3] (.put (oB.agg (.cons (.aP (.aa _)) (.cons (.eu (ep.eu (Z:=fun k=>bs [1,2,3] k=true) (.cons (.cons (.aa _) (.cons (.aa _) .nil)) .nil) rfl rfl))
  (.cons (.eu (ep.eu (Z:=fun k=>bs [1,2,3] k=true) (.cons (.cons (.aa _) (.cons (.aa _) (.cons (.aa _) (.cons (ep.eu (.cons (.cons (.aa _) (.cons (.aa _) (.cons (.aa _) .nil))) .nil) rfl rfl) .nil)))) .nil) rfl rfl)) .nil)))) .nil) (.nil _),rfl,rfl⟩
theorem N8{m:Mem}{K:CV->Mem->Prop}(h:K (dX bw.l bw.ops bw.ps) m):ar Tryz.prog 15 [] m K:=by
 refine aY (K0:=fun r m=>r=dX bw.l bw.ops bw.ps/\m=[]) (bK (aW Tryz.func15 l15 Iw) fun r m1 h=>h) aK fun r m1 hr=>?_
 obtain⟨rfl,rfl⟩:=hr;exact⟨_,cw.self rfl,h⟩
theorem vK:dC bw.l bw.ops bw.ps:=
 ⟨fun o ho=>by simp[bw]at ho;subst ho;exact⟨⟨⟨[],rfl⟩,⟨[],rfl⟩,fun q hq=>by simp[fH]at hq⟩,by simp[fH],by simp[fH],by simp[fH],fun q hq=>by simp[fH]at hq⟩,by simp[bw],by simp[bw],by simp[bw],fun p hp=>by simp[bw]at hp;subst hp;simp,by simp[bw]⟩
def c11:LF:= ⟨52,[.cell true 3 4,.tmp 5,.tmp 6],(.seq (.ai [qu 4 (.alloc [.aB,.aB,.aB]),qu 5 (.aD qe),qu 6 (.aD (qi 0))]) (.seq (.ai [qm 16 0,qu 17 (qc 14 [16]),qm 15 17,qu 18 (.ext 15 0),qu 19 (.ext 15 1),qu 8 (.alloc [(qd 0),(qd 0)]),qm 7 18,qw (.store 2 8 19)]) (.seq (.seq (.ai [qf 20 0 8,ql 21 20,qu 22 (.aE .neq 21 (qi 0))]) (.cond 22 (.seq (.bT [qu 23 (.build [.aB,.aB,.aB] []),qf 24 0 8,ql 25 24,qw (.store 3 4 23),qu 5 (.aD qe),qm 6 25] [(.cons 0 none (.cons 1 none (.cons 2 none (.cons 3 (some [2]) (.cons 4 none (.cons 5 none .nil))))))]) .ret) .skip)) (.seq (.seq (.ai [qm 26 1,qu 27 (.len 1 26),qu 28 (.aE .gtr 27 (qi 80))]) (.cond 28 (.seq (.ai [qu 29 (.build [.aB,.aB,.aB] []),qw (.store 3 4 29),qu 5 (.aD qe),qu 6 (.aD (qi 5))]) .ret) .skip)) (.seq (.ai [qu 30 (qc 15 []),qu 9 (.alloc [.aB,.aB,.aB]),qw (.store 3 9 30)]) (.seq (.ai [qu 10 (.aD qe)]) (.seq (.seq (.ai [qm 31 1,qu 32 (.len 1 31),qu 33 (.aD (qi 0))]) (.block 0 (.loop (.seq (.ai [qu 34 (.aE .lss 33 32)]) (.seq (.cond 34 .skip (.exit 0)) (.seq (.block 1 (.seq (.ai [qu 35 (.b7 9 31 33),qL 36 9 35,qu 12 (.alloc [(qd 0),(qd 0),(qd 0),(qd 0),(qd 0),(qd 0),(qd 0),(.aa (.val (.string ⟨#[]⟩))),.aB]),qw (.store 9 12 36)]) (.seq (.ai [qm 38 7,qL 39 3 9,qL 40 9 12,qu 41 (qc 16 [38,39,40]),qm 37 41,qu 42 (.ext 37 0),qu 43 (.ext 37 1),qu 13 (.alloc [.aB,.aB,.aB]),qu 14 (.alloc [(qd 0),(qd 0),(qd 0),.aB]),qw (.store 3 13 42),qw (.store 4 14 43)]) (.seq (.ai [qL 44 3 13,qw (.store 3 9 44)]) (.ai [qm 45 10,qL 46 4 14,qu 47 (.lu 4 [(qd 0),(qd 0),(qd 0),.aB] 1 [(0,46)]),qu 48 (.mY 4 48 45 47),qm 10 48]))))) (.ai [qu 49 (.aE .add 33 (qi 1)),qm 33 49]))))))) (.seq (.ai [qL 50 3 9,qm 51 10,qw (.store 3 4 50),qm 5 51,qu 6 (.aD (qi 0))]) .ret))))))))⟩
namespace Kn
def kS(prog:List dS)(k:Kr):List Cl->Kr
 | []=>k
 |c::r=>kS prog (iR prog k c).1 r
def aS(prog:List dS)(k:Kr):List Cl->List An
 | []=>[]
 |c::r=>(iR prog k c).2::aS prog (iR prog k c).1 r
theorem Gm(prog:List dS):∀(k:Kr)(cs:List Cl)(c:Cl),kS prog k (cs++ [c])=(iR prog (kS prog k cs) c).1
 |_,[],_=>rfl
 |k,x::r,c=>Gm prog (iR prog k x).1 r c
theorem Gn(prog:List dS):∀(k:Kr)(cs:List Cl)(c:Cl),aS prog k (cs++ [c])=aS prog k cs++ [(iR prog (kS prog k cs) c).2]
 |_,[],_=>rfl
 |k,x::r,c=>by show(iR prog k x).2::aS prog (iR prog k x).1 (r++ [c])=_;rw[Gn prog (iR prog k x).1 r c];rfl
theorem KI.kS{prog:List dS}:∀{k:Kr}(cs:List Cl),KI k->KI (Kn.kS prog k cs)
 |_,[],h=>h
 |_,c::r,h=>KI.kS r (h.do_ prog c)
theorem EM(prog:List dS):∀(k:Kr)(cs:List Cl),(aS prog k cs).length=cs.length
 |_,[]=>rfl
 |k,c::r=>by simp[aS,EM prog (iR prog k c).1 r]
theorem N9:KI bw:=by
 have hm:∀o,o∈bw.l->o=fH:=fun o ho=>by simpa[bw]using ho
 have hp:∀x,x∈bw.ps->x=⟨true,false,0,[⟨true,0,4095⟩]⟩:=fun x hx=>by simpa[bw]using hx
 refine⟨by simp[bw],by simp[bw],by simp[bw],vK.sm,vK.sl,vK.ne,fun x hx hl=>?_,fun x hx s hs hh=>?_,fun o ho q hq=>?_,fun o ho h5=>?_,fun o ho=>?_,fun o ho hk=>?_,fun i o ho hk=>?_,fun o ho=>?_,fun o ho=>?_,?_⟩
 .rw[hp x hx]at hl;cases hl
 .rw[hp x hx]at hs;have:s=⟨true,0,4095⟩:=by simpa using hs
  subst this;exact⟨⟨by decide,by decide⟩,0,⟨0,0⟩,rfl,rfl,0,fH,rfl,rfl,by simp[fH]⟩
 .rw[hm o ho]at hq;cases hq
 .rw[hm o ho]at h5;simp[fH]at h5
 .rw[hm o ho];exact⟨rfl,List.Pairwise.nil,fun _=>rfl,fun e he=>by cases he⟩
 .rw[hm o ho]at hk;simp[fH]at hk
 .rw[hm o (O9 ho)]at hk;simp[fH]at hk
 .have:o=⟨0,0⟩:=by simpa[bw]using ho
  subst this;exact⟨abT _,by show(0:Int)<=64;omega⟩
 .rw[hm o ho];simp[fH]
 .have one:∀(i:Nat)d,(bw.l.map tv)[i]? =some d->i=0/\d=tv fH:=fun i d hd=>by
   match i,hd with
   |0,hd=>cases hd;exact⟨rfl,rfl⟩
   |n+1,hd=>simp[bw]at hd
  refine⟨fun i d hd hz=>?_,⟨tv fH,rfl,rfl,rfl,rfl⟩,fun i d e hd he=>?_,fun i i' d d' e e' hd yk he=>?_,fun i d hd _=>?_,fun i d hd hz=>?_,fun i d hd=>?_,fun i d hd=>?_⟩
  .rw[(one i d hd).2]at hz;simp[tv,fH]at hz
  .rw[(one i d hd).2]at he;cases he
  .rw[(one i d hd).2]at he;cases he
  .rw[(one i d hd).1];exact .ap
  .rw[(one i d hd).2]at hz;simp[tv,fH]at hz
  .rw[(one i d hd).2];exact .inr rfl
  .rw[(one i d hd).2,(one i d hd).1];exact .inl rfl
def EN(cs:List Cl):CV:= .rv (.one (.aa (.sl 9 (cs.map Cl.enc))))
def YF(al:List An):Dt:= .sl 4 (al.map An.enc)
def vL(k:Kr)(al:List An)(e:Int):CV:= .bG [ib k,.one (.aa (YF al)),cD e]
theorem l11:bq Tryz.prog Tryz.f11=some c11.er:=by kernel_rfl
theorem Ro{cs:List Cl}{i:Nat}(h:i<cs.length):dg (cs.map Cl.enc) (i:Nat)=some (cs[i].enc):=by rw[bF,O6,tq h];rfl
theorem Gp{m:Mem}{e:Int}:cw m (.bG [.agg [.aB,.aB,.aB],.one .aB,cD e]) (vL lg [] e):=by
 refine .bG rfl fun i r r' h1 h2=>?_
 match i,h1,h2 with
 |0,h1,h2=>cases h1;cases h2;exact gi
 |1,h1,h2=>cases h1;cases h2;exact .one (.aB 4)
 |2,h1,h2=>cases h1;cases h2;exact eh.self rfl
 |n+3,h1,h2=>simp at h1
structure BR(cs:List Cl):Prop where
 l:cs.length<=1048576
 d:∀c,c∈cs->c.data.length<=4194304
theorem Ix(l:List cY)(cs:List Cl)(fb:BR cs):body Tryz.prog c11 [dM l,EN cs] []
  (fun r m=>((cT l).1≠0->cw m r (vL lg [] (cT l).1))/\((cT l).1=0->cs.length>80->cw m r (vL lg [] 5))/\
   ((cT l).1=0->cs.length<=80->∃l',l'.Perm l/\nN l'/\cw m r (vL (kS (ja l') bw cs) (aS (ja l') bw cs) 0))):=by
 refine N7 l (fun hw=>?_) (fun hw l' hp hr=>?_)
 .refine bu (fun he=>?_) (fun he=>absurd he hw)
  refine⟨⟨rfl,trivial⟩,?_⟩;exact⟨fun _=>Gp,fun h=>absurd h hw,fun h=>absurd h hw⟩
 .generalize hpg:ja l'=prog;refine aJ (fun Oa=>?_) (fun Oa=>?_)
  .have Oa:cs.length>80:=by have Oa:((cs.map Cl.enc).length:Int)>80:=Oa;rw[LW]at Oa;omega
   exact⟨fun h=>absurd hw h,fun _ _=>Gp,fun _ h=>om⟩
  have Oa:cs.length<=80:=by have Oa:¬((cs.map Cl.enc).length:Int)>80:=Oa;rw[LW]at Oa;omega
  refine N8 ?_;refine aX (fun i=>i<=cs.length) [4,7,9,31,32] (fun i=>[(33,an .i64 (i:Nat)),(10,.rv (.one (.row 3 4 0 none)))])
   (fun i=>[.var [.aB,.aB,.aB],.var [.aa (.val (.int .i64 0)),.aa (.val (.int .i64 0))],kB (kS prog bw (cs.take i)),.row 4 (af ((aS prog bw (cs.take i)).map An.enc))]) (fun i=>cs.length-i) 0 (XL _) ?_ (fun i hi=>?_)
  .refine View.trans (View.aB 10 4 3 rfl rfl rfl) (View.o1 4 [0,1,2,3] [] ?_)
   .exact .pe rfl rfl rfl (.pe rfl rfl rfl (.pt rfl rfl (.eq rfl (fa _)) (.pn rfl rfl rfl)))
  have hi:i<=cs.length:=hi;refine aJ (fun h=>?_) (fun h=>?_)
  .have aF:i<cs.length:=by have h:(i:Int)<((cs.map Cl.enc).length:Int):=h;rw[LW]at h;omega
   have RK:=KI.kS (prog:=prog) (cs.take i) N9;have ht:cs.take (i+1)=cs.take i++ [cs[i]]:=sU (tq aF);have Tf:=Gm prog bw (cs.take i) cs[i];have has:=Gn prog bw (cs.take i) cs[i];rw[<-ht]at Tf has;have Jj:(aS prog bw (cs.take i)).length<=80:=by rw[EM,Z3];omega
   refine ag (Ro aF) ?_;refine Rh prog (kS prog bw (cs.take i)) RK cs[i] (fb.d _ (XP aF)) ?_;generalize iR prog (kS prog bw (cs.take i)) cs[i]=D at Tf has;obtain⟨k2,a2⟩:=D;refine⟨by simp only[ct,af,LW,XR,aat];omega,?_⟩
   refine⟨i+1,aF,(show cs.length-(i+1)<cs.length-i by omega),View.o 9 [0,1,2,8] [] ?_ ?_⟩
   .repeat(first|exact .nil|refine .aq ?_|refine .put (.aP (aL om).symm) ?_|refine .eq rfl ?_)
   .rw[Tf,has,aax];exact .pe rfl rfl rfl (.pe rfl rfl rfl (.pt rfl rfl (.eq rfl (fa _)) (.pt rfl rfl (.bR (cG (List.map An.enc _) (List.map An.enc [_])).symm) (.nil _))))
  .have ko:i=cs.length:=by have h:¬(i:Int)<((cs.map Cl.enc).length:Int):=h;rw[LW]at h;omega
   subst ko;rw[aan];subst hpg;refine⟨fun h=>absurd hw h,fun _ h=>om,fun _ _=>⟨l',hp,hr,?_⟩⟩
   refine .bG rfl fun i r r' h1 h2=>?_
   match i,h1,h2 with
   |0,h1,h2=>cases h1;cases h2;exact eh.self (yM (Kn.kS (ja l') bw cs))
   |1,h1,h2=>cases h1;cases h2;exact .one (dY.d6 (ds:=(aS (ja l') bw cs).map An.enc) rfl 0 none)
   |2,h1,h2=>cases h1;cases h2;exact eh.self rfl
   |n+3,h1,h2=>simp at h1
theorem tN(l:List cY)(cs:List Cl)(fb:BR cs){m:Mem}{K:CV->Mem->Prop}(h1:(cT l).1≠0->K (vL lg [] (cT l).1) m)(h2:(cT l).1=0->cs.length>80->K (vL lg [] 5) m)(h3:(cT l).1=0->cs.length<=80->∀l',l'.Perm l->nN l'->K (vL (kS (ja l') bw cs) (aS (ja l') bw cs) 0) m):ar Tryz.prog 11 [dM l,EN cs] m K:=
 aY (cf Tryz.func11 l11 (Ix l cs fb)) (by simp[dM,EN,CV.c7,CC.c7,RV.c7]) fun r m1 hf=>by
  by_cases hw:(cT l).1=0
  .by_cases h8:cs.length<=80
   .obtain⟨l',hp,hr,hf⟩:=hf.2.2 hw h8;exact⟨_,hf,h3 hw h8 l' hp hr⟩
   .exact⟨_,hf.2.1 hw om,h2 hw om⟩
  .exact⟨_,hf.1 hw,h1 hw⟩
end Kn
def c12:LF:= ⟨13,[.tmp 0],(.seq (.ai [qu 0 (.aD qe)]) (.seq (.ai [qu 1 (.aD qe)]) (.seq (.seq (.ai [qu 2 (.aD (qi 1))]) (.block 0 (.loop (.seq (.seq (.ai [qm 3 2,qu 4 (.aE .leq 3 (qi 22))]) (.cond 4 .skip (.exit 0))) (.seq (.block 1 (.ai [qm 7 1,qm 8 2,qu 9 (.build [(qd 0),.aB] [(0,1,8)]),qu 10 (.lu 2 [(qd 0),.aB] 1 [(0,9)]),qu 11 (.mY 2 32 7 10),qm 1 11])) (.ai [qm 5 2,qu 6 (.aE .add 5 (qi 1)),qm 2 6])))))) (.seq (.ai [qm 12 1,qm 0 12]) .ret))))⟩
namespace Kn
def zm:List cY:=(List.range 22).map fun(i:Nat)=>⟨(i:Int)+1,[]⟩
def rW:Cl:=⟨0,0,0,0,0,0,0,[],[]⟩
theorem Rp:(cT zm).1=0:=by kernel_rfl
theorem LZ{l:List cY}(hp:l.Perm zm)(hr:nN l):l=zm:=by
 refine List.Perm.eq_of_pairwise (le:=fun(a b:cY)=>a.call<b.call) (fun a b _ _ h1 h2=>by exfalso;have h1:a.call<b.call:=h1;have h2:b.call<a.call:=h2;omega) hr ?_ hp
 decide
theorem l12:bq Tryz.prog Tryz.f12=some c12.er:=by kernel_rfl
def Pr(n:Nat):List cY:=(List.range n).map fun(i:Nat)=>⟨(i:Int)+1,[]⟩
theorem Oc{σ:Nat->Nat}{m:Mem}{Z:Nat->Prop}{id:Nat}(R:List cY)(k:Int){es:List (List CC)}(h:es=af (R.map cY.enc)):
  lU σ m Z id (.row 2 (es++ [[.aa (.val (.int .i64 k)),.aB]])) (.row 2 (af ((R++ [(⟨k,[]⟩:cY)]).map cY.enc))):=by
 rw[h,aax,cG];refine lU.Dd (s:=2) (by rw[af,aaN];exact abd fun x _=>by simp[CC.aP]) rfl fun j c c' h1 h2=>?_
 match j,h1,h2 with
 |0,h1,h2=>cases h1;cases h2;exact .aP (.aa _)
 |1,h1,h2=>cases h1;cases h2;exact .eu (.aB 2)
 |n+2,h1,h2=>simp at h1
theorem L4:body Tryz.prog c12 [] [] (fun r m=>cw m r (dM zm)):=by
 refine aX (fun i=>i<=22) [] (fun i=>[(2,an .i64 ((i:Nat)+1)),(1,.rv (.one (.row 0 2 0 none)))]) (fun i=>[.row 2 (af ((Pr i).map cY.enc))]) (fun i=>22-i) 0 (XL _) ?_ (fun i hi=>?_)
 .refine View.trans (View.aB 1 2 0 rfl rfl rfl) (View.o1 1 [0] [] ?_)
  .exact .pt rfl rfl (.eq rfl (by simp[Pr,af])) (.nil _)
 have hi:i<=22:=hi;refine aJ (fun h=>?_) (fun h=>?_)
 .have aF:i<22:=by have h:((i:Int)+1)<=22:=h;omega
  refine⟨by simp only[ct,Pr,af,LW,List.length_range,XR,aat];omega,?_⟩
  refine⟨i+1,aF,(show 22-(i+1)<22-i by omega),View.o 3 [2] [] ?_ ?_⟩
  .repeat(first|exact .nil|refine .aq ?_|refine .put (.aP (aL (k:=i+1) om).symm) ?_|refine .eq rfl ?_)
  .rw[show Pr (i+1)=Pr i++ [⟨(i:Int)+1,[]⟩] by simp[Pr,List.range_succ]]
   exact .pt rfl rfl (Oc (Pr i) _ rfl) (.nil _)
 .have ko:i=22:=by have h:¬((i:Int)+1)<=22:=h;omega
  subst ko;exact cw.rv (.one (dY.d6 (ds:=(Pr 22).map cY.enc) rfl 0 none))
theorem L5{m:Mem}{K:CV->Mem->Prop}(h:K (dM zm) m):ar Tryz.prog 12 [] m K:=
 aY (cf Tryz.func12 l12 L4) aK fun r m1 hf=>⟨_,hf,h⟩
end Kn
namespace Kn
def BS(bZ:bD.di)(bj aQ:Int):Cl:={rW with ah:=2,bZ:=bZ,bj:=bj,aQ:=aQ}
def Ps(fd:Int)(d:List Int):Cl:={rW with ah:=5,fd:=fd,data:=d}
def Gq(fd n:Int):Cl:={rW with ah:=4,fd:=fd,n:=n}
def EO:Obj:={fH with aj:=[[.val (.string ⟨#[102]⟩),.val (.int .i64 1)]]}
def fO(d:List (List Dt)):Obj:=⟨1,d,[],⟨#[]⟩,-1,[],-1,1,0⟩
def lm(d:List (List Dt))(ops:List bC)(sl:List fq):Kr:=⟨[EO,fO d],ops,[⟨true,false,0,sl⟩]⟩
def s1:List fq:=[⟨true,0,4095⟩,⟨true,1,4095⟩]
def s2:List fq:=[⟨true,0,4095⟩,⟨true,1,4095⟩,⟨true,1,4095⟩]
def s3:List fq:=[⟨true,0,4095⟩,⟨true,1,4095⟩,⟨true,1,4095⟩,⟨true,2,1⟩]
abbrev P0:List dS:=ja []
theorem qE(s:List Int):(dh s).length=s.length:=by simp[dh]
theorem wd0(s:List Int):mK [] 0 (dh s)=dh s:=by
 have h:mK (dh []) 0 (dh s)=dh s:=by
  rw[zc,QZ];split
  .rename_i h;rw[XJ h]
  .simp[cC]
 exact h
theorem YG:iR P0 bw (BS [47,102] 1 4095)=(lm [] [⟨0,0⟩,⟨1,0⟩] s1,⟨0,1,0,[]⟩):=by kernel_rfl
theorem YH(s:List Int):iR P0 (lm [] [⟨0,0⟩,⟨1,0⟩] s1) (Ps 1 s)=ta (lm [] [⟨0,0⟩,⟨1,0⟩] s1) (mr (lm [] [⟨0,0⟩,⟨1,0⟩] s1) 1 1 0 s.length (dR (fO []) 0 (dh s))):=by kernel_rfl
theorem YI(d:List (List Dt))(a n:Int):ta (lm [] [⟨0,0⟩,⟨1,0⟩] s1) (kO (setObj (lm [] [⟨0,0⟩,⟨1,0⟩] s1) 1 (fO d)) 1 a,⟨0,n,0,[]⟩)=(lm d [⟨0,0⟩,⟨1,a⟩] s1,⟨0,n,0,[]⟩):=by kernel_rfl
theorem YJ(s:List Int)(h:s.length<=60):iR P0 (lm [] [⟨0,0⟩,⟨1,0⟩] s1) (Ps 1 s)=(lm (dh s) [⟨0,0⟩,⟨1,s.length⟩] s1,⟨0,s.length,0,[]⟩):=by
 have hw:dR (fO []) 0 (dh s)=(fO (dh s),0):=by
  show(if _ then _ else if _ then _ else if _ then _ else if _ then _ else _)=_
  rw[if_neg (by decide),if_neg (by decide),if_neg (by decide),if_neg (by rw[qE];simp;omega)]
  show(_,_)=_;simp only[fO,Int.toNat_zero];rw[wd0]
 have ha:qy 0 (s.length:Nat)=s.length:=by rw[qy,Int.zero_add];exact gO om
 rw[YH,hw,mr,if_neg aK,ha];exact YI _ _ _
theorem sh2(d:List (List Dt))(a:Int):iR P0 (lm d [⟨0,0⟩,⟨1,a⟩] s1) {rW with ah:=6,fd:=1}=(lm d [⟨0,0⟩,⟨1,0⟩] s1,An.no 0):=by kernel_rfl
theorem sh3(d:List (List Dt)):iR P0 (lm d [⟨0,0⟩,⟨1,0⟩] s1) {rW with ah:=8,fd:=1}=(lm d [⟨0,0⟩,⟨1,0⟩] s2,⟨0,2,0,[]⟩):=by kernel_rfl
theorem sh4(d:List (List Dt)):iR P0 (lm d [⟨0,0⟩,⟨1,0⟩] s2) (BS [47,102] 0 1)=(lm d [⟨0,0⟩,⟨1,0⟩,⟨1,0⟩] s3,⟨0,3,0,[]⟩):=by kernel_rfl
theorem YK(d:List (List Dt))(a b n:Int):iR P0 (lm d [⟨0,0⟩,⟨1,a⟩,⟨1,b⟩] s3) (Gq 1 n)=ta (lm d [⟨0,0⟩,⟨1,a⟩,⟨1,b⟩] s3) (iC (lm d [⟨0,0⟩,⟨1,a⟩,⟨1,b⟩] s3) 1 a (e8 1 d a n)):=by kernel_rfl
theorem YL(d:List (List Dt))(a b n:Int):iR P0 (lm d [⟨0,0⟩,⟨1,a⟩,⟨1,b⟩] s3) (Gq 2 n)=ta (lm d [⟨0,0⟩,⟨1,a⟩,⟨1,b⟩] s3) (iC (lm d [⟨0,0⟩,⟨1,a⟩,⟨1,b⟩] s3) 1 a (e8 1 d a n)):=by kernel_rfl
theorem YM(d:List (List Dt))(a b n:Int):iR P0 (lm d [⟨0,0⟩,⟨1,a⟩,⟨1,b⟩] s3) (Gq 3 n)=ta (lm d [⟨0,0⟩,⟨1,a⟩,⟨1,b⟩] s3) (iC (lm d [⟨0,0⟩,⟨1,a⟩,⟨1,b⟩] s3) 2 b (e8 1 d b n)):=by kernel_rfl
theorem Pu(d:List (List Dt))(a b c:Int)(x:An)(hx:x.ix=0):ta (lm d [⟨0,0⟩,⟨1,a⟩,⟨1,b⟩] s3) (kO (lm d [⟨0,0⟩,⟨1,a⟩,⟨1,b⟩] s3) 1 c,x)=(lm d [⟨0,0⟩,⟨1,c⟩,⟨1,b⟩] s3,x):=by
 rw[ta,if_neg (by simp[hx])]
 kernel_rfl
theorem U0(d:List (List Dt))(a b c:Int)(x:An)(hx:x.ix=0):ta (lm d [⟨0,0⟩,⟨1,a⟩,⟨1,b⟩] s3) (kO (lm d [⟨0,0⟩,⟨1,a⟩,⟨1,b⟩] s3) 2 c,x)=(lm d [⟨0,0⟩,⟨1,a⟩,⟨1,c⟩] s3,x):=by
 rw[ta,if_neg (by simp[hx])]
 kernel_rfl
theorem YN(k:Kr)(z:Int)(d:List (List Dt))(a n:Nat)(hd:d.length<=60)(h:a+n<=d.length):iC k z (a:Nat) (e8 1 d (a:Nat) (n:Nat))=(kO k z ((a+n:Nat):Int),⟨0,n,0,(d.drop a).take n⟩):=by
 have hc:wx d a n=(d.drop a).take n:=by
  have e1:dJ a d.length=a:=by unfold dJ;split<;>omega
  have e2:dJ n (d.length-a)=n:=by unfold dJ;split<;>omega
  rw[wx,e1,e2,List.drop_take];congr 1;omega
 have hr:e8 1 d (a:Nat) (n:Nat)=((d.drop a).take n,0):=by
  rw[e8,if_neg (by decide),if_neg (by decide),if_neg om,XO,XO,hc]
 have hl:((d.drop a).take n).length=n:=by rw[Z3,aaE];omega
 rw[hr,iC,if_neg aK,hl];simp only;have ha:qy (a:Nat) (n:Nat)=((a+n:Nat):Int):=by rw[qy,<-Int.natCast_add];exact gO om
 rw[ha]
def zn(s:List Int)(n m:Int):List Cl:=[BS [47,102] 1 4095,Ps 1 s,{rW with ah:=6,fd:=1},{rW with ah:=8,fd:=1},BS [47,102] 0 1,Gq 1 n,Gq 2 m,Gq 3 m]
theorem L6(s:List Int)(n m:Nat)(hs:s.length<=60)(h:n+m<=s.length):
  aS P0 bw (zn s n m)=[⟨0,1,0,[]⟩,⟨0,s.length,0,[]⟩,An.no 0,⟨0,2,0,[]⟩,⟨0,3,0,[]⟩,⟨0,n,0,(dh s).take n⟩,⟨0,m,0,((dh s).drop n).take m⟩,⟨0,m,0,(dh s).take m⟩]:=by
 have hd:(dh s).length<=60:=by rw[qE];exact hs
 have hl:n+m<=(dh s).length:=by rw[qE];exact h
 have r1:=YN (lm (dh s) [⟨0,0⟩,⟨1,0⟩,⟨1,0⟩] s3) 1 (dh s) 0 n hd om;have r2:=YN (lm (dh s) [⟨0,0⟩,⟨1,(n:Nat)⟩,⟨1,0⟩] s3) 1 (dh s) n m hd om;have r3:=YN (lm (dh s) [⟨0,0⟩,⟨1,((n+m:Nat):Int)⟩,⟨1,0⟩] s3) 2 (dh s) 0 m hd om;rw[aak]at r1 r3;have e5:iR P0 (lm (dh s) [⟨0,0⟩,⟨1,0⟩,⟨1,0⟩] s3) (Gq 1 n)=(lm (dh s) [⟨0,0⟩,⟨1,(n:Nat)⟩,⟨1,0⟩] s3,⟨0,n,0,(dh s).take n⟩):=(YK _ _ _ _).trans ((congrArg _ r1).trans (Pu _ _ _ _ _ rfl));have e6:iR P0 (lm (dh s) [⟨0,0⟩,⟨1,(n:Nat)⟩,⟨1,0⟩] s3) (Gq 2 m)=(lm (dh s) [⟨0,0⟩,⟨1,((n+m:Nat):Int)⟩,⟨1,0⟩] s3,⟨0,m,0,((dh s).drop n).take m⟩):=(YL _ _ _ _).trans ((congrArg _ r2).trans (Pu _ _ _ _ _ rfl));have e7:iR P0 (lm (dh s) [⟨0,0⟩,⟨1,((n+m:Nat):Int)⟩,⟨1,0⟩] s3) (Gq 3 m)=(lm (dh s) [⟨0,0⟩,⟨1,((n+m:Nat):Int)⟩,⟨1,(m:Nat)⟩] s3,⟨0,m,0,(dh s).take m⟩):=(YM _ _ _ _).trans ((congrArg _ r3).trans (U0 _ _ _ _ _ rfl));simp only[zn,aS,YG,YJ s hs,sh2,sh3,sh4,e5,e6,e7]
end Kn
namespace Kn
def s0:List fq:=[⟨true,0,4095⟩]
def kA:Kr:=⟨[EO,fO []],[⟨0,0⟩],[⟨true,false,0,s0⟩]⟩
def sR(r:Int):List fq:=[⟨true,0,4095⟩,⟨true,1,r⟩]
def Rq(r:Int):Prop:=0<=r/\r<=4095
theorem Rq.b{r:Int}(h:Rq r):Tb.dv r=true:=by obtain⟨h1,h2⟩:=h;simp[Tb.dv,h1,h2]
theorem pa0(r:Int)(h:Rq r):iR P0 bw (BS [47,102] 1 r)=(lm [] [⟨0,0⟩,⟨1,0⟩] (sR r),⟨0,1,0,[]⟩):=by
 have h1:iR P0 bw (BS [47,102] 1 r)=ta bw (if Tb.dv r=false\/(1:Int)<0\/(1:Int)>3 then(bw,An.no 3)else gV 0 (BS [47,102] 1 r) (kA,1,0)):=by kernel_rfl
 have hp:eI s0 1 r=(sR r,1,0):=by
  rw[eI,Tb.gE,if_neg (by simp only[h.b];simp)];rfl
 have ho:aH kA 0 1 r=(lm [] [⟨0,0⟩,⟨1,0⟩] (sR r),1,0):=by
  have hs:aH kA 0 1 r=if DF kA.ops=none/\kA.ops.length>=60 then(lg,0,15)else if(eI s0 1 r).2.2≠0 then(lg,0,(eI s0 1 r).2.2)else(⟨kA.l,iM kA.ops 1 ⟨1,0⟩,eQ kA.ps 0 (eI s0 1 r).1⟩,(eI s0 1 r).2.1,0):=by kernel_rfl
  rw[hs,hp];show _=_
  kernel_rfl
 have h2:gV 0 (BS [47,102] 1 r) (kA,1,0)=if(aH kA 0 1 r).2.2≠0 then(kA,An.no (aH kA 0 1 r).2.2)else((aH kA 0 1 r).1,⟨0,(aH kA 0 1 r).2.1,0,[]⟩):=by kernel_rfl
 rw[h1,if_neg (by simp only[h.b];simp),h2,ho]
 show _=_
 kernel_rfl
def eO(p:Int)(q:List bp):Obj:=⟨4,[],[],⟨#[]⟩,p,q,-1,0,0⟩
def pO:Obj:=⟨5,[],[],⟨#[]⟩,-1,[],1,0,0⟩
def my(q:List bp)(a b:List fq):Kr:=⟨[EO,fO [],eO 3 [],eO 2 q,pO],[⟨0,0⟩,⟨1,0⟩,⟨2,0⟩,⟨3,0⟩,⟨4,0⟩],[⟨true,false,0,a⟩,⟨true,false,0,b⟩]⟩
def sA(r:Int):List fq:=[⟨true,0,4095⟩,⟨true,1,r⟩,⟨true,2,896⟩,⟨true,3,896⟩,⟨true,4,3200⟩]
def sC(r:Int):List fq:=[⟨true,0,4095⟩,⟨true,1,r⟩,⟨true,2,896⟩,⟨true,3,896⟩]
def sD:List fq:=[⟨true,0,4095⟩,⟨false,0,0⟩,⟨true,2,896⟩,⟨true,3,896⟩]
def L7:Cl:={rW with ah:=15}
def L8:Cl:={rW with ah:=18}
def Od(r:Int):Cl:={rW with ah:=9,fd:=1,aQ:=r}
def Rr:Cl:={rW with ah:=16,fd:=2,fT:=1}
def Rs:Cl:={rW with aM:=1,ah:=7,fd:=1}
def Oe:Cl:={rW with aM:=1,ah:=17,fd:=3}
def U1:Cl:={rW with aM:=1,ah:=4,fd:=1,n:=1}
def U2:Cl:={rW with aM:=1,ah:=5,fd:=1}
def U3:Cl:={rW with aM:=1,ah:=10,fd:=1}
def zo(r q:Int):List Cl:=[BS [47,102] 1 r,L7,L8,Od q,Rr,Rs,Oe,U1,U2,U3]
def pB(r:Int):Kr:=⟨[EO,fO [],eO 3 [],eO 2 []],[⟨0,0⟩,⟨1,0⟩,⟨2,0⟩,⟨3,0⟩],[⟨true,false,0,sC r⟩]⟩
theorem pa1(r:Int):iR P0 (lm [] [⟨0,0⟩,⟨1,0⟩] (sR r)) L7=(pB r,⟨0,2,3,[]⟩):=by kernel_rfl
theorem pa2(r:Int):iR P0 (pB r) L8=(my [] (sA r) (sC r),⟨0,1,4,[]⟩):=by kernel_rfl
theorem pa3(r q:Int)(hq:Rq q)(h:Tb.cm q r=true):iR P0 (my [] (sA r) (sC r)) (Od q)=(my [] (sA q) (sC r),An.no 0):=by
 have h1:iR P0 (my [] (sA r) (sC r)) (Od q)=ta (my [] (sA r) (sC r)) (Bv (my [] (sA r) (sC r)) 0 ((y5 (sA r) 1 q).1,0,(y5 (sA r) 1 q).2)):=by kernel_rfl
 have h3:Tb.uV ((sA r).map m4) 1 q=((sA q).map m4,0):=by
  have h4:Tb.uV ((sA r).map m4) 1 q=if Tb.dv q=false then([],3)else if Tb.cm q r=false then([],10)else((sA q).map m4,0):=by kernel_rfl
  rw[h4,if_neg (by simp[hq.b]),if_neg (by simp[h])]
 have h2:y5 (sA r) 1 q=(sA q,0):=by rw[y5,h3];rfl
 rw[h1,h2];show _=_
 kernel_rfl
def rX(q:Int):bp:=⟨[],true,1,q⟩
theorem pa4(r q:Int):iR P0 (my [] (sA q) (sC r)) Rr=(my [rX q] (sA q) (sC r),An.no 0):=by kernel_rfl
theorem pa5(r q:Int):iR P0 (my [rX q] (sA q) (sC r)) Rs=(my [rX q] (sA q) sD,An.no 0):=by kernel_rfl
theorem pa6(q:Int)(hq:Rq q):iR P0 (my [rX q] (sA q) sD) Oe=(my [] (sA q) (sC q),⟨0,0,1,[]⟩):=by
 have h1:iR P0 (my [rX q] (sA q) sD) Oe=ta (my [rX q] (sA q) sD) (vB (my [rX q] (sA q) sD) 1 ([EO,fO [],eO 3 [],eO 2 [],pO],rX q,0)):=by kernel_rfl
 have hp:eI sD 1 q=(sC q,1,0):=by
  rw[eI,Tb.gE,if_neg (by simp only[hq.b];simp)];rfl
 have h2:vB (my [rX q] (sA q) sD) 1 ([EO,fO [],eO 3 [],eO 2 [],pO],rX q,0)=if(eI sD 1 q).2.2≠0 then(my [rX q] (sA q) sD,An.no (eI sD 1 q).2.2)
   else vA (iz (my [rX q] (sA q) sD) 1 (eI sD 1 q).1 0) [EO,fO [],eO 3 [],eO 2 [],pO] (rX q) (eI sD 1 q).2.1:=by kernel_rfl
 rw[h1,h2,hp];show _=_
 kernel_rfl
theorem zp(q n:Int):bn (my [] (sA q) (sC q)) 1 1 n=if Tb.cm n q=false then((0,0),0,10)else((1,q),1,0):=by
 have h:Tb.kM ((sC q).map m4) 1 n=if Tb.cm n q=false then(⟨0,0⟩,10)else(⟨1,q⟩,0):=by
  by_cases hw:Tb.cm n q=false
  .rw[if_pos hw,Tb.kM,if_pos ⟨rfl,hw⟩]
  .rw[if_neg hw,Tb.kM,if_neg (fun h=>hw h.2)];rfl
 have hl:ft (sC q) 1 n=if Tb.cm n q=false then((0,0),10)else((1,q),0):=by
  rw[ft,h];split<;>rfl
 have hs:bn (my [] (sA q) (sC q)) 1 1 n=if(ft (sC q) 1 n).2≠0 then((0,0),0,(ft (sC q) 1 n).2)else((ft (sC q) 1 n).1,jT [⟨0,0⟩,⟨1,0⟩,⟨2,0⟩,⟨3,0⟩,⟨4,0⟩] (ft (sC q) 1 n).1.1,0):=by kernel_rfl
 rw[hs,hl];split
 .rfl
 .rfl
theorem pa7(q:Int):iR P0 (my [] (sA q) (sC q)) U1=(my [] (sA q) (sC q),An.no (if Tb.cm 1 q=false then 10 else 0)):=by
 have h1:iR P0 (my [] (sA q) (sC q)) U1=ta (my [] (sA q) (sC q)) (jU (my [] (sA q) (sC q)) U1 (bn (my [] (sA q) (sC q)) 1 1 1)):=by kernel_rfl
 rw[h1,zp];split<;>(show _=_;kernel_rfl)
theorem pa8(q:Int):iR P0 (my [] (sA q) (sC q)) U2=(my [] (sA q) (sC q),An.no (if Tb.cm 2 q=false then 10 else 0)):=by
 have h1:iR P0 (my [] (sA q) (sC q)) U2=ta (my [] (sA q) (sC q)) (jU (my [] (sA q) (sC q)) U2 (bn (my [] (sA q) (sC q)) 1 1 2)):=by kernel_rfl
 rw[h1,zp];split<;>(show _=_;kernel_rfl)
theorem pa9(q:Int):iR P0 (my [] (sA q) (sC q)) U3=(my [] (sA q) (sC q),if Tb.cm 128 q=false then An.no 10 else⟨0,1,0,[]⟩):=by
 have h1:iR P0 (my [] (sA q) (sC q)) U3=ta (my [] (sA q) (sC q)) (my [] (sA q) (sC q),mt (my [] (sA q) (sC q)) U3 (bn (my [] (sA q) (sC q)) 1 1 128)):=by kernel_rfl
 rw[h1,zp];split<;>(show _=_;kernel_rfl)
theorem Of(r q:Int)(hr:Rq r)(hq:Rq q)(h:Tb.cm q r=true):
  aS P0 bw (zo r q)=[⟨0,1,0,[]⟩,⟨0,2,3,[]⟩,⟨0,1,4,[]⟩,An.no 0,An.no 0,An.no 0,⟨0,0,1,[]⟩,An.no (if Tb.cm 1 q=false then 10 else 0),An.no (if Tb.cm 2 q=false then 10 else 0),if Tb.cm 128 q=false then An.no 10 else⟨0,1,0,[]⟩]:=by
 simp only[zo,aS,pa0 r hr,pa1,pa2,pa3 r q hq h,pa4,pa5,pa6 q hq,pa7,pa8,pa9]
end Kn
namespace Kn
def k6:Cl:={rW with ah:=6,fd:=1}
def U4:Cl:={rW with ah:=7,fd:=1}
def U5(bZ:bD.di):Cl:={rW with ah:=14,bZ:=bZ}
def lT(s:List Int):List Cl:=[BS [47,102] 1 4095,Ps 1 s,U5 [102],k6,Gq 1 99,U4,{rW with ah:=10}]
def Iy:List Cl:=[BS [47,103] 1 1,U5 [103],U4]
def fU(d:List (List Dt)):Obj:=⟨1,d,[],⟨#[]⟩,-1,[],-1,0,0⟩
def Gr(d:List (List Dt))(a:Int):Kr:=⟨[fH,fU d],[⟨0,0⟩,⟨1,a⟩],[⟨true,false,0,s1⟩]⟩
theorem Z5(d:List (List Dt))(a:Int):iR P0 (lm d [⟨0,0⟩,⟨1,a⟩] s1) (U5 [102])=(Gr d a,An.no 0):=by kernel_rfl
theorem Z6(d:List (List Dt))(a:Int):iR P0 (Gr d a) k6=(Gr d 0,An.no 0):=by kernel_rfl
theorem YO(d:List (List Dt))(a n:Int):iR P0 (Gr d a) (Gq 1 n)=ta (Gr d a) (iC (Gr d a) 1 a (e8 1 d a n)):=by kernel_rfl
theorem YP(d:List (List Dt))(a c:Int)(x:An)(hx:x.ix=0):ta (Gr d a) (kO (Gr d a) 1 c,x)=(Gr d c,x):=by
 rw[ta,if_neg (by simp[hx])]
 kernel_rfl
theorem Z7(d:List (List Dt))(a:Int):iR P0 (Gr d a) U4=(bw,An.no 0):=by kernel_rfl
theorem Z8:iR P0 bw {rW with ah:=10}=(bw,⟨0,2,0,[]⟩):=by kernel_rfl
theorem go7:kS P0 bw Iy=bw:=by kernel_rfl
theorem go8:aS P0 bw Iy=[⟨0,1,0,[]⟩,An.no 0,An.no 0]:=by kernel_rfl
theorem EP(P:List dS):∀(a b:List Cl)(k:Kr),kS P k (a++b)=kS P (kS P k a) b
 | [],b,k=>rfl
 |c::r,b,k=>EP P r b _
theorem EQ(P:List dS):∀(a b:List Cl)(k:Kr),aS P k (a++b)=aS P k a++aS P (kS P k a) b
 | [],b,k=>rfl
 |c::r,b,k=>by show _::aS P _ (r++b)=_::(aS P _ r++aS P (kS P _ r) b);rw[EQ P r b]
def iF:Nat->List Cl
 |0=>[]
 |n+1=>iF n++Iy
theorem ER:∀n,kS P0 bw (iF n)=bw
 |0=>rfl
 |n+1=>by rw[iF,EP,ER n,go7]
theorem L9:∀n x,x∈aS P0 bw (iF n)->x.ix=0
 |0,x,h=>by cases h
 |n+1,x,h=>by
  rw[iF,EQ,ER n,go8]at h;rcases aaF.1 h with h|h
  .exact L9 n x h
  .rcases aad.1 h with rfl|h
   .rfl
   .rcases aad.1 h with rfl|h
    .rfl
    .rcases aad.1 h with rfl|h
     .rfl
     .cases h
def U6(s:List Int):List An:=[⟨0,1,0,[]⟩,⟨0,s.length,0,[]⟩,An.no 0,An.no 0,⟨0,s.length,0,dh s⟩,An.no 0,⟨0,2,0,[]⟩]
theorem ES(s:List Int)(hs:s.length<=60):kS P0 bw (lT s)=bw/\aS P0 bw (lT s)=U6 s:=by
 have hd:(dh s).length<=60:=by rw[qE];exact hs
 have hr:e8 1 (dh s) 0 99=(dh s,0):=by
  have e1:dJ 0 (dh s).length=0:=by unfold dJ;split<;>omega
  have e2:dJ 99 ((dh s).length-0)=(dh s).length:=by unfold dJ;split<;>omega
  rw[e8,if_neg (by decide),if_neg (by decide),if_neg (by decide)]
  show(wx (dh s) 0 99,(0:Int))=_;rw[wx,e1,e2,aak,aan,abe]
 have r4:iC (Gr (dh s) 0) 1 0 (e8 1 (dh s) 0 99)=(kO (Gr (dh s) 0) 1 (s.length:Nat),⟨0,s.length,0,dh s⟩):=by rw[hr,iC,if_neg aK,qE,qy,Int.zero_add,gO om]
 have e4:iR P0 (Gr (dh s) 0) (Gq 1 99)=(Gr (dh s) (s.length:Nat),⟨0,s.length,0,dh s⟩):=(YO _ _ _).trans ((congrArg _ r4).trans (YP _ _ _ _ rfl));constructor
 .simp only[lT,kS,YG,YJ s hs,Z5,Z6,e4,Z7,Z8]
 .simp only[lT,U6,aS,YG,YJ s hs,Z5,Z6,e4,Z7,Z8]
theorem Rt(s:List Int)(hs:s.length<=60)(n:Nat):kS P0 bw (lT s++iF n)=bw:=by rw[EP,(ES s hs).1,ER]
theorem Ma(s:List Int)(hs:s.length<=60)(n:Nat):aS P0 bw (lT s++iF n)=U6 s++aS P0 bw (iF n):=by rw[EQ,(ES s hs).1,(ES s hs).2]
theorem Og(s:List Int)(hs:s.length<=60)(n:Nat):∀x,x∈aS P0 bw (lT s++iF n)->x.ix=0:=by
 intro x hx;rw[Ma s hs]at hx;rcases aaF.1 hx with h|h
 .simp only[U6,aad,aaS,or_false]at h;rcases h with rfl|rfl|rfl|rfl|rfl|rfl|rfl<;>rfl
 .exact L9 n x h
end Kn
namespace Kn
def orH:List Cl:=[{rW with ah:=15},{rW with ah:=18},{rW with ah:=7,fd:=2},{rW with aM:=1,ah:=7,fd:=1},{rW with ah:=21,fd:=3}]
def orX(code:Int):List Cl:=[{rW with aM:=1,ah:=19,n:=code},{rW with ah:=21,fd:=3}]
def orD(n:Nat):List Cl:=List.replicate n {rW with ah:=8,fd:=3}
def fdO(k:Nat):Int:=if k=0 then 3 else if k=1 then 2 else(k:Int)+2
def orR(n:Nat):List Cl:=(List.range (n+1)).flatMap fun k=>[{rW with ah:=17,fd:=1},{rW with ah:=7,fd:=fdO k}]
def orE:List Cl:=[{rW with ah:=17,fd:=1},{rW with aM:=1,ah:=22}]
def orT(n:Nat):List Cl:=orD n++(orR n++orE)
def K5:Kr:=kS P0 bw orH
def K6a(code:Int):Kr:=⟨K5.l,K5.ops,K5.ps.set 1 ⟨false,false,code,[]⟩⟩
def K6(code:Int):Kr:=oX (K6a code)
def exC(code:Int):Cl:={rW with aM:=1,ah:=19,n:=code}
def waC:Cl:={rW with ah:=21,fd:=3}
theorem or_h:aS P0 bw orH=[⟨0,1,2,[]⟩,⟨0,1,3,[]⟩,An.no 0,An.no 0,An.no 16]:=by kernel_rfl
theorem or_xa(code:Int):iR P0 K5 (exC code)=ta K5 (kQ K5 (ic K5 1 code)):=by kernel_rfl
theorem or_xb(code:Int):ic K5 1 code=if code<0\/code>255 then(lg,3)else(K6a code,0):=by kernel_rfl
theorem or_x(code:Int)(h0:0<=code)(h1:code<=255):iR P0 K5 (exC code)=(K6 code,An.no 0):=by
 rw[or_xa,or_xb,if_neg om]
 kernel_rfl
theorem or_w(code:Int):iR P0 (K6 code) waC=(K6 code,⟨0,code,0,[]⟩):=by kernel_rfl
def orW(n:Nat):List An:=(List.range (n+1)).flatMap fun _=>[An.no 16,An.no 0]
def orV(n:Nat):List An:=(List.range (n+1)).flatMap fun _=>[An.no 17,An.no 0]
def orDa(n:Nat):List An:=(List.range n).map fun k=>⟨0,(([2,4,5,6,7]:List Int)[k]?).getD 0,0,[]⟩
def orZ:List An:=[An.no 17,An.no 6]
theorem or_t(n:Nat)(hn:n<=5):aS P0 K5 (orT n)=orDa n++(orW n++orZ)/\(kS P0 K5 (orT n)).ps.length=1:=by
 have h:n=0\/n=1\/n=2\/n=3\/n=4\/n=5:=om;rcases h with rfl|rfl|rfl|rfl|rfl|rfl<;>exact⟨by kernel_rfl,by kernel_rfl⟩
theorem or_tx(code:Int)(n:Nat)(hn:n<=5):aS P0 (K6 code) (orT n)=orDa n++(orV n++orZ)/\(kS P0 (K6 code) (orT n)).ps.length=1:=by
 have h:n=0\/n=1\/n=2\/n=3\/n=4\/n=5:=om;rcases h with rfl|rfl|rfl|rfl|rfl|rfl<;>exact⟨by kernel_rfl,by kernel_rfl⟩
end Kn
def c9:LF:= ⟨11,[.cell true 9 6],(.seq (.ai [qu 6 (.alloc [(qd 0),(qd 0),(qd 0),(qd 0),(qd 0),(qd 0),(qd 0),(.aa (.val (.string ⟨#[]⟩))),.aB])]) (.seq (.ai [qm 7 0,qm 8 1,qm 9 2,qu 10 (.build [(qd 0),(qd 0),(qd 0),(qd 0),(qd 0),(qd 0),(qd 0),(.aa (.val (.string ⟨#[]⟩))),.aB] [(1,1,(qi 2)),(7,1,7),(5,1,8),(6,1,9)]),qw (.store 9 6 10)]) .ret))⟩
def c10:LF:= ⟨9,[.cell true 9 4],(.seq (.ai [qu 4 (.alloc [(qd 0),(qd 0),(qd 0),(qd 0),(qd 0),(qd 0),(qd 0),(.aa (.val (.string ⟨#[]⟩))),.aB])]) (.seq (.ai [qm 5 0,qm 6 1,qu 7 (.Rw 6),qu 8 (.build [(qd 0),(qd 0),(qd 0),(qd 0),(qd 0),(qd 0),(qd 0),(.aa (.val (.string ⟨#[]⟩))),.aB] [(1,1,(qi 5)),(2,1,5),(8,1,7)]),qw (.store 9 4 8)]) .ret))⟩
namespace Kn
inductive vM(m:Mem):List CC->List CC->Prop
 |nil:vM m [] []
 |cons {c c':CC} {r r':List CC} (h:dY m c c') (hr:vM m r r'):vM m (c::r) (c'::r')
theorem vM.len{m:Mem}{a b:List CC}(h:vM m a b):a.length=b.length:=by induction h<;>simp[*]
theorem vM.get{m:Mem}{a b:List CC}(h:vM m a b):∀(i:Nat)c d,a[i]? =some c->b[i]? =some d->dY m c d:=by
 induction h with
 |nil=>intro i c d h;simp at h
 |cons h hr ih=>
  intro i c d h1 h2;cases i with
  |zero=>simp at h1 h2;subst h1 h2;exact h
  |succ i=>exact ih i c d (by simpa using h1) (by simpa using h2)
theorem vM.agg{m:Mem}{a b:List CC}(h:vM m a b):eh m (.agg a) (.agg b):= .agg h.len h.get
theorem lT9:bq Tryz.prog Tryz.f9=some c9:=by kernel_rfl
theorem YQ:bq Tryz.prog Tryz.f10=some c10:=by kernel_rfl
theorem nP(bZ:bD.di)(bj aQ:Int){m:Mem}{K:CV->Mem->Prop}(h:K (BS bZ bj aQ).cv m):ar Tryz.prog 9 [bD.vT bZ,an .i64 bj,an .i64 aQ] m K:=by
 have hb:body Tryz.prog c9 [bD.vT bZ,an .i64 bj,an .i64 aQ] [] (fun r m=>cw m r (BS bZ bj aQ).cv):=by
  refine cw.rv (vM.agg ?_);repeat(first|exact .nil|refine .cons (.aa _) ?_|refine .cons (.aB 1) ?_)
 exact aY (l7 Tryz.func9 lT9 rfl (T3 rfl) hb) (by simp[bD.vT,dk,an,CV.c7,RV.c7,CC.c7]) fun r m1 hf=>⟨_,hf,h⟩
theorem xX(fd:Int)(s:ByteArray)(hs:s.size<=4194304){m:Mem}{K:CV->Mem->Prop}(h:K (Ps fd (s.data.toList.map fun b=>((b.toNat:Nat):Int))).cv m):ar Tryz.prog 10 [an .i64 fd,dk s] m K:=by
 have hb:body Tryz.prog c10 [an .i64 fd,dk s] [] (fun r m=>cw m r (Ps fd (s.data.toList.map fun b=>((b.toNat:Nat):Int))).cv):=by
  refine⟨om,?_⟩;refine cw.rv (vM.agg ?_);refine .cons (.aa _) (.cons (.aa _) (.cons (.aa _) (.cons (.aa _) (.cons (.aa _) (.cons (.aa _) (.cons (.aa _) (.cons (.aa _) (.cons ?_ .nil))))))));refine dY.d6 (ds:=dh (s.data.toList.map fun b=>((b.toNat:Nat):Int))) ?_ 0 none
  show some (Bk.row 1 (lX s))=_;simp[lX,dh]
 exact aY (l7 Tryz.func10 YQ rfl (T3 rfl) hb) (by simp[dk,an,CV.c7,RV.c7,CC.c7]) fun r m1 hf=>⟨_,hf,h⟩
end Kn
def c8:LF:= ⟨34,[.tmp 0],(.seq (.ai [qu 0 (.aD (qb false))]) (.seq (.ai [qu 5 (qc 12 []),qu 6 (.build [(qd 0),(qd 0),(qd 0),(qd 0),(qd 0),(qd 0),(qd 0),(.aa (.val (.string ⟨#[]⟩))),.aB] [(1,1,(qi 15))]),qu 7 (.build [(qd 0),(qd 0),(qd 0),(qd 0),(qd 0),(qd 0),(qd 0),(.aa (.val (.string ⟨#[]⟩))),.aB] [(1,1,(qi 22))]),qu 8 (.lu 9 [(qd 0),(qd 0),(qd 0),(qd 0),(qd 0),(qd 0),(qd 0),(.aa (.val (.string ⟨#[]⟩))),.aB] 2 [(0,6),(1,7)]),qu 9 (qc 11 [5,8]),qm 4 9,qu 10 (.ext 4 0),qu 11 (.ext 4 1),qu 12 (.ext 4 2),qu 1 (.alloc [.aB,.aB,.aB]),qw (.store 3 1 10),qm 2 11,qm 3 12]) (.seq (.ai [qm 13 3,qu 14 (.aE .eql 13 (qi 0)),qm 15 14,qg 16 (.aD 2) 15 true,qg 17 (.len 1 16) 15 true,qg 18 (.aE .eql 17 (qi 2)) 15 true,qu 19 (.pick 15 18 (qb false)),qm 20 19,qg 21 (.aD 2) 20 true,qg 22 (.b7 4 21 (qi 0)) 20 true,qg 23 (.bQ 1 22) 20 true,qg 24 (.load false 1 23) 20 true,qg 25 (.aE .eql 24 (qi 1)) 20 true,qu 26 (.pick 20 25 (qb false)),qm 27 26,qg 28 (.aD 2) 27 true,qg 29 (.b7 4 28 (qi 0)) 27 true,qg 30 (.bQ 2 29) 27 true,qg 31 (.load false 1 30) 27 true,qg 32 (.aE .eql 31 (qi 2)) 27 true,qu 33 (.pick 27 32 (qb false)),qm 0 33]) .ret)))⟩
namespace Kn
theorem lT8:bq Tryz.prog Tryz.f8=some c8.er:=by kernel_rfl
def Oh:List Cl:=[{rW with ah:=15},{rW with ah:=22}]
theorem aS8:aS (ja zm) bw Oh=[⟨0,1,2,[]⟩,⟨0,0,0,[]⟩]:=by kernel_rfl
theorem BT:body Tryz.prog c8 [] [] (fun r m=>r=aA true):=by
 refine L5 ?_;refine ir (lJ:=[dM zm,EN Oh]) (m':=[.aZ]) (View.o 1 [0] [0] ?_ (.aZ (.nil _))) ?_
 .refine .eq rfl (.put (.rv (.one (.eu (ep.eu (Z:=fun k=>bs [0] k=true) ?_ rfl rfl)))) .nil)
  repeat(first|exact gx.nil|exact ep.nil|refine ep.cons ?_ ?_|refine gx.cons ?_ ?_|exact .aa _|exact .aB 1)
 refine tN zm Oh ⟨by decide,by decide⟩ (fun h=>absurd Rp h) (fun _ h=>absurd h (by decide)) fun _ _ l' hp hr=>?_
 rw[LZ hp hr,aS8];generalize kS (ja zm) bw Oh=k;exact rfl
theorem rY{m:Mem}{K:CV->Mem->Prop}(h:K (aA true) m):ar Tryz.prog 8 [] m K:=
 AB Tryz.func8 lT8 rfl (T3 rfl) BT rfl rfl h
theorem ET:(cT []).1=0:=by kernel_rfl
theorem vN{l:List cY}(h:l.Perm []):l=[]:=List.Perm.eq_nil h
def m5(s:ByteArray):List Int:=s.data.toList.map fun b=>((b.toNat:Nat):Int)
theorem tO(s:ByteArray):(m5 s).length=s.size:=by simp only[m5,LW,aaW];rfl
theorem gw(l:List Int):ou ((dh l).map fun ds=>ds.map CC.aa)=some l:=by
 induction l with
 |nil=>rfl
 |cons b r ih=>
  have ih:ou ((dh r).map fun ds=>ds.map CC.aa)=some r:=ih
  simp only[dh,aay,abN,ou]at ih⊢;rw[ih]
theorem vQ(l:List Int)(n:Nat):(dh l).take n=dh (l.take n):=by simp[dh,abc]
theorem Mb(l:List Int)(n:Nat):(dh l).drop n=dh (l.drop n):=by simp[dh,abD]
theorem oh(s:ByteArray)(a n:Nat):strOfNums (((m5 s).drop a).take n)=s.extract a (a+n):=by
 have h:∀l:List UInt8,(l.map fun b=>((b.toNat:Nat):Int)).map (fun n=>UInt8.ofNat n.toNat)=l:=by
  intro l
  induction l with
  |nil=>rfl
  |cons b r ih=>simp only[aay,ih];simp
 apply ByteArray.ext;rw[ByteArray.data_extract];simp only[strOfNums,m5,<-List.map_drop,<-List.map_take,h];apply Array.toList_inj.1;rw[Array.toList_extract];simp[List.extract_eq_take_drop]
end Kn
end Go.Proofs.YthagjdhjmamakaaGreatDoor
