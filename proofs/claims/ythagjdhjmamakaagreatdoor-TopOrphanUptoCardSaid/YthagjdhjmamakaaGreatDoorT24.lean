/- Part 24 of 41: what the law stands on. -/
import Derived.Test.YthagjdhjmamakaaGreatDoorT15
import Derived.Test.YthagjdhjmamakaaGreatDoorT16
import Derived.Test.YthagjdhjmamakaaGreatDoorT18
import Derived.Test.YthagjdhjmamakaaGreatDoorT23
import Derived.Test.YthagjdhjmamakaaGreatDoorRows
import Derived.Shelf.Strings.Search3
import Derived.Shelf.Strings.OnBuilder
set_option linter.unusedVariables false
set_option linter.unusedSimpArgs false
set_option linter.unnecessarySimpa false
set_option maxRecDepth 100000
set_option maxHeartbeats 64000000
namespace Go.Proofs.YthagjdhjmamakaaGreatDoor
open Go.AM Go.ChangeShapes Go.WideShapes Go.ChangeAt Go.RowKit
def c65:LF:= ⟨74,[.cell true 3 8,.tmp 9,.tmp 10],(.seq (.ai [qu 4 (.box 0),qu 8 (.alloc [.aB,.aB,.aB]),qu 9 (.aD (qi 0)),qu 10 (.aD (qi 0))]) (.seq (.ai [qf 16 1 4,ql 17 16,qu 18 (qc 106 [17,(.c (.rv (.one (.fn 107 []))))]),qm 11 18]) (.seq (.seq (.ai [qm 19 11,qu 20 (.aE .lss 19 (qi 0))]) (.cond 20 (.seq (.seq (.ai [qf 21 1 4,ql 22 21,qu 23 (.len 1 22),qu 24 (.aE .geq 23 (qi 60))]) (.cond 24 (.seq (.ai [qu 25 (.build [.aB,.aB,.aB] []),qw (.store 3 8 25),qu 9 (.aD (qi 0)),qu 10 (.aD (qi 15))]) .ret) .skip)) (.ai [qf 26 1 4,ql 27 26,qu 28 (.len 1 27),qm 11 28])) .skip)) (.cL (.seq (.ai [qf 30 2 4,ql 31 30,qm 32 1,qu 33 (.b7 4 31 32),qf 34 3 33,ql 35 34,qm 36 11,qm 37 3,qu 38 (.build [(qd 0),(qd 0)] [(0,1,36),(1,1,37)]),qu 39 (qc 69 [35,38]),qm 29 39,qu 40 (.ext 29 0),qu 41 (.ext 29 1),qu 42 (.ext 29 2),qm 12 40,qm 13 41,qm 14 42]) (.seq (.seq (.ai [qm 43 14,qu 44 (.aE .neq 43 (qi 0))]) (.cond 44 (.seq (.ai [qu 45 (.build [.aB,.aB,.aB] []),qm 46 14,qw (.store 3 8 45),qu 9 (.aD (qi 0)),qm 10 46]) .ret) .skip)) (.seq (.ai [qL 47 3 4,qu 48 (qc 52 [47]),qu 15 (.alloc [.aB,.aB,.aB]),qw (.store 3 15 48)]) (.seq (.seq (.ai [qm 49 11,qf 50 1 15,ql 51 50,qu 52 (.len 1 51),qu 53 (.aE .eql 49 52)]) (.cond 53 (.ai [qf 54 1 15,ql 55 54,qu 56 (.build [(qd 0),(qd 0)] []),qu 57 (.lu 2 [(qd 0),(qd 0)] 1 [(0,56)]),qu 58 (.mY 2 16 55 57),qf 59 1 15,qw (.store 1 59 58)]) .skip)) (.cL (.seq (.ai [qf 60 1 15,ql 61 60,qm 62 11,qm 63 2,qu 64 (.build [(qd 0),(qd 0)] [(0,1,63)]),qu 65 (.b7 2 61 62),qw (.store 2 65 64)]) (.seq (.ai [qf 66 2 15,ql 67 66,qm 68 1,qm 69 12,qu 70 (.b7 4 67 68),qf 71 3 70,qw (.store 1 71 69)]) (.seq (.ai [qL 72 3 15,qm 73 13,qw (.store 3 8 72),qm 9 73,qu 10 (.aD (qi 0))]) .ret))))))))))))⟩
theorem l65:bq Tryz.prog Tryz.f65=some c65.er:=by kernel_rfl
def m4(s:fq):Tb.bX:=⟨s.has,⟨s.eJ,s.cn⟩⟩
def Ng(s:Tb.bX):fq:=⟨s.has,s.cap.eJ,s.cap.cn⟩
theorem Nh(l:List fq):(l.map m4).map Tb.bX.enc=l.map fq.enc:=by rw[aaN];rfl
theorem Ni(l:List Tb.bX):(l.map Ng).map fq.enc=l.map Tb.bX.enc:=by rw[aaN];rfl
theorem xz(l:List fq):Tb.oY (l.map m4)=wu l:=by rw[Tb.oY,Nh];rfl
theorem od(l:List Tb.bX):Tb.iw l=J3 (l.map Ng):=by show RV.one (.aa (.sl 3 (l.map Tb.bX.enc)))= .one (.aa (.sl 3 ((l.map Ng).map fq.enc)));rw[Ni]
def eI(l:List fq)(eJ cn:Int):List fq×Int×Int:=((Tb.gE (l.map m4) ⟨eJ,cn⟩).1.map Ng,(Tb.gE (l.map m4) ⟨eJ,cn⟩).2.1,(Tb.gE (l.map m4) ⟨eJ,cn⟩).2.2)
theorem yO(l:List fq)(hb:l.length<=2097152)(eJ cn:Int){m:Mem}{K:CV->Mem->Prop}(h:K (.bG [J3 (eI l eJ cn).1,cD (eI l eJ cn).2.1,cD (eI l eJ cn).2.2]) m):
  ar Tryz.prog 69 [ma l,.rv (.agg [.aa (.val (.int .i64 eJ)),.aa (.val (.int .i64 cn))])] m K:=by
 have:=Tb.Kt (l.map m4) (by simpa using hb) ⟨eJ,cn⟩ (m:=m) (K:=K) (by rw[od];exact h)
 have e:Tb.d7 (l.map m4)=ma l:=by show CV.rv (.one (.aa (Tb.oY (l.map m4))))=_;rw[xz];rfl
 rw[e]at this;exact this
def dK(ops:List bC):Nat:=(DF ops).getD ops.length
def aV(ps:List bi)(n:Nat):List fq:=match ps[n]? with|some x=>x.bd|none=>[]
def iM(ops:List bC)(i:Nat)(o:bC):List bC:=if i=ops.length then ops++ [o]else ops.set i o
def eQ(ps:List bi)(n:Nat)(l:List fq):List bi:=match ps[n]? with|some x=>ps.set n {x with bd:=l}|none=>ps
def aH(k:Kr)(n:Nat)(bt cn:Int):Kr×Int×Int:=
 if DF k.ops=none/\k.ops.length>=60 then(lg,0,15)
 else if(eI (aV k.ps n) (dK k.ops) cn).2.2≠0 then(lg,0,(eI (aV k.ps n) (dK k.ops) cn).2.2)
 else(⟨k.l,iM k.ops (dK k.ops) ⟨bt,0⟩,eQ k.ps n (eI (aV k.ps n) (dK k.ops) cn).1⟩,(eI (aV k.ps n) (dK k.ops) cn).2.1,0)
theorem DG{ops:List bC}{i:Nat}(h:DF ops=some i):i<ops.length:=(aar.1 h).1
def C30:LC:=bI (bI (bI c65.code))
def Xu:LC:=oV C30
def C60:LC:=bI (bI (bI (bI Xu)))
def ZB:LC:=oV C60
def ZC(l:List Obj)(O:List bC)(ps:List bi):Mem:=[.var [.aB,.aB,.aB],.row 9 (af (l.map Obj.enc)),.row 2 (af (O.map bC.enc)),.row 4 (af (ps.map bi.enc)),.var [.row 1 9 0 none,.row 2 2 0 none,.row 3 4 0 none]]
theorem TN{m:Mem}{a b c:Nat}{l:List Obj}{ops:List bC}{ps:List bi}(h1:m[a]? =some (.row 9 (af (l.map Obj.enc))))(h2:m[b]? =some (.row 2 (af (ops.map bC.enc))))(h3:m[c]? =some (.row 4 (af (ps.map bi.enc)))):
  eh m (.agg [.row a 9 0 none,.row b 2 0 none,.row c 4 0 none]) (ib ⟨l,ops,ps⟩):=by
 refine .agg rfl fun i c c' e1 e2=>?_
 match i,e1,e2 with
 |0,e1,e2=>cases e1;cases e2;exact dY.d6 h1 0 none
 |1,e1,e2=>cases e1;cases e2;exact dY.d6 h2 0 none
 |2,e1,e2=>cases e1;cases e2;exact dY.d6 h3 0 none
 |n+3,e1,e2=>simp at e1
theorem O1(l:List Obj)(O:List bC)(ps:List bi)(n i:Nat)(hn:n<ps.length)(hi:i<O.length)(bt fd:Int)(y:List fq):
  aw Tryz.prog 0 ZB (nb Tryz.prog c65.ki (fun r m=>cw m r (.bG [ib ⟨l,O.set i ⟨bt,0⟩,eQ ps n y⟩,cD fd,cD 0])))
   ⟨lB 74 [(1,an .i64 (n:Nat)),(2,an .i64 bt),(8,.rv (.one (.ptr 0 0))),(11,an .i64 (i:Nat)),(12,ma y),(13,an .i64 fd),(15,.rv (.one (.ptr 4 0)))],ZC l O ps⟩:=by
 refine ag (yG hi) ?_;have ho:=bA bC.enc O hi;generalize O[i]=x at ho;obtain⟨xo,xa⟩:=x;refine ag ho ?_;refine ag (k9 hn) ?_;have hp:=bA bi.enc ps hn;have pi:eQ ps n y=ps.set n {ps[n]with bd:=y}:=by rw[eQ,tq hn]
 rw[pi];generalize ps[n]=z at hp;obtain⟨a8,fenced,cd,bd⟩:=z;refine ag hp ?_;refine k7 (TN ?_ ?_ ?_) (eh.self rfl)
 .rfl
 .refine congrArg (fun x=>some (Bk.row 2 x)) ?_
  show a7 (af (O.map bC.enc)) i ((bC.enc ⟨bt,0⟩).map .aa)=_;rw[bg,af,af,aaG,aaG]
 .refine congrArg (fun x=>some (Bk.row 4 x)) ?_
  show a7 (af (ps.map bi.enc)) n ((bi.enc ⟨a8,fenced,cd,y⟩).map .aa)=_;rw[bg,af,af,aaG,aaG]
theorem O2(k:Kr)(hk:dC k.l k.ops k.ps)(n:Nat)(hn:n<k.ps.length)(bt cn:Int)(i:Nat)(hi:i=dK k.ops)(Ou:i<=k.ops.length)(iV:¬(DF k.ops=none/\k.ops.length>=60)):
  aw Tryz.prog 0 Xu (nb Tryz.prog c65.ki (fun r m=>cw m r (.bG [ib (aH k n bt cn).1,cD (aH k n bt cn).2.1,cD (aH k n bt cn).2.2])))
   ⟨lB 74 [(1,an .i64 (n:Nat)),(2,an .i64 bt),(3,an .i64 cn),(4,.rv (.one (.ptr 0 0))),(8,.rv (.one (.ptr 1 0))),(11,an .i64 (i:Nat))],[.var ((kC k.l k.ops k.ps).map .aa),.var [.aB,.aB,.aB]]⟩:=by
 have FV:aV k.ps n=k.ps[n].bd:=by rw[aV,tq hn]
 have Fp:=hk.sl _ (XP hn);have Qu:k.ops.length<=4194304:=hk.lo;rw[aH,if_neg iV,FV,<-hi];refine ag (dQ hn) ?_;generalize k.ps[n].bd=S at Fp;refine yO S om (i:Nat) cn ?_;generalize eI S (i:Nat) cn=A;obtain⟨y,fd,e⟩:=A;refine bu (fun he=>?_) (fun he=>?_)
 .rw[if_pos he];exact k7 gi (eh.self rfl)
 have he:e=0:=he;subst he;rw[if_neg aK];refine gP k.l k.ops k.ps ⟨hk.ll,fun o ho=>(hk.sm o ho).mU⟩ hk.lo hk.lp hk.sl hk.ne ?_
 refine bz (fun ko=>?_) (fun ko=>?_)
 .have ko:i=k.ops.length:=by have ko:(i:Int)=((af (k.ops.map bC.enc)).length:Int):=ko;rw[bb,LW]at ko;omega
  have ji:iM k.ops i ⟨bt,0⟩=(k.ops++ [bC.mk 0 0]).set i ⟨bt,0⟩:=by rw[iM,if_pos ko,ko];simp
  rw[ji];refine⟨by simp only[ct,bb,LW,XR,aat];omega,?_⟩
  refine⟨_,View.o1 8 [1,2,7,4,5] [] ?_,O1 k.l (k.ops++ [bC.mk 0 0]) k.ps n i hn (by simp;omega) bt fd y⟩
  .exact .pe rfl rfl rfl (.pr rfl rfl rfl (.pt rfl rfl (.bR (by simp[ct,af,bC.enc])) (.pr rfl rfl rfl (.pm rfl rfl rfl))))
 .have aF:i<k.ops.length:=by have ko:¬(i:Int)=((af (k.ops.map bC.enc)).length:Int):=ko;rw[bb,LW]at ko;omega
  have ji:iM k.ops i ⟨bt,0⟩=k.ops.set i ⟨bt,0⟩:=by rw[iM,if_neg om]
  rw[ji];refine⟨_,View.o1 6 [1,2,3,4,5] [] ?_,O1 k.l k.ops k.ps n i hn aF bt fd y⟩
  .exact .pe rfl rfl rfl (.pr rfl rfl rfl (.pr rfl rfl rfl (.pr rfl rfl rfl (.pm rfl rfl rfl))))
theorem A9(k:Kr)(hk:dC k.l k.ops k.ps)(n:Nat)(hn:n<k.ps.length)(bt cn:Int):body Tryz.prog c65 [dX k.l k.ops k.ps,an .i64 (n:Nat),an .i64 bt,an .i64 cn] []
  (fun r m=>cw m r (.bG [ib (aH k n bt cn).1,cD (aH k n bt cn).2.1,cD (aH k n bt cn).2.2])):=by
 refine FU k.ops hk.lo ?_;have Qu:k.ops.length<=4194304:=hk.lo;cases ho:DF k.ops with
 |none=>
  have Qv:IN k.ops= -1:=by rw[IN,ho]
  have Qw:dK k.ops=k.ops.length:=by rw[dK,ho];rfl
  rw[Qv];refine aJ (fun uT=>?_) (fun uT=>?_)
  .have uT:k.ops.length>=60:=by have uT:((k.ops.map bC.enc).length:Int)>=60:=uT;rw[LW]at uT;omega
   rw[aH,if_pos ⟨ho,uT⟩];exact k7 gi (eh.self rfl)
  .have uT:¬k.ops.length>=60:=by have uT:¬((k.ops.map bC.enc).length:Int)>=60:=uT;rw[LW]at uT;omega
   refine⟨_,View.o 2 [0,1] [] ?_ ?_,O2 k hk n hn bt cn k.ops.length Qw.symm (QN _) (fun h=>uT h.2)⟩
   .have hlen:an .i64 (((k.ops.map bC.enc).length:Nat):Int)=an .i64 ((k.ops.length:Nat):Int):=by rw[LW]
    repeat(first|exact .nil|refine .aq ?_|refine .eq rfl ?_)
    refine .eq hlen.symm ?_;repeat(first|exact .nil|refine .aq ?_|refine .eq rfl ?_)
   .exact .pt rfl rfl (.eq rfl (by simp[kC])) (.pm rfl rfl rfl)
 |some i=>
  have Qv:IN k.ops=(i:Nat):=by rw[IN,ho]
  have Qw:dK k.ops=i:=by rw[dK,ho];rfl
  have Ou:=DG ho;rw[Qv];refine⟨_,View.o1 2 [0,1] [] ?_,O2 k hk n hn bt cn i Qw.symm om (fun h=>by rw[ho]at h;cases h.1)⟩
  .exact .pt rfl rfl (.eq rfl (by simp[kC])) (.pm rfl rfl rfl)
theorem rF(k:Kr)(hk:dC k.l k.ops k.ps)(n:Nat)(hn:n<k.ps.length)(bt cn:Int){m:Mem}{K:CV->Mem->Prop}(h:K (.bG [ib (aH k n bt cn).1,cD (aH k n bt cn).2.1,cD (aH k n bt cn).2.2]) m):ar Tryz.prog 65 [dX k.l k.ops k.ps,an .i64 (n:Nat),an .i64 bt,an .i64 cn] m K:=
 aY (cf Tryz.func65 l65 (A9 k hk n hn bt cn)) (by simp[dX,da,eF,fM,an,CV.c7,CC.c7,RV.c7]) fun r m1 hf=>⟨_,hf,h⟩
def c70:LF:= ⟨84,[.cell true 3 4,.tmp 5,.tmp 6,.tmp 7],(.seq (.ai [qu 2 (.box 0),qu 4 (.alloc [.aB,.aB,.aB]),qu 5 (.aD (qi 0)),qu 6 (.aD (qi 0)),qu 7 (.aD (qi 0))]) (.seq (.seq (.ai [qL 14 3 2,qm 15 1,qu 16 (qc 25 [14,15]),qu 17 (.un .not 16)]) (.cond 17 (.seq (.ai [qu 18 (.build [.aB,.aB,.aB] []),qw (.store 3 4 18),qu 5 (.aD (qi 0)),qu 6 (.aD (qi 0)),qu 7 (.aD (qi 6))]) .ret) .skip)) (.seq (.ai [qu 19 (qc 111 [2]),qm 8 19]) (.seq (.seq (.ai [qm 20 8,qu 21 (.aE .lss 20 (qi 0))]) (.cond 21 (.seq (.ai [qu 22 (.build [.aB,.aB,.aB] []),qw (.store 3 4 22),qu 5 (.aD (qi 0)),qu 6 (.aD (qi 0)),qu 7 (.aD (qi 15))]) .ret) .skip)) (.seq (.ai [qL 23 3 2,qu 24 (qc 52 [23]),qu 9 (.alloc [.aB,.aB,.aB]),qw (.store 3 9 24)]) (.seq (.seq (.ai [qm 25 8,qf 26 2 9,ql 27 26,qu 28 (.len 1 27),qu 29 (.aE .eql 25 28)]) (.cond 29 (.ai [qf 30 2 9,ql 31 30,qu 32 (.build [(.aa (.val (.bool false))),(.aa (.val (.bool false))),(qd 0),.aB] []),qu 33 (.lu 4 [(.aa (.val (.bool false))),(.aa (.val (.bool false))),(qd 0),.aB] 1 [(0,32)]),qu 34 (.mY 4 40 31 33),qf 35 2 9,qw (.store 1 35 34)]) .skip)) (.cL (.seq (.bT [qf 36 2 9,ql 37 36,qm 38 8,qf 39 2 2,ql 40 39,qm 41 1,qu 42 (.b7 4 40 41),qf 43 1 42,ql 44 43,qf 45 2 2,ql 46 45,qm 47 1,qu 48 (.b7 4 46 47),qf 49 3 48,ql 50 49,qu 51 (qc 93 [50]),qu 52 (.build [(.aa (.val (.bool false))),(.aa (.val (.bool false))),(qd 0),.aB] [(0,1,(qb true)),(1,1,44),(3,1,51)]),qu 53 (.b7 4 37 38),qw (.store 4 53 52)] [(.cons 0 none (.cons 1 none (.cons 2 none (.cons 3 none (.cons 4 none (.cons 5 none (.cons 6 none (.cons 7 none (.cons 8 none (.cons 9 none (.cons 10 none (.cons 11 none (.cons 12 none (.cons 13 none (.cons 14 none (.cons 15 (some [8,6,4,1]) (.cons 16 none (.cons 17 none (.cons 18 (some []) .nil)))))))))))))))))))]) (.cL (.seq (.ai [qf 55 0 9,ql 56 55,qm 57 8,qu 58 (.build [(qd 0),.aB,.aB,(.aa (.val (.string ⟨#[]⟩))),(qd 0),.aB,(qd 0),(qd 0),(qd 0)] [(0,1,(qi 5)),(4,1,(qi (-1))),(6,1,57)]),qu 59 (qc 104 [56,58]),qm 54 59,qu 60 (.ext 54 0),qu 61 (.ext 54 1),qu 62 (.ext 54 2),qm 10 60,qm 11 61,qm 12 62]) (.seq (.seq (.ai [qm 63 12,qu 64 (.aE .neq 63 (qi 0))]) (.cond 64 (.seq (.ai [qu 65 (.build [.aB,.aB,.aB] []),qm 66 12,qw (.store 3 4 65),qu 5 (.aD (qi 0)),qu 6 (.aD (qi 0)),qm 7 66]) .ret) .skip)) (.seq (.ai [qm 67 10,qf 68 0 9,qw (.store 1 68 67)]) (.seq (.ai [qL 70 3 9,qm 71 1,qm 72 11,qu 73 (qc 65 [70,71,72,(qi 3200)]),qm 69 73,qu 74 (.ext 69 0),qu 75 (.ext 69 1),qu 76 (.ext 69 2),qw (.store 3 9 74),qm 13 75,qm 12 76]) (.seq (.seq (.ai [qm 77 12,qu 78 (.aE .neq 77 (qi 0))]) (.cond 78 (.seq (.ai [qu 79 (.build [.aB,.aB,.aB] []),qm 80 12,qw (.store 3 4 79),qu 5 (.aD (qi 0)),qu 6 (.aD (qi 0)),qm 7 80]) .ret) .skip)) (.seq (.ai [qL 81 3 9,qm 82 8,qm 83 13,qw (.store 3 4 81),qm 5 82,qm 6 83,qu 7 (.aD (qi 0))]) .ret)))))))))))))))⟩
theorem l70:bq Tryz.prog Tryz.f70=some c70.er:=by kernel_rfl
def dL(c:Int):Obj:=⟨5,[],[],⟨#[]⟩,-1,[],c,0,0⟩
theorem Ba(c:Int):(dL c).sm:=⟨⟨⟨[],rfl⟩,⟨[],rfl⟩,fun q hq=>by simp[dL]at hq⟩,by simp[dL],by simp[dL],by simp[dL],fun q hq=>by simp[dL]at hq⟩
theorem Kx(a:CV)(c:Int):jL [a,.rv (.agg [.aa (.val (.int .i64 5)),.aB,.aB,.aa (.val (.string ⟨#[]⟩)),.aa (.val (.int .i64 (-1))),.aB,.aa (.val (.int .i64 c)),.aa (.val (.int .i64 0)),.aa (.val (.int .i64 0))])] [a,(dL c).cv]:=
 .dz _ (.agg (.cons (.dz _) (.cons (.aB 1) (.cons (.aB 2) (.cons (.dz _) (.cons (.dz _) (.cons (.aB 4) (.cons (.dz _) (.cons (.dz _) (.cons (.dz _) .nil))))))))) .nil)
theorem xA{l:List Obj}{o x:Obj}(h:x∈(aI l o).1):x∈l\/x=o:=by
 unfold aI at h;split at h
 .exact aag h
 .split at h
  .simp at h
  .simpa using h
theorem Ht(l:List Obj)(o:Obj):(aI l o).1.length<=l.length+1:=by
 unfold aI;split
 .simp
 .split<;>simp
theorem Kz{m:Mem}{a b:RV}{x y z:Int}(h:eh m a b):cw m (.bG [a,cD x,cD y,cD z]) (.bG [b,cD x,cD y,cD z]):=by
 refine .bG rfl fun i r r' h1 h2=>?_
 match i,h1,h2 with
 |0,h1,h2=>cases h1;cases h2;exact h
 |1,h1,h2=>cases h1;cases h2;exact eh.self rfl
 |2,h1,h2=>cases h1;cases h2;exact eh.self rfl
 |3,h1,h2=>cases h1;cases h2;exact eh.self rfl
 |n+4,h1,h2=>simp at h1
def uU(l:List Obj)(ops:List bC)(P:List bi)(n:Nat)(c:Int):Kr×Int×Int×Int:=
 if(aI l (dL c)).2.2≠0 then(lg,0,0,(aI l (dL c)).2.2)
 else if(aH ⟨(aI l (dL c)).1,ops,P⟩ n (aI l (dL c)).2.1 3200).2.2≠0 then(lg,0,0,(aH ⟨(aI l (dL c)).1,ops,P⟩ n (aI l (dL c)).2.1 3200).2.2)
 else((aH ⟨(aI l (dL c)).1,ops,P⟩ n (aI l (dL c)).2.1 3200).1,c,(aH ⟨(aI l (dL c)).1,ops,P⟩ n (aI l (dL c)).2.1 3200).2.1,0)
def iN(ps:List bi)(n c:Nat):List bi:=match ps[n]? with
 |some x=>if c=ps.length then ps++ [⟨true,x.fenced,0,x.bd⟩]else ps.set c ⟨true,x.fenced,0,x.bd⟩
 |none=>ps
def i7(k:Kr)(p:Int):Kr×Int×Int×Int:=
 if eZ k.ps p=false then(lg,0,0,6)else if fR k.l k.ps<0 then(lg,0,0,15)
 else uU k.l k.ops (iN k.ps p.toNat (fR k.l k.ps).toNat) p.toNat (fR k.l k.ps)
def FW(a:Kr×Int×Int×Int):CV:= .bG [ib a.1,cD a.2.1,cD a.2.2.1,cD a.2.2.2]
def C36:LC:=bI (bI (bI (bI (bI (bI c70.code)))))
def ZD:LC:=oV C36
def C55:LC:=bI ZD
def G55:LC:=oV C55
theorem TO(l:List Obj)(ops:List bC)(P:List bi)(hk:dC l ops P)(DH:l.length<=4194303)(n:Nat)(hn:n<P.length)(c:Int):
  aw Tryz.prog 0 G55 (nb Tryz.prog c70.ki (fun r m=>cw m r (FW (uU l ops P n c))))
   ⟨lB 84 [(1,an .i64 (n:Nat)),(4,.rv (.one (.ptr 0 0))),(8,an .i64 c),(9,.rv (.one (.ptr 1 0)))],[.var [.aB,.aB,.aB],.var ((kC l ops P).map .aa)]⟩:=by
 have ZE:∀x,x∈(aI l (dL c)).1->x.sm:=fun x hx=>by
  rcases xA hx with hx|rfl
  .exact hk.sm x hx
  .exact Ba c
 have Xv:=Ht l (dL c);refine lI (Kx _ _) (yA l ⟨hk.ll,fun o ho=>(hk.sm o ho).mU⟩ (dL c) ?_)
 unfold uU;generalize aI l (dL c)=A at ZE Xv;obtain⟨A1,k,e⟩:=A;refine bu (fun he=>?_) (fun he=>?_)
 .rw[if_pos he];exact Kz gi
 have he:e=0:=he;subst he;rw[if_neg aK];refine rF ⟨A1,ops,P⟩ ⟨ZE,by have Xv:A1.length<=l.length+1:=Xv;show A1.length<=4194304;omega,hk.lo,hk.lp,hk.sl,hk.ne⟩ n hn k 3200 ?_
 generalize aH ⟨A1,ops,P⟩ n k 3200=B;obtain⟨B1,fd,e2⟩:=B;refine bu (fun qH=>?_) (fun qH=>?_)
 .rw[if_pos qH];exact Kz gi
 have qH:e2=0:=qH;subst qH;rw[if_neg aK];exact Kz (eh.self (yM _))
theorem nz(l:List Obj)(ps:List bi):∀(n p c:Nat),ny l ps n p=(c:Nat)->p<=ps.length->c<=ps.length/\p<=c/\c<p+n/\(c<ps.length->sZ l ps c=true)
 |0,p,c,h,_=>by have h:(-1:Int)=(c:Nat):=h;omega
 |n+1,p,c,h,hp=>by
  rw[ny]at h;by_cases h1:p=ps.length
  .rw[if_pos h1]at h;have:p=c:=om;subst this;exact⟨om,om,om,fun h2=>om⟩
  .rw[if_neg h1]at h;by_cases h2:sZ l ps p=true
   .rw[if_pos h2]at h;have:p=c:=om;subst this;exact⟨om,om,om,fun _=>h2⟩
   .rw[if_neg h2]at h;obtain⟨a,b,c1,d⟩:=nz l ps n (p+1) c h om;exact⟨a,om,om,d⟩
theorem O3(k:Kr)(hk:dC k.l k.ops k.ps)(DH:k.l.length<=4194303)(P:List bi)(hP:∀p,p∈P->p.bd.length<=10)(VE:P.length<=4194304)(n:Nat)(hn:n<k.ps.length)(hnP:n<P.length)(c:Nat)(hc:c<P.length):
  aw Tryz.prog 0 ZD (nb Tryz.prog c70.ki (fun r m=>cw m r (FW (uU k.l k.ops (P.set c ⟨true,k.ps[n].fenced,0,k.ps[n].bd⟩) n (c:Nat)))))
   ⟨lB 84 [(1,an .i64 (n:Nat)),(2,.rv (.one (.ptr 0 0))),(4,.rv (.one (.ptr 1 0))),(8,an .i64 (c:Nat)),(9,.rv (.one (.ptr 5 0)))],
    [.var ((kC k.l k.ops k.ps).map .aa),.var [.aB,.aB,.aB],.row 9 (af (k.l.map Obj.enc)),.row 2 (af (k.ops.map bC.enc)),.row 4 (af (P.map bi.enc)),.var [.row 2 9 0 none,.row 3 2 0 none,.row 4 4 0 none]]⟩:=by
 have hg:=dQ hn;have Fp:=hk.sl _ (XP hn);have hr:=bA bi.enc P hc;generalize k.ps[n]=z at hg Fp;obtain⟨a8,fenced,cd,bd⟩:=z;have Fp:bd.length<=10:=Fp;generalize P[c]=w at hr;obtain⟨wl,wf,wc,ws⟩:=w;refine ag hg ?_;refine ag hg ?_;refine iu bd om ?_;refine⟨⟨rfl,ag hg rfl,rfl,rfl,trivial⟩,?_⟩;refine ag (k9 hc) ?_;refine ag hr ?_;refine⟨trivial,?_⟩;have ji:∀x,x∈P.set c ⟨true,fenced,0,bd⟩->x.bd.length<=10:=fun x hx=>by
  rcases aag hx with hx|rfl
  .exact hP x hx
  .exact Fp
 have eE:=TO k.l k.ops (P.set c ⟨true,fenced,0,bd⟩) ⟨hk.sm,hk.ll,hk.lo,by rw[aab];exact VE,ji,fun h=>by have:=congrArg List.length h;rw[aab,aat]at this;omega⟩ DH n (by rw[aab];exact hnP) (c:Nat)
 refine⟨_,View.o1 6 [1,5] [2,3,4] ?_,eE⟩
 .refine .pe rfl rfl rfl (.pt rfl rfl (eG.var (.cons (.eu (dm.d6 (Z:=fun k=>bs [2,3,4] k=true) rfl rfl 0 none)) (.cons (.eu (dm.d6 (Z:=fun k=>bs [2,3,4] k=true) rfl rfl 0 none)) (.cons (.eu (Kw (Z:=fun k=>bs [2,3,4] k=true) (c:=(bi.enc ⟨true,fenced,0,bd⟩).map .aa) ?_ rfl rfl)) .nil)))) (.nil _))
  exact .cons (.aa _) (.cons (.aa _) (.cons (.aa _) (.cons (.aa _) .nil)))
theorem Hu(k:Kr)(hk:dC k.l k.ops k.ps)(DH:k.l.length<=4194303)(p:Int):body Tryz.prog c70 [dX k.l k.ops k.ps,an .i64 p] [] (fun r m=>cw m r (FW (i7 k p))):=by
 refine nw k.l k.ops k.ps p ?_;have h2:=hk.lp;refine ay (fun h1=>?_) (fun h1=>?_)
 .have h1:eZ k.ps p=false:=by simpa using h1
  rw[i7,if_pos h1];exact Kz gi
 have h1:eZ k.ps p=true:=by simpa using h1
 obtain⟨n,rfl,hn,dG⟩:=p9 h1;rw[i7,if_neg (by rw[h1];simp)]
 refine fl (args0:=[.rv (.one (.ptr 0 0))]) (cs:=kC k.l k.ops k.ps) 0 rfl rfl (r0:=an .i64 (fR k.l k.ps)) rfl (fun K hK=>yL k.l hk.ll k.ops k.ps K hK) ?_
 refine aJ (fun h3=>?_) (fun h3=>?_)
 .rw[if_pos h3];exact Kz gi
 rw[if_neg h3];obtain⟨c,hc⟩:∃c:Nat,fR k.l k.ps=(c:Int):=⟨(fR k.l k.ps).toNat,om⟩;obtain⟨fb,_,hc8,_⟩:=nz k.l k.ps 8 0 c hc (XL _);rw[hc,show((n:Nat):Int).toNat=n from rfl,show((c:Nat):Int).toNat=c from rfl];refine gP k.l k.ops k.ps ⟨hk.ll,fun o ho=>(hk.sm o ho).mU⟩ hk.lo hk.lp hk.sl hk.ne ?_
 refine bz (fun ko=>?_) (fun ko=>?_)
 .have ko:c=k.ps.length:=by have ko:(c:Int)=((af (k.ps.map bi.enc)).length:Int):=ko;rw[bb,LW]at ko;omega
  have Xw:iN k.ps n c=(k.ps++ [fN]).set c ⟨true,k.ps[n].fenced,0,k.ps[n].bd⟩:=by rw[iN,tq hn];simp only[];rw[if_pos ko,ko];simp
  rw[Xw];refine⟨by simp only[ct,bb,LW,XR,aat];omega,?_⟩
  have eE:=O3 k hk DH (k.ps++ [fN]) (fun x hx=>by
   rcases aaF.1 hx with hx|hx
   .exact hk.sl x hx
   .simp at hx;subst hx;simp[fN]) (by simp;omega) n hn (by simp;omega) c (by simp;omega)
  refine⟨_,View.o1 8 [0,1,2,3,7,5] [] ?_,eE⟩
  .exact .pt rfl rfl (.eq rfl (by simp[kC])) (.pe rfl rfl rfl (.pr rfl rfl rfl (.pr rfl rfl rfl (.pt rfl rfl (Tz k.ps fN (.eu (.aB 3)) (by simp[ct,af,CC.aP,fN])) (.pm rfl rfl rfl)))))
 .have aF:c<k.ps.length:=by have ko:¬(c:Int)=((af (k.ps.map bi.enc)).length:Int):=ko;rw[bb,LW]at ko;omega
  have Xw:iN k.ps n c=k.ps.set c ⟨true,k.ps[n].fenced,0,k.ps[n].bd⟩:=by rw[iN,tq hn];simp only[];rw[if_neg om]
  rw[Xw];have eE:=O3 k hk DH k.ps hk.sl hk.lp n hn hn c aF;refine⟨_,View.o1 6 [0,1,2,3,4,5] [] ?_,eE⟩
  .exact .pt rfl rfl (.eq rfl (by simp[kC])) (.pe rfl rfl rfl (.pr rfl rfl rfl (.pr rfl rfl rfl (.pr rfl rfl rfl (.pm rfl rfl rfl)))))
theorem FX(k:Kr)(hk:dC k.l k.ops k.ps)(DH:k.l.length<=4194303)(p:Int){m:Mem}{K:CV->Mem->Prop}(h:K (FW (i7 k p)) m):ar Tryz.prog 70 [dX k.l k.ops k.ps,an .i64 p] m K:=
 aY (cf Tryz.func70 l70 (Hu k hk DH p)) (by simp[dX,da,eF,fM,an,CV.c7,CC.c7,RV.c7]) fun r m1 hf=>⟨_,hf,h⟩
def c55:LF:= ⟨40,[.tmp 6,.tmp 7],(.seq (.ai [qu 6 (.aD qe),qu 7 (.aD (qi 0))]) (.seq (.ai [qm 12 0,qm 13 1,qu 14 (qc 66 [12,13]),qm 11 14,qu 15 (.ext 11 0),qu 16 (.ext 11 1),qu 8 (.alloc [(qd 0),(qd 0)]),qw (.store 2 8 15),qm 9 16]) (.seq (.block 0 (.seq (.ai [qm 18 9,qu 19 (.aE .neq 18 (qi 0)),qm 17 19]) (.cond 17 (.seq (.ai [qm 20 9,qu 6 (.aD qe),qm 7 20]) .ret) (.seq (.ai [qm 22 2,qu 23 (qc 47 [22]),qu 24 (.un .not 23),qm 21 24]) (.cond 21 (.seq (.ai [qu 6 (.aD qe),qu 7 (.aD (qi 3))]) .ret) (.seq (.ai [qm 26 2,qf 27 1 8,ql 28 27,qu 29 (qc 94 [26,28]),qu 30 (.un .not 29),qm 25 30]) (.cond 25 (.seq (.ai [qu 6 (.aD qe),qu 7 (.aD (qi 10))]) .ret) .skip))))))) (.seq (.ai [qm 31 0,qu 32 (qc 93 [31]),qm 10 32]) (.seq (.ai [qm 33 10,qm 34 1,qm 35 2,qu 36 (.b7 3 33 34),qf 37 1 36,qf 38 1 37,qw (.store 1 38 35)]) (.seq (.ai [qm 39 10,qm 6 39,qu 7 (.aD (qi 0))]) .ret))))))⟩
namespace Tb
theorem l55:bq Tryz.prog Tryz.f55=some c55:=by kernel_rfl
def uV(l:List bX)(fd n:Int):List bX×Int:=
 if(ei l fd).2=0 then
  if dv n=false then([],3)else if cm n (ei l fd).1.cn=false then([],10)else(l.set fd.toNat ⟨true,⟨(ei l fd).1.eJ,n⟩⟩,0)
 else([],(ei l fd).2)
theorem DI(l:List bX)(hb:l.length<=2097152)(fd n:Int):body Tryz.prog c55 [d7 l,an .i64 fd,an .i64 n] [] (fun r m=>cw m r (.bG [iw (uV l fd n).1,cD (uV l fd n).2])):=by
 refine uR l fd ?_;refine ay (fun h=>?_) (fun h=>?_)
 .have h:¬(ei l fd).2=0:=by simpa using h
  rw[uV,if_neg h];exact jm (.one (.aB 3))
 .have h:(ei l fd).2=0:=by simpa using h
  rw[uV,if_pos h];refine uS n ?_;refine ay (fun h1=>?_) (fun h1=>?_)
  .have h1:dv n=false:=by simpa using h1
   rw[if_pos h1];exact jm (.one (.aB 3))
  .have h1:dv n=true:=by simpa using h1
   rw[if_neg (by simp[h1])]
   refine xx _ _ ?_;refine ay (fun h2=>?_) (fun h2=>?_)
   .have h2:cm n (ei l fd).1.cn=false:=by simpa using h2
    rw[if_pos h2];exact jm (.one (.aB 3))
   .have h2:cm n (ei l fd).1.cn=true:=by simpa using h2
    rw[if_neg (by simp[h2])]
    obtain⟨d,rfl,hd,TK,bl⟩:=FT h;rw[show((d:Nat):Int).toNat=d from rfl];refine oc l hb (fun hl=>by subst hl;simp at hd) ?_
    refine ag (bP (k:=d) (by simp[bV,lenOf];omega)) ?_
    refine ag (x:=(l[d].enc).map .aa) (by simp[aT,bV,gB,hd]) ?_
    refine jm (.one ?_);have e:a7 (bV l) d [CC.aa (.val (.bool l[d].has)),CC.aa (.val (.int .i64 l[d].cap.eJ)),CC.aa (.val (.int .i64 n))]=af ((l.set d ⟨true,⟨(ei l d).1.eJ,n⟩⟩).map bX.enc):=by rw[bg,TK,bl];simp[bV,af,bX.enc]
    exact dY.d6 (congrArg (fun x=>some (Bk.row 3 x)) e) 0 none
theorem KA(l:List bX)(hb:l.length<=2097152)(fd n:Int){m:Mem}{K:CV->Mem->Prop}(h:K (.bG [iw (uV l fd n).1,cD (uV l fd n).2]) m):ar Tryz.prog 55 [d7 l,an .i64 fd,an .i64 n] m K:=
 aY (aW Tryz.func55 l55 (DI l hb fd n)) (by simp[d7,an,CV.c7,CC.c7]) fun r m1 hf=>⟨_,hf,h⟩
end Tb
def c127:LF:= ⟨49,[.tmp 6,.tmp 7],(.seq (.ai [qu 6 (.aD (qi 0)),qu 7 (.aD (qb false))]) (.seq (.ai [qm 12 0,qu 13 (.len 1 12),qm 8 13]) (.seq (.ai [qm 14 8,qu 9 (.aD (qi 0)),qm 10 14]) (.seq (.block 0 (.loop (.seq (.seq (.ai [qm 15 9,qm 16 10,qu 17 (.aE .lss 15 16)]) (.cond 17 .skip (.exit 0))) (.block 1 (.seq (.ai [qm 18 9,qm 19 10,qu 20 (.aE .add 18 19),qu 21 (.conv .u64 20),qu 22 (.aE .shr 21 (.c (.rv (.one (.aa (.val (.int .u64 (1)))))))),qu 23 (.conv .i64 22),qm 11 23]) (.seq (.ai [qm 24 2,qm 25 0,qm 26 11,qu 27 (.b7 2 25 26),qL 28 2 27,qm 29 1,qu 30 (.call 24 [28,29]),qu 31 (.aE .lss 30 (qi 0))]) (.cond 31 (.ai [qm 32 11,qu 33 (.aE .add 32 (qi 1)),qm 9 33]) (.ai [qm 34 11,qm 10 34])))))))) (.seq (.ai [qm 35 9,qm 36 9,qm 37 8,qu 38 (.aE .lss 36 37),qm 39 38,qg 40 (.aD 2) 39 true,qg 41 (.aD 0) 39 true,qg 42 (.aD 9) 39 true,qg 43 (.b7 2 41 42) 39 true,qg 44 (.load true 2 43) 39 true,qg 45 (.aD 1) 39 true,qg 46 (.call 40 [44,45]) 39 true,qg 47 (.aE .eql 46 (qi 0)) 39 true,qu 48 (.pick 39 47 (qb false)),qm 6 35,qm 7 48]) .ret)))))⟩
def c128:LF:= ⟨9,[.tmp 4],(.seq (.ai [qu 2 (.box 0),qu 4 (.aD (qi 0))]) (.seq (.ai [qf 5 0 2,ql 6 5,qm 7 1,qu 8 (qc 129 [6,7]),qm 4 8]) .ret))⟩
def c129:LF:= ⟨20,[.tmp 4],(.seq (.ai [qu 4 (.aD (qi 0))]) (.seq (.ai [qm 7 0,qu 8 (qc 143 [7]),qm 5 8]) (.seq (.ai [qm 9 1,qu 10 (qc 143 [9]),qm 6 10]) (.seq (.seq (.ai [qm 11 5]) (.cond 11 (.seq (.seq (.ai [qm 12 6]) (.cond 12 (.seq (.ai [qu 4 (.aD (qi 0))]) .ret) .skip)) (.seq (.ai [qu 4 (.aD (qi (-1)))]) .ret)) .skip)) (.seq (.seq (.ai [qm 13 6]) (.cond 13 (.seq (.ai [qu 4 (.aD (qi 1))]) .ret) .skip)) (.seq (.seq (.ai [qm 14 0,qm 15 1,qu 16 (.aE .lss 14 15)]) (.cond 16 (.seq (.ai [qu 4 (.aD (qi (-1)))]) .ret) .skip)) (.seq (.seq (.ai [qm 17 0,qm 18 1,qu 19 (.aE .gtr 17 18)]) (.cond 19 (.seq (.ai [qu 4 (.aD (qi 1))]) .ret) .skip)) (.seq (.ai [qu 4 (.aD (qi 0))]) .ret))))))))⟩
def c143:LF:= ⟨6,[.tmp 2],(.seq (.ai [qu 2 (.aD (qb false))]) (.seq (.ai [qm 3 0,qm 4 0,qu 5 (.aE .neq 3 4),qm 2 5]) .ret))⟩
theorem l143:bq Tryz.prog Tryz.f143=some c143:=by kernel_rfl
theorem l129:bq Tryz.prog Tryz.f129=some c129:=by kernel_rfl
theorem l128:bq Tryz.prog Tryz.f128=some c128:=by kernel_rfl
theorem l127:bq Tryz.prog Tryz.f127=some c127:=by kernel_rfl
def O4(a b:ByteArray):Bool:=Op.bytesLess a.toList b.toList
def RM(a b:ByteArray):Bool:= !(Op.bytesLess a.toList b.toList||a.toList==b.toList)
def jP(a b:ByteArray):Int:=if O4 a b=true then -1 else if RM a b=true then 1 else 0
theorem KB(a:ByteArray):body Tryz.prog c143 [dk a] [] (fun r m=>r=aA false):=by show aA (!(a.toList==a.toList))=aA false;simp
theorem KC(a:ByteArray){m:Mem}{K:CV->Mem->Prop}(h:K (aA false) m):ar Tryz.prog 143 [dk a] m K:=
 bo Tryz.func143 l143 rfl (T3 rfl) (KB a) rfl rfl h
theorem KD(a b:ByteArray):body Tryz.prog c129 [dk a,dk b] [] (fun r m=>r=an .i64 (jP a b)):=by
 refine KC a ?_;refine KC b ?_;refine ay (fun h1=>?_) (fun h1=>?_)
 .show an _ _=an _ _;rw[jP,if_pos (show O4 a b=true from h1)]
 refine ay (fun h2=>?_) (fun h2=>?_)
 .show an _ _=an _ _;rw[jP,if_neg (by rw[show O4 a b=false from h1];simp),if_pos (show RM a b=true from h2)]
 .show an _ _=an _ _;rw[jP,if_neg (by rw[show O4 a b=false from h1];simp),if_neg (by rw[show RM a b=false from h2];simp)]
theorem KE(a b:ByteArray){m:Mem}{K:CV->Mem->Prop}(h:K (an .i64 (jP a b)) m):ar Tryz.prog 129 [dk a,dk b] m K:=
 bo Tryz.func129 l129 rfl (T3 rfl) (KD a b) rfl rfl h
def cM(e:ByteArray×Int):List Dt:=[.val (.string e.1),.val (.int .i64 e.2)]
def uW(e:ByteArray×Int):CV:= .rv (.agg ((cM e).map .aa))
theorem DJ(e:ByteArray×Int)(s:ByteArray):body Tryz.prog c128 [uW e,dk s] [] (fun r m=>r=an .i64 (jP e.1 s)):=
 KE e.1 s rfl
theorem O5(e:ByteArray×Int)(s:ByteArray){m:Mem}{K:CV->Mem->Prop}(h:K (an .i64 (jP e.1 s)) m):ar Tryz.prog 128 [uW e,dk s] m K:=
 bo Tryz.func128 l128 rfl (T3 rfl) (DJ e s) rfl rfl h
def Hv(es:List (ByteArray×Int))(s:ByteArray):Nat->Nat->Nat->Nat
 |0,i,_=>i
 |n+1,i,j=>if i<j then(match es[(i+j)/2]? with
   |some e=>if jP e.1 s<0 then Hv es s n ((i+j)/2+1) j else Hv es s n i ((i+j)/2)
   |none=>i)else i
def oZ(es:List (ByteArray×Int))(s:ByteArray):Nat:=Hv es s es.length 0 es.length
def yP(es:List (ByteArray×Int))(s:ByteArray):Bool:=match es[oZ es s]? with|some e=>jP e.1 s==0|none=>false
structure Xx where
 i:Nat
 j:Nat
theorem nA{es:List (ByteArray×Int)}{k:Nat}(h:k<es.length):dg (es.map cM) (k:Nat)=some [.val (.string es[k].1),.val (.int .i64 es[k].2)]:=by rw[bF,O6,tq h];rfl
theorem DK{i j:Nat}(h:i+j<=4294967296):IntKind.i64.wrap ((IntKind.u64.wrap (IntKind.i64.wrap ((i:Int)+(j:Int)))).fdiv (2^(min (1:Int).toNat IntKind.u64.bits)))=(((i+j)/2:Nat):Int):=by
 rw[show(i:Int)+(j:Int)=((i+j:Nat):Int) by omega,gO om]
 have hu:IntKind.u64.wrap ((i+j:Nat):Int)=((i+j:Nat):Int):=by simp only[IntKind.wrap,IntKind.bits,IntKind.signed];simp;omega
 rw[hu,show(2:Int)^(min (1:Int).toNat IntKind.u64.bits)=((2:Nat):Int)from rfl];rw[show(((i+j:Nat):Int)).fdiv ((2:Nat):Int)=(((i+j)/2:Nat):Int) by rw[Int.fdiv_eq_ediv_of_nonneg _ om];exact(Int.natCast_ediv _ _).symm]
 rw[gO om]
theorem Nj(es:List (ByteArray×Int))(hl:es.length<=2147483648)(s:ByteArray)(F:Nat)(hF:∀(e:ByteArray×Int)(m:Mem)(K:CV->Mem->Prop),K (an .i64 (jP e.1 s)) m->ar Tryz.prog F [uW e,dk s] m K):
  body Tryz.prog c127 [pV 2 (es.map cM),dk s,.rv (.one (.fn F []))] [] (fun r m=>r= .bG [.one (.aa (.val (.int .i64 (oZ es s:Nat)))),.one (.aa (.val (.bool (yP es s))))]):=by
 refine aX (fun a:Xx=>a.i<=a.j/\a.j<=es.length/\∃n,a.j-a.i<=n/\Hv es s n a.i a.j=oZ es s) [0,1,2] (fun a=>[(8,an .i64 (es.length:Nat)),(9,an .i64 (a.i:Nat)),(10,an .i64 (a.j:Nat))]) (fun _=>[]) (fun a=>a.j-a.i) ⟨0,es.length⟩ ⟨XL _,QN _,es.length,aK,rfl⟩ ?_ (fun a ha=>?_)
 .refine View.o 0 [] [] ?_ (.nil _);have hlen:an .i64 (((es.map cM).length:Nat):Int)=an .i64 ((es.length:Nat):Int):=by rw[LW]
  repeat(first|exact .nil|refine .aq ?_|refine .eq rfl ?_|refine .eq hlen.symm ?_)
 obtain⟨i,j⟩:=a;obtain⟨h1,h2,n,h3,h4⟩:=ha;have h1:i<=j:=h1;have h2:j<=es.length:=h2;have h3:j-i<=n:=h3;have h4:Hv es s n i j=oZ es s:=h4;refine aJ (fun h=>?_) (fun h=>?_)
 .have aF:i<j:=by have h:(i:Int)<(j:Int):=h;omega
  obtain⟨n,rfl⟩:∃n',n=n'+1:=⟨n-1,om⟩;have hh:(i+j)/2<es.length:=om;rw[Hv,if_pos aF,tq hh]at h4;have ef:dg (es.map cM) (IntKind.i64.wrap ((IntKind.u64.wrap (IntKind.i64.wrap ((i:Int)+(j:Int)))).fdiv (2^(min (1:Int).toNat IntKind.u64.bits))))=some [.val (.string es[(i+j)/2].1),.val (.int .i64 es[(i+j)/2].2)]:=by rw[DK om];exact nA hh
  refine ag ef ?_;refine hF es[(i+j)/2] _ _ ?_;refine aJ (fun h5=>?_) (fun h5=>?_)
  .have h5:jP es[(i+j)/2].1 s<0:=h5;simp only[]at h4;rw[if_pos h5]at h4;refine⟨⟨(i+j)/2+1,j⟩,⟨by show(i+j)/2+1<=j;omega,h2,n,by show j-((i+j)/2+1)<=n;omega,h4⟩,(show j-((i+j)/2+1)<j-i by omega),View.o 0 [] [] ?_ (.nil _)⟩
   have e1:an .i64 (IntKind.i64.wrap (IntKind.i64.wrap ((IntKind.u64.wrap (IntKind.i64.wrap ((i:Int)+(j:Int)))).fdiv (2^(min (1:Int).toNat IntKind.u64.bits)))+1))=an .i64 (((i+j)/2+1:Nat):Int):=by
    rw[DK om,show(((i+j)/2:Nat):Int)+1=(((i+j)/2+1:Nat):Int) by omega,gO om]
   repeat(first|exact .nil|refine .aq ?_|refine .eq rfl ?_|refine .eq e1.symm ?_)
  .have h5:¬jP es[(i+j)/2].1 s<0:=h5;simp only[]at h4;rw[if_neg h5]at h4;refine⟨⟨i,(i+j)/2⟩,⟨by show i<=(i+j)/2;omega,by show(i+j)/2<=es.length;omega,n,by show(i+j)/2-i<=n;omega,h4⟩,(show(i+j)/2-i<j-i by omega),View.o 0 [] [] ?_ (.nil _)⟩
   have e1:an .i64 (IntKind.i64.wrap ((IntKind.u64.wrap (IntKind.i64.wrap ((i:Int)+(j:Int)))).fdiv (2^(min (1:Int).toNat IntKind.u64.bits))))=an .i64 (((i+j)/2:Nat):Int):=by rw[DK om]
   repeat(first|exact .nil|refine .aq ?_|refine .eq rfl ?_|refine .eq e1.symm ?_)
 .have pG:i=j:=by have h:¬(i:Int)<(j:Int):=h;omega
  subst pG;have hI:oZ es s=i:=by
   rw[<-h4];cases n with
   |zero=>rfl
   |succ n=>rw[Hv,if_neg (Nat.lt_irrefl _)]
  rw[yP,hI];refine aJ (fun h6=>?_) (fun h6=>?_)
  .have aF:i<es.length:=by have h6:(i:Int)<(es.length:Int):=h6;omega
   refine ag (nA aF) ?_;refine hF es[i] _ _ ?_;show CV.bG _=CV.bG _;rw[tq aF]
  .have ef:¬i<es.length:=by have h6:¬(i:Int)<(es.length:Int):=h6;omega
   show CV.bG _=CV.bG _;rw[aaj om]
def VJ(es:List (ByteArray×Int))(s:ByteArray):CV:= .bG [.one (.aa (.val (.int .i64 (oZ es s:Nat)))),.one (.aa (.val (.bool (yP es s))))]
theorem KF(es:List (ByteArray×Int))(hl:es.length<=2147483648)(s:ByteArray)(F:Nat)(hF:∀(e:ByteArray×Int)(m:Mem)(K:CV->Mem->Prop),K (an .i64 (jP e.1 s)) m->ar Tryz.prog F [uW e,dk s] m K){m:Mem}{K:CV->Mem->Prop}(h:K (VJ es s) m):ar Tryz.prog 127 [pV 2 (es.map cM),dk s,.rv (.one (.fn F []))] m K:=by
 refine aY (K0:=fun r _=>r=VJ es s) (aW Tryz.func127 l127 (Nj es hl s F hF)) (by simp[pV,dk,CV.c7,CC.c7,RV.c7]) fun r m1 hr=>?_
 subst hr;exact⟨_,cw.self rfl,h⟩
theorem Qx(es:List (ByteArray×Int))(hl:es.length<=2147483648)(s:ByteArray)(F:Nat)(hF:∀(e:ByteArray×Int)(m:Mem)(K:CV->Mem->Prop),K (an .i64 (jP e.1 s)) m->ar Tryz.prog F [uW e,dk s] m K){m:Mem}{id:Nat}(hb:cR m id=some (.row 2 (af (es.map cM)))){K:CV->Mem->Prop}(h:K (VJ es s) m):ar Tryz.prog 127 [.rv (.one (.row id 2 0 none)),dk s,.rv (.one (.fn F []))] m K:=
 JQ [id] (args0:=[pV 2 (es.map cM),dk s,.rv (.one (.fn F []))]) (KF es hl s F hF (K:=fun r _=>r=VJ es s) rfl) (.put (pS.eu id (es.map cM) (by simp[bs]) hb) (.eq rfl (.eq rfl .nil))) fun r m1 hr=>by subst hr;exact⟨rfl,h⟩
def Tryz.Bb:Go.Shelf.Ren:=⟨fun|143=>142|219=>147|217=>149|225=>150|224=>151|267=>152|266=>154|314=>155|n=>n,fun|9=>9|3=>3|4=>4|5=>5|46=>99|146=>248|51=>168|n=>n,fun|1=>0|n=>n⟩
theorem Tryz.Nk:Go.Proofs.Lays.n143 Tryz.prog Tryz.Bb:={
 mixed:=by kernel_rfl,
 f143:=Tryz.func142.trans (congrArg some (by kernel_rfl)),
 f217:=Tryz.func149.trans (congrArg some (by kernel_rfl)),
 f219:=Tryz.func147.trans (congrArg some (by kernel_rfl)),
 f224:=Tryz.func151.trans (congrArg some (by kernel_rfl)),
 f225:=Tryz.func150.trans (congrArg some (by kernel_rfl)),
 f266:=Tryz.func154.trans (congrArg some (by kernel_rfl)),
 f267:=Tryz.func152.trans (congrArg some (by kernel_rfl)),
 f314:=Tryz.func155.trans (congrArg some (by kernel_rfl)),
 t3:=Tryz.underlying3,
 a3:=Tryz.isAgg3,
 z3:=Tryz.sizeOf3,
 v3:=Tryz.zeroValue3,
 t4:=Tryz.underlying4,
 a4:=Tryz.isAgg4,
 z4:=Tryz.sizeOf4,
 v4:=Tryz.zeroValue4,
 t5:=Tryz.underlying5,
 a5:=Tryz.isAgg5,
 z5:=Tryz.sizeOf5,
 v5:=Tryz.zeroValue5,
 t9:=Tryz.underlying9,
 a9:=Tryz.isAgg9,
 z9:=Tryz.sizeOf9,
 v9:=Tryz.zeroValue9,
 t46:=Tryz.underlying99,
 a46:=Tryz.isAgg99,
 z46:=Tryz.sizeOf99,
 v46:=Tryz.zeroValue99,
 t51:=Tryz.underlying168,
 a51:=Tryz.isAgg168,
 z51:=Tryz.sizeOf168,
 v51:=Tryz.zeroValue168,
 t146:=Tryz.underlying248,
 a146:=Tryz.isAgg248,
 z146:=Tryz.sizeOf248,
 v146:=Tryz.zeroValue248,
 g1:=by kernel_rfl}
def Tryz.s7:Go.Shelf.Ren:=⟨fun|156=>57|165=>95|166=>96|169=>97|240=>122|241=>123|276=>138|277=>139|n=>n,fun|31=>122|9=>9|3=>3|4=>4|0=>0|20=>20|72=>179|76=>183|70=>177|37=>23|75=>182|127=>222|164=>233|5=>5|80=>185|n=>n,fun|n=>n⟩
theorem Tryz.FY:Go.Proofs.Lays.n156 Tryz.prog Tryz.s7:={
 mixed:=by kernel_rfl,
 f156:=Tryz.func57.trans (congrArg some (by kernel_rfl)),
 f165:=Tryz.func95.trans (congrArg some (by kernel_rfl)),
 f166:=Tryz.func96.trans (congrArg some (by kernel_rfl)),
 f169:=Tryz.func97.trans (congrArg some (by kernel_rfl)),
 f240:=Tryz.func122.trans (congrArg some (by kernel_rfl)),
 f241:=Tryz.func123.trans (congrArg some (by kernel_rfl)),
 f276:=Tryz.func138.trans (congrArg some (by kernel_rfl)),
 f277:=Tryz.func139.trans (congrArg some (by kernel_rfl)),
 t0:=Tryz.underlying0,
 a0:=Tryz.isAgg0,
 z0:=Tryz.sizeOf0,
 v0:=Tryz.zeroValue0,
 t3:=Tryz.underlying3,
 a3:=Tryz.isAgg3,
 z3:=Tryz.sizeOf3,
 v3:=Tryz.zeroValue3,
 t4:=Tryz.underlying4,
 a4:=Tryz.isAgg4,
 z4:=Tryz.sizeOf4,
 v4:=Tryz.zeroValue4,
 t9:=Tryz.underlying9,
 a9:=Tryz.isAgg9,
 z9:=Tryz.sizeOf9,
 v9:=Tryz.zeroValue9,
 t20:=Tryz.underlying20,
 a20:=Tryz.isAgg20,
 z20:=Tryz.sizeOf20,
 v20:=Tryz.zeroValue20,
 t31:=Tryz.underlying122,
 a31:=Tryz.isAgg122,
 z31:=Tryz.sizeOf122,
 v31:=Tryz.zeroValue122,
 t37:=Tryz.underlying23,
 a37:=Tryz.isAgg23,
 z37:=Tryz.sizeOf23,
 v37:=Tryz.zeroValue23,
 t70:=Tryz.underlying177,
 a70:=Tryz.isAgg177,
 z70:=Tryz.sizeOf177,
 v70:=Tryz.zeroValue177,
 t72:=Tryz.underlying179,
 a72:=Tryz.isAgg179,
 z72:=Tryz.sizeOf179,
 v72:=Tryz.zeroValue179,
 t75:=Tryz.underlying182,
 a75:=Tryz.isAgg182,
 z75:=Tryz.sizeOf182,
 v75:=Tryz.zeroValue182,
 t76:=Tryz.underlying183,
 a76:=Tryz.isAgg183,
 z76:=Tryz.sizeOf183,
 v76:=Tryz.zeroValue183,
 t127:=Tryz.underlying222,
 a127:=Tryz.isAgg222,
 z127:=Tryz.sizeOf222,
 v127:=Tryz.zeroValue222,
 t164:=Tryz.underlying233,
 a164:=Tryz.isAgg233,
 z164:=Tryz.sizeOf233,
 v164:=Tryz.zeroValue233}
theorem Tryz.FZ:Builder.Extra Tryz.prog Tryz.s7:={
 sizeBuilder:=by kernel_rfl,
 liesBuilder:=by kernel_rfl,
 t5:=Tryz.underlying5,
 a5:=Tryz.isAgg5,
 z5:=Tryz.sizeOf5,
 v5:=Tryz.zeroValue5,
 infoByte:=by kernel_rfl,
 cellsByte:=by kernel_rfl,
 sizeByte:=by kernel_rfl,
 neB5:=by decide}
namespace bD
theorem Hw(s:ByteArray)(c:UInt8)(w:World):Calls Tryz.prog 142 #[.string s,.string ⟨#[c]⟩] w fun e w'=>e= .returned (.int .i64 (Lib.indexByte s.data.toList c))/\w'=w:=
 Any.strings_Index_one Tryz.Nk s c w
end bD
theorem Hx(a:Option Addr)(c:Nat)(sep:ByteArray)(w:World):Calls Tryz.prog 57 #[.slice a 0 c,.string sep] w fun e w'=>e= .returned (.string ⟨#[]⟩)/\w'=w:=
 Any.strings_Join_none Tryz.FY Tryz.FZ a c sep w
theorem Nl(bk o c:Nat)(xs:List ByteArray)(sep:ByteArray)(w:World)(dO:∀(j:Nat)x,xs[j]? =some x->w.cell? ⟨bk,o+j,none⟩=some (.string x))(eT:bk<w.heap.size)(hN:xs.length<=140737488355328)(bl:xs.length<=c)(hlen:(Lib.join (xs.map (·.data.toList)) sep.data.toList).length<=140737488355328):
  Calls Tryz.prog 57 #[.slice (some ⟨bk,o,none⟩) xs.length c,.string sep] w fun e w'=>e= .returned (.string ⟨(Lib.join (xs.map (·.data.toList)) sep.data.toList).toArray⟩)/\Below w.heap.size w w':=
 Any.strings_Join Tryz.FY Tryz.FZ bk o c xs sep w dO eT hN bl hlen
namespace bD
attribute [local go_sem] Oper.semAt_some
def fS(c:UInt8):List UInt8->List (List UInt8)
 | []=>[[]]
 |x::r=>if x==c then []::fS c r else match fS c r with
  | []=>[[x]]
  |p::ps=>(x::p)::ps
theorem rG{c:UInt8}:∀{l:List UInt8},Lib.indexByte l c= -1->fS c l=[l]
 | [],_=>rfl
 |x::r,h=>by
  simp only[Lib.indexByte]at h;split at h
  .cases h
  .rename_i hx;split at h
   .rename_i h2;have OL:Lib.indexByte r c= -1:=by simpa using h2
    simp only[fS,hx,rG OL,aaR,if_false]
   .have:=Lib.indexByte_ge r c;omega
theorem xD{c:UInt8}:∀{l:List UInt8}{i:Nat},Lib.indexByte l c=i->i<l.length/\fS c l=l.take i::fS c (l.drop (i+1))
 | [],i,h=>by simp[Lib.indexByte]at h
 |x::r,i,h=>by
  simp only[Lib.indexByte]at h;split at h
  .rename_i hx;have:i=0:=om;subst this;simp[fS,hx]
  .rename_i hx;split at h
   .omega
   .cases i with
    |zero=>
     have:=Lib.indexByte_ge r c;rename_i h2;have:Lib.indexByte r c= -1:=om;simp[this]at h2
    |succ i=>
     have h3:Lib.indexByte r c=i:=om;obtain⟨h4,h5⟩:=xD h3;refine⟨by simpa using h4,?_⟩
     simp only[fS,hx,h5,aaR,if_false];simp
def cu(l:List UInt8):ByteArray:=⟨l.toArray⟩
def gl(c:UInt8)(s:ByteArray):List ByteArray:=(fS c s.data.toList).map cu
end bD
end Go.Proofs.YthagjdhjmamakaaGreatDoor
