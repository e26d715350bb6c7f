/- Part 24 of 39: what the law stands on. -/
import Derived.Test.YtodckkkbiidffaaGreatDoorT15
import Derived.Test.YtodckkkbiidffaaGreatDoorT16
import Derived.Test.YtodckkkbiidffaaGreatDoorT18
import Derived.Test.YtodckkkbiidffaaGreatDoorT23
import Derived.Test.YtodckkkbiidffaaGreatDoorRows
import Derived.Shelf.Strings.Search3
import Derived.Shelf.Strings.OnBuilder
set_option linter.unusedVariables false
set_option linter.unusedSimpArgs false
set_option linter.unnecessarySimpa false
set_option maxRecDepth 100000
set_option maxHeartbeats 64000000
namespace Go.Proofs.YtodckkkbiidffaaGreatDoor
open Go.AM Go.ChangeShapes Go.WideShapes Go.ChangeAt Go.RowKit
def c72:LF:= ⟨74,[.cell true 3 8,.tmp 9,.tmp 10],(.seq (.ai [qu 4 (.box 0),qu 8 (.alloc [.aB,.aB,.aB]),qu 9 (.aF (qi 0)),qu 10 (.aF (qi 0))]) (.seq (.ai [qf 16 1 4,ql 17 16,qu 18 (qc 113 [17,(.c (.rv (.one (.fn 114 []))))]),qm 11 18]) (.seq (.seq (.ai [qm 19 11,qu 20 (.aH .lss 19 (qi 0))]) (.cond 20 (.seq (.seq (.ai [qf 21 1 4,ql 22 21,qu 23 (.len 1 22),qu 24 (.aH .geq 23 (qi 60))]) (.cond 24 (.seq (.ai [qu 25 (.build [.aB,.aB,.aB] []),qw (.store 3 8 25),qu 9 (.aF (qi 0)),qu 10 (.aF (qi 15))]) .ret) .skip)) (.ai [qf 26 1 4,ql 27 26,qu 28 (.len 1 27),qm 11 28])) .skip)) (.cI (.seq (.ai [qf 30 2 4,ql 31 30,qm 32 1,qu 33 (.cr 4 31 32),qf 34 3 33,ql 35 34,qm 36 11,qm 37 3,qu 38 (.build [(qd 0),(qd 0)] [(0,1,36),(1,1,37)]),qu 39 (qc 76 [35,38]),qm 29 39,qu 40 (.ext 29 0),qu 41 (.ext 29 1),qu 42 (.ext 29 2),qm 12 40,qm 13 41,qm 14 42]) (.seq (.seq (.ai [qm 43 14,qu 44 (.aH .neq 43 (qi 0))]) (.cond 44 (.seq (.ai [qu 45 (.build [.aB,.aB,.aB] []),qm 46 14,qw (.store 3 8 45),qu 9 (.aF (qi 0)),qm 10 46]) .ret) .skip)) (.seq (.ai [qL 47 3 4,qu 48 (qc 59 [47]),qu 15 (.alloc [.aB,.aB,.aB]),qw (.store 3 15 48)]) (.seq (.seq (.ai [qm 49 11,qf 50 1 15,ql 51 50,qu 52 (.len 1 51),qu 53 (.aH .eql 49 52)]) (.cond 53 (.ai [qf 54 1 15,ql 55 54,qu 56 (.build [(qd 0),(qd 0)] []),qu 57 (.l5 2 [(qd 0),(qd 0)] 1 [(0,56)]),qu 58 (.mE 2 16 55 57),qf 59 1 15,qw (.store 1 59 58)]) .skip)) (.cI (.seq (.ai [qf 60 1 15,ql 61 60,qm 62 11,qm 63 2,qu 64 (.build [(qd 0),(qd 0)] [(0,1,63)]),qu 65 (.cr 2 61 62),qw (.store 2 65 64)]) (.seq (.ai [qf 66 2 15,ql 67 66,qm 68 1,qm 69 12,qu 70 (.cr 4 67 68),qf 71 3 70,qw (.store 1 71 69)]) (.seq (.ai [qL 72 3 15,qm 73 13,qw (.store 3 8 72),qm 9 73,qu 10 (.aF (qi 0))]) .ret))))))))))))⟩
theorem l72:bs Tryz.prog Tryz.f72=some c72.er:=by kernel_rfl
def oz(s:fq):Tb.bW:=⟨s.has,⟨s.eE,s.cn⟩⟩
def LY(s:Tb.bW):fq:=⟨s.has,s.cap.eE,s.cap.cn⟩
theorem LZ(l:List fq):(l.map oz).map Tb.bW.enc=l.map fq.enc:=by rw[aaS];rfl
theorem L4(l:List Tb.bW):(l.map LY).map fq.enc=l.map Tb.bW.enc:=by rw[aaS];rfl
theorem wy(l:List fq):Tb.oy (l.map oz)=vp l:=by rw[Tb.oy,LZ];rfl
theorem nz(l:List Tb.bW):Tb.il l=IL (l.map LY):=by show RV.one (.aa (.sl 3 (l.map Tb.bW.enc)))= .one (.aa (.sl 3 ((l.map LY).map fq.enc)));rw[L4]
def fU(l:List fq)(eE cn:Int):List fq×Int×Int:=((Tb.gP (l.map oz) ⟨eE,cn⟩).1.map LY,(Tb.gP (l.map oz) ⟨eE,cn⟩).2.1,(Tb.gP (l.map oz) ⟨eE,cn⟩).2.2)
theorem xW(l:List fq)(hb:l.length<=2097152)(eE cn:Int){m:Mem}{K:CV->Mem->Prop}(h:K (.bF [IL (fU l eE cn).1,cC (fU l eE cn).2.1,cC (fU l eE cn).2.2]) m):
  aq Tryz.prog 76 [lL l,.rv (.agg [.aa (.val (.int .i64 eE)),.aa (.val (.int .i64 cn))])] m K:=by
 have:=Tb.Ja (l.map oz) (by simpa using hb) ⟨eE,cn⟩ (m:=m) (K:=K) (by rw[nz];exact h)
 have e:Tb.dZ (l.map oz)=lL l:=by show CV.rv (.one (.aa (Tb.oy (l.map oz))))=_;rw[wy];rfl
 rw[e]at this;exact this
def dH(ops:List bD):Nat:=(EC ops).getD ops.length
def aW(ps:List bj)(n:Nat):List fq:=match ps[n]? with|some x=>x.bd|none=>[]
def iR(ops:List bD)(i:Nat)(o:bD):List bD:=if i=ops.length then ops++ [o]else ops.set i o
def eV(ps:List bj)(n:Nat)(l:List fq):List bj:=match ps[n]? with|some x=>ps.set n {x with bd:=l}|none=>ps
def aK(k:Kr)(n:Nat)(br cn:Int):Kr×Int×Int:=
 if EC k.ops=none/\k.ops.length>=60 then(lS,0,15)
 else if(fU (aW k.ps n) (dH k.ops) cn).2.2≠0 then(lS,0,(fU (aW k.ps n) (dH k.ops) cn).2.2)
 else(⟨k.l,iR k.ops (dH k.ops) ⟨br,0⟩,eV k.ps n (fU (aW k.ps n) (dH k.ops) cn).1⟩,(fU (aW k.ps n) (dH k.ops) cn).2.1,0)
theorem Cw{ops:List bD}{i:Nat}(h:EC ops=some i):i<ops.length:=(aam.1 h).1
def ZX:LC:=bH (bH (bH c72.code))
def V0:LC:=ov ZX
def ZY:LC:=bH (bH (bH (bH V0)))
def X6:LC:=ov ZY
def X7(l:List Obj)(O:List bD)(ps:List bj):Mem:=[.var [.aB,.aB,.aB],.row 9 (af (l.map Obj.enc)),.row 2 (af (O.map bD.enc)),.row 4 (af (ps.map bj.enc)),.var [.row 1 9 0 none,.row 2 2 0 none,.row 3 4 0 none]]
theorem So{m:Mem}{a b c:Nat}{l:List Obj}{ops:List bD}{ps:List bj}(h1:m[a]? =some (.row 9 (af (l.map Obj.enc))))(h2:m[b]? =some (.row 2 (af (ops.map bD.enc))))(h3:m[c]? =some (.row 4 (af (ps.map bj.enc)))):
  d8 m (.agg [.row a 9 0 none,.row b 2 0 none,.row c 4 0 none]) (gW ⟨l,ops,ps⟩):=by
 refine .agg rfl fun i c c' e1 e2=>?_
 match i,e1,e2 with
 |0,e1,e2=>cases e1;cases e2;exact dU.dX h1 0 none
 |1,e1,e2=>cases e1;cases e2;exact dU.dX h2 0 none
 |2,e1,e2=>cases e1;cases e2;exact dU.dX h3 0 none
 |n+3,e1,e2=>simp at e1
theorem NJ(l:List Obj)(O:List bD)(ps:List bj)(n i:Nat)(hn:n<ps.length)(hi:i<O.length)(br fd:Int)(y:List fq):
  aw Tryz.prog 0 X6 (mJ Tryz.prog c72.jW (fun r m=>cw m r (.bF [gW ⟨l,O.set i ⟨br,0⟩,eV ps n y⟩,cC fd,cC 0])))
   ⟨kR 74 [(1,an .i64 (n:Nat)),(2,an .i64 br),(8,.rv (.one (.ptr 0 0))),(11,an .i64 (i:Nat)),(12,lL y),(13,an .i64 fd),(15,.rv (.one (.ptr 4 0)))],X7 l O ps⟩:=by
 refine ag (xO hi) ?_;have ho:=bC bD.enc O hi;generalize O[i]=x at ho;obtain⟨xo,xa⟩:=x;refine ag ho ?_;refine ag (kM hn) ?_;have hp:=bC bj.enc ps hn;have oP:eV ps n y=ps.set n {ps[n]with bd:=y}:=by rw[eV,sA hn]
 rw[oP];generalize ps[n]=z at hp;obtain⟨a7,fenced,cd,bd⟩:=z;refine ag hp ?_;refine kK (So ?_ ?_ ?_) (d8.self rfl)
 .rfl
 .refine congrArg (fun x=>some (Bk.row 2 x)) ?_
  show aZ (af (O.map bD.enc)) i ((bD.enc ⟨br,0⟩).map .aa)=_;rw[bg,af,af,aay,aay]
 .refine congrArg (fun x=>some (Bk.row 4 x)) ?_
  show aZ (af (ps.map bj.enc)) n ((bj.enc ⟨a7,fenced,cd,y⟩).map .aa)=_;rw[bg,af,af,aay,aay]
theorem NK(k:Kr)(hk:dz k.l k.ops k.ps)(n:Nat)(hn:n<k.ps.length)(br cn:Int)(i:Nat)(hi:i=dH k.ops)(Nb:i<=k.ops.length)(iH:¬(EC k.ops=none/\k.ops.length>=60)):
  aw Tryz.prog 0 V0 (mJ Tryz.prog c72.jW (fun r m=>cw m r (.bF [gW (aK k n br cn).1,cC (aK k n br cn).2.1,cC (aK k n br cn).2.2])))
   ⟨kR 74 [(1,an .i64 (n:Nat)),(2,an .i64 br),(3,an .i64 cn),(4,.rv (.one (.ptr 0 0))),(8,.rv (.one (.ptr 1 0))),(11,an .i64 (i:Nat))],[.var ((kC k.l k.ops k.ps).map .aa),.var [.aB,.aB,.aB]]⟩:=by
 have EE:aW k.ps n=k.ps[n].bd:=by rw[aW,sA hn]
 have D6:=hk.sl _ (Wl hn);have O9:k.ops.length<=4194304:=hk.lo;rw[aK,if_neg iH,EE,<-hi];refine ag (dM hn) ?_;generalize k.ps[n].bd=S at D6;refine xW S om (i:Nat) cn ?_;generalize fU S (i:Nat) cn=A;obtain⟨y,fd,e⟩:=A;refine bt (fun he=>?_) (fun he=>?_)
 .rw[if_pos he];exact kK fT (d8.self rfl)
 have he:e=0:=he;subst he;rw[if_neg aI];refine gD k.l k.ops k.ps ⟨hk.ll,fun o ho=>(hk.sm o ho).mz⟩ hk.lo hk.lp hk.sl hk.ne ?_
 refine bA (fun kT=>?_) (fun kT=>?_)
 .have kT:i=k.ops.length:=by have kT:(i:Int)=((af (k.ops.map bD.enc)).length:Int):=kT;rw[bb,KB]at kT;omega
  have iZ:iR k.ops i ⟨br,0⟩=(k.ops++ [bD.mk 0 0]).set i ⟨br,0⟩:=by rw[iR,if_pos kT,kT];simp
  rw[iZ];refine⟨by simp only[cu,bb,KB,Wo,aaq];omega,?_⟩
  refine⟨_,View.o1 8 [1,2,7,4,5] [] ?_,NJ k.l (k.ops++ [bD.mk 0 0]) k.ps n i hn (by simp;omega) br fd y⟩
  .exact .pe rfl rfl rfl (.pr rfl rfl rfl (.pt rfl rfl (.bP (by simp[cu,af,bD.enc])) (.pr rfl rfl rfl (.pm rfl rfl rfl))))
 .have aE:i<k.ops.length:=by have kT:¬(i:Int)=((af (k.ops.map bD.enc)).length:Int):=kT;rw[bb,KB]at kT;omega
  have iZ:iR k.ops i ⟨br,0⟩=k.ops.set i ⟨br,0⟩:=by rw[iR,if_neg om]
  rw[iZ];refine⟨_,View.o1 6 [1,2,3,4,5] [] ?_,NJ k.l k.ops k.ps n i hn aE br fd y⟩
  .exact .pe rfl rfl rfl (.pr rfl rfl rfl (.pr rfl rfl rfl (.pr rfl rfl rfl (.pm rfl rfl rfl))))
theorem Aa(k:Kr)(hk:dz k.l k.ops k.ps)(n:Nat)(hn:n<k.ps.length)(br cn:Int):body Tryz.prog c72 [dR k.l k.ops k.ps,an .i64 (n:Nat),an .i64 br,an .i64 cn] []
  (fun r m=>cw m r (.bF [gW (aK k n br cn).1,cC (aK k n br cn).2.1,cC (aK k n br cn).2.2])):=by
 refine ED k.ops hk.lo ?_;have O9:k.ops.length<=4194304:=hk.lo;cases ho:EC k.ops with
 |none=>
  have Pa:Hs k.ops= -1:=by rw[Hs,ho]
  have Pb:dH k.ops=k.ops.length:=by rw[dH,ho];rfl
  rw[Pa];refine aJ (fun uc=>?_) (fun uc=>?_)
  .have uc:k.ops.length>=60:=by have uc:((k.ops.map bD.enc).length:Int)>=60:=uc;rw[KB]at uc;omega
   rw[aK,if_pos ⟨ho,uc⟩];exact kK fT (d8.self rfl)
  .have uc:¬k.ops.length>=60:=by have uc:¬((k.ops.map bD.enc).length:Int)>=60:=uc;rw[KB]at uc;omega
   refine⟨_,View.o 2 [0,1] [] ?_ ?_,NK k hk n hn br cn k.ops.length Pb.symm (Pq _) (fun h=>uc h.2)⟩
   .have hlen:an .i64 (((k.ops.map bD.enc).length:Nat):Int)=an .i64 ((k.ops.length:Nat):Int):=by rw[KB]
    repeat(first|exact .nil|refine .ar ?_|refine .eq rfl ?_)
    refine .eq hlen.symm ?_;repeat(first|exact .nil|refine .ar ?_|refine .eq rfl ?_)
   .exact .pt rfl rfl (.eq rfl (by simp[kC])) (.pm rfl rfl rfl)
 |some i=>
  have Pa:Hs k.ops=(i:Nat):=by rw[Hs,ho]
  have Pb:dH k.ops=i:=by rw[dH,ho];rfl
  have Nb:=Cw ho;rw[Pa];refine⟨_,View.o1 2 [0,1] [] ?_,NK k hk n hn br cn i Pb.symm om (fun h=>by rw[ho]at h;cases h.1)⟩
  .exact .pt rfl rfl (.eq rfl (by simp[kC])) (.pm rfl rfl rfl)
theorem qW(k:Kr)(hk:dz k.l k.ops k.ps)(n:Nat)(hn:n<k.ps.length)(br cn:Int){m:Mem}{K:CV->Mem->Prop}(h:K (.bF [gW (aK k n br cn).1,cC (aK k n br cn).2.1,cC (aK k n br cn).2.2]) m):aq Tryz.prog 72 [dR k.l k.ops k.ps,an .i64 (n:Nat),an .i64 br,an .i64 cn] m K:=
 aY (ce Tryz.func72 l72 (Aa k hk n hn br cn)) (by simp[dR,c7,eB,fE,an,CV.c6,CC.c6,RV.c6]) fun r m1 hf=>⟨_,hf,h⟩
def c77:LF:= ⟨84,[.cell true 3 4,.tmp 5,.tmp 6,.tmp 7],(.seq (.ai [qu 2 (.box 0),qu 4 (.alloc [.aB,.aB,.aB]),qu 5 (.aF (qi 0)),qu 6 (.aF (qi 0)),qu 7 (.aF (qi 0))]) (.seq (.seq (.ai [qL 14 3 2,qm 15 1,qu 16 (qc 29 [14,15]),qu 17 (.un .not 16)]) (.cond 17 (.seq (.ai [qu 18 (.build [.aB,.aB,.aB] []),qw (.store 3 4 18),qu 5 (.aF (qi 0)),qu 6 (.aF (qi 0)),qu 7 (.aF (qi 6))]) .ret) .skip)) (.seq (.ai [qu 19 (qc 118 [2]),qm 8 19]) (.seq (.seq (.ai [qm 20 8,qu 21 (.aH .lss 20 (qi 0))]) (.cond 21 (.seq (.ai [qu 22 (.build [.aB,.aB,.aB] []),qw (.store 3 4 22),qu 5 (.aF (qi 0)),qu 6 (.aF (qi 0)),qu 7 (.aF (qi 15))]) .ret) .skip)) (.seq (.ai [qL 23 3 2,qu 24 (qc 59 [23]),qu 9 (.alloc [.aB,.aB,.aB]),qw (.store 3 9 24)]) (.seq (.seq (.ai [qm 25 8,qf 26 2 9,ql 27 26,qu 28 (.len 1 27),qu 29 (.aH .eql 25 28)]) (.cond 29 (.ai [qf 30 2 9,ql 31 30,qu 32 (.build [(.aa (.val (.bool false))),(.aa (.val (.bool false))),(qd 0),.aB] []),qu 33 (.l5 4 [(.aa (.val (.bool false))),(.aa (.val (.bool false))),(qd 0),.aB] 1 [(0,32)]),qu 34 (.mE 4 40 31 33),qf 35 2 9,qw (.store 1 35 34)]) .skip)) (.cI (.seq (.bU [qf 36 2 9,ql 37 36,qm 38 8,qf 39 2 2,ql 40 39,qm 41 1,qu 42 (.cr 4 40 41),qf 43 1 42,ql 44 43,qf 45 2 2,ql 46 45,qm 47 1,qu 48 (.cr 4 46 47),qf 49 3 48,ql 50 49,qu 51 (qc 100 [50]),qu 52 (.build [(.aa (.val (.bool false))),(.aa (.val (.bool false))),(qd 0),.aB] [(0,1,(qb true)),(1,1,44),(3,1,51)]),qu 53 (.cr 4 37 38),qw (.store 4 53 52)] [(.cons 0 none (.cons 1 none (.cons 2 none (.cons 3 none (.cons 4 none (.cons 5 none (.cons 6 none (.cons 7 none (.cons 8 none (.cons 9 none (.cons 10 none (.cons 11 none (.cons 12 none (.cons 13 none (.cons 14 none (.cons 15 (some [8,6,4,1]) (.cons 16 none (.cons 17 none (.cons 18 (some []) .nil)))))))))))))))))))]) (.cI (.seq (.ai [qf 55 0 9,ql 56 55,qm 57 8,qu 58 (.build [(qd 0),.aB,.aB,(.aa (.val (.string ⟨#[]⟩))),(qd 0),.aB,(qd 0),(qd 0),(qd 0)] [(0,1,(qi 5)),(4,1,(qi (-1))),(6,1,57)]),qu 59 (qc 111 [56,58]),qm 54 59,qu 60 (.ext 54 0),qu 61 (.ext 54 1),qu 62 (.ext 54 2),qm 10 60,qm 11 61,qm 12 62]) (.seq (.seq (.ai [qm 63 12,qu 64 (.aH .neq 63 (qi 0))]) (.cond 64 (.seq (.ai [qu 65 (.build [.aB,.aB,.aB] []),qm 66 12,qw (.store 3 4 65),qu 5 (.aF (qi 0)),qu 6 (.aF (qi 0)),qm 7 66]) .ret) .skip)) (.seq (.ai [qm 67 10,qf 68 0 9,qw (.store 1 68 67)]) (.seq (.ai [qL 70 3 9,qm 71 1,qm 72 11,qu 73 (qc 72 [70,71,72,(qi 3200)]),qm 69 73,qu 74 (.ext 69 0),qu 75 (.ext 69 1),qu 76 (.ext 69 2),qw (.store 3 9 74),qm 13 75,qm 12 76]) (.seq (.seq (.ai [qm 77 12,qu 78 (.aH .neq 77 (qi 0))]) (.cond 78 (.seq (.ai [qu 79 (.build [.aB,.aB,.aB] []),qm 80 12,qw (.store 3 4 79),qu 5 (.aF (qi 0)),qu 6 (.aF (qi 0)),qm 7 80]) .ret) .skip)) (.seq (.ai [qL 81 3 9,qm 82 8,qm 83 13,qw (.store 3 4 81),qm 5 82,qm 6 83,qu 7 (.aF (qi 0))]) .ret)))))))))))))))⟩
theorem l77:bs Tryz.prog Tryz.f77=some c77.er:=by kernel_rfl
def dI(c:Int):Obj:=⟨5,[],[],⟨#[]⟩,-1,[],c,0,0⟩
theorem Ab(c:Int):(dI c).sm:=⟨⟨⟨[],rfl⟩,⟨[],rfl⟩,fun q hq=>by simp[dI]at hq⟩,by simp[dI],by simp[dI],by simp[dI],fun q hq=>by simp[dI]at hq⟩
theorem Je(a:CV)(c:Int):jA [a,.rv (.agg [.aa (.val (.int .i64 5)),.aB,.aB,.aa (.val (.string ⟨#[]⟩)),.aa (.val (.int .i64 (-1))),.aB,.aa (.val (.int .i64 c)),.aa (.val (.int .i64 0)),.aa (.val (.int .i64 0))])] [a,(dI c).cv]:=
 .dv _ (.agg (.cons (.dv _) (.cons (.aB 1) (.cons (.aB 2) (.cons (.dv _) (.cons (.dv _) (.cons (.aB 4) (.cons (.dv _) (.cons (.dv _) (.cons (.dv _) .nil))))))))) .nil)
theorem wz{l:List Obj}{o x:Obj}(h:x∈(aG l o).1):x∈l\/x=o:=by
 unfold aG at h;split at h
 .exact aac h
 .split at h
  .simp at h
  .simpa using h
theorem Ga(l:List Obj)(o:Obj):(aG l o).1.length<=l.length+1:=by
 unfold aG;split
 .simp
 .split<;>simp
theorem Jf{m:Mem}{a b:RV}{x y z:Int}(h:d8 m a b):cw m (.bF [a,cC x,cC y,cC z]) (.bF [b,cC x,cC y,cC z]):=by
 refine .bF rfl fun i r r' h1 h2=>?_
 match i,h1,h2 with
 |0,h1,h2=>cases h1;cases h2;exact h
 |1,h1,h2=>cases h1;cases h2;exact d8.self rfl
 |2,h1,h2=>cases h1;cases h2;exact d8.self rfl
 |3,h1,h2=>cases h1;cases h2;exact d8.self rfl
 |n+4,h1,h2=>simp at h1
def ud(l:List Obj)(ops:List bD)(P:List bj)(n:Nat)(c:Int):Kr×Int×Int×Int:=
 if(aG l (dI c)).2.2≠0 then(lS,0,0,(aG l (dI c)).2.2)
 else if(aK ⟨(aG l (dI c)).1,ops,P⟩ n (aG l (dI c)).2.1 3200).2.2≠0 then(lS,0,0,(aK ⟨(aG l (dI c)).1,ops,P⟩ n (aG l (dI c)).2.1 3200).2.2)
 else((aK ⟨(aG l (dI c)).1,ops,P⟩ n (aG l (dI c)).2.1 3200).1,c,(aK ⟨(aG l (dI c)).1,ops,P⟩ n (aG l (dI c)).2.1 3200).2.1,0)
def iC(ps:List bj)(n c:Nat):List bj:=match ps[n]? with
 |some x=>if c=ps.length then ps++ [⟨true,x.fenced,0,x.bd⟩]else ps.set c ⟨true,x.fenced,0,x.bd⟩
 |none=>ps
def iS(k:Kr)(p:Int):Kr×Int×Int×Int:=
 if eU k.ps p=false then(lS,0,0,6)else if fJ k.l k.ps<0 then(lS,0,0,15)
 else ud k.l k.ops (iC k.ps p.toNat (fJ k.l k.ps).toNat) p.toNat (fJ k.l k.ps)
def EF(a:Kr×Int×Int×Int):CV:= .bF [gW a.1,cC a.2.1,cC a.2.2.1,cC a.2.2.2]
def ZZ:LC:=bH (bH (bH (bH (bH (bH c77.code)))))
def X8:LC:=ov ZZ
def Z0:LC:=bH X8
def Z1:LC:=ov Z0
theorem Sp(l:List Obj)(ops:List bD)(P:List bj)(hk:dz l ops P)(Cx:l.length<=4194303)(n:Nat)(hn:n<P.length)(c:Int):
  aw Tryz.prog 0 Z1 (mJ Tryz.prog c77.jW (fun r m=>cw m r (EF (ud l ops P n c))))
   ⟨kR 84 [(1,an .i64 (n:Nat)),(4,.rv (.one (.ptr 0 0))),(8,an .i64 c),(9,.rv (.one (.ptr 1 0)))],[.var [.aB,.aB,.aB],.var ((kC l ops P).map .aa)]⟩:=by
 have X9:∀x,x∈(aG l (dI c)).1->x.sm:=fun x hx=>by
  rcases wz hx with hx|rfl
  .exact hk.sm x hx
  .exact Ab c
 have V1:=Ga l (dI c);refine ld (Je _ _) (xI l ⟨hk.ll,fun o ho=>(hk.sm o ho).mz⟩ (dI c) ?_)
 unfold ud;generalize aG l (dI c)=A at X9 V1;obtain⟨A1,k,e⟩:=A;refine bt (fun he=>?_) (fun he=>?_)
 .rw[if_pos he];exact Jf fT
 have he:e=0:=he;subst he;rw[if_neg aI];refine qW ⟨A1,ops,P⟩ ⟨X9,by have V1:A1.length<=l.length+1:=V1;show A1.length<=4194304;omega,hk.lo,hk.lp,hk.sl,hk.ne⟩ n hn k 3200 ?_
 generalize aK ⟨A1,ops,P⟩ n k 3200=B;obtain⟨B1,fd,e2⟩:=B;refine bt (fun pX=>?_) (fun pX=>?_)
 .rw[if_pos pX];exact Jf fT
 have pX:e2=0:=pX;subst pX;rw[if_neg aI];exact Jf (d8.self (xU _))
theorem m4(l:List Obj)(ps:List bj):∀(n p c:Nat),mZ l ps n p=(c:Nat)->p<=ps.length->c<=ps.length/\p<=c/\c<p+n/\(c<ps.length->r8 l ps c=true)
 |0,p,c,h,_=>by have h:(-1:Int)=(c:Nat):=h;omega
 |n+1,p,c,h,hp=>by
  rw[mZ]at h;by_cases h1:p=ps.length
  .rw[if_pos h1]at h;have:p=c:=om;subst this;exact⟨om,om,om,fun h2=>om⟩
  .rw[if_neg h1]at h;by_cases h2:r8 l ps p=true
   .rw[if_pos h2]at h;have:p=c:=om;subst this;exact⟨om,om,om,fun _=>h2⟩
   .rw[if_neg h2]at h;obtain⟨a,b,c1,d⟩:=m4 l ps n (p+1) c h om;exact⟨a,om,om,d⟩
theorem NL(k:Kr)(hk:dz k.l k.ops k.ps)(Cx:k.l.length<=4194303)(P:List bj)(hP:∀p,p∈P->p.bd.length<=10)(Ud:P.length<=4194304)(n:Nat)(hn:n<k.ps.length)(Z2:n<P.length)(c:Nat)(hc:c<P.length):
  aw Tryz.prog 0 X8 (mJ Tryz.prog c77.jW (fun r m=>cw m r (EF (ud k.l k.ops (P.set c ⟨true,k.ps[n].fenced,0,k.ps[n].bd⟩) n (c:Nat)))))
   ⟨kR 84 [(1,an .i64 (n:Nat)),(2,.rv (.one (.ptr 0 0))),(4,.rv (.one (.ptr 1 0))),(8,an .i64 (c:Nat)),(9,.rv (.one (.ptr 5 0)))],
    [.var ((kC k.l k.ops k.ps).map .aa),.var [.aB,.aB,.aB],.row 9 (af (k.l.map Obj.enc)),.row 2 (af (k.ops.map bD.enc)),.row 4 (af (P.map bj.enc)),.var [.row 2 9 0 none,.row 3 2 0 none,.row 4 4 0 none]]⟩:=by
 have hg:=dM hn;have D6:=hk.sl _ (Wl hn);have hr:=bC bj.enc P hc;generalize k.ps[n]=z at hg D6;obtain⟨a7,fenced,cd,bd⟩:=z;have D6:bd.length<=10:=D6;generalize P[c]=w at hr;obtain⟨wl,wf,wc,ws⟩:=w;refine ag hg ?_;refine ag hg ?_;refine ij bd om ?_;refine⟨⟨rfl,ag hg rfl,rfl,rfl,trivial⟩,?_⟩;refine ag (kM hc) ?_;refine ag hr ?_;refine⟨trivial,?_⟩;have iZ:∀x,x∈P.set c ⟨true,fenced,0,bd⟩->x.bd.length<=10:=fun x hx=>by
  rcases aac hx with hx|rfl
  .exact hP x hx
  .exact D6
 have eA:=Sp k.l k.ops (P.set c ⟨true,fenced,0,bd⟩) ⟨hk.sm,hk.ll,hk.lo,by rw[Yy];exact Ud,iZ,fun h=>by have:=congrArg List.length h;rw[Yy,aaq]at this;omega⟩ Cx n (by rw[Yy];exact Z2) (c:Nat)
 refine⟨_,View.o1 6 [1,5] [2,3,4] ?_,eA⟩
 .refine .pe rfl rfl rfl (.pt rfl rfl (eC.var (.cons (.eZ (dj.dX (Z:=fun k=>bz [2,3,4] k=true) rfl rfl 0 none)) (.cons (.eZ (dj.dX (Z:=fun k=>bz [2,3,4] k=true) rfl rfl 0 none)) (.cons (.eZ (Jd (Z:=fun k=>bz [2,3,4] k=true) (c:=(bj.enc ⟨true,fenced,0,bd⟩).map .aa) ?_ rfl rfl)) .nil)))) (.nil _))
  exact .cons (.aa _) (.cons (.aa _) (.cons (.aa _) (.cons (.aa _) .nil)))
theorem Gb(k:Kr)(hk:dz k.l k.ops k.ps)(Cx:k.l.length<=4194303)(p:Int):body Tryz.prog c77 [dR k.l k.ops k.ps,an .i64 p] [] (fun r m=>cw m r (EF (iS k p))):=by
 refine mY k.l k.ops k.ps p ?_;have h2:=hk.lp;refine aD (fun h1=>?_) (fun h1=>?_)
 .have h1:eU k.ps p=false:=by simpa using h1
  rw[iS,if_pos h1];exact Jf fT
 have h1:eU k.ps p=true:=by simpa using h1
 obtain⟨n,rfl,hn,dD⟩:=pH h1;rw[iS,if_neg (by rw[h1];simp)]
 refine fc (args0:=[.rv (.one (.ptr 0 0))]) (cs:=kC k.l k.ops k.ps) 0 rfl rfl (r0:=an .i64 (fJ k.l k.ps)) rfl (fun K hK=>xT k.l hk.ll k.ops k.ps K hK) ?_
 refine aJ (fun h3=>?_) (fun h3=>?_)
 .rw[if_pos h3];exact Jf fT
 rw[if_neg h3];obtain⟨c,hc⟩:∃c:Nat,fJ k.l k.ps=(c:Int):=⟨(fJ k.l k.ps).toNat,om⟩;obtain⟨eY,_,hc8,_⟩:=m4 k.l k.ps 8 0 c hc (Wi _);rw[hc,show((n:Nat):Int).toNat=n from rfl,show((c:Nat):Int).toNat=c from rfl];refine gD k.l k.ops k.ps ⟨hk.ll,fun o ho=>(hk.sm o ho).mz⟩ hk.lo hk.lp hk.sl hk.ne ?_
 refine bA (fun kT=>?_) (fun kT=>?_)
 .have kT:c=k.ps.length:=by have kT:(c:Int)=((af (k.ps.map bj.enc)).length:Int):=kT;rw[bb,KB]at kT;omega
  have V2:iC k.ps n c=(k.ps++ [fF]).set c ⟨true,k.ps[n].fenced,0,k.ps[n].bd⟩:=by rw[iC,sA hn];simp only[];rw[if_pos kT,kT];simp
  rw[V2];refine⟨by simp only[cu,bb,KB,Wo,aaq];omega,?_⟩
  have eA:=NL k hk Cx (k.ps++ [fF]) (fun x hx=>by
   rcases aaN.1 hx with hx|hx
   .exact hk.sl x hx
   .simp at hx;subst hx;simp[fF]) (by simp;omega) n hn (by simp;omega) c (by simp;omega)
  refine⟨_,View.o1 8 [0,1,2,3,7,5] [] ?_,eA⟩
  .exact .pt rfl rfl (.eq rfl (by simp[kC])) (.pe rfl rfl rfl (.pr rfl rfl rfl (.pr rfl rfl rfl (.pt rfl rfl (R9 k.ps fF (.eZ (.aB 3)) (by simp[cu,af,CC.aQ,fF])) (.pm rfl rfl rfl)))))
 .have aE:c<k.ps.length:=by have kT:¬(c:Int)=((af (k.ps.map bj.enc)).length:Int):=kT;rw[bb,KB]at kT;omega
  have V2:iC k.ps n c=k.ps.set c ⟨true,k.ps[n].fenced,0,k.ps[n].bd⟩:=by rw[iC,sA hn];simp only[];rw[if_neg om]
  rw[V2];have eA:=NL k hk Cx k.ps hk.sl hk.lp n hn hn c aE;refine⟨_,View.o1 6 [0,1,2,3,4,5] [] ?_,eA⟩
  .exact .pt rfl rfl (.eq rfl (by simp[kC])) (.pe rfl rfl rfl (.pr rfl rfl rfl (.pr rfl rfl rfl (.pr rfl rfl rfl (.pm rfl rfl rfl)))))
theorem EG(k:Kr)(hk:dz k.l k.ops k.ps)(Cx:k.l.length<=4194303)(p:Int){m:Mem}{K:CV->Mem->Prop}(h:K (EF (iS k p)) m):aq Tryz.prog 77 [dR k.l k.ops k.ps,an .i64 p] m K:=
 aY (ce Tryz.func77 l77 (Gb k hk Cx p)) (by simp[dR,c7,eB,fE,an,CV.c6,CC.c6,RV.c6]) fun r m1 hf=>⟨_,hf,h⟩
def c62:LF:= ⟨40,[.tmp 6,.tmp 7],(.seq (.ai [qu 6 (.aF qe),qu 7 (.aF (qi 0))]) (.seq (.ai [qm 12 0,qm 13 1,qu 14 (qc 73 [12,13]),qm 11 14,qu 15 (.ext 11 0),qu 16 (.ext 11 1),qu 8 (.alloc [(qd 0),(qd 0)]),qw (.store 2 8 15),qm 9 16]) (.seq (.block 0 (.seq (.ai [qm 18 9,qu 19 (.aH .neq 18 (qi 0)),qm 17 19]) (.cond 17 (.seq (.ai [qm 20 9,qu 6 (.aF qe),qm 7 20]) .ret) (.seq (.ai [qm 22 2,qu 23 (qc 54 [22]),qu 24 (.un .not 23),qm 21 24]) (.cond 21 (.seq (.ai [qu 6 (.aF qe),qu 7 (.aF (qi 3))]) .ret) (.seq (.ai [qm 26 2,qf 27 1 8,ql 28 27,qu 29 (qc 101 [26,28]),qu 30 (.un .not 29),qm 25 30]) (.cond 25 (.seq (.ai [qu 6 (.aF qe),qu 7 (.aF (qi 10))]) .ret) .skip))))))) (.seq (.ai [qm 31 0,qu 32 (qc 100 [31]),qm 10 32]) (.seq (.ai [qm 33 10,qm 34 1,qm 35 2,qu 36 (.cr 3 33 34),qf 37 1 36,qf 38 1 37,qw (.store 1 38 35)]) (.seq (.ai [qm 39 10,qm 6 39,qu 7 (.aF (qi 0))]) .ret))))))⟩
namespace Tb
theorem l62:bs Tryz.prog Tryz.f62=some c62:=by kernel_rfl
def xX(l:List bW)(fd n:Int):List bW×Int:=
 if(d9 l fd).2=0 then
  if dN n=false then([],3)else if jd n (d9 l fd).1.cn=false then([],10)else(l.set fd.toNat ⟨true,⟨(d9 l fd).1.eE,n⟩⟩,0)
 else([],(d9 l fd).2)
theorem Cy(l:List bW)(hb:l.length<=2097152)(fd n:Int):body Tryz.prog c62 [dZ l,an .i64 fd,an .i64 n] [] (fun r m=>cw m r (.bF [il (xX l fd n).1,cC (xX l fd n).2])):=by
 refine ua l fd ?_;refine aD (fun h=>?_) (fun h=>?_)
 .have h:¬(d9 l fd).2=0:=by simpa using h
  rw[xX,if_neg h];exact i9 (.one (.aB 3))
 .have h:(d9 l fd).2=0:=by simpa using h
  rw[xX,if_pos h];refine ub n ?_;refine aD (fun h1=>?_) (fun h1=>?_)
  .have h1:dN n=false:=by simpa using h1
   rw[if_pos h1];exact i9 (.one (.aB 3))
  .have h1:dN n=true:=by simpa using h1
   rw[if_neg (by simp[h1])]
   refine ww _ _ ?_;refine aD (fun h2=>?_) (fun h2=>?_)
   .have h2:jd n (d9 l fd).1.cn=false:=by simpa using h2
    rw[if_pos h2];exact i9 (.one (.aB 3))
   .have h2:jd n (d9 l fd).1.cn=true:=by simpa using h2
    rw[if_neg (by simp[h2])]
    obtain⟨d,rfl,hd,Sl,bl⟩:=EB h;rw[show((d:Nat):Int).toNat=d from rfl];refine ny l hb (fun hl=>by subst hl;simp at hd) ?_
    refine ag (bZ (k:=d) (by simp[bT,lenOf];omega)) ?_
    refine ag (x:=(l[d].enc).map .aa) (by simp[aU,bT,gu,hd]) ?_
    refine i9 (.one ?_);have e:aZ (bT l) d [CC.aa (.val (.bool l[d].has)),CC.aa (.val (.int .i64 l[d].cap.eE)),CC.aa (.val (.int .i64 n))]=af ((l.set d ⟨true,⟨(d9 l d).1.eE,n⟩⟩).map bW.enc):=by rw[bg,Sl,bl];simp[bT,af,bW.enc]
    exact dU.dX (congrArg (fun x=>some (Bk.row 3 x)) e) 0 none
theorem Jg(l:List bW)(hb:l.length<=2097152)(fd n:Int){m:Mem}{K:CV->Mem->Prop}(h:K (.bF [il (xX l fd n).1,cC (xX l fd n).2]) m):aq Tryz.prog 62 [dZ l,an .i64 fd,an .i64 n] m K:=
 aY (aX Tryz.func62 l62 (Cy l hb fd n)) (by simp[dZ,an,CV.c6,CC.c6]) fun r m1 hf=>⟨_,hf,h⟩
end Tb
def c134:LF:= ⟨49,[.tmp 6,.tmp 7],(.seq (.ai [qu 6 (.aF (qi 0)),qu 7 (.aF (qb false))]) (.seq (.ai [qm 12 0,qu 13 (.len 1 12),qm 8 13]) (.seq (.ai [qm 14 8,qu 9 (.aF (qi 0)),qm 10 14]) (.seq (.block 0 (.loop (.seq (.seq (.ai [qm 15 9,qm 16 10,qu 17 (.aH .lss 15 16)]) (.cond 17 .skip (.exit 0))) (.block 1 (.seq (.ai [qm 18 9,qm 19 10,qu 20 (.aH .add 18 19),qu 21 (.conv .u64 20),qu 22 (.aH .shr 21 (.c (.rv (.one (.aa (.val (.int .u64 (1)))))))),qu 23 (.conv .i64 22),qm 11 23]) (.seq (.ai [qm 24 2,qm 25 0,qm 26 11,qu 27 (.cr 2 25 26),qL 28 2 27,qm 29 1,qu 30 (.call 24 [28,29]),qu 31 (.aH .lss 30 (qi 0))]) (.cond 31 (.ai [qm 32 11,qu 33 (.aH .add 32 (qi 1)),qm 9 33]) (.ai [qm 34 11,qm 10 34])))))))) (.seq (.ai [qm 35 9,qm 36 9,qm 37 8,qu 38 (.aH .lss 36 37),qm 39 38,qg 40 (.aF 2) 39 true,qg 41 (.aF 0) 39 true,qg 42 (.aF 9) 39 true,qg 43 (.cr 2 41 42) 39 true,qg 44 (.load true 2 43) 39 true,qg 45 (.aF 1) 39 true,qg 46 (.call 40 [44,45]) 39 true,qg 47 (.aH .eql 46 (qi 0)) 39 true,qu 48 (.pick 39 47 (qb false)),qm 6 35,qm 7 48]) .ret)))))⟩
def c135:LF:= ⟨9,[.tmp 4],(.seq (.ai [qu 2 (.box 0),qu 4 (.aF (qi 0))]) (.seq (.ai [qf 5 0 2,ql 6 5,qm 7 1,qu 8 (qc 136 [6,7]),qm 4 8]) .ret))⟩
def c136:LF:= ⟨20,[.tmp 4],(.seq (.ai [qu 4 (.aF (qi 0))]) (.seq (.ai [qm 7 0,qu 8 (qc 150 [7]),qm 5 8]) (.seq (.ai [qm 9 1,qu 10 (qc 150 [9]),qm 6 10]) (.seq (.seq (.ai [qm 11 5]) (.cond 11 (.seq (.seq (.ai [qm 12 6]) (.cond 12 (.seq (.ai [qu 4 (.aF (qi 0))]) .ret) .skip)) (.seq (.ai [qu 4 (.aF (qi (-1)))]) .ret)) .skip)) (.seq (.seq (.ai [qm 13 6]) (.cond 13 (.seq (.ai [qu 4 (.aF (qi 1))]) .ret) .skip)) (.seq (.seq (.ai [qm 14 0,qm 15 1,qu 16 (.aH .lss 14 15)]) (.cond 16 (.seq (.ai [qu 4 (.aF (qi (-1)))]) .ret) .skip)) (.seq (.seq (.ai [qm 17 0,qm 18 1,qu 19 (.aH .gtr 17 18)]) (.cond 19 (.seq (.ai [qu 4 (.aF (qi 1))]) .ret) .skip)) (.seq (.ai [qu 4 (.aF (qi 0))]) .ret))))))))⟩
def c150:LF:= ⟨6,[.tmp 2],(.seq (.ai [qu 2 (.aF (qb false))]) (.seq (.ai [qm 3 0,qm 4 0,qu 5 (.aH .neq 3 4),qm 2 5]) .ret))⟩
theorem l150:bs Tryz.prog Tryz.f150=some c150:=by kernel_rfl
theorem l136:bs Tryz.prog Tryz.f136=some c136:=by kernel_rfl
theorem l135:bs Tryz.prog Tryz.f135=some c135:=by kernel_rfl
theorem l134:bs Tryz.prog Tryz.f134=some c134:=by kernel_rfl
def NM(a b:ByteArray):Bool:=Op.bytesLess a.toList b.toList
def Qk(a b:ByteArray):Bool:= !(Op.bytesLess a.toList b.toList||a.toList==b.toList)
def jF(a b:ByteArray):Int:=if NM a b=true then -1 else if Qk a b=true then 1 else 0
theorem Jh(a:ByteArray):body Tryz.prog c150 [dh a] [] (fun r m=>r=ay false):=by show ay (!(a.toList==a.toList))=ay false;simp
theorem Ji(a:ByteArray){m:Mem}{K:CV->Mem->Prop}(h:K (ay false) m):aq Tryz.prog 150 [dh a] m K:=
 bu Tryz.func150 l150 rfl (V5 rfl) (Jh a) rfl rfl h
theorem Jj(a b:ByteArray):body Tryz.prog c136 [dh a,dh b] [] (fun r m=>r=an .i64 (jF a b)):=by
 refine Ji a ?_;refine Ji b ?_;refine aD (fun h1=>?_) (fun h1=>?_)
 .show an _ _=an _ _;rw[jF,if_pos (show NM a b=true from h1)]
 refine aD (fun h2=>?_) (fun h2=>?_)
 .show an _ _=an _ _;rw[jF,if_neg (by rw[show NM a b=false from h1];simp),if_pos (show Qk a b=true from h2)]
 .show an _ _=an _ _;rw[jF,if_neg (by rw[show NM a b=false from h1];simp),if_neg (by rw[show Qk a b=false from h2];simp)]
theorem Jk(a b:ByteArray){m:Mem}{K:CV->Mem->Prop}(h:K (an .i64 (jF a b)) m):aq Tryz.prog 136 [dh a,dh b] m K:=
 bu Tryz.func136 l136 rfl (V5 rfl) (Jj a b) rfl rfl h
def cK(e:ByteArray×Int):List Dt:=[.val (.string e.1),.val (.int .i64 e.2)]
def ue(e:ByteArray×Int):CV:= .rv (.agg ((cK e).map .aa))
theorem Cz(e:ByteArray×Int)(s:ByteArray):body Tryz.prog c135 [ue e,dh s] [] (fun r m=>r=an .i64 (jF e.1 s)):=
 Jk e.1 s rfl
theorem NN(e:ByteArray×Int)(s:ByteArray){m:Mem}{K:CV->Mem->Prop}(h:K (an .i64 (jF e.1 s)) m):aq Tryz.prog 135 [ue e,dh s] m K:=
 bu Tryz.func135 l135 rfl (V5 rfl) (Cz e s) rfl rfl h
def Gc(es:List (ByteArray×Int))(s:ByteArray):Nat->Nat->Nat->Nat
 |0,i,_=>i
 |n+1,i,j=>if i<j then(match es[(i+j)/2]? with
   |some e=>if jF e.1 s<0 then Gc es s n ((i+j)/2+1) j else Gc es s n i ((i+j)/2)
   |none=>i)else i
def oA(es:List (ByteArray×Int))(s:ByteArray):Nat:=Gc es s es.length 0 es.length
def xY(es:List (ByteArray×Int))(s:ByteArray):Bool:=match es[oA es s]? with|some e=>jF e.1 s==0|none=>false
structure V3 where
 i:Nat
 j:Nat
theorem m5{es:List (ByteArray×Int)}{k:Nat}(h:k<es.length):dg (es.map cK) (k:Nat)=some [.val (.string es[k].1),.val (.int .i64 es[k].2)]:=by rw[bI,NO,sA h];rfl
theorem CA{i j:Nat}(h:i+j<=4294967296):IntKind.i64.wrap ((IntKind.u64.wrap (IntKind.i64.wrap ((i:Int)+(j:Int)))).fdiv (2^(min (1:Int).toNat IntKind.u64.bits)))=(((i+j)/2:Nat):Int):=by
 rw[show(i:Int)+(j:Int)=((i+j:Nat):Int) by omega,l9 om]
 have hu:IntKind.u64.wrap ((i+j:Nat):Int)=((i+j:Nat):Int):=by simp only[IntKind.wrap,IntKind.bits,IntKind.signed];simp;omega
 rw[hu,show(2:Int)^(min (1:Int).toNat IntKind.u64.bits)=((2:Nat):Int)from rfl];rw[show(((i+j:Nat):Int)).fdiv ((2:Nat):Int)=(((i+j)/2:Nat):Int) by rw[Int.fdiv_eq_ediv_of_nonneg _ om];exact(Int.natCast_ediv _ _).symm]
 rw[l9 om]
theorem L5(es:List (ByteArray×Int))(hl:es.length<=2147483648)(s:ByteArray)(F:Nat)(hF:∀(e:ByteArray×Int)(m:Mem)(K:CV->Mem->Prop),K (an .i64 (jF e.1 s)) m->aq Tryz.prog F [ue e,dh s] m K):
  body Tryz.prog c134 [pw 2 (es.map cK),dh s,.rv (.one (.fn F []))] [] (fun r m=>r= .bF [.one (.aa (.val (.int .i64 (oA es s:Nat)))),.one (.aa (.val (.bool (xY es s))))]):=by
 refine ba (fun a:V3=>a.i<=a.j/\a.j<=es.length/\∃n,a.j-a.i<=n/\Gc es s n a.i a.j=oA es s) [0,1,2] (fun a=>[(8,an .i64 (es.length:Nat)),(9,an .i64 (a.i:Nat)),(10,an .i64 (a.j:Nat))]) (fun _=>[]) (fun a=>a.j-a.i) ⟨0,es.length⟩ ⟨Wi _,Pq _,es.length,aI,rfl⟩ ?_ (fun a ha=>?_)
 .refine View.o 0 [] [] ?_ (.nil _);have hlen:an .i64 (((es.map cK).length:Nat):Int)=an .i64 ((es.length:Nat):Int):=by rw[KB]
  repeat(first|exact .nil|refine .ar ?_|refine .eq rfl ?_|refine .eq hlen.symm ?_)
 obtain⟨i,j⟩:=a;obtain⟨h1,h2,n,h3,h4⟩:=ha;have h1:i<=j:=h1;have h2:j<=es.length:=h2;have h3:j-i<=n:=h3;have h4:Gc es s n i j=oA es s:=h4;refine aJ (fun h=>?_) (fun h=>?_)
 .have aE:i<j:=by have h:(i:Int)<(j:Int):=h;omega
  obtain⟨n,rfl⟩:∃n',n=n'+1:=⟨n-1,om⟩;have hh:(i+j)/2<es.length:=om;rw[Gc,if_pos aE,sA hh]at h4;have eu:dg (es.map cK) (IntKind.i64.wrap ((IntKind.u64.wrap (IntKind.i64.wrap ((i:Int)+(j:Int)))).fdiv (2^(min (1:Int).toNat IntKind.u64.bits))))=some [.val (.string es[(i+j)/2].1),.val (.int .i64 es[(i+j)/2].2)]:=by rw[CA om];exact m5 hh
  refine ag eu ?_;refine hF es[(i+j)/2] _ _ ?_;refine aJ (fun h5=>?_) (fun h5=>?_)
  .have h5:jF es[(i+j)/2].1 s<0:=h5;simp only[]at h4;rw[if_pos h5]at h4;refine⟨⟨(i+j)/2+1,j⟩,⟨by show(i+j)/2+1<=j;omega,h2,n,by show j-((i+j)/2+1)<=n;omega,h4⟩,(show j-((i+j)/2+1)<j-i by omega),View.o 0 [] [] ?_ (.nil _)⟩
   have e1:an .i64 (IntKind.i64.wrap (IntKind.i64.wrap ((IntKind.u64.wrap (IntKind.i64.wrap ((i:Int)+(j:Int)))).fdiv (2^(min (1:Int).toNat IntKind.u64.bits)))+1))=an .i64 (((i+j)/2+1:Nat):Int):=by
    rw[CA om,show(((i+j)/2:Nat):Int)+1=(((i+j)/2+1:Nat):Int) by omega,l9 om]
   repeat(first|exact .nil|refine .ar ?_|refine .eq rfl ?_|refine .eq e1.symm ?_)
  .have h5:¬jF es[(i+j)/2].1 s<0:=h5;simp only[]at h4;rw[if_neg h5]at h4;refine⟨⟨i,(i+j)/2⟩,⟨by show i<=(i+j)/2;omega,by show(i+j)/2<=es.length;omega,n,by show(i+j)/2-i<=n;omega,h4⟩,(show(i+j)/2-i<j-i by omega),View.o 0 [] [] ?_ (.nil _)⟩
   have e1:an .i64 (IntKind.i64.wrap ((IntKind.u64.wrap (IntKind.i64.wrap ((i:Int)+(j:Int)))).fdiv (2^(min (1:Int).toNat IntKind.u64.bits))))=an .i64 (((i+j)/2:Nat):Int):=by rw[CA om]
   repeat(first|exact .nil|refine .ar ?_|refine .eq rfl ?_|refine .eq e1.symm ?_)
 .have o8:i=j:=by have h:¬(i:Int)<(j:Int):=h;omega
  subst o8;have hI:oA es s=i:=by
   rw[<-h4];cases n with
   |zero=>rfl
   |succ n=>rw[Gc,if_neg (Nat.lt_irrefl _)]
  rw[xY,hI];refine aJ (fun h6=>?_) (fun h6=>?_)
  .have aE:i<es.length:=by have h6:(i:Int)<(es.length:Int):=h6;omega
   refine ag (m5 aE) ?_;refine hF es[i] _ _ ?_;show CV.bF _=CV.bF _;rw[sA aE]
  .have eu:¬i<es.length:=by have h6:¬(i:Int)<(es.length:Int):=h6;omega
   show CV.bF _=CV.bF _;rw[aae om]
def Ui(es:List (ByteArray×Int))(s:ByteArray):CV:= .bF [.one (.aa (.val (.int .i64 (oA es s:Nat)))),.one (.aa (.val (.bool (xY es s))))]
theorem Jl(es:List (ByteArray×Int))(hl:es.length<=2147483648)(s:ByteArray)(F:Nat)(hF:∀(e:ByteArray×Int)(m:Mem)(K:CV->Mem->Prop),K (an .i64 (jF e.1 s)) m->aq Tryz.prog F [ue e,dh s] m K){m:Mem}{K:CV->Mem->Prop}(h:K (Ui es s) m):aq Tryz.prog 134 [pw 2 (es.map cK),dh s,.rv (.one (.fn F []))] m K:=by
 refine aY (K0:=fun r _=>r=Ui es s) (aX Tryz.func134 l134 (L5 es hl s F hF)) (by simp[pw,dh,CV.c6,CC.c6,RV.c6]) fun r m1 hr=>?_
 subst hr;exact⟨_,cw.self rfl,h⟩
theorem Pc(es:List (ByteArray×Int))(hl:es.length<=2147483648)(s:ByteArray)(F:Nat)(hF:∀(e:ByteArray×Int)(m:Mem)(K:CV->Mem->Prop),K (an .i64 (jF e.1 s)) m->aq Tryz.prog F [ue e,dh s] m K){m:Mem}{id:Nat}(hb:cR m id=some (.row 2 (af (es.map cK)))){K:CV->Mem->Prop}(h:K (Ui es s) m):aq Tryz.prog 134 [.rv (.one (.row id 2 0 none)),dh s,.rv (.one (.fn F []))] m K:=
 Iy [id] (args0:=[pw 2 (es.map cK),dh s,.rv (.one (.fn F []))]) (Jl es hl s F hF (K:=fun r _=>r=Ui es s) rfl) (.put (po.eZ id (es.map cK) (by simp[bz]) hb) (.eq rfl (.eq rfl .nil))) fun r m1 hr=>by subst hr;exact⟨rfl,h⟩
def Tryz.Ac:Go.Shelf.Ren:=⟨fun|143=>149|219=>154|217=>156|225=>157|224=>158|267=>159|266=>161|314=>162|n=>n,fun|9=>9|3=>3|4=>4|5=>5|46=>127|146=>267|51=>187|n=>n,fun|1=>0|n=>n⟩
theorem Tryz.L6:Go.Proofs.Lays.n143 Tryz.prog Tryz.Ac:={
 mixed:=by kernel_rfl,
 f143:=Tryz.func149.trans (congrArg some (by kernel_rfl)),
 f217:=Tryz.func156.trans (congrArg some (by kernel_rfl)),
 f219:=Tryz.func154.trans (congrArg some (by kernel_rfl)),
 f224:=Tryz.func158.trans (congrArg some (by kernel_rfl)),
 f225:=Tryz.func157.trans (congrArg some (by kernel_rfl)),
 f266:=Tryz.func161.trans (congrArg some (by kernel_rfl)),
 f267:=Tryz.func159.trans (congrArg some (by kernel_rfl)),
 f314:=Tryz.func162.trans (congrArg some (by kernel_rfl)),
 t3:=Tryz.underlying3,
 a3:=Tryz.isAgg3,
 z3:=Tryz.sizeOf3,
 v3:=Tryz.zeroValue3,
 t4:=Tryz.underlying4,
 a4:=Tryz.isAgg4,
 z4:=Tryz.sizeOf4,
 v4:=Tryz.zeroValue4,
 t5:=Tryz.underlying5,
 a5:=Tryz.isAgg5,
 z5:=Tryz.sizeOf5,
 v5:=Tryz.zeroValue5,
 t9:=Tryz.underlying9,
 a9:=Tryz.isAgg9,
 z9:=Tryz.sizeOf9,
 v9:=Tryz.zeroValue9,
 t46:=Tryz.underlying127,
 a46:=Tryz.isAgg127,
 z46:=Tryz.sizeOf127,
 v46:=Tryz.zeroValue127,
 t51:=Tryz.underlying187,
 a51:=Tryz.isAgg187,
 z51:=Tryz.sizeOf187,
 v51:=Tryz.zeroValue187,
 t146:=Tryz.underlying267,
 a146:=Tryz.isAgg267,
 z146:=Tryz.sizeOf267,
 v146:=Tryz.zeroValue267,
 g1:=by kernel_rfl}
def Tryz.r9:Go.Shelf.Ren:=⟨fun|156=>64|165=>102|166=>103|169=>104|240=>129|241=>130|276=>145|277=>146|n=>n,fun|31=>146|9=>9|3=>3|4=>4|0=>0|20=>20|72=>198|76=>202|70=>196|37=>23|75=>201|127=>241|164=>252|5=>5|80=>204|n=>n,fun|n=>n⟩
theorem Tryz.EH:Go.Proofs.Lays.n156 Tryz.prog Tryz.r9:={
 mixed:=by kernel_rfl,
 f156:=Tryz.func64.trans (congrArg some (by kernel_rfl)),
 f165:=Tryz.func102.trans (congrArg some (by kernel_rfl)),
 f166:=Tryz.func103.trans (congrArg some (by kernel_rfl)),
 f169:=Tryz.func104.trans (congrArg some (by kernel_rfl)),
 f240:=Tryz.func129.trans (congrArg some (by kernel_rfl)),
 f241:=Tryz.func130.trans (congrArg some (by kernel_rfl)),
 f276:=Tryz.func145.trans (congrArg some (by kernel_rfl)),
 f277:=Tryz.func146.trans (congrArg some (by kernel_rfl)),
 t0:=Tryz.underlying0,
 a0:=Tryz.isAgg0,
 z0:=Tryz.sizeOf0,
 v0:=Tryz.zeroValue0,
 t3:=Tryz.underlying3,
 a3:=Tryz.isAgg3,
 z3:=Tryz.sizeOf3,
 v3:=Tryz.zeroValue3,
 t4:=Tryz.underlying4,
 a4:=Tryz.isAgg4,
 z4:=Tryz.sizeOf4,
 v4:=Tryz.zeroValue4,
 t9:=Tryz.underlying9,
 a9:=Tryz.isAgg9,
 z9:=Tryz.sizeOf9,
 v9:=Tryz.zeroValue9,
 t20:=Tryz.underlying20,
 a20:=Tryz.isAgg20,
 z20:=Tryz.sizeOf20,
 v20:=Tryz.zeroValue20,
 t31:=Tryz.underlying146,
 a31:=Tryz.isAgg146,
 z31:=Tryz.sizeOf146,
 v31:=Tryz.zeroValue146,
 t37:=Tryz.underlying23,
 a37:=Tryz.isAgg23,
 z37:=Tryz.sizeOf23,
 v37:=Tryz.zeroValue23,
 t70:=Tryz.underlying196,
 a70:=Tryz.isAgg196,
 z70:=Tryz.sizeOf196,
 v70:=Tryz.zeroValue196,
 t72:=Tryz.underlying198,
 a72:=Tryz.isAgg198,
 z72:=Tryz.sizeOf198,
 v72:=Tryz.zeroValue198,
 t75:=Tryz.underlying201,
 a75:=Tryz.isAgg201,
 z75:=Tryz.sizeOf201,
 v75:=Tryz.zeroValue201,
 t76:=Tryz.underlying202,
 a76:=Tryz.isAgg202,
 z76:=Tryz.sizeOf202,
 v76:=Tryz.zeroValue202,
 t127:=Tryz.underlying241,
 a127:=Tryz.isAgg241,
 z127:=Tryz.sizeOf241,
 v127:=Tryz.zeroValue241,
 t164:=Tryz.underlying252,
 a164:=Tryz.isAgg252,
 z164:=Tryz.sizeOf252,
 v164:=Tryz.zeroValue252}
theorem Tryz.EI:Builder.Extra Tryz.prog Tryz.r9:={
 sizeBuilder:=by kernel_rfl,
 liesBuilder:=by kernel_rfl,
 t5:=Tryz.underlying5,
 a5:=Tryz.isAgg5,
 z5:=Tryz.sizeOf5,
 v5:=Tryz.zeroValue5,
 infoByte:=by kernel_rfl,
 cellsByte:=by kernel_rfl,
 sizeByte:=by kernel_rfl,
 neB5:=by decide}
namespace bp
theorem Gd(s:ByteArray)(c:UInt8)(w:World):Calls Tryz.prog 149 #[.string s,.string ⟨#[c]⟩] w fun e w'=>e= .returned (.int .i64 (Lib.indexByte s.data.toList c))/\w'=w:=
 Any.strings_Index_one Tryz.L6 s c w
end bp
theorem Ge(a:Option Addr)(c:Nat)(sep:ByteArray)(w:World):Calls Tryz.prog 64 #[.slice a 0 c,.string sep] w fun e w'=>e= .returned (.string ⟨#[]⟩)/\w'=w:=
 Any.strings_Join_none Tryz.EH Tryz.EI a c sep w
theorem L7(bk o c:Nat)(xs:List ByteArray)(sep:ByteArray)(w:World)(dK:∀(j:Nat)x,xs[j]? =some x->w.cell? ⟨bk,o+j,none⟩=some (.string x))(eO:bk<w.heap.size)(hN:xs.length<=140737488355328)(bl:xs.length<=c)(hlen:(Lib.join (xs.map (·.data.toList)) sep.data.toList).length<=140737488355328):
  Calls Tryz.prog 64 #[.slice (some ⟨bk,o,none⟩) xs.length c,.string sep] w fun e w'=>e= .returned (.string ⟨(Lib.join (xs.map (·.data.toList)) sep.data.toList).toArray⟩)/\Below w.heap.size w w':=
 Any.strings_Join Tryz.EH Tryz.EI bk o c xs sep w dK eO hN bl hlen
namespace bp
attribute [local go_sem] Oper.semAt_some
def fK(c:UInt8):List UInt8->List (List UInt8)
 | []=>[[]]
 |x::r=>if x==c then []::fK c r else match fK c r with
  | []=>[[x]]
  |p::ps=>(x::p)::ps
theorem qX{c:UInt8}:∀{l:List UInt8},Lib.indexByte l c= -1->fK c l=[l]
 | [],_=>rfl
 |x::r,h=>by
  simp only[Lib.indexByte]at h;split at h
  .cases h
  .rename_i hx;split at h
   .rename_i h2;have Ns:Lib.indexByte r c= -1:=by simpa using h2
    simp only[fK,hx,qX Ns,aaV,if_false]
   .have:=Lib.indexByte_ge r c;omega
theorem wA{c:UInt8}:∀{l:List UInt8}{i:Nat},Lib.indexByte l c=i->i<l.length/\fK c l=l.take i::fK c (l.drop (i+1))
 | [],i,h=>by simp[Lib.indexByte]at h
 |x::r,i,h=>by
  simp only[Lib.indexByte]at h;split at h
  .rename_i hx;have:i=0:=om;subst this;simp[fK,hx]
  .rename_i hx;split at h
   .omega
   .cases i with
    |zero=>
     have:=Lib.indexByte_ge r c;rename_i h2;have:Lib.indexByte r c= -1:=om;simp[this]at h2
    |succ i=>
     have h3:Lib.indexByte r c=i:=om;obtain⟨h4,h5⟩:=wA h3;refine⟨by simpa using h4,?_⟩
     simp only[fK,hx,h5,aaV,if_false];simp
def b7(l:List UInt8):ByteArray:=⟨l.toArray⟩
def fZ(c:UInt8)(s:ByteArray):List ByteArray:=(fK c s.data.toList).map b7
end bp
end Go.Proofs.YtodckkkbiidffaaGreatDoor
