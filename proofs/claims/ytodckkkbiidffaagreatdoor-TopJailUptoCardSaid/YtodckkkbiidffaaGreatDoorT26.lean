/- Part 26 of 39: what the law stands on. -/
import Derived.Test.YtodckkkbiidffaaGreatDoorT16
import Derived.Test.YtodckkkbiidffaaGreatDoorT18
import Derived.Test.YtodckkkbiidffaaGreatDoorT22
import Derived.Test.YtodckkkbiidffaaGreatDoorT24
import Derived.Test.YtodckkkbiidffaaGreatDoorT25
set_option linter.unusedVariables false
set_option linter.unusedSimpArgs false
set_option linter.unnecessarySimpa false
set_option maxRecDepth 100000
set_option maxHeartbeats 64000000
namespace Go.Proofs.YtodckkkbiidffaaGreatDoor
open Go.AM Go.ChangeShapes Go.WideShapes Go.ChangeAt Go.RowKit
def c58:LF:= ⟨68,[.cell true 9 6,.tmp 7],(.seq (.ai [qu 3 (.box 0),qu 6 (.alloc [(qd 0),.aB,.aB,(.aa (.val (.string ⟨#[]⟩))),(qd 0),.aB,(qd 0),(qd 0),(qd 0)]),qu 7 (.aF (qi 0))]) (.seq (.block 0 (.seq (.ai [qf 10 0 3,ql 11 10,qu 12 (.aH .eql 11 (qi 2)),qm 9 12]) (.cond 9 (.seq (.ai [qu 13 (.build [(qd 0),.aB,.aB,(.aa (.val (.string ⟨#[]⟩))),(qd 0),.aB,(qd 0),(qd 0),(qd 0)] []),qw (.store 9 6 13),qu 7 (.aF (qi 12))]) .ret) (.seq (.ai [qf 15 0 3,ql 16 15,qu 17 (.aH .neq 16 (qi 1)),qm 14 17]) (.cond 14 (.seq (.ai [qu 18 (.build [(qd 0),.aB,.aB,(.aa (.val (.string ⟨#[]⟩))),(qd 0),.aB,(qd 0),(qd 0),(qd 0)] []),qw (.store 9 6 18),qu 7 (.aF (qi 8))]) .ret) (.seq (.ai [qm 20 1,qu 21 (.aH .lss 20 (qi 0)),qm 19 21]) (.cond 19 (.seq (.ai [qu 22 (.build [(qd 0),.aB,.aB,(.aa (.val (.string ⟨#[]⟩))),(qd 0),.aB,(qd 0),(qd 0),(qd 0)] []),qw (.store 9 6 22),qu 7 (.aF (qi 3))]) .ret) (.seq (.ai [qm 24 1,qu 25 (.aH .gtr 24 (qi 60)),qm 26 25,qg 27 (.aF 2) 26 false,qg 28 (.len 1 27) 26 false,qg 29 (.aF 1) 26 false,qg 30 (.aH .sub (qi 60) 29) 26 false,qg 31 (.aH .gtr 28 30) 26 false,qu 32 (.pick 26 (qb true) 31),qm 23 32]) (.cond 23 (.seq (.ai [qu 33 (.build [(qd 0),.aB,.aB,(.aa (.val (.string ⟨#[]⟩))),(qd 0),.aB,(qd 0),(qd 0),(qd 0)] []),qw (.store 9 6 33),qu 7 (.aF (qi 15))]) .ret) .skip))))))))) (.seq (.ai [qL 34 9 3,qu 35 (.l5 9 [(qd 0),.aB,.aB,(.aa (.val (.string ⟨#[]⟩))),(qd 0),.aB,(qd 0),(qd 0),(qd 0)] 1 [(0,34)]),qu 36 (qc 98 [35]),qu 37 (.cr 9 36 (qi 0)),qL 38 9 37,qu 8 (.alloc [(qd 0),.aB,.aB,(.aa (.val (.string ⟨#[]⟩))),(qd 0),.aB,(qd 0),(qd 0),(qd 0)]),qw (.store 9 8 38)]) (.seq (.block 1 (.loop (.seq (.seq (.ai [qf 39 1 8,ql 40 39,qu 41 (.len 1 40),qm 42 1,qm 43 2,qu 44 (.len 1 43),qu 45 (.aH .add 42 44),qu 46 (.aH .lss 41 45),qm 47 46,qg 48 (.aF 2) 47 true,qg 49 (.len 1 48) 47 true,qg 50 (.aH .gtr 49 (qi 0)) 47 true,qu 51 (.pick 47 50 (qb false))]) (.cond 51 .skip (.exit 1))) (.block 2 (.ai [qf 52 1 8,ql 53 52,qu 54 (.l5 1 [(.aa (.val (.int .u8 (0))))] 1 [(0,(.c (.rv (.one (.aa (.val (.int .u8 (0))))))))]),qu 55 (.mE 1 1 53 54),qf 56 1 8,qw (.store 1 56 55)]))))) (.cI (.seq (.ai [qf 57 1 8,ql 58 57,qm 59 1,qf 60 1 8,ql 61 60,qu 62 (.len 1 61),qu 63 (.hC false [59,62]),qu 64 (.mD 1 58 (some 63) none none),qm 65 2,qu 66 (.copy 1 64 65)]) (.seq (.ai [qL 67 9 8,qw (.store 9 6 67),qu 7 (.aF (qi 0))]) .ret)))))))⟩
theorem l58:bs Tryz.prog Tryz.f58=some c58.er:=by kernel_rfl
def zb:List Dt:=[.val (.int .u8 0)]
def Ph(d:List (List Dt))(n:Nat):List (List Dt):=d++List.replicate (n-d.length) zb
def nW(d:List (List Dt))(A:Nat)(b:List (List Dt)):List (List Dt):=if b.length=0 then d else cF (Ph d (A+b.length)) A b
def Js:Obj:=⟨0,[],[],⟨#[]⟩,0,[],0,0,0⟩
def Gi(o:Obj):RV:= .agg (o.enc.map .aa)
def eh(o:Obj)(cT:Int)(b:List (List Dt)):Obj×Int:=
 if o.ah=2 then(Js,12)else if o.ah≠1 then(Js,8)else if cT<0 then(Js,3)else if cT>60\/(b.length:Int)>60-cT then(Js,15)
 else({o with data:=nW o.data cT.toNat b},0)
def pM:List CC:=[.aa (.val (.int .i64 0)),.aB,.aB,.aa (.val (.string ⟨#[]⟩)),.aa (.val (.int .i64 0)),.aB,.aa (.val (.int .i64 0)),.aa (.val (.int .i64 0)),.aa (.val (.int .i64 0))]
theorem m7{m:Mem}:d8 m (.agg pM) (Gi Js):=by
 refine .agg rfl fun i c c' h1 h2=>?_
 match i,h1,h2 with
 |0,h1,h2=>cases h1;cases h2;exact .aa _
 |1,h1,h2=>cases h1;cases h2;exact .aB 1
 |2,h1,h2=>cases h1;cases h2;exact .aB 2
 |3,h1,h2=>cases h1;cases h2;exact .aa _
 |4,h1,h2=>cases h1;cases h2;exact .aa _
 |5,h1,h2=>cases h1;cases h2;exact .aB 4
 |6,h1,h2=>cases h1;cases h2;exact .aa _
 |7,h1,h2=>cases h1;cases h2;exact .aa _
 |8,h1,h2=>cases h1;cases h2;exact .aa _
 |n+9,h1,h2=>simp[pM]at h1
theorem Ae{m:Mem}{Q:Nat}{o:Obj}{D:List (List Dt)}(h:m[Q]? =some (.row 1 (af D))):d8 m (.agg (mB Q o)) (Gi {o with data:=D}):=by
 refine .agg rfl fun i c c' h1 h2=>?_
 match i,h1,h2 with
 |0,h1,h2=>cases h1;cases h2;exact .aa _
 |1,h1,h2=>cases h1;cases h2;exact dU.dX h 0 none
 |2,h1,h2=>cases h1;cases h2;exact .aa _
 |3,h1,h2=>cases h1;cases h2;exact .aa _
 |4,h1,h2=>cases h1;cases h2;exact .aa _
 |5,h1,h2=>cases h1;cases h2;exact .aa _
 |6,h1,h2=>cases h1;cases h2;exact .aa _
 |7,h1,h2=>cases h1;cases h2;exact .aa _
 |8,h1,h2=>cases h1;cases h2;exact .aa _
 |n+9,h1,h2=>simp[mB]at h1
theorem dl(d:List (List Dt)):(af d).length=d.length:=by simp[af]
theorem ya(D b:List (List Dt))(A:Nat):cF (af D) A (af b)=af (cF D A b):=by simp[cF,af,abd,abN]
theorem Jt(x:Nat):gu 0 x=x:=by simp[gu]
def lu:LC->LC
 | .seq _ b=>b
 |x=>x
def Wc:LC->LC
 | .cI a=>a
 |x=>x
def Z7:LC:=lu (lu (lu (lu c58.code)))
def Yb:LC:=Wc Z7
theorem Pi(o:Obj)(D b:List (List Dt))(A:Nat)(h:b.length≠0->A+b.length<=D.length):
  aw Tryz.prog 0 Yb (mJ Tryz.prog c58.jW (fun r m=>cw m r (.bF [Gi {o with data:=if b.length=0 then D else cF D A b},cC 0])))
   ⟨kR 68 [(1,an .i64 (A:Nat)),(2,pw 1 b),(6,.rv (.one (.ptr 0 0))),(8,.rv (.one (.ptr 2 0)))],[.var pM,.row 1 (af D),.var (mB 1 o)]⟩:=by
 have hm:=lU A D.length;have Z8:nC (an .i64 (if((lenOf (af D).length 0 none:Nat):Int)<(A:Int)then((lenOf (af D).length 0 none:Nat):Int)else(A:Int)))=some (df A D.length):=by have e:lenOf (af D).length 0 none=D.length:=dl D;rw[e,pL];rfl
 refine ag Z8 ?_;refine cj (by show(Nat.ble (df A D.length) (af D).length&&Nat.ble (af D).length ((af D).length-0))=true;rw[dl];simp[aak];omega) ?_
 by_cases hb:b.length=0
 .rw[if_pos hb];refine cj (by show Nat.beq (af b).length 0=true;rw[dl,hb];rfl) ?_
  exact i9 (Ae rfl)
 .rw[if_neg hb];have hle:=h hb;have Z9:df A D.length=A:=by unfold df;rw[if_neg om]
  rw[Z9];refine tJ (by show Nat.beq (af b).length 0=false;rw[dl];exact Bool.eq_false_iff.2 fun hh=>hb (Wh hh)) ?_
  refine cj (by have e1:=Jt A;show(Nat.beq 1 1&&(Nat.beq 1 1&&(Nat.ble (gu 0 (af D).length) (af D).length&&(Nat.ble (gu 0 A+(af b).length) (gu 0 (af D).length)&&eN (af b)))))=true;rw[iJ,e1,dl,dl,Jt D.length];simp[aak];omega) ?_
  refine i9 (Ae ?_);show some (Bk.row 1 (cF (af D) (gu 0 A) (af b)))=_;rw[Jt A,ya]
theorem CJ(o:Obj)(hf:o.mz)(cT:Int)(b:List (List Dt))(hb:b.length<=4194304):body Tryz.prog c58 [o.cv,an .i64 cT,pw 1 b] [] (fun r m=>cw m r (.bF [Gi (eh o cT b).1,cC (eh o cT b).2])):=by
 refine bA (fun h1=>?_) (fun h1=>?_)
 .have h1:o.ah=2:=h1;rw[eh,if_pos h1];exact i9 m7
 have h1:¬o.ah=2:=h1;refine bt (fun h2=>?_) (fun h2=>?_)
 .have h2:o.ah≠1:=h2;rw[eh,if_neg h1,if_pos h2];exact i9 m7
 have h2:¬o.ah≠1:=by simpa using h2
 refine aJ (fun h3=>?_) (fun h3=>?_)
 .rw[eh,if_neg h1,if_neg h2,if_pos h3];exact i9 m7
 have h3:¬cT<0:=h3;refine aJ (fun h4=>?_) (fun h4=>?_)
 .rw[eh,if_neg h1,if_neg h2,if_neg h3,if_pos (.inl h4)];exact i9 m7
 have h4:¬cT>60:=h4;have hw:IntKind.i64.wrap (60-cT)=60-cT:=by obtain⟨z,hz⟩:∃z:Nat,60-cT=(z:Int):=⟨(60-cT).toNat,om⟩;rw[hz,l9 om]
 refine aJ (fun h5=>?_) (fun h5=>?_)
 .have h5:(b.length:Int)>IntKind.i64.wrap (60-cT):=h5;rw[hw]at h5;rw[eh,if_neg h1,if_neg h2,if_neg h3,if_pos (.inr h5)];exact i9 m7
 have h5:¬(b.length:Int)>IntKind.i64.wrap (60-cT):=h5;rw[hw]at h5;rw[eh,if_neg h1,if_neg h2,if_neg h3,if_neg (fun h=>h.elim h4 h5)]
 obtain⟨A,rfl⟩:∃A:Nat,cT=A:=⟨cT.toNat,om⟩;rw[show((A:Nat):Int).toNat=A from rfl];have kj:=hf.1;refine nu (nS:=[cq [o]]) (m':=[.var (o.enc.map .aa),.var pM,.aO]) (View.o 3 [0,1,2] [2] (.put (.rv (.one (.eZ (dj.dX (Z:=fun k=>bz [2] k=true) (ds:=[o.enc]) rfl rfl 0 none)))) .nil)
  (.pe rfl rfl rfl (.pe rfl rfl rfl (.aO (.nil _))))) ?_
 refine Ma o hf ?_;obtain⟨N,hN⟩:∃N:Nat,N=if b.length=0 then 0 else A+b.length-o.data.length:=⟨_,rfl⟩
 have Yc:b.length=0->N=0:=fun h0=>by rw[hN,if_pos h0]
 have Yd:b.length≠0->N=A+b.length-o.data.length:=fun h0=>by rw[hN,if_neg h0]
 have aaa:N<=A+b.length-o.data.length:=by
  by_cases h0:b.length=0
  .rw[Yc h0];exact Wi _
  .rw[Yd h0];exact Pq _
 clear hN;have Pj:∀j,j<=N->(o.data++List.replicate j zb).length=o.data.length+j:=fun j _=>aI
 have Ye:IntKind.i64.wrap ((A:Int)+(b.length:Int))=((A+b.length:Nat):Int):=by
  rw[show(A:Int)+(b.length:Int)=((A+b.length:Nat):Int) by omega,l9 om]
 refine ba (fun j=>j<=N) [1,2] (fun j=>[(6,.rv (.one (.ptr 0 0))),(8,.rv (.one (.ptr 2 0)))]) (fun j=>[.var pM,.row 1 (af (o.data++List.replicate j zb)),.var (mB 1 o)]) (fun j=>N-j) 0 (Wi _) ?_ (fun j hj=>?_)
 .refine View.o1 6 [1,4,5] [] ?_
  .exact .pe rfl rfl rfl (.pt rfl rfl (.bP aI) (.pm rfl rfl rfl))
 have hj:j<=N:=hj;have hlen:lenOf (af (o.data++List.replicate j zb)).length 0 none=o.data.length+j:=by show(af (o.data++List.replicate j zb)).length=_;rw[dl,Pj j hj]
 have iu:∀(D:List (List Dt)),D=o.data++List.replicate j zb->(b.length≠0->A+b.length<=o.data.length+j)->aw Tryz.prog 0 Yb (mJ Tryz.prog c58.jW (fun r m=>cw m r (.bF [Gi {o with data:=nW o.data A b},cC 0])))
   ⟨kR 68 [(1,an .i64 (A:Nat)),(2,pw 1 b),(6,.rv (.one (.ptr 0 0))),(8,.rv (.one (.ptr 2 0)))],[.var pM,.row 1 (af D),.var (mB 1 o)]⟩:=fun D hD hh=>by
  have hs:=Pi o D b A (fun h0=>by rw[hD,Pj j hj];exact hh h0)
  have e:nW o.data A b=if b.length=0 then D else cF D A b:=by
   unfold nW;by_cases h0:b.length=0
   .rw[if_pos h0,if_pos h0,hD];have:=Yc h0;have ej:j=0:=om;rw[ej];simp
   .rw[if_neg h0,if_neg h0,hD];have:=hh h0;have ej:j=A+b.length-o.data.length:=om;rw[Ph,ej]
  rw[e];exact hs
 have out:∀e,gU (sg [0,1,2] 3) [.var pM,.row 1 (af (o.data++List.replicate j zb)),.var (mB 1 o)] (fun k=>bz [] k=true) e (kR 68 [(1,an .i64 (A:Nat)),(2,pw 1 b),(6,.rv (.one (.ptr 0 0))),(8,.rv (.one (.ptr 2 0)))])->
   View 0 ⟨e,[.var pM,.row 1 (af (o.data++List.replicate j zb)),.var (mB 1 o)]⟩ ⟨kR 68 [(1,an .i64 (A:Nat)),(2,pw 1 b),(6,.rv (.one (.ptr 0 0))),(8,.rv (.one (.ptr 2 0)))],[.var pM,.row 1 (af (o.data++List.replicate j zb)),.var (mB 1 o)]⟩:=fun e he=>
  View.o 3 [0,1,2] [] he (.pe rfl rfl rfl (.pr rfl rfl rfl (.pm rfl rfl rfl)))
 refine aJ (fun h6=>?_) (fun h6=>?_)
 .have h6:((lenOf (af (o.data++List.replicate j zb)).length 0 none:Nat):Int)<IntKind.i64.wrap ((A:Int)+(b.length:Int)):=h6;rw[hlen,Ye]at h6;refine aJ (fun h7=>?_) (fun h7=>?_)
  .have h7:(b.length:Int)>0:=h7;have:=Yd om;refine⟨by simp only[cu,dl,Wo,aaq,Pj j hj];omega,?_⟩
   refine⟨j+1,(show j+1<=N by omega),(show N-(j+1)<N-j by omega),View.o1 5 [0,4,2] [] ?_⟩
   .refine .pe rfl rfl rfl (.pt rfl rfl (.bP ?_) (.pm rfl rfl rfl));rw[List.replicate_succ'];simp[cu,af,zb]
  .have h7:¬(b.length:Int)>0:=h7;refine⟨_,out _ ?_,iu _ rfl (fun h0=>om)⟩
   repeat(first|exact .nil|refine .ar ?_|refine .eq rfl ?_)
 .have h6:¬((lenOf (af (o.data++List.replicate j zb)).length 0 none:Nat):Int)<IntKind.i64.wrap ((A:Int)+(b.length:Int)):=h6;rw[hlen,Ye]at h6;refine⟨_,out _ ?_,iu _ rfl (fun h0=>om)⟩
  repeat(first|exact .nil|refine .ar ?_|refine .eq rfl ?_)
theorem Af(o:Obj)(hf:o.mz)(cT:Int)(b:List (List Dt))(hb:b.length<=4194304){m:Mem}{K:CV->Mem->Prop}(h:K (.bF [Gi (eh o cT b).1,cC (eh o cT b).2]) m):aq Tryz.prog 58 [o.cv,an .i64 cT,pw 1 b] m K:=
 aY (ce Tryz.func58 l58 (CJ o hf cT b hb)) (by simp[Obj.cv,Obj.enc,pw,an,CV.c6,CC.c6,RV.c6]) fun r m1 hf=>⟨_,hf,h⟩
def jg(p Q k:Nat)(o:Obj):List CC:=[.aa (.val (.int .i64 o.ah)),.aa (.sl 1 o.data),(if k=p then .row Q 2 0 none else .aa (.sl 2 o.aj)),.aa (.val (.string o.target)),.aa (.val (.int .i64 o.aC)),
 .aa (.sl 4 (o.ak.map bo.enc)),.aa (.val (.int .i64 o.aM)),.aa (.val (.int .i64 o.am)),.aa (.val (.int .i64 o.up))]
def bL(p Q:Nat):Nat->List Obj->List (List CC)
 |_,[]=>[]
 |k,o::r=>jg p Q k o::bL p Q (k+1) r
theorem pN(p Q:Nat):∀(a:List Obj)(k:Nat)(b:List Obj),bL p Q k (a++b)=bL p Q k a++bL p Q (k+a.length) b
 | [],k,b=>rfl
 |o::r,k,b=>by simp[bL,pN p Q r (k+1) b,aao,Nat.add_comm 1]
theorem fk(p Q:Nat):∀(l:List Obj)(k:Nat),(bL p Q k l).length=l.length
 | [],_=>rfl
 |o::r,k=>by simp[bL,fk p Q r (k+1)]
theorem uj(p Q:Nat):∀(l:List Obj)(k:Nat),(p<k\/k+l.length<=p)->bL p Q k l=af (l.map Obj.enc)
 | [],_,_=>rfl
 |o::r,k,h=>by simp only[Wo]at h;have hk:¬k=p:=om;simp only[bL,jg,if_neg hk,uj p Q r (k+1) om];rfl
theorem fl(p Q:Nat):∀(l:List Obj)(k i:Nat),(bL p Q k l)[i]? =(l[i]?).map (jg p Q (k+i))
 | [],k,i=>by simp[bL]
 |o::r,k,0=>by simp[bL]
 |o::r,k,i+1=>by
  simp only[bL,aaU,fl p Q r (k+1) i];rw[show k+1+i=k+(i+1) by omega]
theorem Ju{σ:Nat->Nat}{p Q k:Nat}(o:Obj):(jg p Q k o).map (CC.aQ σ)=jg p (σ Q) k o:=by
 by_cases h:k=p<;>simp[jg,h,CC.aQ]
theorem lv{σ:Nat->Nat}(p Q:Nat):∀(l:List Obj)(k:Nat),(bL p Q k l).map (fun cs=>cs.map (CC.aQ σ))=bL p (σ Q) k l
 | [],_=>rfl
 |o::r,k=>by simp only[bL,aar,lv p Q r (k+1)];rw[Ju]
theorem yb(d:List (List Dt))(hb:d.length<=4194304):body Tryz.prog c128 [pw 2 d] [] (fun r m=>∃r' m',View 0 ⟨[r],m⟩ ⟨[r'],m'⟩/\r'= .rv (.one (.row 0 2 0 none))/\m'=[.row 2 (af d)]):=by
 have p0:((([]:List (List CC)).length+(d.map fun ds=>ds.map CC.aa).length)*24)<=140737488355328:=by simp;omega
 have iu:∃r' m',View 0 ⟨[CV.rv (.one (.row 1 2 0 none))],[.aO,.row 2 (cu ([]:List (List CC)) 0 none++d.map fun ds=>ds.map CC.aa)]⟩ ⟨[r'],m'⟩/\r'=CV.rv (.one (.row 0 2 0 none))/\m'=[Bk.row 2 (af d)]:=
  ⟨_,_,View.o 2 [1] [] (.eq rfl .nil) (.pn rfl rfl rfl),rfl,rfl⟩
 refine aD (fun h=>?_) (fun h=>?_)
 .have hd:d=[]:=Wg (by simpa using Wh h)
  refine⟨?_,p0,iu⟩;subst hd;exact⟨_,_,View.aB 0 2 0 rfl rfl rfl,rfl,rfl⟩
 .exact⟨p0,iu⟩
theorem CK(d:List (List Dt))(hb:d.length<=4194304){m:Mem}{K:CV->Mem->Prop}(h:K (.rv (.one (.row m.length 2 0 none))) (m++ [.row 2 (af d)])):aq Tryz.prog 128 [pw 2 d] m K:=by
 refine bw [] m.length rfl rfl rfl rfl (args0:=[pw 2 d]) rfl (fun i b' hi=>by simp at hi) (K0:=fun r m=>r= .rv (.one (.row 0 2 0 none))/\m=[.row 2 (af d)]) (bK (aX Tryz.func128 l128 (yb d hb)) fun r m1 h=>h) (fun r m1 hr=>?_)
 obtain⟨rfl,rfl⟩:=hr;refine⟨Wi _,?_⟩;show K (.rv (.one (.row (m.length+(0-0)) 2 0 none))) (gL m [.row 2 ((af d).map (fun cs=>cs.map (CC.aQ (sg [] m.length))))])
 rw[gd,cf];exact h
def yc(l:List Obj)(p k:Nat):Bk:=match Nat.blt p k with|true=>.row 2 (af (match l[p]? with|some o=>o.aj|none=>[]))|false=>.aO
theorem sP{σ:Nat->Nat}(l:List Obj)(p k:Nat):(yc l p k).aQ σ=yc l p k:=by
 unfold yc;split
 .exact Bk.jn _ _
 .rfl
theorem uk{p Q:Nat}{l:List Obj}{k:Nat}{o:Obj}(h:l[k]? =some o):bL p Q 0 (l.take (k+1))=bL p Q 0 (l.take k)++ [jg p Q k o]:=by have hk:=(Gf.1 h).1;rw[rV h,pN,Z3,abU om,aai];rfl
theorem Gj(l:List Obj)(hf:jV l)(p:Nat):body Tryz.prog c98 [cq l] [] (fun r m=>r= .rv (.one (.row 0 9 0 none))/\m=[.row 9 (bL p 1 0 l),yc l p l.length]):=by
 obtain⟨hl,P6⟩:=hf;refine ba (fun k=>k<=l.length) [0,9,10] (fun k=>[(11,an .i64 (k:Nat)),(3,.rv (.one (.row 0 9 0 none)))]) (fun k=>[.row 9 (bL p 1 0 (l.take k)),yc l p k]) (fun k=>l.length-k) 0 (Wi _) ?_ (fun k hk=>?_)
 .refine View.trans (View.aB 2 4 0 rfl rfl rfl) (View.trans (View.aB 3 9 1 rfl rfl rfl) (View.o1 2 [1,0] [] ?_))
  .exact .put (by simp[bz]) rfl (.eq rfl aI) (.aO (.nil _))
 .refine aJ (fun h=>?_) (fun h=>?_)
  .have aE:k<l.length:=by have h:(k:Int)<((l.map Obj.enc).length:Int):=h;rw[KB]at h;omega
   have hi:=sA aE;have KV:=P6 _ (Wl aE);have hg:dg (l.map Obj.enc) (k:Nat)=some (l[k].enc):=by rw[bI,NO,sA aE];rfl
   generalize l[k]=o at hi KV hg;obtain⟨ah,data,aj,target,aC,ak,aM,am,up⟩:=o;obtain⟨ID,Hm,Nu,Hn⟩:=KV;have ID:data.length<=4194304:=ID;have Hm:aj.length<=4194304:=Hm;have Nu:ak.length<=4194304:=Nu;have Hn:∀q,q∈ak->q.data.length<=4194304:=Hn;have hg:dg (l.map Obj.enc) (k:Nat)=some [.val (.int .i64 ah),.sl 1 data,.sl 2 aj,.val (.string target),.val (.int .i64 aC),.sl 4 (ak.map bo.enc),.val (.int .i64 aM),.val (.int .i64 am),.val (.int .i64 up)]:=hg;refine ag hg ?_;refine gl data ID ?_;refine⟨⟨rfl,trivial⟩,?_⟩;by_cases Ox:k=p
   .subst Ox;refine CK aj Hm ?_;refine⟨trivial,?_⟩;refine⟨trivial,?_⟩;refine⟨trivial,?_⟩;have hR:∀Q,bL k Q 0 (l.take k)=af ((l.take k).map Obj.enc):=fun Q=>uj k Q _ 0 (.inr (by simp;omega))
    have hd:yc l k k= .aO:=by
     have:Nat.blt k k=false:=Bool.eq_false_iff.2 fun h=>by rw[aaQ]at h;omega
     simp only[yc,this]
    rw[hd,hR];refine ba (fun j=>j<=ak.length) [0,3,5,9,10,11,24,25] (fun j=>[(26,an .i64 (j:Nat)),(6,.rv (.one (.row 4 4 0 none)))])
     (fun j=>[.row 9 (af ((l.take k).map Obj.enc)),.aO,.var [.aa (.val (.int .i64 ah)),.aa (.sl 1 data),.row 3 2 0 none,.aa (.val (.string target)),.aa (.val (.int .i64 aC)),.aa (.sl 4 (ak.map bo.enc)),.aa (.val (.int .i64 aM)),.aa (.val (.int .i64 am)),.aa (.val (.int .i64 up))],.row 2 (af aj),.row 4 (af ((ak.take j).map bo.enc))]) (fun j=>ak.length-j) 0 (Wi _) ?_ (fun j hj=>?_)
    .refine View.trans (View.aB 6 4 4 rfl rfl rfl) (View.o1 5 [0,1,2,3,4] [] ?_)
     .exact .pr rfl rfl rfl (.aO (.pe rfl rfl rfl (.pr rfl rfl rfl (.pn rfl rfl rfl))))
    .have hj:j<=ak.length:=hj;refine aJ (fun h=>?_) (fun h=>?_)
     .have dL:j<ak.length:=by have h:(j:Int)<((ak.map bo.enc).length:Int):=h;rw[KB]at h;omega
      have vl:=sA dL;have FQ:=Hn _ (Wl dL);generalize ak[j]=q at vl FQ;obtain⟨qd,qh,qo,qr⟩:=q;have yR:dg (ak.map bo.enc) (j:Nat)=some [.sl 1 qd,.val (.bool qh),.val (.int .i64 qo),.val (.int .i64 qr)]:=by rw[bI,NO,vl];rfl
      refine ag yR ?_;refine gl qd FQ ?_;refine⟨?_,?_⟩
      .show((af ((ak.take j).map bo.enc)).length+1)*48<=_;simp[af];omega
      refine⟨j+1,dL,(show ak.length-(j+1)<ak.length-j by omega),View.o 8 [0,1,2,3,7] [] ?_ ?_⟩
      .repeat(first|exact .nil|refine .ar ?_|refine .put (.aQ (aL om).symm) ?_|refine .eq rfl ?_)
      .refine .pr rfl rfl rfl (.aO (.pe rfl rfl rfl (.pr rfl rfl rfl (.pt rfl rfl (.bP ?_) (.nil _)))));rw[rV vl,aav,cN];rfl
     .have eu:¬(j:Int)<((ak.map bo.enc).length:Int):=h;rw[KB]at eu;have hq:ak.take j=ak:=aaR om;refine⟨?_,?_⟩
      .show((af ((l.take k).map Obj.enc)).length+1)*128<=_;simp[af];omega
      have OS:yc l k (k+1)= .row 2 (af aj):=by
       have:Nat.blt k (k+1)=true:=by rw[aaQ];omega
       simp only[yc,this,hi]
      refine⟨k+1,aE,(show l.length-(k+1)<l.length-k by omega),View.o 7 [6,3] [4] ?_ ?_⟩
      .repeat(first|exact .nil|refine .ar ?_|refine .put (.aQ (aL om).symm) ?_|refine .eq rfl ?_)
      .rw[uk hi,OS,hR];refine .pt rfl rfl (.B6 (gd _ _) rfl ?_) (.pn rfl rfl rfl);intro j' c c' h1 h2;have e5:jg k 1 k ⟨ah,data,aj,target,aC,ak,aM,am,up⟩=[.aa (.val (.int .i64 ah)),.aa (.sl 1 data),.row 1 2 0 none,.aa (.val (.string target)),.aa (.val (.int .i64 aC)),.aa (.sl 4 ((ak.take j).map bo.enc)),.aa (.val (.int .i64 aM)),.aa (.val (.int .i64 am)),.aa (.val (.int .i64 up))]:=by simp[jg,hq]
       rw[e5]at h2
       match j',h1,h2 with
       |0,h1,h2=>cases h1;cases h2;exact .aQ (.aa _)
       |1,h1,h2=>cases h1;cases h2;exact .aQ (.aa _)
       |2,h1,h2=>cases h1;cases h2;exact .aQ (.row 1 2 0 none)
       |3,h1,h2=>cases h1;cases h2;exact .aQ (.aa _)
       |4,h1,h2=>cases h1;cases h2;exact .aQ (.aa _)
       |5,h1,h2=>cases h1;cases h2;exact .eZ (dj.dX (Z:=fun k=>bz [4] k=true) rfl (by rw[<-aU];rfl) 0 none)
       |6,h1,h2=>cases h1;cases h2;exact .aQ (.aa _)
       |7,h1,h2=>cases h1;cases h2;exact .aQ (.aa _)
       |8,h1,h2=>cases h1;cases h2;exact .aQ (.aa _)
       |n+9,h1,h2=>simp at h1
   .refine qC aj Hm ?_;refine⟨trivial,?_⟩;refine⟨trivial,?_⟩;refine⟨trivial,?_⟩;refine ba (fun j=>j<=ak.length) [0,3,5,9,10,11,24,25] (fun j=>[(26,an .i64 (j:Nat)),(6,.rv (.one (.row 3 4 0 none)))])
     (fun j=>[.row 9 (bL p 1 0 (l.take k)),yc l p k,.var ((⟨ah,data,aj,target,aC,ak,aM,am,up⟩:Obj).enc.map .aa),.row 4 (af ((ak.take j).map bo.enc))]) (fun j=>ak.length-j) 0 (Wi _) ?_ (fun j hj=>?_)
    .refine View.trans (View.aB 6 4 3 rfl rfl rfl) (View.o1 4 [0,1,2,3] [] ?_)
     .exact .pt rfl rfl (.eq (congrArg (Bk.row 9) (lv p 1 _ _)) aI) (.wh (ez rfl) rfl (sP l p k) (.pe rfl rfl rfl (.pn rfl rfl rfl)))
    .have hj:j<=ak.length:=hj;refine aJ (fun h=>?_) (fun h=>?_)
     .have dL:j<ak.length:=by have h:(j:Int)<((ak.map bo.enc).length:Int):=h;rw[KB]at h;omega
      have vl:=sA dL;have FQ:=Hn _ (Wl dL);generalize ak[j]=q at vl FQ;obtain⟨qd,qh,qo,qr⟩:=q;have yR:dg (ak.map bo.enc) (j:Nat)=some [.sl 1 qd,.val (.bool qh),.val (.int .i64 qo),.val (.int .i64 qr)]:=by rw[bI,NO,vl];rfl
      refine ag yR ?_;refine gl qd FQ ?_;refine⟨?_,?_⟩
      .show((af ((ak.take j).map bo.enc)).length+1)*48<=_;simp[af];omega
      refine⟨j+1,dL,(show ak.length-(j+1)<ak.length-j by omega),View.o 7 [0,1,2,6] [] ?_ ?_⟩
      .repeat(first|exact .nil|refine .ar ?_|refine .put (.aQ (aL om).symm) ?_|refine .eq rfl ?_)
      .refine .pt rfl rfl (.eq (congrArg (Bk.row 9) (lv p 1 _ _)) aI) (.wh (ez rfl) rfl (sP l p k) (.pe rfl rfl rfl (.pt rfl rfl (.bP ?_) (.nil _))));rw[rV vl,aav,cN];rfl
     .have eu:¬(j:Int)<((ak.map bo.enc).length:Int):=h;rw[KB]at eu;have hq:ak.take j=ak:=aaR om;refine⟨?_,?_⟩
      .show((bL p 1 0 (l.take k)).length+1)*128<=_;rw[fk];simp;omega
      have OS:yc l p (k+1)=yc l p k:=by
       have:Nat.blt p (k+1)=Nat.blt p k:=by rw[acd,aaQ,aaQ];omega
       simp only[yc,this]
      refine⟨k+1,aE,(show l.length-(k+1)<l.length-k by omega),View.o 6 [5,1] [3] ?_ ?_⟩
      .repeat(first|exact .nil|refine .ar ?_|refine .put (.aQ (aL om).symm) ?_|refine .eq rfl ?_)
      .rw[uk hi,OS];refine .pt rfl rfl (.B6 (lv p 1 _ _) rfl ?_) (.wh (ez rfl) rfl (sP l p k) (.nil _));intro j' c c' h1 h2;have e5:jg p 1 k ⟨ah,data,aj,target,aC,ak,aM,am,up⟩=[.aa (.val (.int .i64 ah)),.aa (.sl 1 data),.aa (.sl 2 aj),.aa (.val (.string target)),.aa (.val (.int .i64 aC)),.aa (.sl 4 ((ak.take j).map bo.enc)),.aa (.val (.int .i64 aM)),.aa (.val (.int .i64 am)),.aa (.val (.int .i64 up))]:=by simp[jg,Ox,hq]
       rw[e5]at h2
       match j',h1,h2 with
       |0,h1,h2=>cases h1;cases h2;exact .aQ (.aa _)
       |1,h1,h2=>cases h1;cases h2;exact .aQ (.aa _)
       |2,h1,h2=>cases h1;cases h2;exact .aQ (.aa _)
       |3,h1,h2=>cases h1;cases h2;exact .aQ (.aa _)
       |4,h1,h2=>cases h1;cases h2;exact .aQ (.aa _)
       |5,h1,h2=>cases h1;cases h2;exact .eZ (dj.dX (Z:=fun k=>bz [3] k=true) rfl (by rw[<-aU];rfl) 0 none)
       |6,h1,h2=>cases h1;cases h2;exact .aQ (.aa _)
       |7,h1,h2=>cases h1;cases h2;exact .aQ (.aa _)
       |8,h1,h2=>cases h1;cases h2;exact .aQ (.aa _)
       |n+9,h1,h2=>simp at h1
  .have eu:¬(k:Int)<((l.map Obj.enc).length:Int):=h;rw[KB]at eu;have fj:k=l.length:=by have:k<=l.length:=hk;omega
   subst fj;rw[aal];exact⟨rfl,rfl⟩
theorem yf(l:List Obj)(hf:jV l)(p:Nat){m:Mem}{K:CV->Mem->Prop}(h:K (.rv (.one (.row m.length 9 0 none))) (m++ [.row 9 (bL p (m.length+1) 0 l),yc l p l.length])):aq Tryz.prog 98 [cq l] m K:=by
 refine bw [] m.length rfl rfl rfl rfl rfl (fun i b' hi=>by simp at hi) (aX Tryz.func98 l98 (Gj l hf p)) (fun r m1 hr=>?_)
 obtain⟨h1,h2⟩:=hr;subst h1;subst h2;refine⟨Wi _,?_⟩;show K (.rv (.one (.row (m.length+(0-0)) 9 0 none))) (gL m [.row 9 ((bL p 1 0 l).map (fun cs=>cs.map (CC.aQ (sg [] m.length)))),(yc l p l.length).aQ (sg [] m.length)])
 rw[lv,sP,cf];exact h
def c108:LF:= ⟨46,[.tmp 6],(.seq (.ai [qu 6 (.aF (qi 0))]) (.seq (.seq (.ai [qm 9 1,qu 10 (.aH .lss 9 (qi 0)),qm 11 10,qg 12 (.aF 1) 11 false,qg 13 (.aF 0) 11 false,qg 14 (.len 1 13) 11 false,qg 15 (.aH .geq 12 14) 11 false,qu 16 (.pick 11 (qb true) 15),qm 17 16,qg 18 (.aF 0) 17 false,qg 19 (.aF 1) 17 false,qg 20 (.cr 9 18 19) 17 false,qg 21 (.bX 0 20) 17 false,qg 22 (.load false 1 21) 17 false,qg 23 (.aH .neq 22 (qi 2)) 17 false,qu 24 (.pick 17 (qb true) 23)]) (.cond 24 (.seq (.ai [qu 6 (.aF (qi (-1)))]) .ret) .skip)) (.seq (.ai [qm 26 0,qm 27 1,qu 28 (.cr 9 26 27),qf 29 2 28,ql 30 29,qm 31 2,qu 32 (qc 134 [30,31,(.c (.rv (.one (.fn 135 []))))]),qm 25 32,qu 33 (.ext 25 0),qu 34 (.ext 25 1),qm 7 33,qm 8 34]) (.seq (.seq (.ai [qm 35 8,qu 36 (.un .not 35)]) (.cond 36 (.seq (.ai [qu 6 (.aF (qi (-1)))]) .ret) .skip)) (.seq (.ai [qm 37 0,qm 38 1,qu 39 (.cr 9 37 38),qf 40 2 39,ql 41 40,qm 42 7,qu 43 (.cr 2 41 42),qf 44 1 43,ql 45 44,qm 6 45]) .ret)))))⟩
def c139:LF:= ⟨9,[.tmp 4],(.seq (.ai [qu 2 (.box 0),qu 4 (.aF (qi 0))]) (.seq (.ai [qf 5 0 2,ql 6 5,qm 7 1,qu 8 (qc 136 [6,7]),qm 4 8]) .ret))⟩
theorem l139:bs Tryz.prog Tryz.f139=some c139:=by kernel_rfl
theorem l108:bs Tryz.prog Tryz.f108=some c108:=by kernel_rfl
theorem Ag(e:ByteArray×Int)(s:ByteArray):body Tryz.prog c139 [ue e,dh s] [] (fun r m=>r=an .i64 (jF e.1 s)):=
 Jk e.1 s rfl
theorem Pk(e:ByteArray×Int)(s:ByteArray){m:Mem}{K:CV->Mem->Prop}(h:K (an .i64 (jF e.1 s)) m):aq Tryz.prog 139 [ue e,dh s] m K:=
 bu Tryz.func139 l139 rfl (V5 rfl) (Ag e s) rfl rfl h
def ul(l:List Obj)(es:List (ByteArray×Int))(cD:Nat)(s:ByteArray):Int:=if xY es s=true then(match es[oA es s]? with|some e=>e.2|none=>0)else -1
theorem CL(l:List Obj)(cD:Nat)(hd:cD<l.length)(hk:l[cD].ah=2)(es:List (ByteArray×Int))(he:l[cD].aj=es.map cK)(hl:es.length<=2147483648)(s:ByteArray):body Tryz.prog c108 [cq l,an .i64 (cD:Nat),dh s] [] (fun r m=>r=an .i64 (ul l es cD s)):=by
 have hg:dg (l.map Obj.enc) (cD:Nat)=some l[cD].enc:=by rw[bI,NO,sA hd];rfl
 generalize l[cD]=o at hg hk he;obtain⟨ah,data,aj,target,aC,ak,aM,am,up⟩:=o;have hk:ah=2:=hk;have he:aj=es.map cK:=he;subst hk he;have hg:dg (l.map Obj.enc) (cD:Nat)=some [.val (.int .i64 2),.sl 1 data,.sl 2 (es.map cK),.val (.string target),.val (.int .i64 aC),.sl 4 (ak.map bo.enc),.val (.int .i64 aM),.val (.int .i64 am),.val (.int .i64 up)]:=hg;refine aJ (fun h1=>?_) (fun h1=>?_)
 .exfalso;have h1:(cD:Int)>=((l.map Obj.enc).length:Int):=h1;rw[KB]at h1;omega
 refine ag hg ?_;refine ag hg ?_;refine Jl es hl s 135 (fun e m K h=>NN e s h) ?_
 refine aD (fun h2=>?_) (fun h2=>?_)
 .have h2:xY es s=false:=by simpa using h2
  show an _ _=an _ _;rw[ul,if_neg (by rw[h2];simp)]
 .have h2:xY es s=true:=by simpa using h2
  refine ag hg ?_;have aE:oA es s<es.length:=by
   unfold xY at h2;split at h2
   .rename_i e he;exact(Gf.1 he).1
   .cases h2
  refine ag (m5 aE) ?_;show an _ _=an _ _;rw[ul,if_pos h2,sA aE]
theorem Ah(l:List Obj)(cD:Nat)(hd:cD<l.length)(hk:l[cD].ah=2)(es:List (ByteArray×Int))(he:l[cD].aj=es.map cK)(hl:es.length<=2147483648)(s:ByteArray){m:Mem}{K:CV->Mem->Prop}(h:K (an .i64 (ul l es cD s)) m):aq Tryz.prog 108 [cq l,an .i64 (cD:Nat),dh s] m K:=
 bu Tryz.func108 l108 rfl (V5 rfl) (CL l cD hd hk es he hl s) (by simp[cq,an,dh,CV.c6,CC.c6,RV.c6]) rfl h
theorem CM(l:List Ob)(ok:lT l)(cD:Nat)(hd:cD<l.length)(hk:l[cD].ah=2)(w:bp.cQ):body Tryz.prog c108 [xL l,an .i64 (cD:Nat),bp.vT w] [] (fun r m=>r=an .i64 (jH l cD w)):=by
 obtain⟨yg,aab,hlen,BC⟩:=ok.dF cD;have BC:=BC hd;have hf:jH l cD w=(if xY (gG (iT l cD)) (bp.b7 w)=true then(match (gG (iT l cD))[oA (gG (iT l cD)) (bp.b7 w)]? with|some e=>e.2|none=>0)else -1):=rX yg (iA _ _) (EJ yg _)
 rw[hf];have hg:=ln hd;generalize gG (iT l cD)=es at*
 generalize l[cD]=o at hg hk BC;obtain⟨ah,data,aj,target,aC,ak,aM,am,up⟩:=o;have hk:ah=2:=hk;have he:aj=es.map cK:=BC;subst hk he;refine aJ (fun h1=>?_) (fun h1=>?_)
 .exfalso;have h1:(cD:Int)>=((l.map Ob.enc).length:Int):=h1;rw[KB]at h1;omega
 refine ag hg ?_;refine ag hg ?_;refine Jl es om (bp.b7 w) 135 (fun e m K h=>NN e (bp.b7 w) h) ?_
 refine aD (fun h2=>?_) (fun h2=>?_)
 .have h2:xY es (bp.b7 w)=false:=by simpa using h2
  show an _ _=an _ _;rw[if_neg (by rw[h2];simp)]
 .have h2:xY es (bp.b7 w)=true:=by simpa using h2
  refine ag hg ?_;have aE:oA es (bp.b7 w)<es.length:=by
   unfold xY at h2;split at h2
   .rename_i e he;exact(Gf.1 he).1
   .cases h2
  refine ag (m5 aE) ?_;show an _ _=an _ _;rw[if_pos h2,sA aE]
theorem Jv(l:List Ob)(ok:lT l)(cD:Nat)(hd:cD<l.length)(hk:l[cD].ah=2)(w:bp.cQ){m:Mem}{K:CV->Mem->Prop}(h:K (an .i64 (jH l cD w)) m):aq Tryz.prog 108 [xL l,an .i64 (cD:Nat),bp.vT w] m K:=
 bu Tryz.func108 l108 rfl (V5 rfl) (CM l ok cD hd hk w) rfl rfl h
def Qm(l:List Ob)(au:Int):Nat->Int->Bool
 |0,_=>false
 |n+1,d=>if lN l d 2=false then false else if d=au then true else if d=0 then false else Qm l au n (iT l d.toNat).up
theorem um{l:List Ob}{au:Int}(V:List Nat)(h:∀x,x∈V->(x:Int)≠au/\∃y,y∈V/\(iT l x).up=(y:Nat)):∀(n x:Nat),x∈V->Qm l au n (x:Nat)=false
 |0,_,_=>rfl
 |n+1,x,hx=>by
  obtain⟨h1,y,hy,h2⟩:=h x hx;rw[Qm];by_cases hI:lN l x 2=false
  .rw[if_pos hI]
  rw[if_neg hI,if_neg h1];by_cases h0:(x:Int)=0
  .rw[if_pos h0]
  rw[if_neg h0,Wk,h2];exact um V h n y hy
theorem uo:∀{N:Nat}{V:List Nat},V.Nodup->(∀x,x∈V->x<N)->V.length<=N
 |0,V,_,h=>by
  cases V with
  |nil=>exact Pq _
  |cons x r=>exact absurd (h x aI) (aah x)
 |N+1,V,hd,h=>by
  by_cases hm:N∈V
  .have h1:=List.length_erase_of_mem hm;have h2:=uo (N:=N) (hd.erase N) fun x hx=>by rw[hd.mem_erase_iff]at hx;have:=h x hx.2;have:=hx.1;omega
   have:=List.length_pos_of_mem hm;omega
  .have:=uo (N:=N) hd fun x hx=>by
    have h1:=h x hx;have:x≠N:=fun e=>hm (e▸hx)
    omega
   omega
structure Pl where
 d:Int
 V:List Nat
structure Mb(l:List Ob)(au cD:Int)(a:Pl):Prop where
 nd:a.V.Nodup
 rg:∀x,x∈a.V->x<l.length
 cl:∀x,x∈a.V->(x:Int)≠au/\((iT l x).up=a.d\/∃y,y∈a.V/\(iT l x).up=(y:Nat))
 eq:Qm l au (l.length+1-a.V.length) a.d=Qm l au (l.length+1) cD
theorem Mb.le{l:List Ob}{au cD:Int}{a:Pl}(h:Mb l au cD a):a.V.length<=l.length:=uo h.nd h.rg
theorem Mb.sj{l:List Ob}{au cD:Int}{a:Pl}(h:Mb l au cD a){n:Nat}(hn:a.d=n)(hm:n∈a.V):Qm l au (l.length+1) cD=false:=by
 rw[<-h.eq,hn];refine um a.V (fun x hx=>?_) _ n hm
 obtain⟨h1,h2⟩:=h.cl x hx;refine⟨h1,?_⟩;rcases h2 with h2|h2
 .exact⟨n,hm,h2.trans hn⟩
 .exact h2
def c132:LF:= ⟨32,[.tmp 2],(.seq (.ai [qu 2 (.aF (qb false))]) (.seq (.seq (.bU [qm 3 0,qu 4 (.aT 3),qf 5 4 4,ql 6 5,qm 7 0,qu 8 (.aT 7),qf 9 1 8,ql 10 9,qu 11 (.aH .eql 6 10),qm 12 11,qg 13 (.aF 0) 12 true,qg 14 (.aT 13) 12 true,qg 15 (.bX 2 14) 12 true,qg 16 (.load false 1 15) 12 true,qu 17 (.pick 12 16 (qb false))] [(.cons 0 none (.cons 1 none (.cons 2 none (.cons 3 none (.cons 4 none (.cons 5 none (.cons 6 none (.cons 7 none (.cons 8 none (.cons 9 none (.cons 10 none (.cons 11 none (.cons 12 none (.cons 13 none (.cons 14 none .nil)))))))))))))))]) (.cond 17 (.seq (.ai [qu 2 (.aF (qb false))]) .ret) .skip)) (.seq (.bU [qm 18 0,qm 19 0,qu 20 (.aT 19),qf 21 0 20,ql 22 21,qm 23 0,qu 24 (.aT 23),qf 25 4 24,ql 26 25,qu 27 (.cr 9 22 26),qf 28 8 27,ql 29 28,qu 30 (.aT 18),qf 31 4 30,qw (.store 1 31 29)] [(.cons 0 none (.cons 1 none (.cons 2 none (.cons 3 none (.cons 4 none (.cons 5 none (.cons 6 none (.cons 7 none (.cons 8 none (.cons 9 none (.cons 10 none (.cons 11 none (.cons 12 none (.cons 13 none (.cons 14 (some []) .nil)))))))))))))))]) (.seq (.ai [qu 2 (.aF (qb true))]) .ret))))⟩
def c133:LF:= ⟨48,[.tmp 4],(.seq (.ai [qu 4 (.aF (qi 0))]) (.seq (.seq (.ai [qm 8 0,qu 9 (.aT 8),qf 10 3 9,ql 11 10,qu 12 (.aH .eql 11 (qi 6))]) (.cond 12 (.seq (.ai [qu 4 (.aF (qi 13))]) .ret) .skip)) (.seq (.ai [qm 13 0,qu 14 (.aT 13),qf 15 3 14,ql 16 15,qu 17 (.aH .add 16 (qi 1)),qu 18 (.aT 13),qf 19 3 18,qw (.store 1 19 17)]) (.seq (.ai [qm 21 1,qu 22 (qc 66 [21]),qm 20 22,qu 23 (.ext 20 0),qu 24 (.ext 20 1),qu 25 (.ext 20 2),qm 5 23,qm 6 24,qm 7 25]) (.seq (.seq (.ai [qm 26 7,qu 27 (.aH .neq 26 (qi 0))]) (.cond 27 (.seq (.ai [qm 28 7,qm 4 28]) .ret) .skip)) (.seq (.seq (.ai [qm 29 6]) (.cond 29 (.seq (.seq (.ai [qm 30 0,qu 31 (.aT 30),qf 32 2 31,ql 33 32]) (.cond 33 (.seq (.ai [qu 4 (.aF (qi 14))]) .ret) .skip)) (.ai [qm 34 0,qu 35 (.aT 34),qf 36 4 35,qw (.store 1 36 (qi 0))])) .skip)) (.seq (.bU [qm 37 0,qu 38 (.l5 1 [(.aa (.val (.string ⟨#[]⟩)))] 0 []),qm 39 5,qu 40 (.mE 1 16 38 39),qm 41 0,qu 42 (.aT 41),qf 43 5 42,ql 44 43,qu 45 (.mE 1 16 40 44),qu 46 (.aT 37),qf 47 5 46,qw (.store 1 47 45)] [(.cons 0 none (.cons 2 none (.cons 4 none (.cons 5 none (.cons 6 none (.cons 7 none (.cons 1 (some [7]) (.cons 3 (some [7]) (.cons 8 (some []) (.cons 9 none (.cons 10 none (.cons 11 (some []) .nil))))))))))))]) (.seq (.ai [qu 4 (.aF (qi 0))]) .ret))))))))⟩
theorem l132:bs Tryz.prog Tryz.f132=some c132:=by kernel_rfl
theorem l133:bs Tryz.prog Tryz.f133=some c133:=by kernel_rfl
def q8(l:List Ob)(au:Nat)(ax:Bool)(h a:Nat)(t:List bp.cQ):Bk:= .var [.aa (LL l),.aa (.val (.int .i64 (au:Nat))),.aa (.val (.bool ax)),.aa (.val (.int .i64 (h:Nat))),.aa (.val (.int .i64 (a:Nat))),.aa (bp.Uj t)]
theorem uq(l:List Ob)(au:Nat)(ax:Bool)(h a:Nat)(t:List bp.cQ):q8 l au ax h a t≠.aO:=by intro x;cases x
theorem Jy{f:Nat}{args:List CV}(ha:∀σ,args.map (CV.aQ σ)=args){l:List Ob}{au:Nat}{ax:Bool}{h a:Nat}{t:List bp.cQ}{Q:CV->Nat->Nat->List bp.cQ->Prop}(hr:∀r h a t,Q r h a t->∀σ,r.aQ σ=r)(hc:aq Tryz.prog f (.rv (.one (.ptr 0 0))::args) [q8 l au ax h a t] (fun r m=>∃h' a' t',m=[q8 l au ax h' a' t']/\Q r h' a' t')){m:Mem}(id:Nat)(hb:cR m id=some (q8 l au ax h a t)){K:CV->Mem->Prop}(hK:∀r h' a' t',Q r h' a' t'->K r (aZ m id (q8 l au ax h' a' t'))):aq Tryz.prog f (.rv (.one (.ptr id 0))::args) m K:=by
 have hid:id<m.length:=by rw[aU]at hb;exact(Gf.1 hb).1
 refine bw [id] m.length rfl rfl rfl (by simp[eR,hid]) (args0:= .rv (.one (.ptr 0 0))::args) (by rw[aar,ha];rfl) (fun i b' hi=>?_) hc (fun r1 m1 yQ=>?_)
 .cases i with
  |zero=>
   simp at hi;subst hi;refine .inr ⟨fun h=>h,_,?_,.eq rfl (uq _ _ _ _ _ _)⟩
   rw[aU]at hb;exact hb
  |succ i=>simp at hi
 .obtain⟨h',a',t',rfl,hq⟩:=yQ;refine⟨Pq _,?_⟩;rw[hr _ _ _ _ hq];show K r1 (cU m [id] [q8 l au ax h' a' t']);rw[zJ];exact hK _ _ _ _ hq
theorem Gk{r:CV}{l:List Ob}{au:Nat}{ax:Bool}{h a:Nat}{t:List bp.cQ}{X:Mem}(hr:∀σ,r.aQ σ=r):View 1 ⟨[r],q8 l au ax h a t::X⟩ ⟨[r],[q8 l au ax h a t]⟩:=
 View.of (X.length+1) [0] [] rfl rfl rfl rfl rfl (by simp[eR,Nat.blt]) (.eq (hr _) .nil) (.pt rfl rfl (.eq rfl (uq _ _ _ _ _ _)) (.nil _))
def Yf(l:List Ob)(au:Nat)(ax:Bool)(h a:Nat)(t:List bp.cQ)(r:CV)(h' a':Nat)(t':List bp.cQ):Prop:=
 h'=h/\t'=t/\((ax=true/\a=au)/\r=ay false/\a'=a\/¬(ax=true/\a=au)/\r=ay true/\a'=x8 l a)
theorem Mc(l:List Ob)(ok:lT l)(au:Nat)(ax:Bool)(h a:Nat)(ha:a<l.length)(t:List bp.cQ):body Tryz.prog c132 [.rv (.one (.ptr 0 0))] [q8 l au ax h a t] (fun r m=>∃h' a' t',m=[q8 l au ax h' a' t']/\Yf l au ax h a t r h' a' t'):=by
 have hg:=ln ha;have hu:=ok.Jp ha;refine bA (fun h1=>?_) (fun h1=>?_)
 .cases ax with
  |true=>exact⟨_,_,_,rfl,rfl,rfl,.inl ⟨⟨rfl,om⟩,rfl,rfl⟩⟩
  |false=>
   refine ag hg ?_;refine⟨trivial,?_⟩;rw[hu];exact⟨_,_,_,rfl,rfl,rfl,.inr ⟨aI,rfl,rfl⟩⟩
 .refine ag hg ?_;refine⟨trivial,?_⟩;rw[hu];exact⟨_,_,_,rfl,rfl,rfl,.inr ⟨fun h=>h1 (by rw[h.2]),rfl,rfl⟩⟩
theorem Sv(l:List Ob)(ok:lT l)(au:Nat)(ax:Bool)(h a:Nat)(ha:a<l.length)(t:List bp.cQ){m:Mem}(id:Nat)(hb:cR m id=some (q8 l au ax h a t)){K:CV->Mem->Prop}(RA:(ax=true/\a=au)->K (ay false) (aZ m id (q8 l au ax h a t)))(hK2:¬(ax=true/\a=au)->K (ay true) (aZ m id (q8 l au ax h (x8 l a) t))):aq Tryz.prog 132 [.rv (.one (.ptr id 0))] m K:=by
 refine Jy (args:=[]) (fun _=>rfl) (Q:=Yf l au ax h a t) (fun r h a t hq σ=>?_) (aX Tryz.func132 l132 (Mc l ok au ax h a ha t)) id hb (fun r h' a' t' hq=>?_)
 .rcases hq.2.2 with⟨_,rfl,_⟩|⟨_,rfl,_⟩<;>rfl
 .obtain⟨rfl,rfl,hq⟩:=hq;rcases hq with⟨h1,rfl,rfl⟩|⟨h1,rfl,rfl⟩
  .exact RA h1
  .exact hK2 h1
theorem oC(t:bp.cQ):(bp.cm t).1.length<=61:=by
 unfold bp.cm;split
 .simp
 .split
  .simp
  .split
   .show(bp.x7 t).length<=61;have h1:=abj bp.pJ (bp.fK 47 t);have h2:=bp.ug 47 t;unfold bp.x7;omega
   .simp
inductive K4(p:List bp.cQ×Bool×Int)(ax:Bool)(h a:Nat)(t:List bp.cQ):CV->Nat->Nat->List bp.cQ->Prop
 |loop (h' a':Nat) (t':List bp.cQ) (h6:h=6):K4 p ax h a t (an .i64 13) h' a' t'
 |f4 (h' a':Nat) (t':List bp.cQ) (h6:h≠6) (he:p.2.2≠0):K4 p ax h a t (an .i64 p.2.2) h' a' t'
 |out (h' a':Nat) (t':List bp.cQ) (h6:h≠6) (he:p.2.2=0) (hr:p.2.1=true) (hf:ax=true):K4 p ax h a t (an .i64 14) h' a' t'
 |ok (h6:h≠6) (he:p.2.2=0) (hr:¬(p.2.1=true/\ax=true)):K4 p ax h a t (an .i64 0) (h+1) (if p.2.1=true then 0 else a) (p.1++t)
theorem K4.data{p:List bp.cQ×Bool×Int}{ax:Bool}{h a:Nat}{t:List bp.cQ}{r:CV}{h' a':Nat}{t':List bp.cQ}(x:K4 p ax h a t r h' a' t')(σ:Nat->Nat):r.aQ σ=r:=by cases x<;>rfl
def Yg(Q:CV->Mem->Prop)(r:CV)(m:Mem):Prop:=∃r' m',View 1 ⟨[r],m⟩ ⟨[r'],m'⟩/\Q r' m'
theorem Md(a b:List bp.cQ):af (a.map bp.tD)++af (b.map bp.tD)=af ((a++b).map bp.tD):=by rw[aav,bp.cN]
theorem Sw{m:Mem}{Z:Nat->Prop}{id:Nat}{p:Option Nat}{X:List (List CC)}{ds:List (List Dt)}(hz:Z id)(hm:m[id]? =some (.row 1 X))(hX:X=af ds):dj m Z p (.row id 1 0 none) (.sl 1 ds):=by
 subst hX;refine dj.row id 1 0 none (af ds) ds hz hm (by simp[af]) (fun i cs es h1 h2=>?_) (fun i cs es j c d h1 h2 h3 h4=>?_)
 .simp only[af,NO,h2,Wn,Wm]at h1;subst h1;simp
 .simp only[af,NO,h2,Wn,Wm]at h1;subst h1;rw[NO,h4]at h3;cases h3;exact .aa _
theorem Sx{l:List Ob}{au:Nat}{ax:Bool}{h a:Nat}{t parts:List bp.cQ}{m:Mem}{σ:Nat->Nat}(hm:m[3]? =some (.row 1 ((([]:List (List CC))++af (parts.map bp.tD))++af (t.map bp.tD)))):
  lA σ m (fun k=>bz [3] k=true) 0 (.var [.aa (LL l),.aa (.val (.int .i64 (au:Nat))),.aa (.val (.bool ax)),.aa (.val (.int .i64 (h:Nat))),.aa (.val (.int .i64 (a:Nat))),.row 3 1 0 none]) (q8 l au ax h a (parts++t)):=
 eC.var (.cons (.aQ (.aa _)) (.cons (.aQ (.aa _)) (.cons (.aQ (.aa _)) (.cons (.aQ (.aa _)) (.cons (.aQ (.aa _)) (.cons (.eZ (Sw rfl hm (by rw[aca];exact Md parts t))) .nil))))))
theorem Gl(l:List Ob)(au:Nat)(ax:Bool)(h a:Nat)(hh:h<=6)(t:List bp.cQ)(ht:t.length<=1000)(s:bp.cQ):
  body Tryz.prog c133 [.rv (.one (.ptr 0 0)),bp.vT s] [q8 l au ax h a t] (Yg fun r m=>∃h' a' t',m=[q8 l au ax h' a' t']/\K4 (bp.cm s) ax h a t r h' a' t'):=by
 refine bA (fun h1=>?_) (fun h1=>?_)
 .exact⟨_,_,Gk (X:=[]) (fun _=>rfl),_,_,_,rfl,.loop _ _ _ om⟩
 have h6:h≠6:=fun e=>h1 (by rw[e];rfl)
 refine bp.uh s ?_;have hp:=oC s;generalize bp.cm s=p at hp⊢;obtain⟨parts,ap,er⟩:=p;have hp:parts.length<=61:=hp;have e1:IntKind.i64.wrap ((h:Int)+1)=((h+1:Nat):Int):=by
  rw[show(h:Int)+1=((h+1:Nat):Int) by omega,l9 om]
 rw[e1];refine bt (fun h2=>?_) (fun h2=>?_)
 .exact⟨_,_,Gk (h:=h+1) (X:=[]) (fun _=>rfl),_,_,_,rfl,.f4 _ _ _ h6 h2⟩
 have h2:er=0:=by simpa using h2
 subst h2;cases ap with
 |true=>
  cases ax with
  |true=>exact⟨_,_,Gk (h:=h+1) (X:=[]) (fun _=>rfl),_,_,_,rfl,.out _ _ _ h6 rfl rfl rfl⟩
  |false=>
   refine⟨⟨rfl,trivial⟩,?_⟩;refine⟨?_,?_⟩
   .show(0+(af (parts.map bp.tD)).length)*16<=_;rw[bp.bb,KB];omega
   refine⟨⟨rfl,trivial⟩,?_⟩;refine⟨?_,?_⟩
   .show((([]:List (List CC))++af (parts.map bp.tD)).length+(af (t.map bp.tD)).length)*16<=_;rw[aaH,bp.bb,bp.bb,KB,KB];show(0+parts.length+t.length)*16<=_;omega
   refine⟨trivial,?_⟩;refine⟨trivial,?_⟩;exact⟨_,_,View.o 4 [0] [3] (.eq rfl .nil) (.pt rfl rfl (Sx (t:=t) (parts:=parts) rfl) (.nil _)),_,_,_,rfl,.ok h6 rfl aI⟩
 |false=>
  refine⟨⟨rfl,trivial⟩,?_⟩;refine⟨?_,?_⟩
  .show(0+(af (parts.map bp.tD)).length)*16<=_;rw[bp.bb,KB];omega
  refine⟨⟨rfl,trivial⟩,?_⟩;refine⟨?_,?_⟩
  .show((([]:List (List CC))++af (parts.map bp.tD)).length+(af (t.map bp.tD)).length)*16<=_;rw[aaH,bp.bb,bp.bb,KB,KB];show(0+parts.length+t.length)*16<=_;omega
  refine⟨trivial,?_⟩;refine⟨trivial,?_⟩;exact⟨_,_,View.o 4 [0] [3] (.eq rfl .nil) (.pt rfl rfl (Sx (t:=t) (parts:=parts) rfl) (.nil _)),_,_,_,rfl,.ok h6 rfl aI⟩
theorem EK(l:List Ob)(au:Nat)(ax:Bool)(h a:Nat)(hh:h<=6)(t:List bp.cQ)(ht:t.length<=1000)(s:bp.cQ){m:Mem}(id:Nat)(hb:cR m id=some (q8 l au ax h a t)){K:CV->Mem->Prop}(hK:∀r h' a' t',K4 (bp.cm s) ax h a t r h' a' t'->K r (aZ m id (q8 l au ax h' a' t'))):aq Tryz.prog 133 [.rv (.one (.ptr id 0)),bp.vT s] m K:=
 Jy (args:=[bp.vT s]) (fun _=>rfl) (Q:=K4 (bp.cm s) ax h a t) (fun r h a t hq σ=>hq.data σ)
  (bK (aX Tryz.func133 l133 (Gl l au ax h a hh t ht s)) fun r m1⟨r',m',hv,hq⟩=>⟨r',m',hv,hq⟩) id hb hK
end Go.Proofs.YtodckkkbiidffaaGreatDoor
