/- Part 26 of 41: what the law stands on. -/
import Derived.Test.YthagjdhjmamakaaGreatDoorT16
import Derived.Test.YthagjdhjmamakaaGreatDoorT18
import Derived.Test.YthagjdhjmamakaaGreatDoorT22
import Derived.Test.YthagjdhjmamakaaGreatDoorT24
import Derived.Test.YthagjdhjmamakaaGreatDoorT25
set_option linter.unusedVariables false
set_option linter.unusedSimpArgs false
set_option linter.unnecessarySimpa false
set_option maxRecDepth 100000
set_option maxHeartbeats 64000000
namespace Go.Proofs.YthagjdhjmamakaaGreatDoor
open Go.AM Go.ChangeShapes Go.WideShapes Go.ChangeAt Go.RowKit
def c51:LF:= ⟨68,[.cell true 9 6,.tmp 7],(.seq (.ai [qu 3 (.box 0),qu 6 (.alloc [(qd 0),.aB,.aB,(.aa (.val (.string ⟨#[]⟩))),(qd 0),.aB,(qd 0),(qd 0),(qd 0)]),qu 7 (.aD (qi 0))]) (.seq (.block 0 (.seq (.ai [qf 10 0 3,ql 11 10,qu 12 (.aE .eql 11 (qi 2)),qm 9 12]) (.cond 9 (.seq (.ai [qu 13 (.build [(qd 0),.aB,.aB,(.aa (.val (.string ⟨#[]⟩))),(qd 0),.aB,(qd 0),(qd 0),(qd 0)] []),qw (.store 9 6 13),qu 7 (.aD (qi 12))]) .ret) (.seq (.ai [qf 15 0 3,ql 16 15,qu 17 (.aE .neq 16 (qi 1)),qm 14 17]) (.cond 14 (.seq (.ai [qu 18 (.build [(qd 0),.aB,.aB,(.aa (.val (.string ⟨#[]⟩))),(qd 0),.aB,(qd 0),(qd 0),(qd 0)] []),qw (.store 9 6 18),qu 7 (.aD (qi 8))]) .ret) (.seq (.ai [qm 20 1,qu 21 (.aE .lss 20 (qi 0)),qm 19 21]) (.cond 19 (.seq (.ai [qu 22 (.build [(qd 0),.aB,.aB,(.aa (.val (.string ⟨#[]⟩))),(qd 0),.aB,(qd 0),(qd 0),(qd 0)] []),qw (.store 9 6 22),qu 7 (.aD (qi 3))]) .ret) (.seq (.ai [qm 24 1,qu 25 (.aE .gtr 24 (qi 60)),qm 26 25,qg 27 (.aD 2) 26 false,qg 28 (.len 1 27) 26 false,qg 29 (.aD 1) 26 false,qg 30 (.aE .sub (qi 60) 29) 26 false,qg 31 (.aE .gtr 28 30) 26 false,qu 32 (.pick 26 (qb true) 31),qm 23 32]) (.cond 23 (.seq (.ai [qu 33 (.build [(qd 0),.aB,.aB,(.aa (.val (.string ⟨#[]⟩))),(qd 0),.aB,(qd 0),(qd 0),(qd 0)] []),qw (.store 9 6 33),qu 7 (.aD (qi 15))]) .ret) .skip))))))))) (.seq (.ai [qL 34 9 3,qu 35 (.lu 9 [(qd 0),.aB,.aB,(.aa (.val (.string ⟨#[]⟩))),(qd 0),.aB,(qd 0),(qd 0),(qd 0)] 1 [(0,34)]),qu 36 (qc 91 [35]),qu 37 (.b7 9 36 (qi 0)),qL 38 9 37,qu 8 (.alloc [(qd 0),.aB,.aB,(.aa (.val (.string ⟨#[]⟩))),(qd 0),.aB,(qd 0),(qd 0),(qd 0)]),qw (.store 9 8 38)]) (.seq (.block 1 (.loop (.seq (.seq (.ai [qf 39 1 8,ql 40 39,qu 41 (.len 1 40),qm 42 1,qm 43 2,qu 44 (.len 1 43),qu 45 (.aE .add 42 44),qu 46 (.aE .lss 41 45),qm 47 46,qg 48 (.aD 2) 47 true,qg 49 (.len 1 48) 47 true,qg 50 (.aE .gtr 49 (qi 0)) 47 true,qu 51 (.pick 47 50 (qb false))]) (.cond 51 .skip (.exit 1))) (.block 2 (.ai [qf 52 1 8,ql 53 52,qu 54 (.lu 1 [(.aa (.val (.int .u8 (0))))] 1 [(0,(.c (.rv (.one (.aa (.val (.int .u8 (0))))))))]),qu 55 (.mY 1 1 53 54),qf 56 1 8,qw (.store 1 56 55)]))))) (.cL (.seq (.ai [qf 57 1 8,ql 58 57,qm 59 1,qf 60 1 8,ql 61 60,qu 62 (.len 1 61),qu 63 (.iS false [59,62]),qu 64 (.m6 1 58 (some 63) none none),qm 65 2,qu 66 (.copy 1 64 65)]) (.seq (.ai [qL 67 9 8,qw (.store 9 6 67),qu 7 (.aD (qi 0))]) .ret)))))))⟩
theorem l51:bq Tryz.prog Tryz.f51=some c51.er:=by kernel_rfl
def zb:List Dt:=[.val (.int .u8 0)]
def QE(d:List (List Dt))(n:Nat):List (List Dt):=d++List.replicate (n-d.length) zb
def mK(d:List (List Dt))(A:Nat)(b:List (List Dt)):List (List Dt):=if b.length=0 then d else cC (QE d (A+b.length)) A b
def KN:Obj:=⟨0,[],[],⟨#[]⟩,0,[],0,0,0⟩
def HC(o:Obj):RV:= .agg (o.enc.map .aa)
def dR(o:Obj)(cU:Int)(b:List (List Dt)):Obj×Int:=
 if o.ah=2 then(KN,12)else if o.ah≠1 then(KN,8)else if cU<0 then(KN,3)else if cU>60\/(b.length:Int)>60-cU then(KN,15)
 else({o with data:=mK o.data cU.toNat b},0)
def qp:List CC:=[.aa (.val (.int .i64 0)),.aB,.aB,.aa (.val (.string ⟨#[]⟩)),.aa (.val (.int .i64 0)),.aB,.aa (.val (.int .i64 0)),.aa (.val (.int .i64 0)),.aa (.val (.int .i64 0))]
theorem nC{m:Mem}:eh m (.agg qp) (HC KN):=by
 refine .agg rfl fun i c c' h1 h2=>?_
 match i,h1,h2 with
 |0,h1,h2=>cases h1;cases h2;exact .aa _
 |1,h1,h2=>cases h1;cases h2;exact .aB 1
 |2,h1,h2=>cases h1;cases h2;exact .aB 2
 |3,h1,h2=>cases h1;cases h2;exact .aa _
 |4,h1,h2=>cases h1;cases h2;exact .aa _
 |5,h1,h2=>cases h1;cases h2;exact .aB 4
 |6,h1,h2=>cases h1;cases h2;exact .aa _
 |7,h1,h2=>cases h1;cases h2;exact .aa _
 |8,h1,h2=>cases h1;cases h2;exact .aa _
 |n+9,h1,h2=>simp[qp]at h1
theorem Bc{m:Mem}{Q:Nat}{o:Obj}{D:List (List Dt)}(h:m[Q]? =some (.row 1 (af D))):eh m (.agg (mW Q o)) (HC {o with data:=D}):=by
 refine .agg rfl fun i c c' h1 h2=>?_
 match i,h1,h2 with
 |0,h1,h2=>cases h1;cases h2;exact .aa _
 |1,h1,h2=>cases h1;cases h2;exact dY.d6 h 0 none
 |2,h1,h2=>cases h1;cases h2;exact .aa _
 |3,h1,h2=>cases h1;cases h2;exact .aa _
 |4,h1,h2=>cases h1;cases h2;exact .aa _
 |5,h1,h2=>cases h1;cases h2;exact .aa _
 |6,h1,h2=>cases h1;cases h2;exact .aa _
 |7,h1,h2=>cases h1;cases h2;exact .aa _
 |8,h1,h2=>cases h1;cases h2;exact .aa _
 |n+9,h1,h2=>simp[mW]at h1
theorem dp(d:List (List Dt)):(af d).length=d.length:=by simp[af]
theorem yW(D b:List (List Dt))(A:Nat):cC (af D) A (af b)=af (cC D A b):=by simp[cC,af,abc,abD]
theorem KO(x:Nat):gB 0 x=x:=by simp[gB]
def lQ:LC->LC
 | .seq _ b=>b
 |x=>x
def XG:LC->LC
 | .cL a=>a
 |x=>x
def C57:LC:=lQ (lQ (lQ (lQ c51.code)))
def ZG:LC:=XG C57
theorem QF(o:Obj)(D b:List (List Dt))(A:Nat)(h:b.length≠0->A+b.length<=D.length):
  aw Tryz.prog 0 ZG (nb Tryz.prog c51.ki (fun r m=>cw m r (.bG [HC {o with data:=if b.length=0 then D else cC D A b},cD 0])))
   ⟨lB 68 [(1,an .i64 (A:Nat)),(2,pV 1 b),(6,.rv (.one (.ptr 0 0))),(8,.rv (.one (.ptr 2 0)))],[.var qp,.row 1 (af D),.var (mW 1 o)]⟩:=by
 have hm:=mj A D.length;have hmi:oi (an .i64 (if((lenOf (af D).length 0 none:Nat):Int)<(A:Int)then((lenOf (af D).length 0 none:Nat):Int)else(A:Int)))=some (dJ A D.length):=by have e:lenOf (af D).length 0 none=D.length:=dp D;rw[e,qn];rfl
 refine ag hmi ?_;refine b8 (by show(Nat.ble (dJ A D.length) (af D).length&&Nat.ble (af D).length ((af D).length-0))=true;rw[dp];simp[aap];omega) ?_
 by_cases hb:b.length=0
 .rw[if_pos hb];refine b8 (by show Nat.beq (af b).length 0=true;rw[dp,hb];rfl) ?_
  exact jm (Bc rfl)
 .rw[if_neg hb];have hle:=h hb;have hmA:dJ A D.length=A:=by unfold dJ;rw[if_neg om]
  rw[hmA];refine sM (by show Nat.beq (af b).length 0=false;rw[dp];exact Bool.eq_false_iff.2 fun hh=>hb (XM hh)) ?_
  refine b8 (by have e1:=KO A;show(Nat.beq 1 1&&(Nat.beq 1 1&&(Nat.ble (gB 0 (af D).length) (af D).length&&(Nat.ble (gB 0 A+(af b).length) (gB 0 (af D).length)&&eS (af b)))))=true;rw[iX,e1,dp,dp,KO D.length];simp[aap];omega) ?_
  refine jm (Bc ?_);show some (Bk.row 1 (cC (af D) (gB 0 A) (af b)))=_;rw[KO A,yW]
theorem DR(o:Obj)(hf:o.mU)(cU:Int)(b:List (List Dt))(hb:b.length<=4194304):body Tryz.prog c51 [o.cv,an .i64 cU,pV 1 b] [] (fun r m=>cw m r (.bG [HC (dR o cU b).1,cD (dR o cU b).2])):=by
 refine bz (fun h1=>?_) (fun h1=>?_)
 .have h1:o.ah=2:=h1;rw[dR,if_pos h1];exact jm nC
 have h1:¬o.ah=2:=h1;refine bu (fun h2=>?_) (fun h2=>?_)
 .have h2:o.ah≠1:=h2;rw[dR,if_neg h1,if_pos h2];exact jm nC
 have h2:¬o.ah≠1:=by simpa using h2
 refine aJ (fun h3=>?_) (fun h3=>?_)
 .rw[dR,if_neg h1,if_neg h2,if_pos h3];exact jm nC
 have h3:¬cU<0:=h3;refine aJ (fun h4=>?_) (fun h4=>?_)
 .rw[dR,if_neg h1,if_neg h2,if_neg h3,if_pos (.inl h4)];exact jm nC
 have h4:¬cU>60:=h4;have hw:IntKind.i64.wrap (60-cU)=60-cU:=by obtain⟨z,hz⟩:∃z:Nat,60-cU=(z:Int):=⟨(60-cU).toNat,om⟩;rw[hz,gO om]
 refine aJ (fun h5=>?_) (fun h5=>?_)
 .have h5:(b.length:Int)>IntKind.i64.wrap (60-cU):=h5;rw[hw]at h5;rw[dR,if_neg h1,if_neg h2,if_neg h3,if_pos (.inr h5)];exact jm nC
 have h5:¬(b.length:Int)>IntKind.i64.wrap (60-cU):=h5;rw[hw]at h5;rw[dR,if_neg h1,if_neg h2,if_neg h3,if_neg (fun h=>h.elim h4 h5)]
 obtain⟨A,rfl⟩:∃A:Nat,cU=A:=⟨cU.toNat,om⟩;rw[show((A:Nat):Int).toNat=A from rfl];have kI:=hf.1;refine ir (lJ:=[cq [o]]) (m':=[.var (o.enc.map .aa),.var qp,.aZ]) (View.o 3 [0,1,2] [2] (.put (.rv (.one (.eu (dm.d6 (Z:=fun k=>bs [2] k=true) (ds:=[o.enc]) rfl rfl 0 none)))) .nil)
  (.pe rfl rfl rfl (.pe rfl rfl rfl (.aZ (.nil _))))) ?_
 refine Np o hf ?_;obtain⟨N,hN⟩:∃N:Nat,N=if b.length=0 then 0 else A+b.length-o.data.length:=⟨_,rfl⟩
 have ZH:b.length=0->N=0:=fun h0=>by rw[hN,if_pos h0]
 have ZI:b.length≠0->N=A+b.length-o.data.length:=fun h0=>by rw[hN,if_neg h0]
 have abG:N<=A+b.length-o.data.length:=by
  by_cases h0:b.length=0
  .rw[ZH h0];exact XL _
  .rw[ZI h0];exact QN _
 clear hN;have QG:∀j,j<=N->(o.data++List.replicate j zb).length=o.data.length+j:=fun j _=>aK
 have ZJ:IntKind.i64.wrap ((A:Int)+(b.length:Int))=((A+b.length:Nat):Int):=by
  rw[show(A:Int)+(b.length:Int)=((A+b.length:Nat):Int) by omega,gO om]
 refine aX (fun j=>j<=N) [1,2] (fun j=>[(6,.rv (.one (.ptr 0 0))),(8,.rv (.one (.ptr 2 0)))]) (fun j=>[.var qp,.row 1 (af (o.data++List.replicate j zb)),.var (mW 1 o)]) (fun j=>N-j) 0 (XL _) ?_ (fun j hj=>?_)
 .refine View.o1 6 [1,4,5] [] ?_
  .exact .pe rfl rfl rfl (.pt rfl rfl (.bR aK) (.pm rfl rfl rfl))
 have hj:j<=N:=hj;have hlen:lenOf (af (o.data++List.replicate j zb)).length 0 none=o.data.length+j:=by show(af (o.data++List.replicate j zb)).length=_;rw[dp,QG j hj]
 have hU:∀(D:List (List Dt)),D=o.data++List.replicate j zb->(b.length≠0->A+b.length<=o.data.length+j)->aw Tryz.prog 0 ZG (nb Tryz.prog c51.ki (fun r m=>cw m r (.bG [HC {o with data:=mK o.data A b},cD 0])))
   ⟨lB 68 [(1,an .i64 (A:Nat)),(2,pV 1 b),(6,.rv (.one (.ptr 0 0))),(8,.rv (.one (.ptr 2 0)))],[.var qp,.row 1 (af D),.var (mW 1 o)]⟩:=fun D hD hh=>by
  have hs:=QF o D b A (fun h0=>by rw[hD,QG j hj];exact hh h0)
  have e:mK o.data A b=if b.length=0 then D else cC D A b:=by
   unfold mK;by_cases h0:b.length=0
   .rw[if_pos h0,if_pos h0,hD];have:=ZH h0;have ej:j=0:=om;rw[ej];simp
   .rw[if_neg h0,if_neg h0,hD];have:=hh h0;have ej:j=A+b.length-o.data.length:=om;rw[QE,ej]
  rw[e];exact hs
 have out:∀e,ia (sg [0,1,2] 3) [.var qp,.row 1 (af (o.data++List.replicate j zb)),.var (mW 1 o)] (fun k=>bs [] k=true) e (lB 68 [(1,an .i64 (A:Nat)),(2,pV 1 b),(6,.rv (.one (.ptr 0 0))),(8,.rv (.one (.ptr 2 0)))])->
   View 0 ⟨e,[.var qp,.row 1 (af (o.data++List.replicate j zb)),.var (mW 1 o)]⟩ ⟨lB 68 [(1,an .i64 (A:Nat)),(2,pV 1 b),(6,.rv (.one (.ptr 0 0))),(8,.rv (.one (.ptr 2 0)))],[.var qp,.row 1 (af (o.data++List.replicate j zb)),.var (mW 1 o)]⟩:=fun e he=>
  View.o 3 [0,1,2] [] he (.pe rfl rfl rfl (.pr rfl rfl rfl (.pm rfl rfl rfl)))
 refine aJ (fun h6=>?_) (fun h6=>?_)
 .have h6:((lenOf (af (o.data++List.replicate j zb)).length 0 none:Nat):Int)<IntKind.i64.wrap ((A:Int)+(b.length:Int)):=h6;rw[hlen,ZJ]at h6;refine aJ (fun h7=>?_) (fun h7=>?_)
  .have h7:(b.length:Int)>0:=h7;have:=ZI om;refine⟨by simp only[ct,dp,XR,aat,QG j hj];omega,?_⟩
   refine⟨j+1,(show j+1<=N by omega),(show N-(j+1)<N-j by omega),View.o1 5 [0,4,2] [] ?_⟩
   .refine .pe rfl rfl rfl (.pt rfl rfl (.bR ?_) (.pm rfl rfl rfl));rw[List.replicate_succ'];simp[ct,af,zb]
  .have h7:¬(b.length:Int)>0:=h7;refine⟨_,out _ ?_,hU _ rfl (fun h0=>om)⟩
   repeat(first|exact .nil|refine .aq ?_|refine .eq rfl ?_)
 .have h6:¬((lenOf (af (o.data++List.replicate j zb)).length 0 none:Nat):Int)<IntKind.i64.wrap ((A:Int)+(b.length:Int)):=h6;rw[hlen,ZJ]at h6;refine⟨_,out _ ?_,hU _ rfl (fun h0=>om)⟩
  repeat(first|exact .nil|refine .aq ?_|refine .eq rfl ?_)
theorem Bd(o:Obj)(hf:o.mU)(cU:Int)(b:List (List Dt))(hb:b.length<=4194304){m:Mem}{K:CV->Mem->Prop}(h:K (.bG [HC (dR o cU b).1,cD (dR o cU b).2]) m):ar Tryz.prog 51 [o.cv,an .i64 cU,pV 1 b] m K:=
 aY (cf Tryz.func51 l51 (DR o hf cU b hb)) (by simp[Obj.cv,Obj.enc,pV,an,CV.c7,CC.c7,RV.c7]) fun r m1 hf=>⟨_,hf,h⟩
def jq(p Q k:Nat)(o:Obj):List CC:=[.aa (.val (.int .i64 o.ah)),.aa (.sl 1 o.data),(if k=p then .row Q 2 0 none else .aa (.sl 2 o.aj)),.aa (.val (.string o.target)),.aa (.val (.int .i64 o.aG)),
 .aa (.sl 4 (o.ak.map bp.enc)),.aa (.val (.int .i64 o.aM)),.aa (.val (.int .i64 o.am)),.aa (.val (.int .i64 o.up))]
def bL(p Q:Nat):Nat->List Obj->List (List CC)
 |_,[]=>[]
 |k,o::r=>jq p Q k o::bL p Q (k+1) r
theorem qq(p Q:Nat):∀(a:List Obj)(k:Nat)(b:List Obj),bL p Q k (a++b)=bL p Q k a++bL p Q (k+a.length) b
 | [],k,b=>rfl
 |o::r,k,b=>by simp[bL,qq p Q r (k+1) b,aau,Nat.add_comm 1]
theorem fv(p Q:Nat):∀(l:List Obj)(k:Nat),(bL p Q k l).length=l.length
 | [],_=>rfl
 |o::r,k=>by simp[bL,fv p Q r (k+1)]
theorem u3(p Q:Nat):∀(l:List Obj)(k:Nat),(p<k\/k+l.length<=p)->bL p Q k l=af (l.map Obj.enc)
 | [],_,_=>rfl
 |o::r,k,h=>by simp only[XR]at h;have hk:¬k=p:=om;simp only[bL,jq,if_neg hk,u3 p Q r (k+1) om];rfl
theorem fw(p Q:Nat):∀(l:List Obj)(k i:Nat),(bL p Q k l)[i]? =(l[i]?).map (jq p Q (k+i))
 | [],k,i=>by simp[bL]
 |o::r,k,0=>by simp[bL]
 |o::r,k,i+1=>by
  simp only[bL,aaQ,fw p Q r (k+1) i];rw[show k+1+i=k+(i+1) by omega]
theorem KP{σ:Nat->Nat}{p Q k:Nat}(o:Obj):(jq p Q k o).map (CC.aP σ)=jq p (σ Q) k o:=by
 by_cases h:k=p<;>simp[jq,h,CC.aP]
theorem lR{σ:Nat->Nat}(p Q:Nat):∀(l:List Obj)(k:Nat),(bL p Q k l).map (fun cs=>cs.map (CC.aP σ))=bL p (σ Q) k l
 | [],_=>rfl
 |o::r,k=>by simp only[bL,aay,lR p Q r (k+1)];rw[KP]
theorem yX(d:List (List Dt))(hb:d.length<=4194304):body Tryz.prog c121 [pV 2 d] [] (fun r m=>∃r' m',View 0 ⟨[r],m⟩ ⟨[r'],m'⟩/\r'= .rv (.one (.row 0 2 0 none))/\m'=[.row 2 (af d)]):=by
 have qK:((([]:List (List CC)).length+(d.map fun ds=>ds.map CC.aa).length)*24)<=140737488355328:=by simp;omega
 have hU:∃r' m',View 0 ⟨[CV.rv (.one (.row 1 2 0 none))],[.aZ,.row 2 (ct ([]:List (List CC)) 0 none++d.map fun ds=>ds.map CC.aa)]⟩ ⟨[r'],m'⟩/\r'=CV.rv (.one (.row 0 2 0 none))/\m'=[Bk.row 2 (af d)]:=
  ⟨_,_,View.o 2 [1] [] (.eq rfl .nil) (.pn rfl rfl rfl),rfl,rfl⟩
 refine ay (fun h=>?_) (fun h=>?_)
 .have hd:d=[]:=XJ (by simpa using XM h)
  refine⟨?_,qK,hU⟩;subst hd;exact⟨_,_,View.aB 0 2 0 rfl rfl rfl,rfl,rfl⟩
 .exact⟨qK,hU⟩
theorem DT(d:List (List Dt))(hb:d.length<=4194304){m:Mem}{K:CV->Mem->Prop}(h:K (.rv (.one (.row m.length 2 0 none))) (m++ [.row 2 (af d)])):ar Tryz.prog 121 [pV 2 d] m K:=by
 refine bv [] m.length rfl rfl rfl rfl (args0:=[pV 2 d]) rfl (fun i b' hi=>by simp at hi) (K0:=fun r m=>r= .rv (.one (.row 0 2 0 none))/\m=[.row 2 (af d)]) (bK (aW Tryz.func121 l121 (yX d hb)) fun r m1 h=>h) (fun r m1 hr=>?_)
 obtain⟨rfl,rfl⟩:=hr;refine⟨XL _,?_⟩;show K (.rv (.one (.row (m.length+(0-0)) 2 0 none))) (gX m [.row 2 ((af d).map (fun cs=>cs.map (CC.aP (sg [] m.length))))])
 rw[gm,cg];exact h
def yY(l:List Obj)(p k:Nat):Bk:=match Nat.blt p k with|true=>.row 2 (af (match l[p]? with|some o=>o.aj|none=>[]))|false=>.aZ
theorem tK{σ:Nat->Nat}(l:List Obj)(p k:Nat):(yY l p k).aP σ=yY l p k:=by
 unfold yY;split
 .exact Bk.jz _ _
 .rfl
theorem u4{p Q:Nat}{l:List Obj}{k:Nat}{o:Obj}(h:l[k]? =some o):bL p Q 0 (l.take (k+1))=bL p Q 0 (l.take k)++ [jq p Q k o]:=by have hk:=(Hy.1 h).1;rw[sU h,qq,Z3,ab3 om,aak];rfl
theorem HD(l:List Obj)(hf:kg l)(p:Nat):body Tryz.prog c91 [cq l] [] (fun r m=>r= .rv (.one (.row 0 9 0 none))/\m=[.row 9 (bL p 1 0 l),yY l p l.length]):=by
 obtain⟨hl,Ry⟩:=hf;refine aX (fun k=>k<=l.length) [0,9,10] (fun k=>[(11,an .i64 (k:Nat)),(3,.rv (.one (.row 0 9 0 none)))]) (fun k=>[.row 9 (bL p 1 0 (l.take k)),yY l p k]) (fun k=>l.length-k) 0 (XL _) ?_ (fun k hk=>?_)
 .refine View.trans (View.aB 2 4 0 rfl rfl rfl) (View.trans (View.aB 3 9 1 rfl rfl rfl) (View.o1 2 [1,0] [] ?_))
  .exact .put (by simp[bs]) rfl (.eq rfl aK) (.aZ (.nil _))
 .refine aJ (fun h=>?_) (fun h=>?_)
  .have aF:k<l.length:=by have h:(k:Int)<((l.map Obj.enc).length:Int):=h;rw[LW]at h;omega
   have hi:=tq aF;have Mo:=Ry _ (XP aF);have hg:dg (l.map Obj.enc) (k:Nat)=some (l[k].enc):=by rw[bF,O6,tq aF];rfl
   generalize l[k]=o at hi Mo hg;obtain⟨ah,data,aj,target,aG,ak,aM,am,up⟩:=o;obtain⟨JV,IH,ON,II⟩:=Mo;have JV:data.length<=4194304:=JV;have IH:aj.length<=4194304:=IH;have ON:ak.length<=4194304:=ON;have II:∀q,q∈ak->q.data.length<=4194304:=II;have hg:dg (l.map Obj.enc) (k:Nat)=some [.val (.int .i64 ah),.sl 1 data,.sl 2 aj,.val (.string target),.val (.int .i64 aG),.sl 4 (ak.map bp.enc),.val (.int .i64 aM),.val (.int .i64 am),.val (.int .i64 up)]:=hg;refine ag hg ?_;refine gv data JV ?_;refine⟨⟨rfl,trivial⟩,?_⟩;by_cases PQ:k=p
   .subst PQ;refine DT aj IH ?_;refine⟨trivial,?_⟩;refine⟨trivial,?_⟩;refine⟨trivial,?_⟩;have hR:∀Q,bL k Q 0 (l.take k)=af ((l.take k).map Obj.enc):=fun Q=>u3 k Q _ 0 (.inr (by simp;omega))
    have hd:yY l k k= .aZ:=by
     have:Nat.blt k k=false:=Bool.eq_false_iff.2 fun h=>by rw[aaO]at h;omega
     simp only[yY,this]
    rw[hd,hR];refine aX (fun j=>j<=ak.length) [0,3,5,9,10,11,24,25] (fun j=>[(26,an .i64 (j:Nat)),(6,.rv (.one (.row 4 4 0 none)))])
     (fun j=>[.row 9 (af ((l.take k).map Obj.enc)),.aZ,.var [.aa (.val (.int .i64 ah)),.aa (.sl 1 data),.row 3 2 0 none,.aa (.val (.string target)),.aa (.val (.int .i64 aG)),.aa (.sl 4 (ak.map bp.enc)),.aa (.val (.int .i64 aM)),.aa (.val (.int .i64 am)),.aa (.val (.int .i64 up))],.row 2 (af aj),.row 4 (af ((ak.take j).map bp.enc))]) (fun j=>ak.length-j) 0 (XL _) ?_ (fun j hj=>?_)
    .refine View.trans (View.aB 6 4 4 rfl rfl rfl) (View.o1 5 [0,1,2,3,4] [] ?_)
     .exact .pr rfl rfl rfl (.aZ (.pe rfl rfl rfl (.pr rfl rfl rfl (.pn rfl rfl rfl))))
    .have hj:j<=ak.length:=hj;refine aJ (fun h=>?_) (fun h=>?_)
     .have dP:j<ak.length:=by have h:(j:Int)<((ak.map bp.enc).length:Int):=h;rw[LW]at h;omega
      have wn:=tq dP;have Hc:=II _ (XP dP);generalize ak[j]=q at wn Hc;obtain⟨qd,qh,qo,qr⟩:=q;have zP:dg (ak.map bp.enc) (j:Nat)=some [.sl 1 qd,.val (.bool qh),.val (.int .i64 qo),.val (.int .i64 qr)]:=by rw[bF,O6,wn];rfl
      refine ag zP ?_;refine gv qd Hc ?_;refine⟨?_,?_⟩
      .show((af ((ak.take j).map bp.enc)).length+1)*48<=_;simp[af];omega
      refine⟨j+1,dP,(show ak.length-(j+1)<ak.length-j by omega),View.o 8 [0,1,2,3,7] [] ?_ ?_⟩
      .repeat(first|exact .nil|refine .aq ?_|refine .put (.aP (aL om).symm) ?_|refine .eq rfl ?_)
      .refine .pr rfl rfl rfl (.aZ (.pe rfl rfl rfl (.pr rfl rfl rfl (.pt rfl rfl (.bR ?_) (.nil _)))));rw[sU wn,aax,cG];rfl
     .have ef:¬(j:Int)<((ak.map bp.enc).length:Int):=h;rw[LW]at ef;have hq:ak.take j=ak:=aaV om;refine⟨?_,?_⟩
      .show((af ((l.take k).map Obj.enc)).length+1)*128<=_;simp[af];omega
      have Qd:yY l k (k+1)= .row 2 (af aj):=by
       have:Nat.blt k (k+1)=true:=by rw[aaO];omega
       simp only[yY,this,hi]
      refine⟨k+1,aF,(show l.length-(k+1)<l.length-k by omega),View.o 7 [6,3] [4] ?_ ?_⟩
      .repeat(first|exact .nil|refine .aq ?_|refine .put (.aP (aL om).symm) ?_|refine .eq rfl ?_)
      .rw[u4 hi,Qd,hR];refine .pt rfl rfl (.Dd (gm _ _) rfl ?_) (.pn rfl rfl rfl);intro j' c c' h1 h2;have e5:jq k 1 k ⟨ah,data,aj,target,aG,ak,aM,am,up⟩=[.aa (.val (.int .i64 ah)),.aa (.sl 1 data),.row 1 2 0 none,.aa (.val (.string target)),.aa (.val (.int .i64 aG)),.aa (.sl 4 ((ak.take j).map bp.enc)),.aa (.val (.int .i64 aM)),.aa (.val (.int .i64 am)),.aa (.val (.int .i64 up))]:=by simp[jq,hq]
       rw[e5]at h2
       match j',h1,h2 with
       |0,h1,h2=>cases h1;cases h2;exact .aP (.aa _)
       |1,h1,h2=>cases h1;cases h2;exact .aP (.aa _)
       |2,h1,h2=>cases h1;cases h2;exact .aP (.row 1 2 0 none)
       |3,h1,h2=>cases h1;cases h2;exact .aP (.aa _)
       |4,h1,h2=>cases h1;cases h2;exact .aP (.aa _)
       |5,h1,h2=>cases h1;cases h2;exact .eu (dm.d6 (Z:=fun k=>bs [4] k=true) rfl (by rw[<-aT];rfl) 0 none)
       |6,h1,h2=>cases h1;cases h2;exact .aP (.aa _)
       |7,h1,h2=>cases h1;cases h2;exact .aP (.aa _)
       |8,h1,h2=>cases h1;cases h2;exact .aP (.aa _)
       |n+9,h1,h2=>simp at h1
   .refine ri aj IH ?_;refine⟨trivial,?_⟩;refine⟨trivial,?_⟩;refine⟨trivial,?_⟩;refine aX (fun j=>j<=ak.length) [0,3,5,9,10,11,24,25] (fun j=>[(26,an .i64 (j:Nat)),(6,.rv (.one (.row 3 4 0 none)))])
     (fun j=>[.row 9 (bL p 1 0 (l.take k)),yY l p k,.var ((⟨ah,data,aj,target,aG,ak,aM,am,up⟩:Obj).enc.map .aa),.row 4 (af ((ak.take j).map bp.enc))]) (fun j=>ak.length-j) 0 (XL _) ?_ (fun j hj=>?_)
    .refine View.trans (View.aB 6 4 3 rfl rfl rfl) (View.o1 4 [0,1,2,3] [] ?_)
     .exact .pt rfl rfl (.eq (congrArg (Bk.row 9) (lR p 1 _ _)) aK) (.xk (eD rfl) rfl (tK l p k) (.pe rfl rfl rfl (.pn rfl rfl rfl)))
    .have hj:j<=ak.length:=hj;refine aJ (fun h=>?_) (fun h=>?_)
     .have dP:j<ak.length:=by have h:(j:Int)<((ak.map bp.enc).length:Int):=h;rw[LW]at h;omega
      have wn:=tq dP;have Hc:=II _ (XP dP);generalize ak[j]=q at wn Hc;obtain⟨qd,qh,qo,qr⟩:=q;have zP:dg (ak.map bp.enc) (j:Nat)=some [.sl 1 qd,.val (.bool qh),.val (.int .i64 qo),.val (.int .i64 qr)]:=by rw[bF,O6,wn];rfl
      refine ag zP ?_;refine gv qd Hc ?_;refine⟨?_,?_⟩
      .show((af ((ak.take j).map bp.enc)).length+1)*48<=_;simp[af];omega
      refine⟨j+1,dP,(show ak.length-(j+1)<ak.length-j by omega),View.o 7 [0,1,2,6] [] ?_ ?_⟩
      .repeat(first|exact .nil|refine .aq ?_|refine .put (.aP (aL om).symm) ?_|refine .eq rfl ?_)
      .refine .pt rfl rfl (.eq (congrArg (Bk.row 9) (lR p 1 _ _)) aK) (.xk (eD rfl) rfl (tK l p k) (.pe rfl rfl rfl (.pt rfl rfl (.bR ?_) (.nil _))));rw[sU wn,aax,cG];rfl
     .have ef:¬(j:Int)<((ak.map bp.enc).length:Int):=h;rw[LW]at ef;have hq:ak.take j=ak:=aaV om;refine⟨?_,?_⟩
      .show((bL p 1 0 (l.take k)).length+1)*128<=_;rw[fv];simp;omega
      have Qd:yY l p (k+1)=yY l p k:=by
       have:Nat.blt p (k+1)=Nat.blt p k:=by rw[acw,aaO,aaO];omega
       simp only[yY,this]
      refine⟨k+1,aF,(show l.length-(k+1)<l.length-k by omega),View.o 6 [5,1] [3] ?_ ?_⟩
      .repeat(first|exact .nil|refine .aq ?_|refine .put (.aP (aL om).symm) ?_|refine .eq rfl ?_)
      .rw[u4 hi,Qd];refine .pt rfl rfl (.Dd (lR p 1 _ _) rfl ?_) (.xk (eD rfl) rfl (tK l p k) (.nil _));intro j' c c' h1 h2;have e5:jq p 1 k ⟨ah,data,aj,target,aG,ak,aM,am,up⟩=[.aa (.val (.int .i64 ah)),.aa (.sl 1 data),.aa (.sl 2 aj),.aa (.val (.string target)),.aa (.val (.int .i64 aG)),.aa (.sl 4 ((ak.take j).map bp.enc)),.aa (.val (.int .i64 aM)),.aa (.val (.int .i64 am)),.aa (.val (.int .i64 up))]:=by simp[jq,PQ,hq]
       rw[e5]at h2
       match j',h1,h2 with
       |0,h1,h2=>cases h1;cases h2;exact .aP (.aa _)
       |1,h1,h2=>cases h1;cases h2;exact .aP (.aa _)
       |2,h1,h2=>cases h1;cases h2;exact .aP (.aa _)
       |3,h1,h2=>cases h1;cases h2;exact .aP (.aa _)
       |4,h1,h2=>cases h1;cases h2;exact .aP (.aa _)
       |5,h1,h2=>cases h1;cases h2;exact .eu (dm.d6 (Z:=fun k=>bs [3] k=true) rfl (by rw[<-aT];rfl) 0 none)
       |6,h1,h2=>cases h1;cases h2;exact .aP (.aa _)
       |7,h1,h2=>cases h1;cases h2;exact .aP (.aa _)
       |8,h1,h2=>cases h1;cases h2;exact .aP (.aa _)
       |n+9,h1,h2=>simp at h1
  .have ef:¬(k:Int)<((l.map Obj.enc).length:Int):=h;rw[LW]at ef;have fy:k=l.length:=by have:k<=l.length:=hk;omega
   subst fy;rw[aan];exact⟨rfl,rfl⟩
theorem yZ(l:List Obj)(hf:kg l)(p:Nat){m:Mem}{K:CV->Mem->Prop}(h:K (.rv (.one (.row m.length 9 0 none))) (m++ [.row 9 (bL p (m.length+1) 0 l),yY l p l.length])):ar Tryz.prog 91 [cq l] m K:=by
 refine bv [] m.length rfl rfl rfl rfl rfl (fun i b' hi=>by simp at hi) (aW Tryz.func91 l91 (HD l hf p)) (fun r m1 hr=>?_)
 obtain⟨h1,h2⟩:=hr;subst h1;subst h2;refine⟨XL _,?_⟩;show K (.rv (.one (.row (m.length+(0-0)) 9 0 none))) (gX m [.row 9 ((bL p 1 0 l).map (fun cs=>cs.map (CC.aP (sg [] m.length)))),(yY l p l.length).aP (sg [] m.length)])
 rw[lR,tK,cg];exact h
def c101:LF:= ⟨46,[.tmp 6],(.seq (.ai [qu 6 (.aD (qi 0))]) (.seq (.seq (.ai [qm 9 1,qu 10 (.aE .lss 9 (qi 0)),qm 11 10,qg 12 (.aD 1) 11 false,qg 13 (.aD 0) 11 false,qg 14 (.len 1 13) 11 false,qg 15 (.aE .geq 12 14) 11 false,qu 16 (.pick 11 (qb true) 15),qm 17 16,qg 18 (.aD 0) 17 false,qg 19 (.aD 1) 17 false,qg 20 (.b7 9 18 19) 17 false,qg 21 (.bQ 0 20) 17 false,qg 22 (.load false 1 21) 17 false,qg 23 (.aE .neq 22 (qi 2)) 17 false,qu 24 (.pick 17 (qb true) 23)]) (.cond 24 (.seq (.ai [qu 6 (.aD (qi (-1)))]) .ret) .skip)) (.seq (.ai [qm 26 0,qm 27 1,qu 28 (.b7 9 26 27),qf 29 2 28,ql 30 29,qm 31 2,qu 32 (qc 127 [30,31,(.c (.rv (.one (.fn 128 []))))]),qm 25 32,qu 33 (.ext 25 0),qu 34 (.ext 25 1),qm 7 33,qm 8 34]) (.seq (.seq (.ai [qm 35 8,qu 36 (.un .not 35)]) (.cond 36 (.seq (.ai [qu 6 (.aD (qi (-1)))]) .ret) .skip)) (.seq (.ai [qm 37 0,qm 38 1,qu 39 (.b7 9 37 38),qf 40 2 39,ql 41 40,qm 42 7,qu 43 (.b7 2 41 42),qf 44 1 43,ql 45 44,qm 6 45]) .ret)))))⟩
def c132:LF:= ⟨9,[.tmp 4],(.seq (.ai [qu 2 (.box 0),qu 4 (.aD (qi 0))]) (.seq (.ai [qf 5 0 2,ql 6 5,qm 7 1,qu 8 (qc 129 [6,7]),qm 4 8]) .ret))⟩
theorem l132:bq Tryz.prog Tryz.f132=some c132:=by kernel_rfl
theorem l101:bq Tryz.prog Tryz.f101=some c101:=by kernel_rfl
theorem Be(e:ByteArray×Int)(s:ByteArray):body Tryz.prog c132 [uW e,dk s] [] (fun r m=>r=an .i64 (jP e.1 s)):=
 KE e.1 s rfl
theorem QH(e:ByteArray×Int)(s:ByteArray){m:Mem}{K:CV->Mem->Prop}(h:K (an .i64 (jP e.1 s)) m):ar Tryz.prog 132 [uW e,dk s] m K:=
 bo Tryz.func132 l132 rfl (T3 rfl) (Be e s) rfl rfl h
def u5(l:List Obj)(es:List (ByteArray×Int))(cE:Nat)(s:ByteArray):Int:=if yP es s=true then(match es[oZ es s]? with|some e=>e.2|none=>0)else -1
theorem DU(l:List Obj)(cE:Nat)(hd:cE<l.length)(hk:l[cE].ah=2)(es:List (ByteArray×Int))(he:l[cE].aj=es.map cM)(hl:es.length<=2147483648)(s:ByteArray):body Tryz.prog c101 [cq l,an .i64 (cE:Nat),dk s] [] (fun r m=>r=an .i64 (u5 l es cE s)):=by
 have hg:dg (l.map Obj.enc) (cE:Nat)=some l[cE].enc:=by rw[bF,O6,tq hd];rfl
 generalize l[cE]=o at hg hk he;obtain⟨ah,data,aj,target,aG,ak,aM,am,up⟩:=o;have hk:ah=2:=hk;have he:aj=es.map cM:=he;subst hk he;have hg:dg (l.map Obj.enc) (cE:Nat)=some [.val (.int .i64 2),.sl 1 data,.sl 2 (es.map cM),.val (.string target),.val (.int .i64 aG),.sl 4 (ak.map bp.enc),.val (.int .i64 aM),.val (.int .i64 am),.val (.int .i64 up)]:=hg;refine aJ (fun h1=>?_) (fun h1=>?_)
 .exfalso;have h1:(cE:Int)>=((l.map Obj.enc).length:Int):=h1;rw[LW]at h1;omega
 refine ag hg ?_;refine ag hg ?_;refine KF es hl s 128 (fun e m K h=>O5 e s h) ?_
 refine ay (fun h2=>?_) (fun h2=>?_)
 .have h2:yP es s=false:=by simpa using h2
  show an _ _=an _ _;rw[u5,if_neg (by rw[h2];simp)]
 .have h2:yP es s=true:=by simpa using h2
  refine ag hg ?_;have aF:oZ es s<es.length:=by
   unfold yP at h2;split at h2
   .rename_i e he;exact(Hy.1 he).1
   .cases h2
  refine ag (nA aF) ?_;show an _ _=an _ _;rw[u5,if_pos h2,tq aF]
theorem Bf(l:List Obj)(cE:Nat)(hd:cE<l.length)(hk:l[cE].ah=2)(es:List (ByteArray×Int))(he:l[cE].aj=es.map cM)(hl:es.length<=2147483648)(s:ByteArray){m:Mem}{K:CV->Mem->Prop}(h:K (an .i64 (u5 l es cE s)) m):ar Tryz.prog 101 [cq l,an .i64 (cE:Nat),dk s] m K:=
 bo Tryz.func101 l101 rfl (T3 rfl) (DU l cE hd hk es he hl s) (by simp[cq,an,dk,CV.c7,CC.c7,RV.c7]) rfl h
theorem DV(l:List Ob)(ok:mi l)(cE:Nat)(hd:cE<l.length)(hk:l[cE].ah=2)(w:bD.di):body Tryz.prog c101 [yD l,an .i64 (cE:Nat),bD.vT w] [] (fun r m=>r=an .i64 (lh l cE w)):=by
 obtain⟨y0,abH,hlen,CI⟩:=ok.dI cE;have CI:=CI hd;have hf:lh l cE w=(if yP (gS (j9 l cE)) (bD.cu w)=true then(match (gS (j9 l cE))[oZ (gS (j9 l cE)) (bD.cu w)]? with|some e=>e.2|none=>0)else -1):=sW y0 (iK _ _) (F4 y0 _)
 rw[hf];have hg:=lO hd;generalize gS (j9 l cE)=es at*
 generalize l[cE]=o at hg hk CI;obtain⟨ah,data,aj,target,aG,ak,aM,am,up⟩:=o;have hk:ah=2:=hk;have he:aj=es.map cM:=CI;subst hk he;refine aJ (fun h1=>?_) (fun h1=>?_)
 .exfalso;have h1:(cE:Int)>=((l.map Ob.enc).length:Int):=h1;rw[LW]at h1;omega
 refine ag hg ?_;refine ag hg ?_;refine KF es om (bD.cu w) 128 (fun e m K h=>O5 e (bD.cu w) h) ?_
 refine ay (fun h2=>?_) (fun h2=>?_)
 .have h2:yP es (bD.cu w)=false:=by simpa using h2
  show an _ _=an _ _;rw[if_neg (by rw[h2];simp)]
 .have h2:yP es (bD.cu w)=true:=by simpa using h2
  refine ag hg ?_;have aF:oZ es (bD.cu w)<es.length:=by
   unfold yP at h2;split at h2
   .rename_i e he;exact(Hy.1 he).1
   .cases h2
  refine ag (nA aF) ?_;show an _ _=an _ _;rw[if_pos h2,tq aF]
theorem KQ(l:List Ob)(ok:mi l)(cE:Nat)(hd:cE<l.length)(hk:l[cE].ah=2)(w:bD.di){m:Mem}{K:CV->Mem->Prop}(h:K (an .i64 (lh l cE w)) m):ar Tryz.prog 101 [yD l,an .i64 (cE:Nat),bD.vT w] m K:=
 bo Tryz.func101 l101 rfl (T3 rfl) (DV l ok cE hd hk w) rfl rfl h
def RN(l:List Ob)(au:Int):Nat->Int->Bool
 |0,_=>false
 |n+1,d=>if ns l d 2=false then false else if d=au then true else if d=0 then false else RN l au n (j9 l d.toNat).up
theorem u6{l:List Ob}{au:Int}(V:List Nat)(h:∀x,x∈V->(x:Int)≠au/\∃y,y∈V/\(j9 l x).up=(y:Nat)):∀(n x:Nat),x∈V->RN l au n (x:Nat)=false
 |0,_,_=>rfl
 |n+1,x,hx=>by
  obtain⟨h1,y,hy,h2⟩:=h x hx;rw[RN];by_cases hI:ns l x 2=false
  .rw[if_pos hI]
  rw[if_neg hI,if_neg h1];by_cases h0:(x:Int)=0
  .rw[if_pos h0]
  rw[if_neg h0,XO,h2];exact u6 V h n y hy
theorem u7:∀{N:Nat}{V:List Nat},V.Nodup->(∀x,x∈V->x<N)->V.length<=N
 |0,V,_,h=>by
  cases V with
  |nil=>exact QN _
  |cons x r=>exact absurd (h x aK) (aal x)
 |N+1,V,hd,h=>by
  by_cases hm:N∈V
  .have h1:=List.length_erase_of_mem hm;have h2:=u7 (N:=N) (hd.erase N) fun x hx=>by rw[hd.mem_erase_iff]at hx;have:=h x hx.2;have:=hx.1;omega
   have:=List.length_pos_of_mem hm;omega
  .have:=u7 (N:=N) hd fun x hx=>by
    have h1:=h x hx;have:x≠N:=fun e=>hm (e▸hx)
    omega
   omega
structure QI where
 d:Int
 V:List Nat
structure Nq(l:List Ob)(au cE:Int)(a:QI):Prop where
 nd:a.V.Nodup
 rg:∀x,x∈a.V->x<l.length
 cl:∀x,x∈a.V->(x:Int)≠au/\((j9 l x).up=a.d\/∃y,y∈a.V/\(j9 l x).up=(y:Nat))
 eq:RN l au (l.length+1-a.V.length) a.d=RN l au (l.length+1) cE
theorem Nq.le{l:List Ob}{au cE:Int}{a:QI}(h:Nq l au cE a):a.V.length<=l.length:=u7 h.nd h.rg
theorem Nq.tf{l:List Ob}{au cE:Int}{a:QI}(h:Nq l au cE a){n:Nat}(hn:a.d=n)(hm:n∈a.V):RN l au (l.length+1) cE=false:=by
 rw[<-h.eq,hn];refine u6 a.V (fun x hx=>?_) _ n hm
 obtain⟨h1,h2⟩:=h.cl x hx;refine⟨h1,?_⟩;rcases h2 with h2|h2
 .exact⟨n,hm,h2.trans hn⟩
 .exact h2
def c125:LF:= ⟨32,[.tmp 2],(.seq (.ai [qu 2 (.aD (qb false))]) (.seq (.seq (.bT [qm 3 0,qu 4 (.aR 3),qf 5 4 4,ql 6 5,qm 7 0,qu 8 (.aR 7),qf 9 1 8,ql 10 9,qu 11 (.aE .eql 6 10),qm 12 11,qg 13 (.aD 0) 12 true,qg 14 (.aR 13) 12 true,qg 15 (.bQ 2 14) 12 true,qg 16 (.load false 1 15) 12 true,qu 17 (.pick 12 16 (qb false))] [(.cons 0 none (.cons 1 none (.cons 2 none (.cons 3 none (.cons 4 none (.cons 5 none (.cons 6 none (.cons 7 none (.cons 8 none (.cons 9 none (.cons 10 none (.cons 11 none (.cons 12 none (.cons 13 none (.cons 14 none .nil)))))))))))))))]) (.cond 17 (.seq (.ai [qu 2 (.aD (qb false))]) .ret) .skip)) (.seq (.bT [qm 18 0,qm 19 0,qu 20 (.aR 19),qf 21 0 20,ql 22 21,qm 23 0,qu 24 (.aR 23),qf 25 4 24,ql 26 25,qu 27 (.b7 9 22 26),qf 28 8 27,ql 29 28,qu 30 (.aR 18),qf 31 4 30,qw (.store 1 31 29)] [(.cons 0 none (.cons 1 none (.cons 2 none (.cons 3 none (.cons 4 none (.cons 5 none (.cons 6 none (.cons 7 none (.cons 8 none (.cons 9 none (.cons 10 none (.cons 11 none (.cons 12 none (.cons 13 none (.cons 14 (some []) .nil)))))))))))))))]) (.seq (.ai [qu 2 (.aD (qb true))]) .ret))))⟩
def c126:LF:= ⟨48,[.tmp 4],(.seq (.ai [qu 4 (.aD (qi 0))]) (.seq (.seq (.ai [qm 8 0,qu 9 (.aR 8),qf 10 3 9,ql 11 10,qu 12 (.aE .eql 11 (qi 6))]) (.cond 12 (.seq (.ai [qu 4 (.aD (qi 13))]) .ret) .skip)) (.seq (.ai [qm 13 0,qu 14 (.aR 13),qf 15 3 14,ql 16 15,qu 17 (.aE .add 16 (qi 1)),qu 18 (.aR 13),qf 19 3 18,qw (.store 1 19 17)]) (.seq (.ai [qm 21 1,qu 22 (qc 59 [21]),qm 20 22,qu 23 (.ext 20 0),qu 24 (.ext 20 1),qu 25 (.ext 20 2),qm 5 23,qm 6 24,qm 7 25]) (.seq (.seq (.ai [qm 26 7,qu 27 (.aE .neq 26 (qi 0))]) (.cond 27 (.seq (.ai [qm 28 7,qm 4 28]) .ret) .skip)) (.seq (.seq (.ai [qm 29 6]) (.cond 29 (.seq (.seq (.ai [qm 30 0,qu 31 (.aR 30),qf 32 2 31,ql 33 32]) (.cond 33 (.seq (.ai [qu 4 (.aD (qi 14))]) .ret) .skip)) (.ai [qm 34 0,qu 35 (.aR 34),qf 36 4 35,qw (.store 1 36 (qi 0))])) .skip)) (.seq (.bT [qm 37 0,qu 38 (.lu 1 [(.aa (.val (.string ⟨#[]⟩)))] 0 []),qm 39 5,qu 40 (.mY 1 16 38 39),qm 41 0,qu 42 (.aR 41),qf 43 5 42,ql 44 43,qu 45 (.mY 1 16 40 44),qu 46 (.aR 37),qf 47 5 46,qw (.store 1 47 45)] [(.cons 0 none (.cons 2 none (.cons 4 none (.cons 5 none (.cons 6 none (.cons 7 none (.cons 1 (some [7]) (.cons 3 (some [7]) (.cons 8 (some []) (.cons 9 none (.cons 10 none (.cons 11 (some []) .nil))))))))))))]) (.seq (.ai [qu 4 (.aD (qi 0))]) .ret))))))))⟩
theorem l125:bq Tryz.prog Tryz.f125=some c125:=by kernel_rfl
theorem l126:bq Tryz.prog Tryz.f126=some c126:=by kernel_rfl
def rJ(l:List Ob)(au:Nat)(ax:Bool)(h a:Nat)(t:List bD.di):Bk:= .var [.aa (M4 l),.aa (.val (.int .i64 (au:Nat))),.aa (.val (.bool ax)),.aa (.val (.int .i64 (h:Nat))),.aa (.val (.int .i64 (a:Nat))),.aa (bD.VK t)]
theorem u9(l:List Ob)(au:Nat)(ax:Bool)(h a:Nat)(t:List bD.di):rJ l au ax h a t≠.aZ:=by intro x;cases x
theorem KR{f:Nat}{args:List CV}(ha:∀σ,args.map (CV.aP σ)=args){l:List Ob}{au:Nat}{ax:Bool}{h a:Nat}{t:List bD.di}{Q:CV->Nat->Nat->List bD.di->Prop}(hr:∀r h a t,Q r h a t->∀σ,r.aP σ=r)(hc:ar Tryz.prog f (.rv (.one (.ptr 0 0))::args) [rJ l au ax h a t] (fun r m=>∃h' a' t',m=[rJ l au ax h' a' t']/\Q r h' a' t')){m:Mem}(id:Nat)(hb:cR m id=some (rJ l au ax h a t)){K:CV->Mem->Prop}(hK:∀r h' a' t',Q r h' a' t'->K r (a7 m id (rJ l au ax h' a' t'))):ar Tryz.prog f (.rv (.one (.ptr id 0))::args) m K:=by
 have hid:id<m.length:=by rw[aT]at hb;exact(Hy.1 hb).1
 refine bv [id] m.length rfl rfl rfl (by simp[eX,hid]) (args0:= .rv (.one (.ptr 0 0))::args) (by rw[aay,ha];rfl) (fun i b' hi=>?_) hc (fun r1 m1 zO=>?_)
 .cases i with
  |zero=>
   simp at hi;subst hi;refine .inr ⟨fun h=>h,_,?_,.eq rfl (u9 _ _ _ _ _ _)⟩
   rw[aT]at hb;exact hb
  |succ i=>simp at hi
 .obtain⟨h',a',t',rfl,hq⟩:=zO;refine⟨QN _,?_⟩;rw[hr _ _ _ _ hq];show K r1 (cV m [id] [rJ l au ax h' a' t']);rw[AO];exact hK _ _ _ _ hq
theorem HE{r:CV}{l:List Ob}{au:Nat}{ax:Bool}{h a:Nat}{t:List bD.di}{X:Mem}(hr:∀σ,r.aP σ=r):View 1 ⟨[r],rJ l au ax h a t::X⟩ ⟨[r],[rJ l au ax h a t]⟩:=
 View.of (X.length+1) [0] [] rfl rfl rfl rfl rfl (by simp[eX,Nat.blt]) (.eq (hr _) .nil) (.pt rfl rfl (.eq rfl (u9 _ _ _ _ _ _)) (.nil _))
def ZK(l:List Ob)(au:Nat)(ax:Bool)(h a:Nat)(t:List bD.di)(r:CV)(h' a':Nat)(t':List bD.di):Prop:=
 h'=h/\t'=t/\((ax=true/\a=au)/\r=aA false/\a'=a\/¬(ax=true/\a=au)/\r=aA true/\a'=yU l a)
theorem Nr(l:List Ob)(ok:mi l)(au:Nat)(ax:Bool)(h a:Nat)(ha:a<l.length)(t:List bD.di):body Tryz.prog c125 [.rv (.one (.ptr 0 0))] [rJ l au ax h a t] (fun r m=>∃h' a' t',m=[rJ l au ax h' a' t']/\ZK l au ax h a t r h' a' t'):=by
 have hg:=lO ha;have hu:=ok.KK ha;refine bz (fun h1=>?_) (fun h1=>?_)
 .cases ax with
  |true=>exact⟨_,_,_,rfl,rfl,rfl,.inl ⟨⟨rfl,om⟩,rfl,rfl⟩⟩
  |false=>
   refine ag hg ?_;refine⟨trivial,?_⟩;rw[hu];exact⟨_,_,_,rfl,rfl,rfl,.inr ⟨aK,rfl,rfl⟩⟩
 .refine ag hg ?_;refine⟨trivial,?_⟩;rw[hu];exact⟨_,_,_,rfl,rfl,rfl,.inr ⟨fun h=>h1 (by rw[h.2]),rfl,rfl⟩⟩
theorem TU(l:List Ob)(ok:mi l)(au:Nat)(ax:Bool)(h a:Nat)(ha:a<l.length)(t:List bD.di){m:Mem}(id:Nat)(hb:cR m id=some (rJ l au ax h a t)){K:CV->Mem->Prop}(S4:(ax=true/\a=au)->K (aA false) (a7 m id (rJ l au ax h a t)))(hK2:¬(ax=true/\a=au)->K (aA true) (a7 m id (rJ l au ax h (yU l a) t))):ar Tryz.prog 125 [.rv (.one (.ptr id 0))] m K:=by
 refine KR (args:=[]) (fun _=>rfl) (Q:=ZK l au ax h a t) (fun r h a t hq σ=>?_) (aW Tryz.func125 l125 (Nr l ok au ax h a ha t)) id hb (fun r h' a' t' hq=>?_)
 .rcases hq.2.2 with⟨_,rfl,_⟩|⟨_,rfl,_⟩<;>rfl
 .obtain⟨rfl,rfl,hq⟩:=hq;rcases hq with⟨h1,rfl,rfl⟩|⟨h1,rfl,rfl⟩
  .exact S4 h1
  .exact hK2 h1
theorem o4(t:bD.di):(bD.cA t).1.length<=61:=by
 unfold bD.cA;split
 .simp
 .split
  .simp
  .split
   .show(bD.yT t).length<=61;have h1:=abi bD.qj (bD.fS 47 t);have h2:=bD.uY 47 t;unfold bD.yT;omega
   .simp
inductive Mt(p:List bD.di×Bool×Int)(ax:Bool)(h a:Nat)(t:List bD.di):CV->Nat->Nat->List bD.di->Prop
 |loop (h' a':Nat) (t':List bD.di) (h6:h=6):Mt p ax h a t (an .i64 13) h' a' t'
 |ix (h' a':Nat) (t':List bD.di) (h6:h≠6) (he:p.2.2≠0):Mt p ax h a t (an .i64 p.2.2) h' a' t'
 |out (h' a':Nat) (t':List bD.di) (h6:h≠6) (he:p.2.2=0) (hr:p.2.1=true) (hf:ax=true):Mt p ax h a t (an .i64 14) h' a' t'
 |ok (h6:h≠6) (he:p.2.2=0) (hr:¬(p.2.1=true/\ax=true)):Mt p ax h a t (an .i64 0) (h+1) (if p.2.1=true then 0 else a) (p.1++t)
theorem Mt.data{p:List bD.di×Bool×Int}{ax:Bool}{h a:Nat}{t:List bD.di}{r:CV}{h' a':Nat}{t':List bD.di}(x:Mt p ax h a t r h' a' t')(σ:Nat->Nat):r.aP σ=r:=by cases x<;>rfl
def ZL(Q:CV->Mem->Prop)(r:CV)(m:Mem):Prop:=∃r' m',View 1 ⟨[r],m⟩ ⟨[r'],m'⟩/\Q r' m'
theorem Ns(a b:List bD.di):af (a.map bD.tD)++af (b.map bD.tD)=af ((a++b).map bD.tD):=by rw[aax,bD.cG]
theorem TV{m:Mem}{Z:Nat->Prop}{id:Nat}{p:Option Nat}{X:List (List CC)}{ds:List (List Dt)}(hz:Z id)(hm:m[id]? =some (.row 1 X))(hX:X=af ds):dm m Z p (.row id 1 0 none) (.sl 1 ds):=by
 subst hX;refine dm.row id 1 0 none (af ds) ds hz hm (by simp[af]) (fun i cs es h1 h2=>?_) (fun i cs es j c d h1 h2 h3 h4=>?_)
 .simp only[af,O6,h2,XS,XQ]at h1;subst h1;simp
 .simp only[af,O6,h2,XS,XQ]at h1;subst h1;rw[O6,h4]at h3;cases h3;exact .aa _
theorem TW{l:List Ob}{au:Nat}{ax:Bool}{h a:Nat}{t parts:List bD.di}{m:Mem}{σ:Nat->Nat}(hm:m[3]? =some (.row 1 ((([]:List (List CC))++af (parts.map bD.tD))++af (t.map bD.tD)))):
  lU σ m (fun k=>bs [3] k=true) 0 (.var [.aa (M4 l),.aa (.val (.int .i64 (au:Nat))),.aa (.val (.bool ax)),.aa (.val (.int .i64 (h:Nat))),.aa (.val (.int .i64 (a:Nat))),.row 3 1 0 none]) (rJ l au ax h a (parts++t)):=
 eG.var (.cons (.aP (.aa _)) (.cons (.aP (.aa _)) (.cons (.aP (.aa _)) (.cons (.aP (.aa _)) (.cons (.aP (.aa _)) (.cons (.eu (TV rfl hm (by rw[acs];exact Ns parts t))) .nil))))))
theorem HF(l:List Ob)(au:Nat)(ax:Bool)(h a:Nat)(hh:h<=6)(t:List bD.di)(ht:t.length<=1000)(s:bD.di):
  body Tryz.prog c126 [.rv (.one (.ptr 0 0)),bD.vT s] [rJ l au ax h a t] (ZL fun r m=>∃h' a' t',m=[rJ l au ax h' a' t']/\Mt (bD.cA s) ax h a t r h' a' t'):=by
 refine bz (fun h1=>?_) (fun h1=>?_)
 .exact⟨_,_,HE (X:=[]) (fun _=>rfl),_,_,_,rfl,.loop _ _ _ om⟩
 have h6:h≠6:=fun e=>h1 (by rw[e];rfl)
 refine bD.uZ s ?_;have hp:=o4 s;generalize bD.cA s=p at hp⊢;obtain⟨parts,ap,er⟩:=p;have hp:parts.length<=61:=hp;have e1:IntKind.i64.wrap ((h:Int)+1)=((h+1:Nat):Int):=by
  rw[show(h:Int)+1=((h+1:Nat):Int) by omega,gO om]
 rw[e1];refine bu (fun h2=>?_) (fun h2=>?_)
 .exact⟨_,_,HE (h:=h+1) (X:=[]) (fun _=>rfl),_,_,_,rfl,.ix _ _ _ h6 h2⟩
 have h2:er=0:=by simpa using h2
 subst h2;cases ap with
 |true=>
  cases ax with
  |true=>exact⟨_,_,HE (h:=h+1) (X:=[]) (fun _=>rfl),_,_,_,rfl,.out _ _ _ h6 rfl rfl rfl⟩
  |false=>
   refine⟨⟨rfl,trivial⟩,?_⟩;refine⟨?_,?_⟩
   .show(0+(af (parts.map bD.tD)).length)*16<=_;rw[bD.bb,LW];omega
   refine⟨⟨rfl,trivial⟩,?_⟩;refine⟨?_,?_⟩
   .show((([]:List (List CC))++af (parts.map bD.tD)).length+(af (t.map bD.tD)).length)*16<=_;rw[aaw,bD.bb,bD.bb,LW,LW];show(0+parts.length+t.length)*16<=_;omega
   refine⟨trivial,?_⟩;refine⟨trivial,?_⟩;exact⟨_,_,View.o 4 [0] [3] (.eq rfl .nil) (.pt rfl rfl (TW (t:=t) (parts:=parts) rfl) (.nil _)),_,_,_,rfl,.ok h6 rfl aK⟩
 |false=>
  refine⟨⟨rfl,trivial⟩,?_⟩;refine⟨?_,?_⟩
  .show(0+(af (parts.map bD.tD)).length)*16<=_;rw[bD.bb,LW];omega
  refine⟨⟨rfl,trivial⟩,?_⟩;refine⟨?_,?_⟩
  .show((([]:List (List CC))++af (parts.map bD.tD)).length+(af (t.map bD.tD)).length)*16<=_;rw[aaw,bD.bb,bD.bb,LW,LW];show(0+parts.length+t.length)*16<=_;omega
  refine⟨trivial,?_⟩;refine⟨trivial,?_⟩;exact⟨_,_,View.o 4 [0] [3] (.eq rfl .nil) (.pt rfl rfl (TW (t:=t) (parts:=parts) rfl) (.nil _)),_,_,_,rfl,.ok h6 rfl aK⟩
theorem F5(l:List Ob)(au:Nat)(ax:Bool)(h a:Nat)(hh:h<=6)(t:List bD.di)(ht:t.length<=1000)(s:bD.di){m:Mem}(id:Nat)(hb:cR m id=some (rJ l au ax h a t)){K:CV->Mem->Prop}(hK:∀r h' a' t',Mt (bD.cA s) ax h a t r h' a' t'->K r (a7 m id (rJ l au ax h' a' t'))):ar Tryz.prog 126 [.rv (.one (.ptr id 0)),bD.vT s] m K:=
 KR (args:=[bD.vT s]) (fun _=>rfl) (Q:=Mt (bD.cA s) ax h a t) (fun r h a t hq σ=>hq.data σ)
  (bK (aW Tryz.func126 l126 (HF l au ax h a hh t ht s)) fun r m1⟨r',m',hv,hq⟩=>⟨r',m',hv,hq⟩) id hb hK
end Go.Proofs.YthagjdhjmamakaaGreatDoor
