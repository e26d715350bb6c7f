/- Part 23 of 41: what the law stands on. -/
import Derived.Test.YthagjdhjmamakaaGreatDoorT16
import Derived.Test.YthagjdhjmamakaaGreatDoorT21
import Derived.Test.YthagjdhjmamakaaGreatDoorT22
set_option linter.unusedVariables false
set_option linter.unusedSimpArgs false
set_option linter.unnecessarySimpa false
set_option maxRecDepth 100000
set_option maxHeartbeats 64000000
namespace Go.Proofs.YthagjdhjmamakaaGreatDoor
open Go.AM Go.ChangeShapes Go.WideShapes Go.ChangeAt Go.RowKit
def c47:LF:= ⟨9,[.tmp 2],(.seq (.ai [qu 2 (.aD (qb false))]) (.seq (.ai [qm 3 0,qu 4 (.aE .geq 3 (qi 0)),qm 5 4,qg 6 (.aD 0) 5 true,qg 7 (.aE .leq 6 (qi 4095)) 5 true,qu 8 (.pick 5 7 (qb false)),qm 2 8]) .ret))⟩
def c54:LF:= ⟨24,[.tmp 4,.tmp 5,.tmp 6],(.seq (.ai [qu 4 (.aD qe),qu 5 (.aD (qi 0)),qu 6 (.aD (qi 0))]) (.seq (.ai [qm 10 0,qm 11 1,qu 12 (qc 66 [10,11]),qm 9 12,qu 13 (.ext 9 0),qu 14 (.ext 9 1),qu 7 (.alloc [(qd 0),(qd 0)]),qw (.store 2 7 13),qm 8 14]) (.seq (.seq (.ai [qm 15 8,qu 16 (.aE .neq 15 (qi 0))]) (.cond 16 (.seq (.ai [qm 17 8,qu 4 (.aD qe),qu 5 (.aD (qi 0)),qm 6 17]) .ret) .skip)) (.seq (.ai [qm 18 0,qL 19 2 7,qu 20 (qc 69 [18,19]),qu 21 (.ext 20 0),qu 22 (.ext 20 1),qu 23 (.ext 20 2),qm 4 21,qm 5 22,qm 6 23]) .ret))))⟩
def c66:LF:= ⟨28,[.cell true 2 4,.tmp 5],(.seq (.ai [qu 4 (.alloc [(qd 0),(qd 0)]),qu 5 (.aD (qi 0))]) (.seq (.seq (.ai [qm 6 1,qu 7 (.aE .lss 6 (qi 0)),qm 8 7,qg 9 (.aD 1) 8 false,qg 10 (.aD 0) 8 false,qg 11 (.len 1 10) 8 false,qg 12 (.aE .geq 9 11) 8 false,qu 13 (.pick 8 (qb true) 12),qm 14 13,qg 15 (.aD 0) 14 false,qg 16 (.aD 1) 14 false,qg 17 (.b7 3 15 16) 14 false,qg 18 (.bQ 0 17) 14 false,qg 19 (.load false 1 18) 14 false,qg 20 (.un .not 19) 14 false,qu 21 (.pick 14 (qb true) 20)]) (.cond 21 (.seq (.ai [qu 22 (.build [(qd 0),(qd 0)] []),qw (.store 2 4 22),qu 5 (.aD (qi 6))]) .ret) .skip)) (.seq (.ai [qm 23 0,qm 24 1,qu 25 (.b7 3 23 24),qf 26 1 25,qL 27 2 26,qw (.store 2 4 27),qu 5 (.aD (qi 0))]) .ret)))⟩
def c69:LF:= ⟨44,[.tmp 4,.tmp 5,.tmp 6],(.seq (.ai [qu 3 (.box 1),qu 4 (.aD qe),qu 5 (.aD (qi 0)),qu 6 (.aD (qi 0))]) (.seq (.seq (.ai [qf 9 1 3,ql 10 9,qu 11 (qc 47 [10]),qu 12 (.un .not 11),qm 13 12,qg 14 (.bQ 0 3) 13 false,qg 15 (.load false 1 14) 13 false,qg 16 (.aE .lss 15 (qi 0)) 13 false,qu 17 (.pick 13 (qb true) 16)]) (.cond 17 (.seq (.ai [qu 4 (.aD qe),qu 5 (.aD (qi 0)),qu 6 (.aD (qi 3))]) .ret) .skip)) (.seq (.ai [qm 18 0,qu 19 (qc 109 [18,(.c (.rv (.one (.fn 110 []))))]),qm 7 19]) (.seq (.seq (.ai [qm 20 7,qu 21 (.aE .lss 20 (qi 0))]) (.cond 21 (.seq (.seq (.ai [qm 22 0,qu 23 (.len 1 22),qu 24 (.aE .geq 23 (qi 10))]) (.cond 24 (.seq (.ai [qu 4 (.aD qe),qu 5 (.aD (qi 0)),qu 6 (.aD (qi 15))]) .ret) .skip)) (.ai [qm 25 0,qu 26 (.len 1 25),qm 7 26])) .skip)) (.seq (.ai [qm 27 0,qu 28 (qc 93 [27]),qm 8 28]) (.seq (.seq (.ai [qm 29 7,qm 30 8,qu 31 (.len 1 30),qu 32 (.aE .eql 29 31)]) (.cond 32 (.ai [qm 33 8,qu 34 (.build [(.aa (.val (.bool false))),(qd 0),(qd 0)] []),qu 35 (.lu 3 [(.aa (.val (.bool false))),(qd 0),(qd 0)] 1 [(0,34)]),qu 36 (.mY 3 24 33 35),qm 8 36]) .skip)) (.seq (.ai [qm 37 8,qm 38 7,qL 39 2 3,qu 40 (.build [(.aa (.val (.bool false))),(qd 0),(qd 0)] [(0,1,(qb true)),(1,2,39)]),qu 41 (.b7 3 37 38),qw (.store 3 41 40)]) (.seq (.ai [qm 42 8,qm 43 7,qm 4 42,qm 5 43,qu 6 (.aD (qi 0))]) .ret))))))))⟩
def c109:LF:= ⟨19,[.tmp 4],(.seq (.ai [qu 4 (.aD (qi 0))]) (.seq (.seq (.ai [qm 6 0,qu 7 (.len 1 6),qu 8 (.aD (qi 0))]) (.block 0 (.loop (.seq (.ai [qu 9 (.aE .lss 8 7)]) (.seq (.cond 9 .skip (.exit 0)) (.seq (.block 1 (.seq (.ai [qm 10 8,qm 5 10]) (.seq (.ai [qm 11 1,qm 12 0,qm 13 5,qu 14 (.b7 3 12 13),qL 15 3 14,qu 16 (.call 11 [15])]) (.cond 16 (.seq (.ai [qm 17 5,qm 4 17]) .ret) .skip)))) (.ai [qu 18 (.aE .add 8 (qi 1)),qm 8 18]))))))) (.seq (.ai [qu 4 (.aD (qi (-1)))]) .ret)))⟩
def c110:LF:= ⟨6,[.tmp 2],(.seq (.ai [qu 1 (.box 0),qu 2 (.aD (qb false))]) (.seq (.ai [qf 3 0 1,ql 4 3,qu 5 (.un .not 4),qm 2 5]) .ret))⟩
namespace Tb
structure Cap where
 eJ:Int
 cn:Int
 deriving DecidableEq
structure bX where
 has:Bool
 cap:Cap
 deriving DecidableEq
def bX.enc(s:bX):List Dt:=[.val (.bool s.has),.val (.int .i64 s.cap.eJ),.val (.int .i64 s.cap.cn)]
def oY(l:List bX):Dt:= .sl 3 (l.map bX.enc)
def d7(l:List bX):CV:= .rv (.one (.aa (oY l)))
def Cap.rv(c:Cap):RV:= .agg [.aa (.val (.int .i64 c.eJ)),.aa (.val (.int .i64 c.cn))]
def cD(n:Int):RV:= .one (.aa (.val (.int .i64 n)))
theorem l66:bq Tryz.prog Tryz.f66=some c66:=by kernel_rfl
def ei(l:List bX)(fd:Int):Cap×Int:=
 match (if 0<=fd then l[fd.toNat]? else none)with
 |some s=>if s.has then(s.cap,0)else(⟨0,0⟩,6)
 |none=>(⟨0,0⟩,6)
theorem Ko(l:List bX)(fd:Int):body Tryz.prog c66 [d7 l,an .i64 fd] [] (fun r m=>r= .bG [(ei l fd).1.rv,cD (ei l fd).2]):=by
 refine ay (fun h=>?_) (fun h=>?_)
 .have h:fd<0:=of_decide_eq_true h;show CV.bG _=CV.bG _;rw[ei,if_neg om];rfl
 .have h:¬fd<0:=of_decide_eq_false h;refine ay (fun h2=>?_) (fun h2=>?_)
  .have h2:fd>=((l.map bX.enc).length:Int):=of_decide_eq_true h2;simp at h2;show CV.bG _=CV.bG _;rw[ei,if_pos om,aaj om];rfl
  .have h2:¬fd>=((l.map bX.enc).length:Int):=of_decide_eq_false h2;simp at h2;have aF:fd.toNat<l.length:=om;have hg:dg (l.map bX.enc) fd=some (l[fd.toNat].enc):=by rw[Fw,if_pos om,O6,tq aF];rfl
   have hs:ei l fd=if l[fd.toNat].has then(l[fd.toNat].cap,0)else(⟨0,0⟩,6):=by rw[ei,if_pos om,tq aF]
   refine ag hg ?_;refine ay (fun h3=>?_) (fun h3=>?_)
   .have h3:l[fd.toNat].has=false:=by simpa using h3
    show CV.bG _=CV.bG _;rw[hs,h3];rfl
   .have h3:l[fd.toNat].has=true:=by simpa using h3
    refine ag hg ?_;show CV.bG _=CV.bG _;rw[hs,h3];rfl
theorem uR(l:List bX)(fd:Int){m:Mem}{K:CV->Mem->Prop}(h:K (.bG [(ei l fd).1.rv,cD (ei l fd).2]) m):ar Tryz.prog 66 [d7 l,an .i64 fd] m K:=
 bo Tryz.func66 l66 rfl (T3 rfl) (Ko l fd) rfl rfl h
theorem l93:bq Tryz.prog Tryz.f93=some c93:=by kernel_rfl
theorem l47:bq Tryz.prog Tryz.f47=some c47:=by kernel_rfl
theorem l109:bq Tryz.prog Tryz.f109=some c109:=by kernel_rfl
theorem l110:bq Tryz.prog Tryz.f110=some c110:=by kernel_rfl
def dv(n:Int):Bool:=decide (n>=0)&&decide (n<=4095)
theorem Dx(n:Int):body Tryz.prog c47 [an .i64 n] [] (fun r m=>r=aA (dv n)):=by
 refine ay (fun h=>?_) (fun h=>?_)
 .show aA _=aA _;unfold dv;rw[h];rfl
 .show aA _=aA _;unfold dv;rw[h];rfl
theorem uS(n:Int){m:Mem}{K:CV->Mem->Prop}(h:K (aA (dv n)) m):ar Tryz.prog 47 [an .i64 n] m K:=
 bo Tryz.func47 l47 rfl (T3 rfl) (Dx n) rfl rfl h
def bX.cv(s:bX):CV:= .rv (.agg (s.enc.map .aa))
theorem rC(s:bX):body Tryz.prog c110 [s.cv] [] (fun r m=>r=aA (!s.has)):=by show aA _=aA _;rfl
theorem yL(s:bX){m:Mem}{K:CV->Mem->Prop}(h:K (aA (!s.has)) m):ar Tryz.prog 110 [s.cv] m K:=
 bo Tryz.func110 l110 rfl (T3 rfl) (rC s) rfl rfl h
def sY{α:Type}(p:α->Bool)(l:List α):Int:=match l.findIdx? p with|some i=>(i:Int)|none=>-1
theorem Dy(l:List bX)(hb:l.length<=2097152)(f:Nat)(p:bX->Bool)(hf:∀(s:bX)(m:Mem)(K:CV->Mem->Prop),K (aA (p s)) m->ar Tryz.prog f [s.cv] m K):
  body Tryz.prog c109 [d7 l,.rv (.one (.fn f []))] [] (fun r m=>r=an .i64 (sY p l)):=by
 refine JD (fun k=>k<=l.length/\∀(i:Nat)s,i<k->l[i]? =some s->p s=false) (fun k=>[(8,an .i64 (k:Nat)),(5,.aq),(9,.aq),(10,.aq),(11,.aq),(12,.aq),(13,.aq),(14,.aq),(15,.aq),(16,.aq),(17,.aq),(18,.aq)])
  (fun _=>[]) (fun k=>l.length-k) 0 ⟨XL _,fun i s h=>absurd h (aal i)⟩ (Ax (XL _) ?_) (fun k hk=>?_)
 .repeat(first|exact .nil|refine .aq ?_|refine .eV ?_)
 .refine ay (fun h=>?_) (fun h=>?_)
  .have aF:k<l.length:=by have h:(k:Int)<((l.map bX.enc).length:Int):=of_decide_eq_true h;simp at h;omega
   have hg:dg (l.map bX.enc) (k:Nat)=some (l[k].enc):=by rw[bF,O6,tq aF];rfl
   refine ag hg ?_;refine hf l[k] _ _ ?_;refine ay (fun h3=>?_) (fun h3=>?_)
   .show an _ _=an _ _;have:l.findIdx? p=some k:=by
     rw[aar];refine⟨aF,h3,fun j hj=>?_⟩
     have:=hk.2 j l[j] hj (tq om);simp[this]
    rw[sY,this]
   .refine⟨k+1,⟨aF,fun i s hi hs=>?_⟩,?_,Ax (XL _) ?_⟩
    .rcases XN i k with h5|h5
     .exact hk.2 i s h5 hs
     .have:i=k:=om;subst this;rw[tq aF]at hs;cases hs;exact h3
    .show l.length-(k+1)<l.length-k;omega
    .repeat(first|exact .nil|refine .aq ?_|refine .put (aL om) ?_|refine .eV ?_)
  .have ef:¬(k:Int)<((l.map bX.enc).length:Int):=of_decide_eq_false h;simp at ef;show an _ _=an _ _;have:l.findIdx? p=none:=by rw[abn];intro s hs;obtain⟨i,hi⟩:=Xz hs;have:=(Hy.1 hi).1;simpa using hk.2 i s om hi
   rw[sY,this]
theorem Kp(l:List bX)(hb:l.length<=2097152)(f:Nat)(p:bX->Bool)(hf:∀(s:bX)(m:Mem)(K:CV->Mem->Prop),K (aA (p s)) m->ar Tryz.prog f [s.cv] m K){m:Mem}{K:CV->Mem->Prop}(h:K (an .i64 (sY p l)) m):ar Tryz.prog 109 [d7 l,.rv (.one (.fn f []))] m K:=
 bo Tryz.func109 l109 rfl (T3 rfl) (Dy l hb f p hf) rfl rfl h
def bV(l:List bX):List (List CC):=(l.map bX.enc).map fun ds=>ds.map CC.aa
theorem A7(l:List bX)(hb:l.length<=2097152):body Tryz.prog c93 [d7 l] [] (fun r m=>(l=[]/\r= .rv (.one .aB))\/(r= .rv (.one (.row 1 3 0 none))/\m[1]? =some (.row 3 ([]++bV l)))):=by
 have qK:((([]:List (List CC)).length+((l.map bX.enc).map fun ds=>ds.map CC.aa).length)*24)<=140737488355328:=by simp;omega
 refine ay (fun h=>?_) (fun h=>?_)
 .have hl:l=[]:=XJ (by simpa using XM h)
  exact⟨.inl ⟨hl,rfl⟩,qK,.inr ⟨rfl,rfl⟩⟩
 .exact⟨qK,.inr ⟨rfl,rfl⟩⟩
theorem oc(l:List bX)(hb:l.length<=2097152){m:Mem}{K:CV->Mem->Prop}(h1:l=[]->K (.rv (.one .aB)) m)(h2:K (.rv (.one (.row m.length 3 0 none))) (m++ [.row 3 (bV l)])):
  ar Tryz.prog 93 [d7 l] m K:=by
 refine G5 (aW Tryz.func93 l93 (A7 l hb)) (by simp[d7,CV.c7,CC.c7]) fun r m1 hr=>?_
 rcases hr with⟨hl,rfl⟩|⟨rfl,hm⟩
 .exact .inl ⟨rfl,h1 hl⟩
 .refine .inr ⟨1,3,bV l,rfl,by simpa using hm,fun cs fb c hc=>?_,fun i cs j d hi hj=>?_,h2⟩
  .simp only[bV,aae]at fb;obtain⟨ds,⟨s,_,rfl⟩,rfl⟩:=fb;obtain⟨d,_,rfl⟩:=aae.1 hc;exact⟨d,rfl⟩
  .have fb:=O9 hi;simp only[bV,aae]at fb;obtain⟨ds,⟨s,_,rfl⟩,rfl⟩:=fb;have hd:=O9 hj;simp only[bX.enc,aay,abN,aad,CC.aa.injEq,aaS,or_false]at hd;rcases hd with rfl|rfl|rfl<;>exact⟨_,rfl⟩
theorem l69:bq Tryz.prog Tryz.f69=some c69:=by kernel_rfl
def gE(l:List bX)(c:Cap):List bX×Int×Int:=
 if dv c.cn=false\/c.eJ<0 then([],0,3)else
 match l.findIdx? (fun s=>!s.has)with
 |some k=>(l.set k ⟨true,c⟩,k,0)
 |none=>if l.length>=10 then([],0,15)else(l++ [⟨true,c⟩],l.length,0)
def iw(l:List bX):RV:= .one (.aa (oY l))
theorem k7{m:Mem}{a b:RV}{x y:Int}(h:eh m a b):cw m (.bG [a,cD x,cD y]) (.bG [b,cD x,cD y]):=by
 refine .bG rfl fun i r r' h1 h2=>?_
 match i,h1,h2 with
 |0,h1,h2=>cases h1;cases h2;exact h
 |1,h1,h2=>cases h1;cases h2;exact eh.self rfl
 |2,h1,h2=>cases h1;cases h2;exact eh.self rfl
theorem FQ{l:List bX}{c:Cap}{m:Mem}(h:dv c.cn=false\/c.eJ<0):cw m (.bG [.one .aB,cD 0,cD 3]) (.bG [iw (gE l c).1,cD (gE l c).2.1,cD (gE l c).2.2]):=by rw[gE,if_pos h];exact k7 (.one (.aB 3))
theorem Kq{l:List bX}{c:Cap}{m:Mem}(h:¬(dv c.cn=false\/c.eJ<0))(hk:l.findIdx? (fun s=>!s.has)=none)(hl:l.length>=10):
  cw m (.bG [.one .aB,cD 0,cD 15]) (.bG [iw (gE l c).1,cD (gE l c).2.1,cD (gE l c).2.2]):=by
 rw[gE,if_neg h,hk];simp only;rw[if_pos hl];exact k7 (.one (.aB 3))
theorem FS{l:List bX}{c:Cap}{m:Mem}{id:Nat}(h:¬(dv c.cn=false\/c.eJ<0))(hk:l.findIdx? (fun s=>!s.has)=none)(hl:¬l.length>=10)(hm:m[id]? =some (.row 3 (bV (l++ [⟨true,c⟩])))):
  cw m (.bG [.one (.row id 3 0 none),cD ((l.map bX.enc).length:Nat),cD 0]) (.bG [iw (gE l c).1,cD (gE l c).2.1,cD (gE l c).2.2]):=by
 rw[gE,if_neg h,hk,LW];simp only;rw[if_neg hl];exact k7 (.one (dY.d6 hm 0 none))
theorem Nd{l:List bX}{c:Cap}{m:Mem}{id k:Nat}(h:¬(dv c.cn=false\/c.eJ<0))(hk:l.findIdx? (fun s=>!s.has)=some k)(hm:m[id]? =some (.row 3 (bV (l.set k ⟨true,c⟩)))):
  cw m (.bG [.one (.row id 3 0 none),cD k,cD 0]) (.bG [iw (gE l c).1,cD (gE l c).2.1,cD (gE l c).2.2]):=by
 rw[gE,if_neg h,hk];exact k7 (.one (dY.d6 hm 0 none))
theorem Ks(l:List bX)(hb:l.length<=2097152)(c:Cap):body Tryz.prog c69 [d7 l,.rv c.rv] [] (fun r m=>cw m r (.bG [iw (gE l c).1,cD (gE l c).2.1,cD (gE l c).2.2])):=by
 refine uS c.cn ?_;refine ay (fun h=>?_) (fun hr=>?_)
 .exact FQ (.inl (by simpa using h))
 .refine ay (fun h=>?_) (fun ho=>?_)
  .exact FQ (.inr (of_decide_eq_true h))
  .have i5:¬(dv c.cn=false\/c.eJ<0):=by have:=of_decide_eq_false ho;simp at hr;simp[hr];omega
   refine Kp l hb 110 (fun s=>!s.has) (fun s m K h=>yL s h) ?_
   cases hk:l.findIdx? (fun s=>!s.has)with
   |none=>
    have hi:sY (fun s:bX=>!s.has) l= -1:=by rw[sY,hk]
    rw[hi];refine ay (fun h=>?_) (fun h=>?_)
    .have ef:l.length>=10:=by have h:=of_decide_eq_true h;simp at h;omega
     exact Kq i5 hk ef
    .have aF:¬l.length>=10:=by have h:=of_decide_eq_false h;simp at h;omega
     refine oc l hb (fun hl=>?_) ?_
     .subst hl;refine⟨by decide,?_⟩
      exact FS i5 hk aF rfl
     .refine b8 (by simp[bV,lenOf]) ?_
      refine⟨by simp[bV,ct];omega,?_⟩
      have hlen:(bV l).length=l.length:=by simp[bV]
      refine ag (bP (k:=(l.map bX.enc).length) (by simp[bV,lenOf,ct])) ?_
      refine ag (x:=[CC.aa (.val (.bool false)),CC.aa (.val (.int .i64 0)),CC.aa (.val (.int .i64 0))]) (by simp[aT,bV,ct,gB]) ?_
      refine FS (id:=3) i5 hk aF ?_;refine congrArg (fun x=>some (Bk.row 3 x)) ?_
      show a7 (bV l++ [[CC.aa (.val (.bool false)),CC.aa (.val (.int .i64 0)),CC.aa (.val (.int .i64 0))]]) (l.map bX.enc).length [CC.aa (.val (.bool true)),CC.aa (.val (.int .i64 c.eJ)),CC.aa (.val (.int .i64 c.cn))]=_;rw[bg,LW,<-hlen,abZ _ _ (QN _),abK];simp[bV,bX.enc]
   |some k=>
    have hi:sY (fun s:bX=>!s.has) l=(k:Int):=by rw[sY,hk]
    have fy:k<l.length:=(aar.1 hk).1;rw[hi];refine oc l hb (fun hl=>?_) ?_
    .subst hl;simp at fy
    .have hlen:(bV l).length=l.length:=by simp[bV]
     refine sM (by simp[hlen,lenOf];omega) ?_
     refine ag (bP (k:=k) (by simp[hlen,lenOf];omega)) ?_
     refine ag (x:=(l[k].enc).map .aa) (by simp[aT,bV,gB,fy]) ?_
     refine Nd (id:=1) i5 hk ?_;refine congrArg (fun x=>some (Bk.row 3 x)) ?_
     show a7 (bV l) k [CC.aa (.val (.bool true)),CC.aa (.val (.int .i64 c.eJ)),CC.aa (.val (.int .i64 c.cn))]=_;rw[bg];simp[bV,bX.enc]
theorem Kt(l:List bX)(hb:l.length<=2097152)(c:Cap){m:Mem}{K:CV->Mem->Prop}(h:K (.bG [iw (gE l c).1,cD (gE l c).2.1,cD (gE l c).2.2]) m):ar Tryz.prog 69 [d7 l,.rv c.rv] m K:=
 aY (aW Tryz.func69 l69 (Ks l hb c)) (by simp[d7,Cap.rv,CV.c7,CC.c7]) fun r m1 hf=>⟨_,hf,h⟩
theorem l54:bq Tryz.prog Tryz.f54=some c54:=by kernel_rfl
def tp(l:List bX)(fd:Int):List bX×Int×Int:=if(ei l fd).2=0 then gE l (ei l fd).1 else([],0,(ei l fd).2)
theorem Ku(l:List bX)(hb:l.length<=2097152)(fd:Int):body Tryz.prog c54 [d7 l,an .i64 fd] [] (fun r m=>cw m r (.bG [iw (tp l fd).1,cD (tp l fd).2.1,cD (tp l fd).2.2])):=by
 refine uR l fd ?_;refine ay (fun h=>?_) (fun h=>?_)
 .have h:¬(ei l fd).2=0:=by simpa using h
  rw[tp,if_neg h];exact k7 (.one (.aB 3))
 .have h:(ei l fd).2=0:=by simpa using h
  rw[tp,if_pos h];refine Kt l hb (ei l fd).1 ?_;exact cw.self rfl
theorem Qt(l:List bX)(hb:l.length<=2097152)(fd:Int){m:Mem}{K:CV->Mem->Prop}(h:K (.bG [iw (tp l fd).1,cD (tp l fd).2.1,cD (tp l fd).2.2]) m):ar Tryz.prog 54 [d7 l,an .i64 fd] m K:=
 aY (aW Tryz.func54 l54 (Ku l hb fd)) (by simp[d7,an,CV.c7,CC.c7]) fun r m1 hf=>⟨_,hf,h⟩
end Tb
def c17:LF:= ⟨17,[.cell true 12 2],(.seq (.ai [qu 2 (.alloc [(.aa (.val (.bool false))),(.aa (.val (.bool false))),(.aa (.val (.bool false))),(.aa (.val (.bool false))),(.aa (.val (.bool false))),(.aa (.val (.bool false))),(.aa (.val (.bool false))),(.aa (.val (.bool false))),(.aa (.val (.bool false))),(.aa (.val (.bool false))),(.aa (.val (.bool false))),(.aa (.val (.bool false)))])]) (.seq (.ai [qu 3 (.alloc [(.aa (.val (.bool false))),(.aa (.val (.bool false))),(.aa (.val (.bool false))),(.aa (.val (.bool false))),(.aa (.val (.bool false))),(.aa (.val (.bool false))),(.aa (.val (.bool false))),(.aa (.val (.bool false))),(.aa (.val (.bool false))),(.aa (.val (.bool false))),(.aa (.val (.bool false))),(.aa (.val (.bool false)))])]) (.seq (.seq (.ai [qu 5 (.aD (qi 0))]) (.block 0 (.loop (.seq (.ai [qu 6 (.aE .lss 5 (qi 12))]) (.seq (.cond 6 .skip (.exit 0)) (.seq (.block 1 (.seq (.ai [qm 7 5,qm 4 7]) (.seq (.ai [qm 8 4,qm 9 0,qu 10 (.aE .rem 9 (qi 2)),qu 11 (.aE .eql 10 (qi 1)),qu 12 (.tP 12 1 3 8),qw (.store 1 12 11)]) (.ai [qm 13 0,qu 14 (.aE .quo 13 (qi 2)),qm 0 14])))) (.ai [qu 15 (.aE .add 5 (qi 1)),qm 5 15]))))))) (.seq (.ai [qL 16 12 3,qw (.store 12 2 16)]) .ret))))⟩
def c53:LF:= ⟨43,[.tmp 4,.tmp 5],(.seq (.ai [qu 4 (.aD qe),qu 5 (.aD (qi 0))]) (.seq (.seq (.ai [qm 10 0,qm 11 1,qu 12 (qc 66 [10,11]),qm 9 12,qu 13 (.ext 9 0),qu 14 (.ext 9 1),qu 6 (.alloc [(qd 0),(qd 0)]),qw (.store 2 6 13),qm 7 14]) (.seq (.ai [qm 15 7,qu 16 (.aE .neq 15 (qi 0))]) (.cond 16 (.seq (.ai [qm 17 7,qu 4 (.aD qe),qm 5 17]) .ret) .skip))) (.seq (.ai [qm 18 0,qu 19 (qc 93 [18]),qm 8 19]) (.seq (.ai [qm 20 8,qm 21 1,qu 22 (.build [(.aa (.val (.bool false))),(qd 0),(qd 0)] []),qu 23 (.b7 3 20 21),qw (.store 3 23 22)]) (.seq (.block 0 (.loop (.seq (.seq (.ai [qm 24 8,qu 25 (.len 1 24),qu 26 (.aE .gtr 25 (qi 0)),qm 27 26,qg 28 (.aD 8) 27 true,qg 29 (.aD 8) 27 true,qg 30 (.len 1 29) 27 true,qg 31 (.aE .sub 30 (qi 1)) 27 true,qg 32 (.b7 3 28 31) 27 true,qg 33 (.bQ 0 32) 27 true,qg 34 (.load false 1 33) 27 true,qg 35 (.un .not 34) 27 true,qu 36 (.pick 27 35 (qb false))]) (.cond 36 .skip (.exit 0))) (.block 1 (.ai [qm 37 8,qm 38 8,qu 39 (.len 1 38),qu 40 (.aE .sub 39 (qi 1)),qu 41 (.m6 3 37 none (some 40) none),qm 8 41]))))) (.seq (.ai [qm 42 8,qm 4 42,qu 5 (.aD (qi 0))]) .ret))))))⟩
def c89:LF:= ⟨28,[.cell true 2 6,.tmp 7],(.seq (.ai [qu 6 (.alloc [(qd 0),(qd 0)]),qu 7 (.aD (qi 0))]) (.seq (.ai [qm 11 0,qm 12 1,qu 13 (qc 66 [11,12]),qm 10 13,qu 14 (.ext 10 0),qu 15 (.ext 10 1),qu 8 (.alloc [(qd 0),(qd 0)]),qw (.store 2 8 14),qm 9 15]) (.seq (.seq (.ai [qm 16 9,qu 17 (.aE .eql 16 (qi 0)),qm 18 17,qg 19 (.aD 2) 18 true,qg 20 (.bQ 1 8) 18 true,qg 21 (.load false 1 20) 18 true,qg 22 (qc 94 [19,21]) 18 true,qg 23 (.un .not 22) 18 true,qu 24 (.pick 18 23 (qb false))]) (.cond 24 (.seq (.ai [qu 25 (.build [(qd 0),(qd 0)] []),qw (.store 2 6 25),qu 7 (.aD (qi 10))]) .ret) .skip)) (.seq (.ai [qL 26 2 8,qm 27 9,qw (.store 2 6 26),qm 7 27]) .ret))))⟩
def c94:LF:= ⟨9,[.tmp 4],(.seq (.ai [qu 4 (.aD (qb false))]) (.seq (.ai [qm 5 0,qm 6 1,qu 7 (.aE .andNot 5 6),qu 8 (.aE .eql 7 (qi 0)),qm 4 8]) .ret))⟩
namespace Tb
theorem l94:bq Tryz.prog Tryz.f94=some c94:=by kernel_rfl
def cm(a b:Int):Bool:=(IntKind.i64.wrap ((BitVec.ofInt 64 a&&& ~~~ BitVec.ofInt 64 b).toNat:Int))==0
theorem xx(a b:Int){m:Mem}{K:CV->Mem->Prop}(h:K (aA (cm a b)) m):ar Tryz.prog 94 [an .i64 a,an .i64 b] m K:=
 bo (r0:=aA (cm a b)) Tryz.func94 l94 rfl (T3 rfl) (show body Tryz.prog c94 [an .i64 a,an .i64 b] [] (fun r m=>r=aA (cm a b))from rfl) rfl rfl h
theorem l89:bq Tryz.prog Tryz.f89=some c89:=by kernel_rfl
def kM(l:List bX)(fd need:Int):Cap×Int:=
 if(ei l fd).2=0/\cm need (ei l fd).1.cn=false then(⟨0,0⟩,10)else ei l fd
theorem rD(l:List bX)(fd need:Int):body Tryz.prog c89 [d7 l,an .i64 fd,an .i64 need] [] (fun r m=>r= .bG [(kM l fd need).1.rv,cD (kM l fd need).2]):=by
 refine uR l fd ?_;refine ay (fun h=>?_) (fun h=>?_)
 .have h:(ei l fd).2=0:=by simpa using h
  refine xx _ _ ?_;refine ay (fun h2=>?_) (fun h2=>?_)
  .have h2:cm need (ei l fd).1.cn=false:=by simpa using h2
   show CV.bG _=CV.bG _;rw[kM,if_pos ⟨h,h2⟩];rfl
  .have h2:cm need (ei l fd).1.cn=true:=by simpa using h2
   show CV.bG _=CV.bG _;rw[kM,if_neg (by simp[h2])];rfl
 .have h:¬(ei l fd).2=0:=by simpa using h
  show CV.bG _=CV.bG _;rw[kM,if_neg (by simp[h])];rfl
theorem jp(l:List bX)(fd need:Int){m:Mem}{K:CV->Mem->Prop}(h:K (.bG [(kM l fd need).1.rv,cD (kM l fd need).2]) m):ar Tryz.prog 89 [d7 l,an .i64 fd,an .i64 need] m K:=
 bo Tryz.func89 l89 rfl (T3 rfl) (rD l fd need) rfl rfl h
theorem l53:bq Tryz.prog Tryz.f53=some c53:=by kernel_rfl
def xy:Nat->Nat->List bX->Nat
 |_,b,[]=>b
 |k,b,s::r=>xy (k+1) (if s.has then k+1 else b) r
theorem Dz(l:List bX)(k b i:Nat)(h:i<l.length):xy k b (l.take (i+1))=if l[i].has then k+i+1 else xy k b (l.take i):=by
 induction l generalizing k b i with
 |nil=>simp at h
 |cons s r ih=>
  cases i with
  |zero=>simp[xy]
  |succ i=>
   simp at h;have:=ih (k+1) (if s.has then k+1 else b) i h
   rw[show k+1+i=k+(i+1) by omega]at this
   simp only[List.take_succ_cons,xy,this,List.getElem_cons_succ]
def p8(l:List bX):Nat:=xy 0 0 l
theorem DA(l:List bX)(i:Nat)(h:i<l.length):p8 (l.take (i+1))=if l[i].has then i+1 else p8 (l.take i):=by rw[p8,Dz l 0 0 i h];simp[p8]
def rE:bX:=⟨false,⟨0,0⟩⟩
def mh(l:List bX)(fd:Int):List bX×Int:=
 if(ei l fd).2=0 then((l.set fd.toNat rE).take (p8 (l.set fd.toNat rE)),0)else([],(ei l fd).2)
theorem FT{l:List bX}{fd:Int}(h:(ei l fd).2=0):∃k:Nat,fd=k/\∃hk:k<l.length,l[k].has=true/\(ei l fd).1=l[k].cap:=by
 unfold ei at h;split at h
 .rename_i s hs;split at hs
  .refine⟨fd.toNat,om,(Hy.1 hs).1,?_⟩;have e:=(Hy.1 hs).2;split at h
   .rename_i h0 hh;rw[e];refine⟨hh,?_⟩;rw[ei,if_pos h0,hs];simp[hh]
   .simp at h
  .cases hs
 .simp at h
theorem jm{m:Mem}{a b:RV}{x:Int}(h:eh m a b):cw m (.bG [a,cD x]) (.bG [b,cD x]):=by
 refine .bG rfl fun i r r' h1 h2=>?_
 match i,h1,h2 with
 |0,h1,h2=>cases h1;cases h2;exact h
 |1,h1,h2=>cases h1;cases h2;exact eh.self rfl
theorem A8{m:Mem}{id h:Nat}{l:List bX}(hm:m[id]? =some (.row 3 (af (l.map bX.enc)))):dY m (.row id 3 0 (some h)) (.aa (oY (l.take h))):=by
 have h1:dY m (.row id 3 0 (some h)) (.aa (.sl 3 (ct (l.map bX.enc) 0 (some h)))):=dY.d6 hm 0 (some h);have h2:ct (l.map bX.enc) 0 (some h)=(l.take h).map bX.enc:=by simp[ct,abc]
 rw[h2]at h1;exact h1
theorem DB(l:List bX)(hb:l.length<=2097152)(fd:Int):body Tryz.prog c53 [d7 l,an .i64 fd] [] (fun r m=>cw m r (.bG [iw (mh l fd).1,cD (mh l fd).2])):=by
 refine uR l fd ?_;refine ay (fun h=>?_) (fun h=>?_)
 .have h:¬(ei l fd).2=0:=by simpa using h
  rw[mh,if_neg h];exact jm (.one (.aB 3))
 .have h:(ei l fd).2=0:=by simpa using h
  rw[mh,if_pos h];obtain⟨k,rfl,hk,TK,_⟩:=FT h;refine oc l hb (fun hl=>by subst hl;simp at hk) ?_
  refine ag (bP (k:=k) (by simp[bV,lenOf];omega)) ?_
  refine ag (x:=(l[k].enc).map .aa) (by simp[aT,bV,gB,hk]) ?_
  have ji:a7 (bV l) (gB 0 k) [CC.aa (.val (.bool false)),CC.aa (.val (.int .i64 0)),CC.aa (.val (.int .i64 0))]=af ((l.set k rE).map bX.enc):=by rw[bg];simp[bV,bX.enc,af,gB,rE]
  have hlen:(l.set k rE).length=l.length:=aK;rw[show((k:Nat):Int).toNat=k from rfl];generalize l.set k rE=l2 at ji hlen;refine nq (fun h=>h<=l2.length/\p8 (l2.take h)=p8 l2) (fun h=>[(8,.rv (.one (.row 1 3 0 (some h)))),(24,.aq),(25,.aq),(26,.aq),(27,.aq),(28,.aq),(29,.aq),(30,.aq),(31,.aq),(32,.aq),(33,.aq),(34,.aq),(35,.aq),(36,.aq),(37,.aq),(38,.aq),(39,.aq),(40,.aq),(41,.aq),(19,.aq),(20,.aq),(23,.aq)])
   (fun h=>[.aZ,.row 3 (af (l2.map bX.enc))]) (fun h=>h) l2.length ⟨QN _,by rw[aan]⟩ ?_ (fun h hh=>?_)
  .refine View.o 2 [0,1] [] ?_ ?_
   .repeat(first|exact .nil|refine .aq ?_|refine .put (.hi rfl rfl ((congrArg List.length ji).trans (by simp[af]))) ?_|refine .eq rfl ?_)
   .exact .aZ (.put (by simp[bs]) rfl (.bR ji) (.nil _))
  .refine ay (fun h2=>?_) (fun h2=>?_)
   .have h2:0<h:=by have h2:((h:Nat):Int)>0:=of_decide_eq_true h2;omega
    obtain⟨j,rfl⟩:∃j,h=j+1:=⟨h-1,om⟩;have hj:j<l2.length:=om;have hi:(IntKind.i64.wrap (((j+1:Nat):Int)-1))=((j:Nat):Int):=by rw[<-gO (n:=j) om];congr 1;omega
    have rm:dt (IntKind.i64.wrap (((j+1:Nat):Int)-1)) (j+1)=some j:=by rw[hi];exact bP om
    refine ag rm ?_;refine ag (x:=(l2[j].enc).map .aa) (by simp[aT,af,gB,hj]) ?_
    have ht:=DA l2 j hj;refine ay (fun h3=>?_) (fun h3=>?_)
    .have h3:l2[j].has=false:=by simpa using h3
     refine ag (x:=j) (by show oi (.rv (.one (.aa (.val (.int .i64 (IntKind.i64.wrap (((j+1:Nat):Int)-1)))))))=_;rw[hi];rfl) ?_
     refine b8 (by simp[lenOf,aap,af];try omega) ?_
     refine⟨j,⟨om,by rw[h3]at ht;simp at ht;rw[<-ht];exact hh.2⟩,aaZ j,View.o1 2 [0,1] [] ?_⟩
     .exact .aZ (.put (by simp[bs]) rfl (.bR rfl) (.nil _))
    .have h3:l2[j].has=true:=by simpa using h3
     have:p8 l2=j+1:=by rw[<-hh.2,ht,if_pos h3]
     rw[this];exact jm (.one (A8 rfl))
   .have h2:h=0:=by have h2:¬((h:Nat):Int)>0:=of_decide_eq_false h2;omega
    subst h2;have:p8 l2=0:=by rw[<-hh.2];rfl
    rw[this];exact jm (.one (A8 rfl))
theorem Kv(l:List bX)(hb:l.length<=2097152)(fd:Int){m:Mem}{K:CV->Mem->Prop}(h:K (.bG [iw (mh l fd).1,cD (mh l fd).2]) m):ar Tryz.prog 53 [d7 l,an .i64 fd] m K:=
 aY (aW Tryz.func53 l53 (DB l hb fd)) (by simp[d7,an,CV.c7,CC.c7]) fun r m1 hf=>⟨_,hf,h⟩
end Tb
def c25:LF:= ⟨22,[.tmp 4],(.seq (.ai [qu 2 (.box 0),qu 4 (.aD (qb false))]) (.seq (.ai [qm 5 1,qu 6 (.aE .geq 5 (qi 0)),qm 7 6,qg 8 (.aD 1) 7 true,qg 9 (.bQ 2 2) 7 true,qg 10 (.load false 1 9) 7 true,qg 11 (.len 1 10) 7 true,qg 12 (.aE .lss 8 11) 7 true,qu 13 (.pick 7 12 (qb false)),qm 14 13,qg 15 (.bQ 2 2) 14 true,qg 16 (.load false 1 15) 14 true,qg 17 (.aD 1) 14 true,qg 18 (.b7 4 16 17) 14 true,qg 19 (.bQ 0 18) 14 true,qg 20 (.load false 1 19) 14 true,qu 21 (.pick 14 20 (qb false)),qm 4 21]) .ret))⟩
def c106:LF:= ⟨19,[.tmp 4],(.seq (.ai [qu 4 (.aD (qi 0))]) (.seq (.seq (.ai [qm 6 0,qu 7 (.len 1 6),qu 8 (.aD (qi 0))]) (.block 0 (.loop (.seq (.ai [qu 9 (.aE .lss 8 7)]) (.seq (.cond 9 .skip (.exit 0)) (.seq (.block 1 (.seq (.ai [qm 10 8,qm 5 10]) (.seq (.ai [qm 11 1,qm 12 0,qm 13 5,qu 14 (.b7 2 12 13),qL 15 2 14,qu 16 (.call 11 [15])]) (.cond 16 (.seq (.ai [qm 17 5,qm 4 17]) .ret) .skip)))) (.ai [qu 18 (.aE .add 8 (qi 1)),qm 8 18]))))))) (.seq (.ai [qu 4 (.aD (qi (-1)))]) .ret)))⟩
def c107:LF:= ⟨6,[.tmp 2],(.seq (.ai [qu 1 (.box 0),qu 2 (.aD (qb false))]) (.seq (.ai [qf 3 0 1,ql 4 3,qu 5 (.aE .lss 4 (qi 0)),qm 2 5]) .ret))⟩
def c111:LF:= ⟨37,[.tmp 2],(.seq (.ai [qu 2 (.aD (qi 0))]) (.seq (.seq (.ai [qu 5 (.aD (qi 0))]) (.block 0 (.loop (.seq (.ai [qu 6 (.aE .lss 5 (qi 8))]) (.seq (.cond 6 .skip (.exit 0)) (.seq (.block 1 (.seq (.ai [qm 7 5,qu 3 (.alloc [(qd 0)]),qw (.store 1 3 7)]) (.seq (.seq (.bT [ql 8 3,qm 9 0,qu 10 (.aR 9),qf 11 2 10,ql 12 11,qu 13 (.len 1 12),qu 14 (.aE .eql 8 13)] [(.cons 0 none (.cons 1 none (.cons 2 none (.cons 3 none (.cons 4 none (.cons 5 none (.cons 6 none .nil)))))))]) (.cond 14 (.seq (.ai [ql 15 3,qm 2 15]) .ret) .skip)) (.seq (.ai [qm 16 0,qu 17 (.aR 16),qf 18 0 17,ql 19 18,qu 20 (.fn 134 [3]),qu 21 (qc 73 [19,20]),qm 4 21]) (.seq (.bT [qm 22 0,qu 23 (.aR 22),qf 24 2 23,ql 25 24,ql 26 3,qu 27 (.b7 4 25 26),qf 28 0 27,ql 29 28,qu 30 (.un .not 29),qm 31 30,qg 32 (.aD 4) 31 true,qg 33 (.un .not 32) 31 true,qu 34 (.pick 31 33 (qb false))] [(.cons 0 none (.cons 1 none (.cons 2 none (.cons 3 none (.cons 4 none (.cons 5 none (.cons 6 none (.cons 7 none (.cons 8 none (.cons 9 none (.cons 10 none (.cons 11 none (.cons 12 none .nil)))))))))))))]) (.cond 34 (.seq (.ai [ql 35 3,qm 2 35]) .ret) .skip)))))) (.ai [qu 36 (.aE .add 5 (qi 1)),qm 5 36]))))))) (.seq (.ai [qu 2 (.aD (qi (-1)))]) .ret)))⟩
def c134:LF:= ⟨13,[.tmp 3],(.seq (.ai [qu 2 (.box 0),qu 3 (.aD (qb false))]) (.seq (.ai [qf 4 0 2,ql 5 4,qu 6 (.aE .eql 5 (qi 5)),qm 7 6,qg 8 (.bQ 6 2) 7 true,qg 9 (.load false 1 8) 7 true,qg 10 (.load false 1 1) 7 true,qg 11 (.aE .eql 9 10) 7 true,qu 12 (.pick 7 11 (qb false)),qm 3 12]) .ret))⟩
theorem l25:bq Tryz.prog Tryz.f25=some c25:=by kernel_rfl
def eZ(ps:List bi)(p:Int):Bool:=decide (p>=0)&&(decide (p<ps.length)&&match ps[p.toNat]? with|some x=>x.a8|none=>false)
theorem DC(l:List Obj)(ops:List bC)(ps:List bi)(p:Int):body Tryz.prog c25 [dX l ops ps,an .i64 p] [] (fun r m=>r=aA (eZ ps p)):=by
 refine aJ (fun h0=>?_) (fun h0=>?_)
 .obtain⟨n,rfl⟩:∃n:Nat,p=n:=⟨p.toNat,om⟩;refine aJ (fun h=>?_) (fun h=>?_)
  .have aF:n<ps.length:=by have h:(n:Int)<((ps.map bi.enc).length:Int):=h;rw[LW]at h;omega
   refine ag (dQ aF) ?_;have hS:eZ ps (n:Int)=ps[n].a8:=by simp[eZ,aF]
   show aA _=aA _;rw[hS]
  .have ef:¬n<ps.length:=by have h:¬(n:Int)<((ps.map bi.enc).length:Int):=h;rw[LW]at h;omega
   have hS:eZ ps (n:Int)=false:=by simp[eZ,ef]
   show aA _=aA _;rw[hS]
 .have hS:eZ ps p=false:=by have:decide (p>=0)=false:=decide_eq_false h0;simp[eZ,this]
  show aA _=aA _;rw[hS]
theorem nw(l:List Obj)(ops:List bC)(ps:List bi)(p:Int){m:Mem}{K:CV->Mem->Prop}(h:K (aA (eZ ps p)) m):ar Tryz.prog 25 [dX l ops ps,an .i64 p] m K:=
 bo Tryz.func25 l25 rfl (T3 rfl) (DC l ops ps p) (by simp[dX,da,eF,fM,an,CV.c7,CC.c7,RV.c7]) rfl h
theorem p9{ps:List bi}{p:Int}(h:eZ ps p=true):∃n:Nat,p=n/\∃hn:n<ps.length,ps[n].a8=true:=by
 unfold eZ at h;by_cases h0:p>=0
 .obtain⟨n,rfl⟩:∃n:Nat,p=n:=⟨p.toNat,om⟩;by_cases hn:n<ps.length
  .refine⟨n,rfl,hn,?_⟩;simpa[hn]using h
  .simp[hn]at h
 .simp[h0]at h
theorem Nf{ps:List bi}{n:Nat}(hn:n<ps.length)(h:ps[n].a8=true):eZ ps (n:Int)=true:=by simp[eZ,hn,h]
theorem l111:bq Tryz.prog Tryz.f111=some c111:=by kernel_rfl
theorem l134:bq Tryz.prog Tryz.f134=some c134:=by kernel_rfl
theorem DD(o:Obj)(p:Int):body Tryz.prog c134 [o.cv,.rv (.one (.ptr 0 0))] [.var ([Dt.val (.int .i64 p)].map .aa)] (fun r m=>r=aA (eH p o)/\∃ex,m= .var ([Dt.val (.int .i64 p)].map .aa)::ex):=by
 refine ay (fun h=>?_) (fun h=>?_)
 .refine⟨?_,_,rfl⟩;show aA _=aA _;rw[eH,h];rfl
 .refine⟨?_,_,rfl⟩;show aA _=aA _;rw[eH,h];rfl
theorem TL(o:Obj)(p:Int)(K:CV->Mem->Prop)(h:K (aA (eH p o)) [.var ([Dt.val (.int .i64 p)].map .aa)]):ar Tryz.prog 134 [o.cv,.rv (.one (.ptr 0 0))] [.var ([Dt.val (.int .i64 p)].map .aa)] K:=
 eM rfl (aW Tryz.func134 l134 (DD o p)) h
def sZ(l:List Obj)(ps:List bi)(p:Nat):Bool:=match ps[p]? with
 |some x=>!x.a8&& !(l.any (eH (p:Nat)))
 |none=>false
def ny(l:List Obj)(ps:List bi):Nat->Nat->Int
 |0,_=>-1
 |n+1,p=>if p=ps.length then(p:Nat)else if sZ l ps p=true then(p:Nat)else ny l ps n (p+1)
def fR(l:List Obj)(ps:List bi):Int:=ny l ps 8 0
def kC(l:List Obj)(ops:List bC)(ps:List bi):List Dt:=[da l,eF ops,fM ps]
theorem rC(l:List Obj)(hl:l.length<=4194304)(ops:List bC)(ps:List bi):body Tryz.prog c111 [.rv (.one (.ptr 0 0))] [.var ((kC l ops ps).map .aa)] (fun r m=>r=an .i64 (fR l ps)/\∃ex,m= .var ((kC l ops ps).map .aa)::ex):=by
 refine aX (fun p=>p<=8/\p<=ps.length/\ny l ps (8-p) p=fR l ps) [0] (fun p=>[(5,an .i64 (p:Nat))]) (fun _=>[.var ((kC l ops ps).map .aa)]) (fun p=>8-p) 0 ⟨om,XL _,rfl⟩ ?_ (fun p hp=>?_)
 .refine View.o1 1 [0] [] ?_
  .exact .pt rfl rfl (.eq rfl (by simp[kC])) (.nil _)
 obtain⟨ZA,iI,IM⟩:=hp;have ZA:p<=8:=ZA;have iI:p<=ps.length:=iI;have IM:ny l ps (8-p) p=fR l ps:=IM;refine aJ (fun h=>?_) (fun h=>?_)
 .have aF:p<8:=by have h:(p:Int)<8:=h;omega
  rw[show 8-p=(8-(p+1))+1 by omega,ny]at IM
  refine bz (fun he=>?_) (fun he=>?_)
  .have he:p=ps.length:=by have he:(p:Int)=((ps.map bi.enc).length:Int):=he;rw[LW]at he;omega
   rw[if_pos he]at IM;rw[<-IM];exact⟨rfl,_,rfl⟩
  .have eL:¬p=ps.length:=by intro hh;apply he;show(p:Int)=((ps.map bi.enc).length:Int);rw[LW];omega
   rw[if_neg eL]at IM;have Ar:p<ps.length:=om;have MH:sZ l ps p=(!ps[p].a8&& !(l.any (eH (p:Nat)))):=by rw[sZ,tq Ar]
   refine fl (args0:=[cq l,.rv (.one (.fn 134 [0]))]) (cs:=[.val (.int .i64 (p:Nat))]) 1 rfl rfl (r0:=aA (l.any (eH (p:Int)))) rfl (fun K hK=>ru l hl 134 _ _ (fun s K hK=>TL s _ K hK) K hK) ?_
   refine ag (dQ Ar) ?_;rw[MH]at IM;have go:(!ps[p].a8&& !(l.any (eH (p:Nat))))=false->ny l ps (8-(p+1)) (p+1)=fR l ps:=fun hh=>by
    rw[if_neg (by rw[hh];simp)]at IM;exact IM
   refine ay (fun h1=>?_) (fun h1=>?_)
   .refine ay (fun h2=>?_) (fun h2=>?_)
    .rw[if_pos (by rw[h1,h2];rfl)]at IM
     rw[<-IM];exact⟨rfl,_,rfl⟩
    .refine⟨p+1,⟨om,om,go (by rw[h2,Bool.and_false])⟩,(show 8-(p+1)<8-p by omega),View.o 2 [0] [] ?_ ?_⟩
     .repeat(first|exact .nil|refine .aq ?_|refine .put (.aP (aL om).symm) ?_|refine .eq rfl ?_)
     .exact .pt rfl rfl (.eq rfl (by simp[kC])) (.nil _)
   .refine⟨p+1,⟨om,om,go (by rw[h1,Bool.false_and])⟩,(show 8-(p+1)<8-p by omega),View.o 2 [0] [] ?_ ?_⟩
    .repeat(first|exact .nil|refine .aq ?_|refine .put (.aP (aL om).symm) ?_|refine .eq rfl ?_)
    .exact .pt rfl rfl (.eq rfl (by simp[kC])) (.nil _)
 .have hp:p=8:=by have h:¬(p:Int)<8:=h;omega
  subst hp;rw[show fR l ps= -1 from IM.symm];exact⟨rfl,_,rfl⟩
theorem yL(l:List Obj)(hl:l.length<=4194304)(ops:List bC)(ps:List bi)(K:CV->Mem->Prop)(h:K (an .i64 (fR l ps)) [.var ((kC l ops ps).map .aa)]):ar Tryz.prog 111 [.rv (.one (.ptr 0 0))] [.var ((kC l ops ps).map .aa)] K:=
 eM rfl (aW Tryz.func111 l111 (rC l hl ops ps)) h
theorem l106:bq Tryz.prog Tryz.f106=some c106:=by kernel_rfl
theorem l107:bq Tryz.prog Tryz.f107=some c107:=by kernel_rfl
def bC.cv(o:bC):CV:= .rv (.agg (o.enc.map .aa))
theorem DE(o:bC):body Tryz.prog c107 [o.cv] [] (fun r m=>r=aA (decide (o.bt<0))):=by show aA _=aA _;rfl
theorem TM(o:bC){m:Mem}{K:CV->Mem->Prop}(h:K (aA (decide (o.bt<0))) m):ar Tryz.prog 107 [o.cv] m K:=
 bo Tryz.func107 l107 rfl (T3 rfl) (DE o) rfl rfl h
def DF(l:List bC):Option Nat:=l.findIdx? fun o=>decide (o.bt<0)
def IN(l:List bC):Int:=match DF l with|some i=>(i:Nat)|none=>-1
theorem Hr(l:List bC)(hb:l.length<=4194304):body Tryz.prog c106 [.rv (.one (.aa (eF l))),.rv (.one (.fn 107 []))] [] (fun r m=>r=an .i64 (IN l)):=by
 refine aX (fun k=>k<=l.length/\∀(i:Nat)s,i<k->l[i]? =some s->¬s.bt<0) [0,1,7] (fun k=>[(8,an .i64 (k:Nat))]) (fun _=>[]) (fun k=>l.length-k) 0 ⟨XL _,fun i s h=>absurd h (aal i)⟩ ?_ (fun k hk=>?_)
 .refine View.o 0 [] [] ?_ (.nil _);repeat(first|exact .nil|refine .aq ?_|refine .eq rfl ?_)
 obtain⟨fy,Vy⟩:=hk;have fy:k<=l.length:=fy;refine aJ (fun h=>?_) (fun h=>?_)
 .have aF:k<l.length:=by have h:(k:Int)<((l.map bC.enc).length:Int):=h;rw[LW]at h;omega
  refine ag (tJ aF) ?_;refine TM l[k] ?_;refine aJ (fun h3=>?_) (fun h3=>?_)
  .show an _ _=an _ _;have:DF l=some k:=by
    rw[DF,aar];exact⟨aF,by simpa using h3,fun j hj=>by simpa using Vy j _ hj (tq om)⟩
   rw[IN,this]
  .refine⟨k+1,⟨aF,fun i s hi hs=>?_⟩,(show l.length-(k+1)<l.length-k by omega),View.o 0 [] [] ?_ (.nil _)⟩
   .rcases XN i k with h5|h5
    .exact Vy i s h5 hs
    .have:i=k:=om;subst this;rw[tq aF]at hs;cases hs;exact h3
   .repeat(first|exact .nil|refine .aq ?_|refine .put (.aP (aL om).symm) ?_|refine .eq rfl ?_)
 .have ef:k=l.length:=by have h:¬(k:Int)<((l.map bC.enc).length:Int):=h;rw[LW]at h;omega
  show an _ _=an _ _;have:DF l=none:=by rw[DF,abn];intro s hs;obtain⟨i,hi⟩:=Xz hs;have:=(Hy.1 hi).1;simpa using Vy i s om hi
  rw[IN,this]
theorem FU(l:List bC)(hb:l.length<=4194304){m:Mem}{K:CV->Mem->Prop}(h:K (an .i64 (IN l)) m):ar Tryz.prog 106 [.rv (.one (.aa (eF l))),.rv (.one (.fn 107 []))] m K:=
 bo Tryz.func106 l106 rfl (T3 rfl) (Hr l hb) (by simp[eF,CV.c7,CC.c7,RV.c7]) rfl h
def c71:LF:= ⟨36,[.cell true 3 6,.tmp 7],(.seq (.ai [qu 3 (.box 0),qu 6 (.alloc [.aB,.aB,.aB]),qu 7 (.aD (qi 0))]) (.seq (.seq (.ai [qL 9 3 3,qm 10 1,qu 11 (qc 25 [9,10]),qu 12 (.un .not 11)]) (.cond 12 (.seq (.ai [qu 13 (.build [.aB,.aB,.aB] []),qw (.store 3 6 13),qu 7 (.aD (qi 6))]) .ret) .skip)) (.seq (.seq (.ai [qm 14 2,qu 15 (.aE .lss 14 (qi 0)),qm 16 15,qg 17 (.aD 2) 16 false,qg 18 (.aE .gtr 17 (qi 255)) 16 false,qu 19 (.pick 16 (qb true) 18)]) (.cond 19 (.seq (.ai [qu 20 (.build [.aB,.aB,.aB] []),qw (.store 3 6 20),qu 7 (.aD (qi 3))]) .ret) .skip)) (.seq (.ai [qL 21 3 3,qu 22 (qc 52 [21]),qu 8 (.alloc [.aB,.aB,.aB]),qw (.store 3 8 22)]) (.seq (.bT [qf 23 2 8,ql 24 23,qm 25 1,qf 26 2 3,ql 27 26,qm 28 1,qu 29 (.b7 4 27 28),qf 30 1 29,ql 31 30,qm 32 2,qu 33 (.build [(.aa (.val (.bool false))),(.aa (.val (.bool false))),(qd 0),.aB] [(1,1,31),(2,1,32)]),qu 34 (.b7 4 24 25),qw (.store 4 34 33)] [(.cons 0 none (.cons 1 none (.cons 2 none (.cons 3 none (.cons 4 none (.cons 5 none (.cons 6 none (.cons 7 none (.cons 8 none (.cons 9 none (.cons 10 none (.cons 11 none (.cons 12 (some []) .nil)))))))))))))]) (.cL (.seq (.ai [qL 35 3 8,qw (.store 3 6 35),qu 7 (.aD (qi 0))]) .ret)))))))⟩
theorem l71:bq Tryz.prog Tryz.f71=some c71.er:=by kernel_rfl
def ib(k:Kr):RV:= .agg [.aa (da k.l),.aa (eF k.ops),.aa (fM k.ps)]
def lg:Kr:=⟨[],[],[]⟩
def ic(k:Kr)(p code:Int):Kr×Int:=
 if eZ k.ps p=false then(lg,6)else if code<0\/code>255 then(lg,3)
 else(⟨k.l,k.ops,k.ps.set p.toNat ⟨false,(match k.ps[p.toNat]? with|some x=>x.fenced|none=>false),code,[]⟩⟩,0)
theorem gi{m:Mem}:eh m (.agg [.aB,.aB,.aB]) (ib lg):=by
 refine .agg rfl fun i c c' h1 h2=>?_
 match i,h1,h2 with
 |0,h1,h2=>cases h1;cases h2;exact .aB 9
 |1,h1,h2=>cases h1;cases h2;exact .aB 2
 |2,h1,h2=>cases h1;cases h2;exact .aB 4
 |n+3,h1,h2=>simp at h1
theorem yM(k:Kr):(ib k).c7=true:=by simp[ib,da,eF,fM,CV.c7,CC.c7,RV.c7]
theorem Kw{m:Mem}{Z:Nat->Prop}{p:Option Nat}{id:Nat}{ps:List bi}{k:Nat}{c:List CC}{x:bi}(hc:gx m Z (some id) c x.enc)(hz:Z id)(hm:m[id]? =some (.row 4 (a7 (af (ps.map bi.enc)) k c))):
  dm m Z p (.row id 4 0 none) (fM (ps.set k x)):=by
 rw[bg]at hm;refine dm.row id 4 0 none _ _ hz hm (by simp[af]) (fun i cs es h1 h2=>?_) (fun i cs es j c' d h1 h2 h3 h4=>?_)
 .rw[aaq]at h1;rw[O6,aaq]at h2;by_cases e:k=i
  .subst e;rw[if_pos rfl]at h1 h2;split at h1
   .cases h1;split at h2
    .cases h2;exact hc.len
    .cases h2
   .cases h1
  .rw[if_neg e]at h1 h2;rw[af,O6,O6]at h1;cases hi:ps[i]? with
   |none=>rw[hi]at h1;cases h1
   |some y=>rw[hi]at h1 h2;cases h1;cases h2;simp
 .rw[aaq]at h1;rw[O6,aaq]at h2;by_cases e:k=i
  .subst e;rw[if_pos rfl]at h1 h2;split at h1
   .cases h1;split at h2
    .cases h2;exact hc.get j _ _ h3 h4
    .cases h2
   .cases h1
  .rw[if_neg e]at h1 h2;rw[af,O6,O6]at h1;cases hi:ps[i]? with
   |none=>rw[hi]at h1;cases h1
   |some y=>
    rw[hi]at h1 h2;cases h1;cases h2;have h4:y.enc[j]? =some d:=h4;rw[O6,h4]at h3;cases h3;exact .aa d
def G15:LC:=oV (bI (bI (bI (bI (bI c71.code)))))
theorem Hs(k:Kr)(hk:dC k.l k.ops k.ps)(p code:Int):body Tryz.prog c71 [dX k.l k.ops k.ps,an .i64 p,an .i64 code] [] (fun r m=>cw m r (.bG [ib (ic k p code).1,cD (ic k p code).2])):=by
 refine nw k.l k.ops k.ps p ?_;refine ay (fun h1=>?_) (fun h1=>?_)
 .have h1:eZ k.ps p=false:=by simpa using h1
  rw[ic,if_pos h1];exact jm gi
 have h1:eZ k.ps p=true:=by simpa using h1
 obtain⟨n,rfl,hn,dG⟩:=p9 h1;rw[ic,if_neg (by rw[h1];simp)]
 refine aJ (fun h2=>?_) (fun h2=>?_)
 .rw[if_pos (.inl h2)];exact jm gi
 refine aJ (fun h3=>?_) (fun h3=>?_)
 .rw[if_pos (.inr h3)];exact jm gi
 rw[if_neg (fun h=>h.elim h2 h3)]
 refine gP k.l k.ops k.ps ⟨hk.ll,fun o ho=>(hk.sm o ho).mU⟩ hk.lo hk.lp hk.sl hk.ne ?_
 have hg:=dQ hn;have hr:=bA bi.enc k.ps hn;have hx:(match k.ps[((n:Nat):Int).toNat]? with|some x=>x.fenced|none=>false)=k.ps[n].fenced:=by rw[show((n:Nat):Int).toNat=n from rfl,tq hn]
 rw[hx,show((n:Nat):Int).toNat=n from rfl];generalize k.ps[n]=y at hg hr;obtain⟨a8,fenced,cd,bd⟩:=y;refine ag hg ?_;refine ag (k9 hn) ?_;refine ag hr ?_;have eE:aw Tryz.prog 0 G15 (nb Tryz.prog c71.ki (fun r m=>cw m r (.bG [ib ⟨k.l,k.ops,k.ps.set n ⟨false,fenced,code,[]⟩⟩,cD 0]))) ⟨lB 36 [(6,.rv (.one (.ptr 1 0))),(8,.rv (.one (.ptr 2 0)))],[.var ((kC k.l k.ops k.ps).map .aa),.var [.aB,.aB,.aB],.var ((kC k.l k.ops (k.ps.set n ⟨false,fenced,code,[]⟩)).map .aa)]⟩:=by exact jm (eh.self (yM _))
 refine⟨?_,_,View.o 6 [0,1,5] [2,3,4] ?_ ?_,eE⟩
 .exact trivial
 .repeat(first|exact .nil|refine .aq ?_|refine .eq rfl ?_)
 .refine .pt rfl rfl (.eq rfl (by simp[kC])) (.pe rfl rfl rfl (.pt rfl rfl (eG.var (.cons (.eu (dm.d6 (Z:=fun k=>bs [2,3,4] k=true) rfl rfl 0 none)) (.cons (.eu (dm.d6 (Z:=fun k=>bs [2,3,4] k=true) rfl rfl 0 none)) (.cons (.eu (Kw (Z:=fun k=>bs [2,3,4] k=true) ?_ rfl rfl)) .nil)))) (.nil _)))
  exact .cons (.aa _) (.cons (.aa _) (.cons (.aa _) (.cons (.aB 3) .nil)))
theorem yN(k:Kr)(hk:dC k.l k.ops k.ps)(p code:Int){m:Mem}{K:CV->Mem->Prop}(h:K (.bG [ib (ic k p code).1,cD (ic k p code).2]) m):ar Tryz.prog 71 [dX k.l k.ops k.ps,an .i64 p,an .i64 code] m K:=
 aY (cf Tryz.func71 l71 (Hs k hk p code)) (by simp[dX,da,eF,fM,an,CV.c7,CC.c7,RV.c7]) fun r m1 hf=>⟨_,hf,h⟩
end Go.Proofs.YthagjdhjmamakaaGreatDoor
