/- Part 23 of 39: what the law stands on. -/
import Derived.Test.YtodckkkbiidffaaGreatDoorT16
import Derived.Test.YtodckkkbiidffaaGreatDoorT21
import Derived.Test.YtodckkkbiidffaaGreatDoorT22
set_option linter.unusedVariables false
set_option linter.unusedSimpArgs false
set_option linter.unnecessarySimpa false
set_option maxRecDepth 100000
set_option maxHeartbeats 64000000
namespace Go.Proofs.YtodckkkbiidffaaGreatDoor
open Go.AM Go.ChangeShapes Go.WideShapes Go.ChangeAt Go.RowKit
def c54:LF:= ⟨9,[.tmp 2],(.seq (.ai [qu 2 (.aF (qb false))]) (.seq (.ai [qm 3 0,qu 4 (.aH .geq 3 (qi 0)),qm 5 4,qg 6 (.aF 0) 5 true,qg 7 (.aH .leq 6 (qi 4095)) 5 true,qu 8 (.pick 5 7 (qb false)),qm 2 8]) .ret))⟩
def c61:LF:= ⟨24,[.tmp 4,.tmp 5,.tmp 6],(.seq (.ai [qu 4 (.aF qe),qu 5 (.aF (qi 0)),qu 6 (.aF (qi 0))]) (.seq (.ai [qm 10 0,qm 11 1,qu 12 (qc 73 [10,11]),qm 9 12,qu 13 (.ext 9 0),qu 14 (.ext 9 1),qu 7 (.alloc [(qd 0),(qd 0)]),qw (.store 2 7 13),qm 8 14]) (.seq (.seq (.ai [qm 15 8,qu 16 (.aH .neq 15 (qi 0))]) (.cond 16 (.seq (.ai [qm 17 8,qu 4 (.aF qe),qu 5 (.aF (qi 0)),qm 6 17]) .ret) .skip)) (.seq (.ai [qm 18 0,qL 19 2 7,qu 20 (qc 76 [18,19]),qu 21 (.ext 20 0),qu 22 (.ext 20 1),qu 23 (.ext 20 2),qm 4 21,qm 5 22,qm 6 23]) .ret))))⟩
def c73:LF:= ⟨28,[.cell true 2 4,.tmp 5],(.seq (.ai [qu 4 (.alloc [(qd 0),(qd 0)]),qu 5 (.aF (qi 0))]) (.seq (.seq (.ai [qm 6 1,qu 7 (.aH .lss 6 (qi 0)),qm 8 7,qg 9 (.aF 1) 8 false,qg 10 (.aF 0) 8 false,qg 11 (.len 1 10) 8 false,qg 12 (.aH .geq 9 11) 8 false,qu 13 (.pick 8 (qb true) 12),qm 14 13,qg 15 (.aF 0) 14 false,qg 16 (.aF 1) 14 false,qg 17 (.cr 3 15 16) 14 false,qg 18 (.bX 0 17) 14 false,qg 19 (.load false 1 18) 14 false,qg 20 (.un .not 19) 14 false,qu 21 (.pick 14 (qb true) 20)]) (.cond 21 (.seq (.ai [qu 22 (.build [(qd 0),(qd 0)] []),qw (.store 2 4 22),qu 5 (.aF (qi 6))]) .ret) .skip)) (.seq (.ai [qm 23 0,qm 24 1,qu 25 (.cr 3 23 24),qf 26 1 25,qL 27 2 26,qw (.store 2 4 27),qu 5 (.aF (qi 0))]) .ret)))⟩
def c76:LF:= ⟨44,[.tmp 4,.tmp 5,.tmp 6],(.seq (.ai [qu 3 (.box 1),qu 4 (.aF qe),qu 5 (.aF (qi 0)),qu 6 (.aF (qi 0))]) (.seq (.seq (.ai [qf 9 1 3,ql 10 9,qu 11 (qc 54 [10]),qu 12 (.un .not 11),qm 13 12,qg 14 (.bX 0 3) 13 false,qg 15 (.load false 1 14) 13 false,qg 16 (.aH .lss 15 (qi 0)) 13 false,qu 17 (.pick 13 (qb true) 16)]) (.cond 17 (.seq (.ai [qu 4 (.aF qe),qu 5 (.aF (qi 0)),qu 6 (.aF (qi 3))]) .ret) .skip)) (.seq (.ai [qm 18 0,qu 19 (qc 116 [18,(.c (.rv (.one (.fn 117 []))))]),qm 7 19]) (.seq (.seq (.ai [qm 20 7,qu 21 (.aH .lss 20 (qi 0))]) (.cond 21 (.seq (.seq (.ai [qm 22 0,qu 23 (.len 1 22),qu 24 (.aH .geq 23 (qi 10))]) (.cond 24 (.seq (.ai [qu 4 (.aF qe),qu 5 (.aF (qi 0)),qu 6 (.aF (qi 15))]) .ret) .skip)) (.ai [qm 25 0,qu 26 (.len 1 25),qm 7 26])) .skip)) (.seq (.ai [qm 27 0,qu 28 (qc 100 [27]),qm 8 28]) (.seq (.seq (.ai [qm 29 7,qm 30 8,qu 31 (.len 1 30),qu 32 (.aH .eql 29 31)]) (.cond 32 (.ai [qm 33 8,qu 34 (.build [(.aa (.val (.bool false))),(qd 0),(qd 0)] []),qu 35 (.l5 3 [(.aa (.val (.bool false))),(qd 0),(qd 0)] 1 [(0,34)]),qu 36 (.mE 3 24 33 35),qm 8 36]) .skip)) (.seq (.ai [qm 37 8,qm 38 7,qL 39 2 3,qu 40 (.build [(.aa (.val (.bool false))),(qd 0),(qd 0)] [(0,1,(qb true)),(1,2,39)]),qu 41 (.cr 3 37 38),qw (.store 3 41 40)]) (.seq (.ai [qm 42 8,qm 43 7,qm 4 42,qm 5 43,qu 6 (.aF (qi 0))]) .ret))))))))⟩
def c116:LF:= ⟨19,[.tmp 4],(.seq (.ai [qu 4 (.aF (qi 0))]) (.seq (.seq (.ai [qm 6 0,qu 7 (.len 1 6),qu 8 (.aF (qi 0))]) (.block 0 (.loop (.seq (.ai [qu 9 (.aH .lss 8 7)]) (.seq (.cond 9 .skip (.exit 0)) (.seq (.block 1 (.seq (.ai [qm 10 8,qm 5 10]) (.seq (.ai [qm 11 1,qm 12 0,qm 13 5,qu 14 (.cr 3 12 13),qL 15 3 14,qu 16 (.call 11 [15])]) (.cond 16 (.seq (.ai [qm 17 5,qm 4 17]) .ret) .skip)))) (.ai [qu 18 (.aH .add 8 (qi 1)),qm 8 18]))))))) (.seq (.ai [qu 4 (.aF (qi (-1)))]) .ret)))⟩
def c117:LF:= ⟨6,[.tmp 2],(.seq (.ai [qu 1 (.box 0),qu 2 (.aF (qb false))]) (.seq (.ai [qf 3 0 1,ql 4 3,qu 5 (.un .not 4),qm 2 5]) .ret))⟩
namespace Tb
structure Cap where
 eE:Int
 cn:Int
 deriving DecidableEq
structure bW where
 has:Bool
 cap:Cap
 deriving DecidableEq
def bW.enc(s:bW):List Dt:=[.val (.bool s.has),.val (.int .i64 s.cap.eE),.val (.int .i64 s.cap.cn)]
def oy(l:List bW):Dt:= .sl 3 (l.map bW.enc)
def dZ(l:List bW):CV:= .rv (.one (.aa (oy l)))
def Cap.rv(c:Cap):RV:= .agg [.aa (.val (.int .i64 c.eE)),.aa (.val (.int .i64 c.cn))]
def cC(n:Int):RV:= .one (.aa (.val (.int .i64 n)))
theorem l73:bs Tryz.prog Tryz.f73=some c73:=by kernel_rfl
def d9(l:List bW)(fd:Int):Cap×Int:=
 match (if 0<=fd then l[fd.toNat]? else none)with
 |some s=>if s.has then(s.cap,0)else(⟨0,0⟩,6)
 |none=>(⟨0,0⟩,6)
theorem I6(l:List bW)(fd:Int):body Tryz.prog c73 [dZ l,an .i64 fd] [] (fun r m=>r= .bF [(d9 l fd).1.rv,cC (d9 l fd).2]):=by
 refine aD (fun h=>?_) (fun h=>?_)
 .have h:fd<0:=of_decide_eq_true h;show CV.bF _=CV.bF _;rw[d9,if_neg om];rfl
 .have h:¬fd<0:=of_decide_eq_false h;refine aD (fun h2=>?_) (fun h2=>?_)
  .have h2:fd>=((l.map bW.enc).length:Int):=of_decide_eq_true h2;simp at h2;show CV.bF _=CV.bF _;rw[d9,if_pos om,aae om];rfl
  .have h2:¬fd>=((l.map bW.enc).length:Int):=of_decide_eq_false h2;simp at h2;have aE:fd.toNat<l.length:=om;have hg:dg (l.map bW.enc) fd=some (l[fd.toNat].enc):=by rw[Ed,if_pos om,NO,sA aE];rfl
   have hs:d9 l fd=if l[fd.toNat].has then(l[fd.toNat].cap,0)else(⟨0,0⟩,6):=by rw[d9,if_pos om,sA aE]
   refine ag hg ?_;refine aD (fun h3=>?_) (fun h3=>?_)
   .have h3:l[fd.toNat].has=false:=by simpa using h3
    show CV.bF _=CV.bF _;rw[hs,h3];rfl
   .have h3:l[fd.toNat].has=true:=by simpa using h3
    refine ag hg ?_;show CV.bF _=CV.bF _;rw[hs,h3];rfl
theorem ua(l:List bW)(fd:Int){m:Mem}{K:CV->Mem->Prop}(h:K (.bF [(d9 l fd).1.rv,cC (d9 l fd).2]) m):aq Tryz.prog 73 [dZ l,an .i64 fd] m K:=
 bu Tryz.func73 l73 rfl (V5 rfl) (I6 l fd) rfl rfl h
theorem l100:bs Tryz.prog Tryz.f100=some c100:=by kernel_rfl
theorem l54:bs Tryz.prog Tryz.f54=some c54:=by kernel_rfl
theorem l116:bs Tryz.prog Tryz.f116=some c116:=by kernel_rfl
theorem l117:bs Tryz.prog Tryz.f117=some c117:=by kernel_rfl
def dN(n:Int):Bool:=decide (n>=0)&&decide (n<=4095)
theorem Co(n:Int):body Tryz.prog c54 [an .i64 n] [] (fun r m=>r=ay (dN n)):=by
 refine aD (fun h=>?_) (fun h=>?_)
 .show ay _=ay _;unfold dN;rw[h];rfl
 .show ay _=ay _;unfold dN;rw[h];rfl
theorem ub(n:Int){m:Mem}{K:CV->Mem->Prop}(h:K (ay (dN n)) m):aq Tryz.prog 54 [an .i64 n] m K:=
 bu Tryz.func54 l54 rfl (V5 rfl) (Co n) rfl rfl h
def bW.cv(s:bW):CV:= .rv (.agg (s.enc.map .aa))
theorem qT(s:bW):body Tryz.prog c117 [s.cv] [] (fun r m=>r=ay (!s.has)):=by show ay _=ay _;rfl
theorem xT(s:bW){m:Mem}{K:CV->Mem->Prop}(h:K (ay (!s.has)) m):aq Tryz.prog 117 [s.cv] m K:=
 bu Tryz.func117 l117 rfl (V5 rfl) (qT s) rfl rfl h
def rZ{α:Type}(p:α->Bool)(l:List α):Int:=match l.findIdx? p with|some i=>(i:Int)|none=>-1
theorem Cp(l:List bW)(hb:l.length<=2097152)(f:Nat)(p:bW->Bool)(hf:∀(s:bW)(m:Mem)(K:CV->Mem->Prop),K (ay (p s)) m->aq Tryz.prog f [s.cv] m K):
  body Tryz.prog c116 [dZ l,.rv (.one (.fn f []))] [] (fun r m=>r=an .i64 (rZ p l)):=by
 refine Il (fun k=>k<=l.length/\∀(i:Nat)s,i<k->l[i]? =some s->p s=false) (fun k=>[(8,an .i64 (k:Nat)),(5,.ar),(9,.ar),(10,.ar),(11,.ar),(12,.ar),(13,.ar),(14,.ar),(15,.ar),(16,.ar),(17,.ar),(18,.ar)])
  (fun _=>[]) (fun k=>l.length-k) 0 ⟨Wi _,fun i s h=>absurd h (aah i)⟩ (zt (Wi _) ?_) (fun k hk=>?_)
 .repeat(first|exact .nil|refine .ar ?_|refine .eQ ?_)
 .refine aD (fun h=>?_) (fun h=>?_)
  .have aE:k<l.length:=by have h:(k:Int)<((l.map bW.enc).length:Int):=of_decide_eq_true h;simp at h;omega
   have hg:dg (l.map bW.enc) (k:Nat)=some (l[k].enc):=by rw[bI,NO,sA aE];rfl
   refine ag hg ?_;refine hf l[k] _ _ ?_;refine aD (fun h3=>?_) (fun h3=>?_)
   .show an _ _=an _ _;have:l.findIdx? p=some k:=by
     rw[aam];refine⟨aE,h3,fun j hj=>?_⟩
     have:=hk.2 j l[j] hj (sA om);simp[this]
    rw[rZ,this]
   .refine⟨k+1,⟨aE,fun i s hi hs=>?_⟩,?_,zt (Wi _) ?_⟩
    .rcases Wj i k with h5|h5
     .exact hk.2 i s h5 hs
     .have:i=k:=om;subst this;rw[sA aE]at hs;cases hs;exact h3
    .show l.length-(k+1)<l.length-k;omega
    .repeat(first|exact .nil|refine .ar ?_|refine .put (aL om) ?_|refine .eQ ?_)
  .have eu:¬(k:Int)<((l.map bW.enc).length:Int):=of_decide_eq_false h;simp at eu;show an _ _=an _ _;have:l.findIdx? p=none:=by rw[abl];intro s hs;obtain⟨i,hi⟩:=Un hs;have:=(Gf.1 hi).1;simpa using hk.2 i s om hi
   rw[rZ,this]
theorem I7(l:List bW)(hb:l.length<=2097152)(f:Nat)(p:bW->Bool)(hf:∀(s:bW)(m:Mem)(K:CV->Mem->Prop),K (ay (p s)) m->aq Tryz.prog f [s.cv] m K){m:Mem}{K:CV->Mem->Prop}(h:K (an .i64 (rZ p l)) m):aq Tryz.prog 116 [dZ l,.rv (.one (.fn f []))] m K:=
 bu Tryz.func116 l116 rfl (V5 rfl) (Cp l hb f p hf) rfl rfl h
def bT(l:List bW):List (List CC):=(l.map bW.enc).map fun ds=>ds.map CC.aa
theorem z7(l:List bW)(hb:l.length<=2097152):body Tryz.prog c100 [dZ l] [] (fun r m=>(l=[]/\r= .rv (.one .aB))\/(r= .rv (.one (.row 1 3 0 none))/\m[1]? =some (.row 3 ([]++bT l)))):=by
 have p0:((([]:List (List CC)).length+((l.map bW.enc).map fun ds=>ds.map CC.aa).length)*24)<=140737488355328:=by simp;omega
 refine aD (fun h=>?_) (fun h=>?_)
 .have hl:l=[]:=Wg (by simpa using Wh h)
  exact⟨.inl ⟨hl,rfl⟩,p0,.inr ⟨rfl,rfl⟩⟩
 .exact⟨p0,.inr ⟨rfl,rfl⟩⟩
theorem ny(l:List bW)(hb:l.length<=2097152){m:Mem}{K:CV->Mem->Prop}(h1:l=[]->K (.rv (.one .aB)) m)(h2:K (.rv (.one (.row m.length 3 0 none))) (m++ [.row 3 (bT l)])):
  aq Tryz.prog 100 [dZ l] m K:=by
 refine FK (aX Tryz.func100 l100 (z7 l hb)) (by simp[dZ,CV.c6,CC.c6]) fun r m1 hr=>?_
 rcases hr with⟨hl,rfl⟩|⟨rfl,hm⟩
 .exact .inl ⟨rfl,h1 hl⟩
 .refine .inr ⟨1,3,bT l,rfl,by simpa using hm,fun cs eY c hc=>?_,fun i cs j d hi hj=>?_,h2⟩
  .simp only[bT,Z5]at eY;obtain⟨ds,⟨s,_,rfl⟩,rfl⟩:=eY;obtain⟨d,_,rfl⟩:=Z5.1 hc;exact⟨d,rfl⟩
  .have eY:=NQ hi;simp only[bT,Z5]at eY;obtain⟨ds,⟨s,_,rfl⟩,rfl⟩:=eY;have hd:=NQ hj;simp only[bW.enc,aar,abE,aaf,CC.aa.injEq,abf,or_false]at hd;rcases hd with rfl|rfl|rfl<;>exact⟨_,rfl⟩
theorem l76:bs Tryz.prog Tryz.f76=some c76:=by kernel_rfl
def gP(l:List bW)(c:Cap):List bW×Int×Int:=
 if dN c.cn=false\/c.eE<0 then([],0,3)else
 match l.findIdx? (fun s=>!s.has)with
 |some k=>(l.set k ⟨true,c⟩,k,0)
 |none=>if l.length>=10 then([],0,15)else(l++ [⟨true,c⟩],l.length,0)
def il(l:List bW):RV:= .one (.aa (oy l))
theorem kK{m:Mem}{a b:RV}{x y:Int}(h:d8 m a b):cw m (.bF [a,cC x,cC y]) (.bF [b,cC x,cC y]):=by
 refine .bF rfl fun i r r' h1 h2=>?_
 match i,h1,h2 with
 |0,h1,h2=>cases h1;cases h2;exact h
 |1,h1,h2=>cases h1;cases h2;exact d8.self rfl
 |2,h1,h2=>cases h1;cases h2;exact d8.self rfl
theorem Ez{l:List bW}{c:Cap}{m:Mem}(h:dN c.cn=false\/c.eE<0):cw m (.bF [.one .aB,cC 0,cC 3]) (.bF [il (gP l c).1,cC (gP l c).2.1,cC (gP l c).2.2]):=by rw[gP,if_pos h];exact kK (.one (.aB 3))
theorem I8{l:List bW}{c:Cap}{m:Mem}(h:¬(dN c.cn=false\/c.eE<0))(hk:l.findIdx? (fun s=>!s.has)=none)(hl:l.length>=10):
  cw m (.bF [.one .aB,cC 0,cC 15]) (.bF [il (gP l c).1,cC (gP l c).2.1,cC (gP l c).2.2]):=by
 rw[gP,if_neg h,hk];simp only;rw[if_pos hl];exact kK (.one (.aB 3))
theorem EA{l:List bW}{c:Cap}{m:Mem}{id:Nat}(h:¬(dN c.cn=false\/c.eE<0))(hk:l.findIdx? (fun s=>!s.has)=none)(hl:¬l.length>=10)(hm:m[id]? =some (.row 3 (bT (l++ [⟨true,c⟩])))):
  cw m (.bF [.one (.row id 3 0 none),cC ((l.map bW.enc).length:Nat),cC 0]) (.bF [il (gP l c).1,cC (gP l c).2.1,cC (gP l c).2.2]):=by
 rw[gP,if_neg h,hk,KB];simp only;rw[if_neg hl];exact kK (.one (dU.dX hm 0 none))
theorem LW{l:List bW}{c:Cap}{m:Mem}{id k:Nat}(h:¬(dN c.cn=false\/c.eE<0))(hk:l.findIdx? (fun s=>!s.has)=some k)(hm:m[id]? =some (.row 3 (bT (l.set k ⟨true,c⟩)))):
  cw m (.bF [.one (.row id 3 0 none),cC k,cC 0]) (.bF [il (gP l c).1,cC (gP l c).2.1,cC (gP l c).2.2]):=by
 rw[gP,if_neg h,hk];exact kK (.one (dU.dX hm 0 none))
theorem I9(l:List bW)(hb:l.length<=2097152)(c:Cap):body Tryz.prog c76 [dZ l,.rv c.rv] [] (fun r m=>cw m r (.bF [il (gP l c).1,cC (gP l c).2.1,cC (gP l c).2.2])):=by
 refine ub c.cn ?_;refine aD (fun h=>?_) (fun hr=>?_)
 .exact Ez (.inl (by simpa using h))
 .refine aD (fun h=>?_) (fun ho=>?_)
  .exact Ez (.inr (of_decide_eq_true h))
  .have iQ:¬(dN c.cn=false\/c.eE<0):=by have:=of_decide_eq_false ho;simp at hr;simp[hr];omega
   refine I7 l hb 117 (fun s=>!s.has) (fun s m K h=>xT s h) ?_
   cases hk:l.findIdx? (fun s=>!s.has)with
   |none=>
    have hi:rZ (fun s:bW=>!s.has) l= -1:=by rw[rZ,hk]
    rw[hi];refine aD (fun h=>?_) (fun h=>?_)
    .have eu:l.length>=10:=by have h:=of_decide_eq_true h;simp at h;omega
     exact I8 iQ hk eu
    .have aE:¬l.length>=10:=by have h:=of_decide_eq_false h;simp at h;omega
     refine ny l hb (fun hl=>?_) ?_
     .subst hl;refine⟨by decide,?_⟩
      exact EA iQ hk aE rfl
     .refine cj (by simp[bT,lenOf]) ?_
      refine⟨by simp[bT,cu];omega,?_⟩
      have hlen:(bT l).length=l.length:=by simp[bT]
      refine ag (bZ (k:=(l.map bW.enc).length) (by simp[bT,lenOf,cu])) ?_
      refine ag (x:=[CC.aa (.val (.bool false)),CC.aa (.val (.int .i64 0)),CC.aa (.val (.int .i64 0))]) (by simp[aU,bT,cu,gu]) ?_
      refine EA (id:=3) iQ hk aE ?_;refine congrArg (fun x=>some (Bk.row 3 x)) ?_
      show aZ (bT l++ [[CC.aa (.val (.bool false)),CC.aa (.val (.int .i64 0)),CC.aa (.val (.int .i64 0))]]) (l.map bW.enc).length [CC.aa (.val (.bool true)),CC.aa (.val (.int .i64 c.eE)),CC.aa (.val (.int .i64 c.cn))]=_;rw[bg,KB,<-hlen,abR _ _ (Pq _),abB];simp[bT,bW.enc]
   |some k=>
    have hi:rZ (fun s:bW=>!s.has) l=(k:Int):=by rw[rZ,hk]
    have fj:k<l.length:=(aam.1 hk).1;rw[hi];refine ny l hb (fun hl=>?_) ?_
    .subst hl;simp at fj
    .have hlen:(bT l).length=l.length:=by simp[bT]
     refine tJ (by simp[hlen,lenOf];omega) ?_
     refine ag (bZ (k:=k) (by simp[hlen,lenOf];omega)) ?_
     refine ag (x:=(l[k].enc).map .aa) (by simp[aU,bT,gu,fj]) ?_
     refine LW (id:=1) iQ hk ?_;refine congrArg (fun x=>some (Bk.row 3 x)) ?_
     show aZ (bT l) k [CC.aa (.val (.bool true)),CC.aa (.val (.int .i64 c.eE)),CC.aa (.val (.int .i64 c.cn))]=_;rw[bg];simp[bT,bW.enc]
theorem Ja(l:List bW)(hb:l.length<=2097152)(c:Cap){m:Mem}{K:CV->Mem->Prop}(h:K (.bF [il (gP l c).1,cC (gP l c).2.1,cC (gP l c).2.2]) m):aq Tryz.prog 76 [dZ l,.rv c.rv] m K:=
 aY (aX Tryz.func76 l76 (I9 l hb c)) (by simp[dZ,Cap.rv,CV.c6,CC.c6]) fun r m1 hf=>⟨_,hf,h⟩
theorem l61:bs Tryz.prog Tryz.f61=some c61:=by kernel_rfl
def sy(l:List bW)(fd:Int):List bW×Int×Int:=if(d9 l fd).2=0 then gP l (d9 l fd).1 else([],0,(d9 l fd).2)
theorem Jb(l:List bW)(hb:l.length<=2097152)(fd:Int):body Tryz.prog c61 [dZ l,an .i64 fd] [] (fun r m=>cw m r (.bF [il (sy l fd).1,cC (sy l fd).2.1,cC (sy l fd).2.2])):=by
 refine ua l fd ?_;refine aD (fun h=>?_) (fun h=>?_)
 .have h:¬(d9 l fd).2=0:=by simpa using h
  rw[sy,if_neg h];exact kK (.one (.aB 3))
 .have h:(d9 l fd).2=0:=by simpa using h
  rw[sy,if_pos h];refine Ja l hb (d9 l fd).1 ?_;exact cw.self rfl
theorem O8(l:List bW)(hb:l.length<=2097152)(fd:Int){m:Mem}{K:CV->Mem->Prop}(h:K (.bF [il (sy l fd).1,cC (sy l fd).2.1,cC (sy l fd).2.2]) m):aq Tryz.prog 61 [dZ l,an .i64 fd] m K:=
 aY (aX Tryz.func61 l61 (Jb l hb fd)) (by simp[dZ,an,CV.c6,CC.c6]) fun r m1 hf=>⟨_,hf,h⟩
end Tb
def c60:LF:= ⟨43,[.tmp 4,.tmp 5],(.seq (.ai [qu 4 (.aF qe),qu 5 (.aF (qi 0))]) (.seq (.seq (.ai [qm 10 0,qm 11 1,qu 12 (qc 73 [10,11]),qm 9 12,qu 13 (.ext 9 0),qu 14 (.ext 9 1),qu 6 (.alloc [(qd 0),(qd 0)]),qw (.store 2 6 13),qm 7 14]) (.seq (.ai [qm 15 7,qu 16 (.aH .neq 15 (qi 0))]) (.cond 16 (.seq (.ai [qm 17 7,qu 4 (.aF qe),qm 5 17]) .ret) .skip))) (.seq (.ai [qm 18 0,qu 19 (qc 100 [18]),qm 8 19]) (.seq (.ai [qm 20 8,qm 21 1,qu 22 (.build [(.aa (.val (.bool false))),(qd 0),(qd 0)] []),qu 23 (.cr 3 20 21),qw (.store 3 23 22)]) (.seq (.block 0 (.loop (.seq (.seq (.ai [qm 24 8,qu 25 (.len 1 24),qu 26 (.aH .gtr 25 (qi 0)),qm 27 26,qg 28 (.aF 8) 27 true,qg 29 (.aF 8) 27 true,qg 30 (.len 1 29) 27 true,qg 31 (.aH .sub 30 (qi 1)) 27 true,qg 32 (.cr 3 28 31) 27 true,qg 33 (.bX 0 32) 27 true,qg 34 (.load false 1 33) 27 true,qg 35 (.un .not 34) 27 true,qu 36 (.pick 27 35 (qb false))]) (.cond 36 .skip (.exit 0))) (.block 1 (.ai [qm 37 8,qm 38 8,qu 39 (.len 1 38),qu 40 (.aH .sub 39 (qi 1)),qu 41 (.mD 3 37 none (some 40) none),qm 8 41]))))) (.seq (.ai [qm 42 8,qm 4 42,qu 5 (.aF (qi 0))]) .ret))))))⟩
def c96:LF:= ⟨28,[.cell true 2 6,.tmp 7],(.seq (.ai [qu 6 (.alloc [(qd 0),(qd 0)]),qu 7 (.aF (qi 0))]) (.seq (.ai [qm 11 0,qm 12 1,qu 13 (qc 73 [11,12]),qm 10 13,qu 14 (.ext 10 0),qu 15 (.ext 10 1),qu 8 (.alloc [(qd 0),(qd 0)]),qw (.store 2 8 14),qm 9 15]) (.seq (.seq (.ai [qm 16 9,qu 17 (.aH .eql 16 (qi 0)),qm 18 17,qg 19 (.aF 2) 18 true,qg 20 (.bX 1 8) 18 true,qg 21 (.load false 1 20) 18 true,qg 22 (qc 101 [19,21]) 18 true,qg 23 (.un .not 22) 18 true,qu 24 (.pick 18 23 (qb false))]) (.cond 24 (.seq (.ai [qu 25 (.build [(qd 0),(qd 0)] []),qw (.store 2 6 25),qu 7 (.aF (qi 10))]) .ret) .skip)) (.seq (.ai [qL 26 2 8,qm 27 9,qw (.store 2 6 26),qm 7 27]) .ret))))⟩
def c101:LF:= ⟨9,[.tmp 4],(.seq (.ai [qu 4 (.aF (qb false))]) (.seq (.ai [qm 5 0,qm 6 1,qu 7 (.aH .andNot 5 6),qu 8 (.aH .eql 7 (qi 0)),qm 4 8]) .ret))⟩
namespace Tb
theorem l101:bs Tryz.prog Tryz.f101=some c101:=by kernel_rfl
def jd(a b:Int):Bool:=(IntKind.i64.wrap ((BitVec.ofInt 64 a&&& ~~~ BitVec.ofInt 64 b).toNat:Int))==0
theorem ww(a b:Int){m:Mem}{K:CV->Mem->Prop}(h:K (ay (jd a b)) m):aq Tryz.prog 101 [an .i64 a,an .i64 b] m K:=
 bu (r0:=ay (jd a b)) Tryz.func101 l101 rfl (V5 rfl) (show body Tryz.prog c101 [an .i64 a,an .i64 b] [] (fun r m=>r=ay (jd a b))from rfl) rfl rfl h
theorem l96:bs Tryz.prog Tryz.f96=some c96:=by kernel_rfl
def mX(l:List bW)(fd need:Int):Cap×Int:=
 if(d9 l fd).2=0/\jd need (d9 l fd).1.cn=false then(⟨0,0⟩,10)else d9 l fd
theorem qU(l:List bW)(fd need:Int):body Tryz.prog c96 [dZ l,an .i64 fd,an .i64 need] [] (fun r m=>r= .bF [(mX l fd need).1.rv,cC (mX l fd need).2]):=by
 refine ua l fd ?_;refine aD (fun h=>?_) (fun h=>?_)
 .have h:(d9 l fd).2=0:=by simpa using h
  refine ww _ _ ?_;refine aD (fun h2=>?_) (fun h2=>?_)
  .have h2:jd need (d9 l fd).1.cn=false:=by simpa using h2
   show CV.bF _=CV.bF _;rw[mX,if_pos ⟨h,h2⟩];rfl
  .have h2:jd need (d9 l fd).1.cn=true:=by simpa using h2
   show CV.bF _=CV.bF _;rw[mX,if_neg (by simp[h2])];rfl
 .have h:¬(d9 l fd).2=0:=by simpa using h
  show CV.bF _=CV.bF _;rw[mX,if_neg (by simp[h])];rfl
theorem je(l:List bW)(fd need:Int){m:Mem}{K:CV->Mem->Prop}(h:K (.bF [(mX l fd need).1.rv,cC (mX l fd need).2]) m):aq Tryz.prog 96 [dZ l,an .i64 fd,an .i64 need] m K:=
 bu Tryz.func96 l96 rfl (V5 rfl) (qU l fd need) rfl rfl h
theorem l60:bs Tryz.prog Tryz.f60=some c60:=by kernel_rfl
def wx:Nat->Nat->List bW->Nat
 |_,b,[]=>b
 |k,b,s::r=>wx (k+1) (if s.has then k+1 else b) r
theorem Cq(l:List bW)(k b i:Nat)(h:i<l.length):wx k b (l.take (i+1))=if l[i].has then k+i+1 else wx k b (l.take i):=by
 induction l generalizing k b i with
 |nil=>simp at h
 |cons s r ih=>
  cases i with
  |zero=>simp[wx]
  |succ i=>
   simp at h;have:=ih (k+1) (if s.has then k+1 else b) i h
   rw[show k+1+i=k+(i+1) by omega]at this
   simp only[List.take_succ_cons,wx,this,List.getElem_cons_succ]
def pG(l:List bW):Nat:=wx 0 0 l
theorem Cr(l:List bW)(i:Nat)(h:i<l.length):pG (l.take (i+1))=if l[i].has then i+1 else pG (l.take i):=by rw[pG,Cq l 0 0 i h];simp[pG]
def qV:bW:=⟨false,⟨0,0⟩⟩
def lR(l:List bW)(fd:Int):List bW×Int:=
 if(d9 l fd).2=0 then((l.set fd.toNat qV).take (pG (l.set fd.toNat qV)),0)else([],(d9 l fd).2)
theorem EB{l:List bW}{fd:Int}(h:(d9 l fd).2=0):∃k:Nat,fd=k/\∃hk:k<l.length,l[k].has=true/\(d9 l fd).1=l[k].cap:=by
 unfold d9 at h;split at h
 .rename_i s hs;split at hs
  .refine⟨fd.toNat,om,(Gf.1 hs).1,?_⟩;have e:=(Gf.1 hs).2;split at h
   .rename_i h0 hh;rw[e];refine⟨hh,?_⟩;rw[d9,if_pos h0,hs];simp[hh]
   .simp at h
  .cases hs
 .simp at h
theorem i9{m:Mem}{a b:RV}{x:Int}(h:d8 m a b):cw m (.bF [a,cC x]) (.bF [b,cC x]):=by
 refine .bF rfl fun i r r' h1 h2=>?_
 match i,h1,h2 with
 |0,h1,h2=>cases h1;cases h2;exact h
 |1,h1,h2=>cases h1;cases h2;exact d8.self rfl
theorem z8{m:Mem}{id h:Nat}{l:List bW}(hm:m[id]? =some (.row 3 (af (l.map bW.enc)))):dU m (.row id 3 0 (some h)) (.aa (oy (l.take h))):=by
 have h1:dU m (.row id 3 0 (some h)) (.aa (.sl 3 (cu (l.map bW.enc) 0 (some h)))):=dU.dX hm 0 (some h);have h2:cu (l.map bW.enc) 0 (some h)=(l.take h).map bW.enc:=by simp[cu,abd]
 rw[h2]at h1;exact h1
theorem Cs(l:List bW)(hb:l.length<=2097152)(fd:Int):body Tryz.prog c60 [dZ l,an .i64 fd] [] (fun r m=>cw m r (.bF [il (lR l fd).1,cC (lR l fd).2])):=by
 refine ua l fd ?_;refine aD (fun h=>?_) (fun h=>?_)
 .have h:¬(d9 l fd).2=0:=by simpa using h
  rw[lR,if_neg h];exact i9 (.one (.aB 3))
 .have h:(d9 l fd).2=0:=by simpa using h
  rw[lR,if_pos h];obtain⟨k,rfl,hk,Sl,_⟩:=EB h;refine ny l hb (fun hl=>by subst hl;simp at hk) ?_
  refine ag (bZ (k:=k) (by simp[bT,lenOf];omega)) ?_
  refine ag (x:=(l[k].enc).map .aa) (by simp[aU,bT,gu,hk]) ?_
  have iZ:aZ (bT l) (gu 0 k) [CC.aa (.val (.bool false)),CC.aa (.val (.int .i64 0)),CC.aa (.val (.int .i64 0))]=af ((l.set k qV).map bW.enc):=by rw[bg];simp[bT,bW.enc,af,gu,qV]
  have hlen:(l.set k qV).length=l.length:=aI;rw[show((k:Nat):Int).toNat=k from rfl];generalize l.set k qV=l2 at iZ hlen;refine tN (fun h=>h<=l2.length/\pG (l2.take h)=pG l2) (fun h=>[(8,.rv (.one (.row 1 3 0 (some h)))),(24,.ar),(25,.ar),(26,.ar),(27,.ar),(28,.ar),(29,.ar),(30,.ar),(31,.ar),(32,.ar),(33,.ar),(34,.ar),(35,.ar),(36,.ar),(37,.ar),(38,.ar),(39,.ar),(40,.ar),(41,.ar),(19,.ar),(20,.ar),(23,.ar)])
   (fun h=>[.aO,.row 3 (af (l2.map bW.enc))]) (fun h=>h) l2.length ⟨Pq _,by rw[aal]⟩ ?_ (fun h hh=>?_)
  .refine View.o 2 [0,1] [] ?_ ?_
   .repeat(first|exact .nil|refine .ar ?_|refine .put (.hi rfl rfl ((congrArg List.length iZ).trans (by simp[af]))) ?_|refine .eq rfl ?_)
   .exact .aO (.put (by simp[bz]) rfl (.bP iZ) (.nil _))
  .refine aD (fun h2=>?_) (fun h2=>?_)
   .have h2:0<h:=by have h2:((h:Nat):Int)>0:=of_decide_eq_true h2;omega
    obtain⟨j,rfl⟩:∃j,h=j+1:=⟨h-1,om⟩;have hj:j<l2.length:=om;have hi:(IntKind.i64.wrap (((j+1:Nat):Int)-1))=((j:Nat):Int):=by rw[<-l9 (n:=j) om];congr 1;omega
    have qF:dp (IntKind.i64.wrap (((j+1:Nat):Int)-1)) (j+1)=some j:=by rw[hi];exact bZ om
    refine ag qF ?_;refine ag (x:=(l2[j].enc).map .aa) (by simp[aU,af,gu,hj]) ?_
    have ht:=Cr l2 j hj;refine aD (fun h3=>?_) (fun h3=>?_)
    .have h3:l2[j].has=false:=by simpa using h3
     refine ag (x:=j) (by show nC (.rv (.one (.aa (.val (.int .i64 (IntKind.i64.wrap (((j+1:Nat):Int)-1)))))))=_;rw[hi];rfl) ?_
     refine cj (by simp[lenOf,aak,af];try omega) ?_
     refine⟨j,⟨om,by rw[h3]at ht;simp at ht;rw[<-ht];exact hh.2⟩,aa3 j,View.o1 2 [0,1] [] ?_⟩
     .exact .aO (.put (by simp[bz]) rfl (.bP rfl) (.nil _))
    .have h3:l2[j].has=true:=by simpa using h3
     have:pG l2=j+1:=by rw[<-hh.2,ht,if_pos h3]
     rw[this];exact i9 (.one (z8 rfl))
   .have h2:h=0:=by have h2:¬((h:Nat):Int)>0:=of_decide_eq_false h2;omega
    subst h2;have:pG l2=0:=by rw[<-hh.2];rfl
    rw[this];exact i9 (.one (z8 rfl))
theorem Jc(l:List bW)(hb:l.length<=2097152)(fd:Int){m:Mem}{K:CV->Mem->Prop}(h:K (.bF [il (lR l fd).1,cC (lR l fd).2]) m):aq Tryz.prog 60 [dZ l,an .i64 fd] m K:=
 aY (aX Tryz.func60 l60 (Cs l hb fd)) (by simp[dZ,an,CV.c6,CC.c6]) fun r m1 hf=>⟨_,hf,h⟩
end Tb
def c29:LF:= ⟨22,[.tmp 4],(.seq (.ai [qu 2 (.box 0),qu 4 (.aF (qb false))]) (.seq (.ai [qm 5 1,qu 6 (.aH .geq 5 (qi 0)),qm 7 6,qg 8 (.aF 1) 7 true,qg 9 (.bX 2 2) 7 true,qg 10 (.load false 1 9) 7 true,qg 11 (.len 1 10) 7 true,qg 12 (.aH .lss 8 11) 7 true,qu 13 (.pick 7 12 (qb false)),qm 14 13,qg 15 (.bX 2 2) 14 true,qg 16 (.load false 1 15) 14 true,qg 17 (.aF 1) 14 true,qg 18 (.cr 4 16 17) 14 true,qg 19 (.bX 0 18) 14 true,qg 20 (.load false 1 19) 14 true,qu 21 (.pick 14 20 (qb false)),qm 4 21]) .ret))⟩
def c113:LF:= ⟨19,[.tmp 4],(.seq (.ai [qu 4 (.aF (qi 0))]) (.seq (.seq (.ai [qm 6 0,qu 7 (.len 1 6),qu 8 (.aF (qi 0))]) (.block 0 (.loop (.seq (.ai [qu 9 (.aH .lss 8 7)]) (.seq (.cond 9 .skip (.exit 0)) (.seq (.block 1 (.seq (.ai [qm 10 8,qm 5 10]) (.seq (.ai [qm 11 1,qm 12 0,qm 13 5,qu 14 (.cr 2 12 13),qL 15 2 14,qu 16 (.call 11 [15])]) (.cond 16 (.seq (.ai [qm 17 5,qm 4 17]) .ret) .skip)))) (.ai [qu 18 (.aH .add 8 (qi 1)),qm 8 18]))))))) (.seq (.ai [qu 4 (.aF (qi (-1)))]) .ret)))⟩
def c114:LF:= ⟨6,[.tmp 2],(.seq (.ai [qu 1 (.box 0),qu 2 (.aF (qb false))]) (.seq (.ai [qf 3 0 1,ql 4 3,qu 5 (.aH .lss 4 (qi 0)),qm 2 5]) .ret))⟩
def c118:LF:= ⟨37,[.tmp 2],(.seq (.ai [qu 2 (.aF (qi 0))]) (.seq (.seq (.ai [qu 5 (.aF (qi 0))]) (.block 0 (.loop (.seq (.ai [qu 6 (.aH .lss 5 (qi 8))]) (.seq (.cond 6 .skip (.exit 0)) (.seq (.block 1 (.seq (.ai [qm 7 5,qu 3 (.alloc [(qd 0)]),qw (.store 1 3 7)]) (.seq (.seq (.bU [ql 8 3,qm 9 0,qu 10 (.aT 9),qf 11 2 10,ql 12 11,qu 13 (.len 1 12),qu 14 (.aH .eql 8 13)] [(.cons 0 none (.cons 1 none (.cons 2 none (.cons 3 none (.cons 4 none (.cons 5 none (.cons 6 none .nil)))))))]) (.cond 14 (.seq (.ai [ql 15 3,qm 2 15]) .ret) .skip)) (.seq (.ai [qm 16 0,qu 17 (.aT 16),qf 18 0 17,ql 19 18,qu 20 (.fn 141 [3]),qu 21 (qc 80 [19,20]),qm 4 21]) (.seq (.bU [qm 22 0,qu 23 (.aT 22),qf 24 2 23,ql 25 24,ql 26 3,qu 27 (.cr 4 25 26),qf 28 0 27,ql 29 28,qu 30 (.un .not 29),qm 31 30,qg 32 (.aF 4) 31 true,qg 33 (.un .not 32) 31 true,qu 34 (.pick 31 33 (qb false))] [(.cons 0 none (.cons 1 none (.cons 2 none (.cons 3 none (.cons 4 none (.cons 5 none (.cons 6 none (.cons 7 none (.cons 8 none (.cons 9 none (.cons 10 none (.cons 11 none (.cons 12 none .nil)))))))))))))]) (.cond 34 (.seq (.ai [ql 35 3,qm 2 35]) .ret) .skip)))))) (.ai [qu 36 (.aH .add 5 (qi 1)),qm 5 36]))))))) (.seq (.ai [qu 2 (.aF (qi (-1)))]) .ret)))⟩
def c141:LF:= ⟨13,[.tmp 3],(.seq (.ai [qu 2 (.box 0),qu 3 (.aF (qb false))]) (.seq (.ai [qf 4 0 2,ql 5 4,qu 6 (.aH .eql 5 (qi 5)),qm 7 6,qg 8 (.bX 6 2) 7 true,qg 9 (.load false 1 8) 7 true,qg 10 (.load false 1 1) 7 true,qg 11 (.aH .eql 9 10) 7 true,qu 12 (.pick 7 11 (qb false)),qm 3 12]) .ret))⟩
theorem l29:bs Tryz.prog Tryz.f29=some c29:=by kernel_rfl
def eU(ps:List bj)(p:Int):Bool:=decide (p>=0)&&(decide (p<ps.length)&&match ps[p.toNat]? with|some x=>x.a7|none=>false)
theorem Ct(l:List Obj)(ops:List bD)(ps:List bj)(p:Int):body Tryz.prog c29 [dR l ops ps,an .i64 p] [] (fun r m=>r=ay (eU ps p)):=by
 refine aJ (fun h0=>?_) (fun h0=>?_)
 .obtain⟨n,rfl⟩:∃n:Nat,p=n:=⟨p.toNat,om⟩;refine aJ (fun h=>?_) (fun h=>?_)
  .have aE:n<ps.length:=by have h:(n:Int)<((ps.map bj.enc).length:Int):=h;rw[KB]at h;omega
   refine ag (dM aE) ?_;have hS:eU ps (n:Int)=ps[n].a7:=by simp[eU,aE]
   show ay _=ay _;rw[hS]
  .have eu:¬n<ps.length:=by have h:¬(n:Int)<((ps.map bj.enc).length:Int):=h;rw[KB]at h;omega
   have hS:eU ps (n:Int)=false:=by simp[eU,eu]
   show ay _=ay _;rw[hS]
 .have hS:eU ps p=false:=by have:decide (p>=0)=false:=decide_eq_false h0;simp[eU,this]
  show ay _=ay _;rw[hS]
theorem mY(l:List Obj)(ops:List bD)(ps:List bj)(p:Int){m:Mem}{K:CV->Mem->Prop}(h:K (ay (eU ps p)) m):aq Tryz.prog 29 [dR l ops ps,an .i64 p] m K:=
 bu Tryz.func29 l29 rfl (V5 rfl) (Ct l ops ps p) (by simp[dR,c7,eB,fE,an,CV.c6,CC.c6,RV.c6]) rfl h
theorem pH{ps:List bj}{p:Int}(h:eU ps p=true):∃n:Nat,p=n/\∃hn:n<ps.length,ps[n].a7=true:=by
 unfold eU at h;by_cases h0:p>=0
 .obtain⟨n,rfl⟩:∃n:Nat,p=n:=⟨p.toNat,om⟩;by_cases hn:n<ps.length
  .refine⟨n,rfl,hn,?_⟩;simpa[hn]using h
  .simp[hn]at h
 .simp[h0]at h
theorem LX{ps:List bj}{n:Nat}(hn:n<ps.length)(h:ps[n].a7=true):eU ps (n:Int)=true:=by simp[eU,hn,h]
theorem l118:bs Tryz.prog Tryz.f118=some c118:=by kernel_rfl
theorem l141:bs Tryz.prog Tryz.f141=some c141:=by kernel_rfl
theorem Cu(o:Obj)(p:Int):body Tryz.prog c141 [o.cv,.rv (.one (.ptr 0 0))] [.var ([Dt.val (.int .i64 p)].map .aa)] (fun r m=>r=ay (eD p o)/\∃ex,m= .var ([Dt.val (.int .i64 p)].map .aa)::ex):=by
 refine aD (fun h=>?_) (fun h=>?_)
 .refine⟨?_,_,rfl⟩;show ay _=ay _;rw[eD,h];rfl
 .refine⟨?_,_,rfl⟩;show ay _=ay _;rw[eD,h];rfl
theorem Sm(o:Obj)(p:Int)(K:CV->Mem->Prop)(h:K (ay (eD p o)) [.var ([Dt.val (.int .i64 p)].map .aa)]):aq Tryz.prog 141 [o.cv,.rv (.one (.ptr 0 0))] [.var ([Dt.val (.int .i64 p)].map .aa)] K:=
 eH rfl (aX Tryz.func141 l141 (Cu o p)) h
def r8(l:List Obj)(ps:List bj)(p:Nat):Bool:=match ps[p]? with
 |some x=>!x.a7&& !(l.any (eD (p:Nat)))
 |none=>false
def mZ(l:List Obj)(ps:List bj):Nat->Nat->Int
 |0,_=>-1
 |n+1,p=>if p=ps.length then(p:Nat)else if r8 l ps p=true then(p:Nat)else mZ l ps n (p+1)
def fJ(l:List Obj)(ps:List bj):Int:=mZ l ps 8 0
def kC(l:List Obj)(ops:List bD)(ps:List bj):List Dt:=[c7 l,eB ops,fE ps]
theorem qT(l:List Obj)(hl:l.length<=4194304)(ops:List bD)(ps:List bj):body Tryz.prog c118 [.rv (.one (.ptr 0 0))] [.var ((kC l ops ps).map .aa)] (fun r m=>r=an .i64 (fJ l ps)/\∃ex,m= .var ((kC l ops ps).map .aa)::ex):=by
 refine ba (fun p=>p<=8/\p<=ps.length/\mZ l ps (8-p) p=fJ l ps) [0] (fun p=>[(5,an .i64 (p:Nat))]) (fun _=>[.var ((kC l ops ps).map .aa)]) (fun p=>8-p) 0 ⟨om,Wi _,rfl⟩ ?_ (fun p hp=>?_)
 .refine View.o1 1 [0] [] ?_
  .exact .pt rfl rfl (.eq rfl (by simp[kC])) (.nil _)
 obtain⟨X5,ix,Hr⟩:=hp;have X5:p<=8:=X5;have ix:p<=ps.length:=ix;have Hr:mZ l ps (8-p) p=fJ l ps:=Hr;refine aJ (fun h=>?_) (fun h=>?_)
 .have aE:p<8:=by have h:(p:Int)<8:=h;omega
  rw[show 8-p=(8-(p+1))+1 by omega,mZ]at Hr
  refine bA (fun he=>?_) (fun he=>?_)
  .have he:p=ps.length:=by have he:(p:Int)=((ps.map bj.enc).length:Int):=he;rw[KB]at he;omega
   rw[if_pos he]at Hr;rw[<-Hr];exact⟨rfl,_,rfl⟩
  .have eG:¬p=ps.length:=by intro hh;apply he;show(p:Int)=((ps.map bj.enc).length:Int);rw[KB];omega
   rw[if_neg eG]at Hr;have zo:p<ps.length:=om;have Lj:r8 l ps p=(!ps[p].a7&& !(l.any (eD (p:Nat)))):=by rw[r8,sA zo]
   refine fc (args0:=[cq l,.rv (.one (.fn 141 [0]))]) (cs:=[.val (.int .i64 (p:Nat))]) 1 rfl rfl (r0:=ay (l.any (eD (p:Int)))) rfl (fun K hK=>qJ l hl 141 _ _ (fun s K hK=>Sm s _ K hK) K hK) ?_
   refine ag (dM zo) ?_;rw[Lj]at Hr;have go:(!ps[p].a7&& !(l.any (eD (p:Nat))))=false->mZ l ps (8-(p+1)) (p+1)=fJ l ps:=fun hh=>by
    rw[if_neg (by rw[hh];simp)]at Hr;exact Hr
   refine aD (fun h1=>?_) (fun h1=>?_)
   .refine aD (fun h2=>?_) (fun h2=>?_)
    .rw[if_pos (by rw[h1,h2];rfl)]at Hr
     rw[<-Hr];exact⟨rfl,_,rfl⟩
    .refine⟨p+1,⟨om,om,go (by rw[h2,Bool.and_false])⟩,(show 8-(p+1)<8-p by omega),View.o 2 [0] [] ?_ ?_⟩
     .repeat(first|exact .nil|refine .ar ?_|refine .put (.aQ (aL om).symm) ?_|refine .eq rfl ?_)
     .exact .pt rfl rfl (.eq rfl (by simp[kC])) (.nil _)
   .refine⟨p+1,⟨om,om,go (by rw[h1,Bool.false_and])⟩,(show 8-(p+1)<8-p by omega),View.o 2 [0] [] ?_ ?_⟩
    .repeat(first|exact .nil|refine .ar ?_|refine .put (.aQ (aL om).symm) ?_|refine .eq rfl ?_)
    .exact .pt rfl rfl (.eq rfl (by simp[kC])) (.nil _)
 .have hp:p=8:=by have h:¬(p:Int)<8:=h;omega
  subst hp;rw[show fJ l ps= -1 from Hr.symm];exact⟨rfl,_,rfl⟩
theorem xT(l:List Obj)(hl:l.length<=4194304)(ops:List bD)(ps:List bj)(K:CV->Mem->Prop)(h:K (an .i64 (fJ l ps)) [.var ((kC l ops ps).map .aa)]):aq Tryz.prog 118 [.rv (.one (.ptr 0 0))] [.var ((kC l ops ps).map .aa)] K:=
 eH rfl (aX Tryz.func118 l118 (qT l hl ops ps)) h
theorem l113:bs Tryz.prog Tryz.f113=some c113:=by kernel_rfl
theorem l114:bs Tryz.prog Tryz.f114=some c114:=by kernel_rfl
def bD.cv(o:bD):CV:= .rv (.agg (o.enc.map .aa))
theorem Cv(o:bD):body Tryz.prog c114 [o.cv] [] (fun r m=>r=ay (decide (o.br<0))):=by show ay _=ay _;rfl
theorem Sn(o:bD){m:Mem}{K:CV->Mem->Prop}(h:K (ay (decide (o.br<0))) m):aq Tryz.prog 114 [o.cv] m K:=
 bu Tryz.func114 l114 rfl (V5 rfl) (Cv o) rfl rfl h
def EC(l:List bD):Option Nat:=l.findIdx? fun o=>decide (o.br<0)
def Hs(l:List bD):Int:=match EC l with|some i=>(i:Nat)|none=>-1
theorem F8(l:List bD)(hb:l.length<=4194304):body Tryz.prog c113 [.rv (.one (.aa (eB l))),.rv (.one (.fn 114 []))] [] (fun r m=>r=an .i64 (Hs l)):=by
 refine ba (fun k=>k<=l.length/\∀(i:Nat)s,i<k->l[i]? =some s->¬s.br<0) [0,1,7] (fun k=>[(8,an .i64 (k:Nat))]) (fun _=>[]) (fun k=>l.length-k) 0 ⟨Wi _,fun i s h=>absurd h (aah i)⟩ ?_ (fun k hk=>?_)
 .refine View.o 0 [] [] ?_ (.nil _);repeat(first|exact .nil|refine .ar ?_|refine .eq rfl ?_)
 obtain⟨fj,T7⟩:=hk;have fj:k<=l.length:=fj;refine aJ (fun h=>?_) (fun h=>?_)
 .have aE:k<l.length:=by have h:(k:Int)<((l.map bD.enc).length:Int):=h;rw[KB]at h;omega
  refine ag (sO aE) ?_;refine Sn l[k] ?_;refine aJ (fun h3=>?_) (fun h3=>?_)
  .show an _ _=an _ _;have:EC l=some k:=by
    rw[EC,aam];exact⟨aE,by simpa using h3,fun j hj=>by simpa using T7 j _ hj (sA om)⟩
   rw[Hs,this]
  .refine⟨k+1,⟨aE,fun i s hi hs=>?_⟩,(show l.length-(k+1)<l.length-k by omega),View.o 0 [] [] ?_ (.nil _)⟩
   .rcases Wj i k with h5|h5
    .exact T7 i s h5 hs
    .have:i=k:=om;subst this;rw[sA aE]at hs;cases hs;exact h3
   .repeat(first|exact .nil|refine .ar ?_|refine .put (.aQ (aL om).symm) ?_|refine .eq rfl ?_)
 .have eu:k=l.length:=by have h:¬(k:Int)<((l.map bD.enc).length:Int):=h;rw[KB]at h;omega
  show an _ _=an _ _;have:EC l=none:=by rw[EC,abl];intro s hs;obtain⟨i,hi⟩:=Un hs;have:=(Gf.1 hi).1;simpa using T7 i s om hi
  rw[Hs,this]
theorem ED(l:List bD)(hb:l.length<=4194304){m:Mem}{K:CV->Mem->Prop}(h:K (an .i64 (Hs l)) m):aq Tryz.prog 113 [.rv (.one (.aa (eB l))),.rv (.one (.fn 114 []))] m K:=
 bu Tryz.func113 l113 rfl (V5 rfl) (F8 l hb) (by simp[eB,CV.c6,CC.c6,RV.c6]) rfl h
def c78:LF:= ⟨36,[.cell true 3 6,.tmp 7],(.seq (.ai [qu 3 (.box 0),qu 6 (.alloc [.aB,.aB,.aB]),qu 7 (.aF (qi 0))]) (.seq (.seq (.ai [qL 9 3 3,qm 10 1,qu 11 (qc 29 [9,10]),qu 12 (.un .not 11)]) (.cond 12 (.seq (.ai [qu 13 (.build [.aB,.aB,.aB] []),qw (.store 3 6 13),qu 7 (.aF (qi 6))]) .ret) .skip)) (.seq (.seq (.ai [qm 14 2,qu 15 (.aH .lss 14 (qi 0)),qm 16 15,qg 17 (.aF 2) 16 false,qg 18 (.aH .gtr 17 (qi 255)) 16 false,qu 19 (.pick 16 (qb true) 18)]) (.cond 19 (.seq (.ai [qu 20 (.build [.aB,.aB,.aB] []),qw (.store 3 6 20),qu 7 (.aF (qi 3))]) .ret) .skip)) (.seq (.ai [qL 21 3 3,qu 22 (qc 59 [21]),qu 8 (.alloc [.aB,.aB,.aB]),qw (.store 3 8 22)]) (.seq (.bU [qf 23 2 8,ql 24 23,qm 25 1,qf 26 2 3,ql 27 26,qm 28 1,qu 29 (.cr 4 27 28),qf 30 1 29,ql 31 30,qm 32 2,qu 33 (.build [(.aa (.val (.bool false))),(.aa (.val (.bool false))),(qd 0),.aB] [(1,1,31),(2,1,32)]),qu 34 (.cr 4 24 25),qw (.store 4 34 33)] [(.cons 0 none (.cons 1 none (.cons 2 none (.cons 3 none (.cons 4 none (.cons 5 none (.cons 6 none (.cons 7 none (.cons 8 none (.cons 9 none (.cons 10 none (.cons 11 none (.cons 12 (some []) .nil)))))))))))))]) (.cI (.seq (.ai [qL 35 3 8,qw (.store 3 6 35),qu 7 (.aF (qi 0))]) .ret)))))))⟩
theorem l78:bs Tryz.prog Tryz.f78=some c78.er:=by kernel_rfl
def gW(k:Kr):RV:= .agg [.aa (c7 k.l),.aa (eB k.ops),.aa (fE k.ps)]
def lS:Kr:=⟨[],[],[]⟩
def gX(k:Kr)(p code:Int):Kr×Int:=
 if eU k.ps p=false then(lS,6)else if code<0\/code>255 then(lS,3)
 else(⟨k.l,k.ops,k.ps.set p.toNat ⟨false,(match k.ps[p.toNat]? with|some x=>x.fenced|none=>false),code,[]⟩⟩,0)
theorem fT{m:Mem}:d8 m (.agg [.aB,.aB,.aB]) (gW lS):=by
 refine .agg rfl fun i c c' h1 h2=>?_
 match i,h1,h2 with
 |0,h1,h2=>cases h1;cases h2;exact .aB 9
 |1,h1,h2=>cases h1;cases h2;exact .aB 2
 |2,h1,h2=>cases h1;cases h2;exact .aB 4
 |n+3,h1,h2=>simp at h1
theorem xU(k:Kr):(gW k).c6=true:=by simp[gW,c7,eB,fE,CV.c6,CC.c6,RV.c6]
theorem Jd{m:Mem}{Z:Nat->Prop}{p:Option Nat}{id:Nat}{ps:List bj}{k:Nat}{c:List CC}{x:bj}(hc:gV m Z (some id) c x.enc)(hz:Z id)(hm:m[id]? =some (.row 4 (aZ (af (ps.map bj.enc)) k c))):
  dj m Z p (.row id 4 0 none) (fE (ps.set k x)):=by
 rw[bg]at hm;refine dj.row id 4 0 none _ _ hz hm (by simp[af]) (fun i cs es h1 h2=>?_) (fun i cs es j c' d h1 h2 h3 h4=>?_)
 .rw[aan]at h1;rw[NO,aan]at h2;by_cases e:k=i
  .subst e;rw[if_pos rfl]at h1 h2;split at h1
   .cases h1;split at h2
    .cases h2;exact hc.len
    .cases h2
   .cases h1
  .rw[if_neg e]at h1 h2;rw[af,NO,NO]at h1;cases hi:ps[i]? with
   |none=>rw[hi]at h1;cases h1
   |some y=>rw[hi]at h1 h2;cases h1;cases h2;simp
 .rw[aan]at h1;rw[NO,aan]at h2;by_cases e:k=i
  .subst e;rw[if_pos rfl]at h1 h2;split at h1
   .cases h1;split at h2
    .cases h2;exact hc.get j _ _ h3 h4
    .cases h2
   .cases h1
  .rw[if_neg e]at h1 h2;rw[af,NO,NO]at h1;cases hi:ps[i]? with
   |none=>rw[hi]at h1;cases h1
   |some y=>
    rw[hi]at h1 h2;cases h1;cases h2;have h4:y.enc[j]? =some d:=h4;rw[NO,h4]at h3;cases h3;exact .aa d
def ZW:LC:=ov (bH (bH (bH (bH (bH c78.code)))))
theorem F9(k:Kr)(hk:dz k.l k.ops k.ps)(p code:Int):body Tryz.prog c78 [dR k.l k.ops k.ps,an .i64 p,an .i64 code] [] (fun r m=>cw m r (.bF [gW (gX k p code).1,cC (gX k p code).2])):=by
 refine mY k.l k.ops k.ps p ?_;refine aD (fun h1=>?_) (fun h1=>?_)
 .have h1:eU k.ps p=false:=by simpa using h1
  rw[gX,if_pos h1];exact i9 fT
 have h1:eU k.ps p=true:=by simpa using h1
 obtain⟨n,rfl,hn,dD⟩:=pH h1;rw[gX,if_neg (by rw[h1];simp)]
 refine aJ (fun h2=>?_) (fun h2=>?_)
 .rw[if_pos (.inl h2)];exact i9 fT
 refine aJ (fun h3=>?_) (fun h3=>?_)
 .rw[if_pos (.inr h3)];exact i9 fT
 rw[if_neg (fun h=>h.elim h2 h3)]
 refine gD k.l k.ops k.ps ⟨hk.ll,fun o ho=>(hk.sm o ho).mz⟩ hk.lo hk.lp hk.sl hk.ne ?_
 have hg:=dM hn;have hr:=bC bj.enc k.ps hn;have hx:(match k.ps[((n:Nat):Int).toNat]? with|some x=>x.fenced|none=>false)=k.ps[n].fenced:=by rw[show((n:Nat):Int).toNat=n from rfl,sA hn]
 rw[hx,show((n:Nat):Int).toNat=n from rfl];generalize k.ps[n]=y at hg hr;obtain⟨a7,fenced,cd,bd⟩:=y;refine ag hg ?_;refine ag (kM hn) ?_;refine ag hr ?_;have eA:aw Tryz.prog 0 ZW (mJ Tryz.prog c78.jW (fun r m=>cw m r (.bF [gW ⟨k.l,k.ops,k.ps.set n ⟨false,fenced,code,[]⟩⟩,cC 0]))) ⟨kR 36 [(6,.rv (.one (.ptr 1 0))),(8,.rv (.one (.ptr 2 0)))],[.var ((kC k.l k.ops k.ps).map .aa),.var [.aB,.aB,.aB],.var ((kC k.l k.ops (k.ps.set n ⟨false,fenced,code,[]⟩)).map .aa)]⟩:=by exact i9 (d8.self (xU _))
 refine⟨?_,_,View.o 6 [0,1,5] [2,3,4] ?_ ?_,eA⟩
 .exact trivial
 .repeat(first|exact .nil|refine .ar ?_|refine .eq rfl ?_)
 .refine .pt rfl rfl (.eq rfl (by simp[kC])) (.pe rfl rfl rfl (.pt rfl rfl (eC.var (.cons (.eZ (dj.dX (Z:=fun k=>bz [2,3,4] k=true) rfl rfl 0 none)) (.cons (.eZ (dj.dX (Z:=fun k=>bz [2,3,4] k=true) rfl rfl 0 none)) (.cons (.eZ (Jd (Z:=fun k=>bz [2,3,4] k=true) ?_ rfl rfl)) .nil)))) (.nil _)))
  exact .cons (.aa _) (.cons (.aa _) (.cons (.aa _) (.cons (.aB 3) .nil)))
theorem xV(k:Kr)(hk:dz k.l k.ops k.ps)(p code:Int){m:Mem}{K:CV->Mem->Prop}(h:K (.bF [gW (gX k p code).1,cC (gX k p code).2]) m):aq Tryz.prog 78 [dR k.l k.ops k.ps,an .i64 p,an .i64 code] m K:=
 aY (ce Tryz.func78 l78 (F9 k hk p code)) (by simp[dR,c7,eB,fE,an,CV.c6,CC.c6,RV.c6]) fun r m1 hf=>⟨_,hf,h⟩
end Go.Proofs.YtodckkkbiidffaaGreatDoor
