/- Part 29 of 41: what the law stands on. -/
import Derived.Test.YthagjdhjmamakaaGreatDoorT16
import Derived.Test.YthagjdhjmamakaaGreatDoorT27
import Derived.Test.YthagjdhjmamakaaGreatDoorT28
set_option linter.unusedVariables false
set_option linter.unusedSimpArgs false
set_option linter.unnecessarySimpa false
set_option maxRecDepth 100000
set_option maxHeartbeats 64000000
namespace Go.Proofs.YthagjdhjmamakaaGreatDoor
open Go.AM Go.ChangeShapes Go.WideShapes Go.ChangeAt Go.RowKit
def c24:LF:= ⟨3,[.tmp 0],(.seq (.ai [qu 0 (.aD qe)]) (.seq (.ai [qu 1 (.build [(qd 0),.aB,.aB,(.aa (.val (.string ⟨#[]⟩))),(qd 0),.aB,(qd 0),(qd 0),(qd 0)] [(0,1,(qi 2)),(7,1,(qi 1)),(4,1,(qi (-1))),(6,1,(qi (-1)))]),qu 2 (.lu 9 [(qd 0),.aB,.aB,(.aa (.val (.string ⟨#[]⟩))),(qd 0),.aB,(qd 0),(qd 0),(qd 0)] 1 [(0,1)]),qm 0 2]) .ret))⟩
def c61:LF:= ⟨90,[.tmp 6,.tmp 7,.tmp 8],(.seq (.ai [qu 5 (.box 2),qu 6 (.aD qe),qu 7 (.aD (qi 0)),qu 8 (.aD (qi 0))]) (.seq (.seq (.ai [qm 11 1,qu 12 (.aE .lss 11 (qi 0)),qm 13 12,qg 14 (.aD 1) 13 false,qg 15 (.aD 0) 13 false,qg 16 (.len 1 15) 13 false,qg 17 (.aE .geq 14 16) 13 false,qu 18 (.pick 13 (qb true) 17),qm 19 18,qg 20 (.aD 0) 19 false,qg 21 (.aD 1) 19 false,qg 22 (.b7 9 20 21) 19 false,qg 23 (.bQ 0 22) 19 false,qg 24 (.load false 1 23) 19 false,qg 25 (.aE .eql 24 (qi 0)) 19 false,qu 26 (.pick 19 (qb true) 25)]) (.cond 26 (.seq (.ai [qu 6 (.aD qe),qu 7 (.aD (qi 0)),qu 8 (.aD (qi 6))]) .ret) .skip)) (.seq (.seq (.ai [qm 27 0,qm 28 1,qu 29 (.b7 9 27 28),qf 30 0 29,ql 31 30,qu 32 (.aE .neq 31 (qi 2))]) (.cond 32 (.seq (.ai [qu 6 (.aD qe),qu 7 (.aD (qi 0)),qu 8 (.aD (qi 11))]) .ret) .skip)) (.seq (.ai [qm 33 0,qm 34 1,ql 35 5,qu 36 (qc 101 [33,34,35]),qm 9 36]) (.seq (.block 0 (.seq (.ai [qm 38 9,qu 39 (.aE .lss 38 (qi 0)),qm 37 39]) (.cond 37 (.seq (.ai [qu 6 (.aD qe),qu 7 (.aD (qi 0)),qu 8 (.aD (qi 6))]) .ret) (.seq (.ai [qm 41 0,qm 42 9,qu 43 (.b7 9 41 42),qf 44 0 43,ql 45 44,qu 46 (.aE .eql 45 (qi 2)),qm 47 46,qg 48 (.aD 0) 47 true,qg 49 (.aD 9) 47 true,qg 50 (.b7 9 48 49) 47 true,qg 51 (.bQ 2 50) 47 true,qg 52 (.load false 1 51) 47 true,qg 53 (.len 1 52) 47 true,qg 54 (.aE .gtr 53 (qi 0)) 47 true,qu 55 (.pick 47 54 (qb false)),qm 40 55]) (.cond 40 (.seq (.ai [qu 6 (.aD qe),qu 7 (.aD (qi 0)),qu 8 (.aD (qi 18))]) .ret) .skip))))) (.seq (.ai [qm 56 0,qu 57 (qc 91 [56]),qm 10 57]) (.seq (.ai [qm 58 10,qm 59 1,qm 60 10,qm 61 1,qu 62 (.b7 9 60 61),qf 63 2 62,ql 64 63,qu 65 (.fn 103 [5]),qu 66 (qc 102 [64,65]),qu 67 (.b7 9 58 59),qf 68 2 67,qw (.store 1 68 66)]) (.seq (.ai [qm 69 10,qm 70 9,qu 71 (.b7 9 69 70),qf 72 7 71,ql 73 72,qu 74 (.aE .sub 73 (qi 1)),qu 75 (.b7 9 69 70),qf 76 7 75,qw (.store 1 76 74)]) (.seq (.seq (.ai [qm 77 10,qm 78 9,qu 79 (.b7 9 77 78),qf 80 0 79,ql 81 80,qu 82 (.aE .eql 81 (qi 2))]) (.cond 82 (.ai [qm 83 10,qm 84 9,qm 85 9,qu 86 (.b7 9 83 84),qf 87 8 86,qw (.store 1 87 85)]) .skip)) (.cL (.seq (.ai [qm 88 10,qm 89 9,qm 6 88,qm 7 89,qu 8 (.aD (qi 0))]) .ret)))))))))))⟩
def c102:LF:= ⟨42,[.tmp 4],(.seq (.ai [qu 4 (.aD qe)]) (.seq (.ai [qm 8 0,qm 9 1,qu 10 (qc 130 [8,9]),qm 5 10]) (.seq (.seq (.ai [qm 11 5,qu 12 (.aE .eql 11 (qi (-1)))]) (.cond 12 (.seq (.ai [qm 13 0,qm 4 13]) .ret) .skip)) (.seq (.seq (.ai [qm 14 5,qu 15 (.aE .add 14 (qi 1)),qm 6 15]) (.block 0 (.loop (.seq (.seq (.ai [qm 16 6,qm 17 0,qu 18 (.len 1 17),qu 19 (.aE .lss 16 18)]) (.cond 19 .skip (.exit 0))) (.seq (.block 1 (.seq (.ai [qm 22 0,qm 23 6,qu 24 (.b7 2 22 23),qL 25 2 24,qu 7 (.alloc [(.aa (.val (.string ⟨#[]⟩))),(qd 0)]),qw (.store 2 7 25)]) (.seq (.ai [qm 26 1,qL 27 2 7,qu 28 (.call 26 [27]),qu 29 (.un .not 28)]) (.cond 29 (.seq (.ai [qm 30 0,qm 31 5,qL 32 2 7,qu 33 (.b7 2 30 31),qw (.store 2 33 32)]) (.ai [qm 34 5,qu 35 (.aE .add 34 (qi 1)),qm 5 35])) .skip)))) (.ai [qm 20 6,qu 21 (.aE .add 20 (qi 1)),qm 6 21])))))) (.seq (.ai [qm 36 0,qm 37 5,qu 38 (.m6 2 36 (some 37) none none),qw (.Rx 2 [(.aa (.val (.string ⟨#[]⟩))),(qd 0)] 38)]) (.seq (.ai [qm 39 0,qm 40 5,qu 41 (.m6 2 39 none (some 40) none),qm 4 41]) .ret))))))⟩
def c103:LF:= ⟨8,[.tmp 3],(.seq (.ai [qu 2 (.box 0),qu 3 (.aD (qb false))]) (.seq (.ai [qf 4 0 2,ql 5 4,ql 6 1,qu 7 (.aE .eql 5 6),qm 3 7]) .ret))⟩
def c130:LF:= ⟨19,[.tmp 4],(.seq (.ai [qu 4 (.aD (qi 0))]) (.seq (.seq (.ai [qm 6 0,qu 7 (.len 1 6),qu 8 (.aD (qi 0))]) (.block 0 (.loop (.seq (.ai [qu 9 (.aE .lss 8 7)]) (.seq (.cond 9 .skip (.exit 0)) (.seq (.block 1 (.seq (.ai [qm 10 8,qm 5 10]) (.seq (.ai [qm 11 1,qm 12 0,qm 13 5,qu 14 (.b7 2 12 13),qL 15 2 14,qu 16 (.call 11 [15])]) (.cond 16 (.seq (.ai [qm 17 5,qm 4 17]) .ret) .skip)))) (.ai [qu 18 (.aE .add 8 (qi 1)),qm 8 18]))))))) (.seq (.ai [qu 4 (.aD (qi (-1)))]) .ret)))⟩
theorem l103:bq Tryz.prog Tryz.f103=some c103:=by kernel_rfl
theorem l130:bq Tryz.prog Tryz.f130=some c130:=by kernel_rfl
theorem l102:bq Tryz.prog Tryz.f102=some c102:=by kernel_rfl
theorem l61:bq Tryz.prog Tryz.f61=some c61.er:=by kernel_rfl
theorem l24:bq Tryz.prog Tryz.f24=some c24:=by kernel_rfl
def G88:LC:=XG (lQ (lQ (lQ (lQ (lQ (lQ (lQ (lQ (lQ c61.code)))))))))
def K7(name:ByteArray):Bk:= .var [.aa (.val (.string name))]
theorem Bm(e:NE)(name:ByteArray):body Tryz.prog c103 [uW e,.rv (.one (.ptr 0 0))] [.var ([Dt.val (.string name)].map .aa)] (fun r m=>r=aA (e.1.toList==name.toList)/\∃ex,m= .var ([Dt.val (.string name)].map .aa)::ex):=by exact⟨rfl,_,rfl⟩
theorem K8(e:NE)(name:ByteArray)(K:CV->Mem->Prop)(h:K (aA (e.1.toList==name.toList)) [.var ([Dt.val (.string name)].map .aa)]):ar Tryz.prog 103 [uW e,.rv (.one (.ptr 0 0))] [.var ([Dt.val (.string name)].map .aa)] K:=
 eM rfl (aW Tryz.func103 l103 (Bm e name)) h
theorem D0{es:List NE}{k:Nat}(h:k<es.length):cR (af (es.map cM)) k=some [.aa (.val (.string es[k].1)),.aa (.val (.int .i64 es[k].2))]:=by rw[aT];simp[af,h,cM]
theorem HO(es:List NE):lenOf (af (es.map cM)).length 0 none=es.length:=by show(af (es.map cM)).length=_;simp[af]
theorem Bn(es:List NE)(hl:es.length<=4194304)(name:ByteArray)(j:Nat)(hj:j<es.length)(hjn:es[j].1.toList=name.toList)(hb:∀(i:Nat)e,i<j->es[i]? =some e->e.1.toList≠name.toList):
  body Tryz.prog c130 [.rv (.one (.row 0 2 0 none)),.rv (.one (.fn 103 [1]))] [.row 2 (af (es.map cM)),K7 name] (fun r m=>r=an .i64 (j:Nat)/\m=[.row 2 (af (es.map cM)),K7 name]):=by
 refine aX (fun k=>k<=j) [0,1] (fun k=>[(7,an .i64 (es.length:Nat)),(8,an .i64 (k:Nat))]) (fun _=>[.row 2 (af (es.map cM)),K7 name]) (fun k=>j-k) 0 (XL _) ?_ (fun k hk=>?_)
 .refine View.o 2 [0,1] [] ?_ ?_
  .repeat(first|exact .nil|refine .aq ?_|refine .eq rfl ?_|refine .put (.aP (by rw[HO];rfl)) ?_)
  .exact .pr rfl rfl rfl (.pt rfl rfl (.fz (ds:=[.val (.string name)]) rfl) (.nil _))
 have hk:k<=j:=hk;have fy:k<es.length:=om;refine b8 (decide_eq_true (by show(k:Int)<(es.length:Int);omega)) ?_
 refine ag (bP (by rw[HO];exact fy):dt (k:Nat) (lenOf (af (es.map cM)).length 0 none)=some k) ?_
 refine ag (D0 fy) ?_;refine fl (args0:=[uW es[k],.rv (.one (.ptr 0 0))]) (cs:=[.val (.string name)]) 1 rfl rfl (r0:=aA (es[k].1.toList==name.toList)) rfl (fun K hK=>K8 es[k] name K hK) ?_
 refine ay (fun h=>?_) (fun h=>?_)
 .have h:es[k].1.toList=name.toList:=by simpa using h
  have:k=j:=by
   rcases XN k j with h2|h2
   .exact absurd h (hb k _ h2 (tq fy))
   .omega
  subst this;exact⟨rfl,rfl⟩
 .have eL:k≠j:=fun e=>by subst e;rw[hjn]at h;simp at h
  refine⟨k+1,(by show k+1<=j;omega),(show j-(k+1)<j-k by omega),View.o 2 [0,1] [] ?_ ?_⟩
  .repeat(first|exact .nil|refine .aq ?_|refine .put (.aP (aL om).symm) ?_|refine .eq rfl ?_)
  .exact .pr rfl rfl rfl (.pt rfl rfl (.fz (ds:=[.val (.string name)]) rfl) (.nil _))
structure StD where
 t:Nat
 y:NE
def jR(a b:List NE)(t:Nat)(y:NE):List NE:=a++b.take t++y::b.drop t
theorem K9{a b:List NE}{t:Nat}(h:t<=b.length)(y:NE):(jR a b t y).length=a.length+b.length+1:=by simp[jR];omega
theorem HP{a b:List NE}{t:Nat}(h:t<b.length)(y:NE):(jR a b t y).set (a.length+t) b[t]=jR a b (t+1) b[t]/\(jR a b t y)[a.length+1+t]? =some b[t]:=by
 have h1:(a++b.take t).length=a.length+t:=by simp;omega
 have hd:b.drop t=b[t]::b.drop (t+1):=abF h;constructor
 .unfold jR;rw[abZ _ _ om,h1,abK,List.set_cons_zero,List.take_succ_eq_append_getElem h,hd];simp only[abw,List.singleton_append]
 .unfold jR;rw[UX om,h1,show a.length+1+t-(a.length+t)=1 by omega,hd]
  rfl
def Nz:NE:=(⟨#[]⟩,0)
theorem HQ(a b:List NE)(x:NE)(hl:a.length+b.length<=4194303)(name:ByteArray)(hx:x.1.toList=name.toList)(ha:∀e,e∈a->e.1.toList≠name.toList)(hb:∀e,e∈b->e.1.toList≠name.toList):
  body Tryz.prog c102 [.rv (.one (.row 0 2 0 none)),.rv (.one (.fn 103 [1]))] [.row 2 (af ((a++x::b).map cM)),K7 name]
  (fun r m=>r= .rv (.one (.row 0 2 0 (some (a.length+b.length))))/\m=[.row 2 (af ((a++b++ [Nz]).map cM)),K7 name]):=by
 have hlen:(a++x::b).length=a.length+b.length+1:=by simp;omega
 refine(aW Tryz.func130 l130 (Bn (a++x::b) om name a.length om (by simp[hx]) (fun i e hi he=>?_))).mono fun r m⟨hr,hm⟩=>?_
 .rw[VO hi]at he;exact ha e (O9 he)
 subst hr hm;refine aX (fun s:StD=>s.t<=b.length) [0,1] (fun s=>[(5,an .i64 ((a.length+s.t:Nat):Int)),(6,an .i64 ((a.length+1+s.t:Nat):Int))]) (fun s=>[.row 2 (af ((jR a b s.t s.y).map cM)),K7 name]) (fun s=>b.length-s.t) ⟨0,x⟩ (XL _) ?_ (fun s hs=>?_)
 .refine View.o 2 [0,1] [] ?_ ?_
  .repeat(first|exact .nil|refine .aq ?_|refine .eq rfl ?_|refine .put (.aP (aL om).symm) ?_)
  .exact .pt rfl rfl (.bR (by show af _=af _;simp[jR])) (.pt rfl rfl (.fz (ds:=[.val (.string name)]) rfl) (.nil _))
 obtain⟨t,y⟩:=s;have hs:t<=b.length:=hs;have kI:=K9 (a:=a) hs y;refine aJ (fun h=>?_) (fun h=>?_)
 .have h:((a.length+1+t:Nat):Int)<((lenOf (af ((jR a b t y).map cM)).length 0 none:Nat):Int):=h;rw[HO,kI]at h;have ht:t<b.length:=om;obtain⟨n1,n2⟩:=HP (a:=a) ht y;have l4:a.length+1+t<(jR a b t y).length:=om;have lE:(jR a b t y)[a.length+1+t]=b[t]:=by rw[tq l4]at n2;exact abl n2
  have hr:=D0 l4;rw[lE]at hr;refine ag (bP (by rw[HO];exact l4):dt ((a.length+1+t:Nat):Int) (lenOf (af ((jR a b t y).map cM)).length 0 none)=some (a.length+1+t)) ?_
  refine ag hr ?_;have eL:=hb b[t] (XP ht);generalize hbt:b[t]=v at n1 eL;refine fl (args0:=[uW v,.rv (.one (.ptr 0 0))]) (cs:=[.val (.string name)]) 1 rfl rfl (r0:=aA (v.1.toList==name.toList)) rfl (fun K hK=>K8 v name K hK) ?_
  refine b8 (by simpa using eL) ?_
  refine ag (bP (by rw[HO,kI];omega):dt ((a.length+t:Nat):Int) (lenOf (af ((jR a b t y).map cM)).length 0 none)=some (a.length+t)) ?_
  refine ag (D0 (by rw[kI];omega):cR (af ((jR a b t y).map cM)) (a.length+t)=_) ?_
  have ji:a7 (af ((jR a b t y).map cM)) (a.length+t) [.aa (.val (.string v.1)),.aa (.val (.int .i64 v.2))]=af ((jR a b (t+1) v).map cM):=by rw[<-n1,bg,aaG];simp[af,aaG,cM]
  have e1:=aL (k:=a.length+t) om;have e2:=aL (k:=a.length+1+t) om;refine⟨⟨t+1,v⟩,ht,(show b.length-(t+1)<b.length-t by omega),View.o 3 [0,1] [] ?_ ?_⟩
  .repeat(first|exact .nil|refine .aq ?_|refine .put (.aP e1.symm) ?_|refine .put (.aP e2.symm) ?_|refine .eq rfl ?_)
  .exact .pt rfl rfl (.bR ji) (.pt rfl rfl (.fz (ds:=[.val (.string name)]) rfl) (.nil _))
 .have h:¬((a.length+1+t:Nat):Int)<((lenOf (af ((jR a b t y).map cM)).length 0 none:Nat):Int):=h;rw[HO,kI]at h;have ht:t=b.length:=om;subst ht;have VT:(af ((jR a b b.length y).map cM)).length=a.length+b.length+1:=by rw[<-kI];simp[af]
  have eE:cC (af ((jR a b b.length y).map cM)) (a.length+b.length) [[.aa (.val (.string ⟨#[]⟩)),.aa (.val (.int .i64 0))]]=af ((a++b++ [Nz]).map cM):=by
   have h1:af ((jR a b b.length y).map cM)=af ((a++b).map cM)++ [[.aa (.val (.string y.1)),.aa (.val (.int .i64 y.2))]]:=by simp[jR,af,cM]
   have h2:(af ((a++b).map cM)).length=a.length+b.length:=by simp[af]
   rw[h1,cC,List.take_left' h2,abU (by rw[aaw,h2];simp)]
   simp[af,cM,Nz]
  generalize hX:af ((jR a b b.length y).map cM)=X at VT eE;have VU:lenOf X.length 0 none=a.length+b.length+1:=VT;refine b8 (t:=(Nat.ble (a.length+b.length) (lenOf X.length 0 none)&&Nat.ble (lenOf X.length 0 none) (X.length-0))) (by rw[VU,VT];simp[aap]) ?_
  have Pe:cC X (a.length+b.length) (fI (lenOf X.length 0 none-(a.length+b.length)) [.aa (.val (.string ⟨#[]⟩)),.aa (.val (.int .i64 0))])=af ((a++b++ [Nz]).map cM):=by
   rw[VU,show a.length+b.length+1-(a.length+b.length)=1 by omega]
   exact eE
  refine b8 (t:=Nat.ble (lenOf X.length 0 none) X.length) (by rw[VU,VT];simp[aap]) ?_
  refine b8 (t:=Nat.blt (a.length+b.length) (lenOf X.length 0 none)) (by rw[VU,aaO];omega) ?_
  refine b8 (t:=(Nat.ble 0 (a.length+b.length)&&Nat.ble (a.length+b.length) ((cC X (a.length+b.length) (fI (lenOf X.length 0 none-(a.length+b.length)) [.aa (.val (.string ⟨#[]⟩)),.aa (.val (.int .i64 0))])).length-0))) (by rw[Pe];simp[af,aap]) ?_
  exact⟨rfl,congrArg (fun z=>[Bk.row 2 z,K7 name]) Pe⟩
theorem F8(a b:List NE)(x:NE)(hl:a.length+b.length<=4194303)(name:ByteArray)(hx:x.1.toList=name.toList)(ha:∀e,e∈a->e.1.toList≠name.toList)(hb:∀e,e∈b->e.1.toList≠name.toList){m:Mem}{K:CV->Mem->Prop}(i j:Nat)(pG:fQ [i,j]=true)(aF:eX m.length [i,j]=true)(hi:cR m i=some (.row 2 (af ((a++x::b).map cM))))(hj:cR m j=some (K7 name))(h:K (.rv (.one (.row i 2 0 (some (a.length+b.length))))) (cV m [i,j] [.row 2 (af ((a++b++ [Nz]).map cM)),K7 name])):ar Tryz.prog 102 [.rv (.one (.row i 2 0 none)),.rv (.one (.fn 103 [j]))] m K:=by
 refine bv [i,j] m.length rfl rfl pG aF (args0:=[.rv (.one (.row 0 2 0 none)),.rv (.one (.fn 103 [1]))]) rfl (m0:=[.row 2 (af ((a++x::b).map cM)),K7 name]) (fun k b' hk=>?_) (aW Tryz.func102 l102 (HQ a b x hl name hx ha hb)) (fun r1 m1 hr=>?_)
 .match k,hk with
  |0,hk=>cases hk;exact .inr ⟨fun h=>h,_,by rw[aT]at hi;exact hi,.bR rfl⟩
  |1,hk=>cases hk;exact .inr ⟨fun h=>h,_,by rw[aT]at hj;exact hj,.fz (ds:=[.val (.string name)]) rfl⟩
  |n+2,hk=>simp at hk
 .obtain⟨rfl,rfl⟩:=hr;refine⟨aK,?_⟩;show K (.rv (.one (.row i 2 0 (some (a.length+b.length))))) (cV m [i,j] [.row 2 ((af ((a++b++ [Nz]).map cM)).map (fun cs=>cs.map (CC.aP (sg [i,j] m.length)))),K7 name])
  rw[gm];exact h
end Go.Proofs.YthagjdhjmamakaaGreatDoor
