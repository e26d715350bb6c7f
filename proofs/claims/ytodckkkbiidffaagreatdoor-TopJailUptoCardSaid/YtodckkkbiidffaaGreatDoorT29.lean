/- Part 29 of 39: what the law stands on. -/
import Derived.Test.YtodckkkbiidffaaGreatDoorT16
import Derived.Test.YtodckkkbiidffaaGreatDoorT27
import Derived.Test.YtodckkkbiidffaaGreatDoorT28
set_option linter.unusedVariables false
set_option linter.unusedSimpArgs false
set_option linter.unnecessarySimpa false
set_option maxRecDepth 100000
set_option maxHeartbeats 64000000
namespace Go.Proofs.YtodckkkbiidffaaGreatDoor
open Go.AM Go.ChangeShapes Go.WideShapes Go.ChangeAt Go.RowKit
def c28:LF:= ⟨3,[.tmp 0],(.seq (.ai [qu 0 (.aF qe)]) (.seq (.ai [qu 1 (.build [(qd 0),.aB,.aB,(.aa (.val (.string ⟨#[]⟩))),(qd 0),.aB,(qd 0),(qd 0),(qd 0)] [(0,1,(qi 2)),(7,1,(qi 1)),(4,1,(qi (-1))),(6,1,(qi (-1)))]),qu 2 (.l5 9 [(qd 0),.aB,.aB,(.aa (.val (.string ⟨#[]⟩))),(qd 0),.aB,(qd 0),(qd 0),(qd 0)] 1 [(0,1)]),qm 0 2]) .ret))⟩
def c68:LF:= ⟨90,[.tmp 6,.tmp 7,.tmp 8],(.seq (.ai [qu 5 (.box 2),qu 6 (.aF qe),qu 7 (.aF (qi 0)),qu 8 (.aF (qi 0))]) (.seq (.seq (.ai [qm 11 1,qu 12 (.aH .lss 11 (qi 0)),qm 13 12,qg 14 (.aF 1) 13 false,qg 15 (.aF 0) 13 false,qg 16 (.len 1 15) 13 false,qg 17 (.aH .geq 14 16) 13 false,qu 18 (.pick 13 (qb true) 17),qm 19 18,qg 20 (.aF 0) 19 false,qg 21 (.aF 1) 19 false,qg 22 (.cr 9 20 21) 19 false,qg 23 (.bX 0 22) 19 false,qg 24 (.load false 1 23) 19 false,qg 25 (.aH .eql 24 (qi 0)) 19 false,qu 26 (.pick 19 (qb true) 25)]) (.cond 26 (.seq (.ai [qu 6 (.aF qe),qu 7 (.aF (qi 0)),qu 8 (.aF (qi 6))]) .ret) .skip)) (.seq (.seq (.ai [qm 27 0,qm 28 1,qu 29 (.cr 9 27 28),qf 30 0 29,ql 31 30,qu 32 (.aH .neq 31 (qi 2))]) (.cond 32 (.seq (.ai [qu 6 (.aF qe),qu 7 (.aF (qi 0)),qu 8 (.aF (qi 11))]) .ret) .skip)) (.seq (.ai [qm 33 0,qm 34 1,ql 35 5,qu 36 (qc 108 [33,34,35]),qm 9 36]) (.seq (.block 0 (.seq (.ai [qm 38 9,qu 39 (.aH .lss 38 (qi 0)),qm 37 39]) (.cond 37 (.seq (.ai [qu 6 (.aF qe),qu 7 (.aF (qi 0)),qu 8 (.aF (qi 6))]) .ret) (.seq (.ai [qm 41 0,qm 42 9,qu 43 (.cr 9 41 42),qf 44 0 43,ql 45 44,qu 46 (.aH .eql 45 (qi 2)),qm 47 46,qg 48 (.aF 0) 47 true,qg 49 (.aF 9) 47 true,qg 50 (.cr 9 48 49) 47 true,qg 51 (.bX 2 50) 47 true,qg 52 (.load false 1 51) 47 true,qg 53 (.len 1 52) 47 true,qg 54 (.aH .gtr 53 (qi 0)) 47 true,qu 55 (.pick 47 54 (qb false)),qm 40 55]) (.cond 40 (.seq (.ai [qu 6 (.aF qe),qu 7 (.aF (qi 0)),qu 8 (.aF (qi 18))]) .ret) .skip))))) (.seq (.ai [qm 56 0,qu 57 (qc 98 [56]),qm 10 57]) (.seq (.ai [qm 58 10,qm 59 1,qm 60 10,qm 61 1,qu 62 (.cr 9 60 61),qf 63 2 62,ql 64 63,qu 65 (.fn 110 [5]),qu 66 (qc 109 [64,65]),qu 67 (.cr 9 58 59),qf 68 2 67,qw (.store 1 68 66)]) (.seq (.ai [qm 69 10,qm 70 9,qu 71 (.cr 9 69 70),qf 72 7 71,ql 73 72,qu 74 (.aH .sub 73 (qi 1)),qu 75 (.cr 9 69 70),qf 76 7 75,qw (.store 1 76 74)]) (.seq (.seq (.ai [qm 77 10,qm 78 9,qu 79 (.cr 9 77 78),qf 80 0 79,ql 81 80,qu 82 (.aH .eql 81 (qi 2))]) (.cond 82 (.ai [qm 83 10,qm 84 9,qm 85 9,qu 86 (.cr 9 83 84),qf 87 8 86,qw (.store 1 87 85)]) .skip)) (.cI (.seq (.ai [qm 88 10,qm 89 9,qm 6 88,qm 7 89,qu 8 (.aF (qi 0))]) .ret)))))))))))⟩
def c109:LF:= ⟨42,[.tmp 4],(.seq (.ai [qu 4 (.aF qe)]) (.seq (.ai [qm 8 0,qm 9 1,qu 10 (qc 137 [8,9]),qm 5 10]) (.seq (.seq (.ai [qm 11 5,qu 12 (.aH .eql 11 (qi (-1)))]) (.cond 12 (.seq (.ai [qm 13 0,qm 4 13]) .ret) .skip)) (.seq (.seq (.ai [qm 14 5,qu 15 (.aH .add 14 (qi 1)),qm 6 15]) (.block 0 (.loop (.seq (.seq (.ai [qm 16 6,qm 17 0,qu 18 (.len 1 17),qu 19 (.aH .lss 16 18)]) (.cond 19 .skip (.exit 0))) (.seq (.block 1 (.seq (.ai [qm 22 0,qm 23 6,qu 24 (.cr 2 22 23),qL 25 2 24,qu 7 (.alloc [(.aa (.val (.string ⟨#[]⟩))),(qd 0)]),qw (.store 2 7 25)]) (.seq (.ai [qm 26 1,qL 27 2 7,qu 28 (.call 26 [27]),qu 29 (.un .not 28)]) (.cond 29 (.seq (.ai [qm 30 0,qm 31 5,qL 32 2 7,qu 33 (.cr 2 30 31),qw (.store 2 33 32)]) (.ai [qm 34 5,qu 35 (.aH .add 34 (qi 1)),qm 5 35])) .skip)))) (.ai [qm 20 6,qu 21 (.aH .add 20 (qi 1)),qm 6 21])))))) (.seq (.ai [qm 36 0,qm 37 5,qu 38 (.mD 2 36 (some 37) none none),qw (.P5 2 [(.aa (.val (.string ⟨#[]⟩))),(qd 0)] 38)]) (.seq (.ai [qm 39 0,qm 40 5,qu 41 (.mD 2 39 none (some 40) none),qm 4 41]) .ret))))))⟩
def c110:LF:= ⟨8,[.tmp 3],(.seq (.ai [qu 2 (.box 0),qu 3 (.aF (qb false))]) (.seq (.ai [qf 4 0 2,ql 5 4,ql 6 1,qu 7 (.aH .eql 5 6),qm 3 7]) .ret))⟩
def c137:LF:= ⟨19,[.tmp 4],(.seq (.ai [qu 4 (.aF (qi 0))]) (.seq (.seq (.ai [qm 6 0,qu 7 (.len 1 6),qu 8 (.aF (qi 0))]) (.block 0 (.loop (.seq (.ai [qu 9 (.aH .lss 8 7)]) (.seq (.cond 9 .skip (.exit 0)) (.seq (.block 1 (.seq (.ai [qm 10 8,qm 5 10]) (.seq (.ai [qm 11 1,qm 12 0,qm 13 5,qu 14 (.cr 2 12 13),qL 15 2 14,qu 16 (.call 11 [15])]) (.cond 16 (.seq (.ai [qm 17 5,qm 4 17]) .ret) .skip)))) (.ai [qu 18 (.aH .add 8 (qi 1)),qm 8 18]))))))) (.seq (.ai [qu 4 (.aF (qi (-1)))]) .ret)))⟩
theorem l110:bs Tryz.prog Tryz.f110=some c110:=by kernel_rfl
theorem l137:bs Tryz.prog Tryz.f137=some c137:=by kernel_rfl
theorem l109:bs Tryz.prog Tryz.f109=some c109:=by kernel_rfl
theorem l68:bs Tryz.prog Tryz.f68=some c68.er:=by kernel_rfl
theorem l28:bs Tryz.prog Tryz.f28=some c28:=by kernel_rfl
def G88:LC:=Wc (lu (lu (lu (lu (lu (lu (lu (lu (lu c68.code)))))))))
def JN(name:ByteArray):Bk:= .var [.aa (.val (.string name))]
theorem Ao(e:NE)(name:ByteArray):body Tryz.prog c110 [ue e,.rv (.one (.ptr 0 0))] [.var ([Dt.val (.string name)].map .aa)] (fun r m=>r=ay (e.1.toList==name.toList)/\∃ex,m= .var ([Dt.val (.string name)].map .aa)::ex):=by exact⟨rfl,_,rfl⟩
theorem JO(e:NE)(name:ByteArray)(K:CV->Mem->Prop)(h:K (ay (e.1.toList==name.toList)) [.var ([Dt.val (.string name)].map .aa)]):aq Tryz.prog 110 [ue e,.rv (.one (.ptr 0 0))] [.var ([Dt.val (.string name)].map .aa)] K:=
 eH rfl (aX Tryz.func110 l110 (Ao e name)) h
theorem CR{es:List NE}{k:Nat}(h:k<es.length):cR (af (es.map cK)) k=some [.aa (.val (.string es[k].1)),.aa (.val (.int .i64 es[k].2))]:=by rw[aU];simp[af,h,cK]
theorem Gu(es:List NE):lenOf (af (es.map cK)).length 0 none=es.length:=by show(af (es.map cK)).length=_;simp[af]
theorem Ap(es:List NE)(hl:es.length<=4194304)(name:ByteArray)(j:Nat)(hj:j<es.length)(hjn:es[j].1.toList=name.toList)(hb:∀(i:Nat)e,i<j->es[i]? =some e->e.1.toList≠name.toList):
  body Tryz.prog c137 [.rv (.one (.row 0 2 0 none)),.rv (.one (.fn 110 [1]))] [.row 2 (af (es.map cK)),JN name] (fun r m=>r=an .i64 (j:Nat)/\m=[.row 2 (af (es.map cK)),JN name]):=by
 refine ba (fun k=>k<=j) [0,1] (fun k=>[(7,an .i64 (es.length:Nat)),(8,an .i64 (k:Nat))]) (fun _=>[.row 2 (af (es.map cK)),JN name]) (fun k=>j-k) 0 (Wi _) ?_ (fun k hk=>?_)
 .refine View.o 2 [0,1] [] ?_ ?_
  .repeat(first|exact .nil|refine .ar ?_|refine .eq rfl ?_|refine .put (.aQ (by rw[Gu];rfl)) ?_)
  .exact .pr rfl rfl rfl (.pt rfl rfl (.km (ds:=[.val (.string name)]) rfl) (.nil _))
 have hk:k<=j:=hk;have fj:k<es.length:=om;refine cj (decide_eq_true (by show(k:Int)<(es.length:Int);omega)) ?_
 refine ag (bZ (by rw[Gu];exact fj):dp (k:Nat) (lenOf (af (es.map cK)).length 0 none)=some k) ?_
 refine ag (CR fj) ?_;refine fc (args0:=[ue es[k],.rv (.one (.ptr 0 0))]) (cs:=[.val (.string name)]) 1 rfl rfl (r0:=ay (es[k].1.toList==name.toList)) rfl (fun K hK=>JO es[k] name K hK) ?_
 refine aD (fun h=>?_) (fun h=>?_)
 .have h:es[k].1.toList=name.toList:=by simpa using h
  have:k=j:=by
   rcases Wj k j with h2|h2
   .exact absurd h (hb k _ h2 (sA fj))
   .omega
  subst this;exact⟨rfl,rfl⟩
 .have eG:k≠j:=fun e=>by subst e;rw[hjn]at h;simp at h
  refine⟨k+1,(by show k+1<=j;omega),(show j-(k+1)<j-k by omega),View.o 2 [0,1] [] ?_ ?_⟩
  .repeat(first|exact .nil|refine .ar ?_|refine .put (.aQ (aL om).symm) ?_|refine .eq rfl ?_)
  .exact .pr rfl rfl rfl (.pt rfl rfl (.km (ds:=[.val (.string name)]) rfl) (.nil _))
structure StD where
 t:Nat
 y:NE
def jI(a b:List NE)(t:Nat)(y:NE):List NE:=a++b.take t++y::b.drop t
theorem JQ{a b:List NE}{t:Nat}(h:t<=b.length)(y:NE):(jI a b t y).length=a.length+b.length+1:=by simp[jI];omega
theorem Gv{a b:List NE}{t:Nat}(h:t<b.length)(y:NE):(jI a b t y).set (a.length+t) b[t]=jI a b (t+1) b[t]/\(jI a b t y)[a.length+1+t]? =some b[t]:=by
 have h1:(a++b.take t).length=a.length+t:=by simp;omega
 have hd:b.drop t=b[t]::b.drop (t+1):=aby h;constructor
 .unfold jI;rw[abR _ _ om,h1,abB,List.set_cons_zero,List.take_succ_eq_append_getElem h,hd];simp only[abH,List.singleton_append]
 .unfold jI;rw[SF om,h1,show a.length+1+t-(a.length+t)=1 by omega,hd]
  rfl
def Ml:NE:=(⟨#[]⟩,0)
theorem Gw(a b:List NE)(x:NE)(hl:a.length+b.length<=4194303)(name:ByteArray)(hx:x.1.toList=name.toList)(ha:∀e,e∈a->e.1.toList≠name.toList)(hb:∀e,e∈b->e.1.toList≠name.toList):
  body Tryz.prog c109 [.rv (.one (.row 0 2 0 none)),.rv (.one (.fn 110 [1]))] [.row 2 (af ((a++x::b).map cK)),JN name]
  (fun r m=>r= .rv (.one (.row 0 2 0 (some (a.length+b.length))))/\m=[.row 2 (af ((a++b++ [Ml]).map cK)),JN name]):=by
 have hlen:(a++x::b).length=a.length+b.length+1:=by simp;omega
 refine(aX Tryz.func137 l137 (Ap (a++x::b) om name a.length om (by simp[hx]) (fun i e hi he=>?_))).mono fun r m⟨hr,hm⟩=>?_
 .rw[Tz hi]at he;exact ha e (NQ he)
 subst hr hm;refine ba (fun s:StD=>s.t<=b.length) [0,1] (fun s=>[(5,an .i64 ((a.length+s.t:Nat):Int)),(6,an .i64 ((a.length+1+s.t:Nat):Int))]) (fun s=>[.row 2 (af ((jI a b s.t s.y).map cK)),JN name]) (fun s=>b.length-s.t) ⟨0,x⟩ (Wi _) ?_ (fun s hs=>?_)
 .refine View.o 2 [0,1] [] ?_ ?_
  .repeat(first|exact .nil|refine .ar ?_|refine .eq rfl ?_|refine .put (.aQ (aL om).symm) ?_)
  .exact .pt rfl rfl (.bP (by show af _=af _;simp[jI])) (.pt rfl rfl (.km (ds:=[.val (.string name)]) rfl) (.nil _))
 obtain⟨t,y⟩:=s;have hs:t<=b.length:=hs;have kj:=JQ (a:=a) hs y;refine aJ (fun h=>?_) (fun h=>?_)
 .have h:((a.length+1+t:Nat):Int)<((lenOf (af ((jI a b t y).map cK)).length 0 none:Nat):Int):=h;rw[Gu,kj]at h;have ht:t<b.length:=om;obtain⟨n1,n2⟩:=Gv (a:=a) ht y;have lG:a.length+1+t<(jI a b t y).length:=om;have kZ:(jI a b t y)[a.length+1+t]=b[t]:=by rw[sA lG]at n2;exact ace n2
  have hr:=CR lG;rw[kZ]at hr;refine ag (bZ (by rw[Gu];exact lG):dp ((a.length+1+t:Nat):Int) (lenOf (af ((jI a b t y).map cK)).length 0 none)=some (a.length+1+t)) ?_
  refine ag hr ?_;have eG:=hb b[t] (Wl ht);generalize hbt:b[t]=v at n1 eG;refine fc (args0:=[ue v,.rv (.one (.ptr 0 0))]) (cs:=[.val (.string name)]) 1 rfl rfl (r0:=ay (v.1.toList==name.toList)) rfl (fun K hK=>JO v name K hK) ?_
  refine cj (by simpa using eG) ?_
  refine ag (bZ (by rw[Gu,kj];omega):dp ((a.length+t:Nat):Int) (lenOf (af ((jI a b t y).map cK)).length 0 none)=some (a.length+t)) ?_
  refine ag (CR (by rw[kj];omega):cR (af ((jI a b t y).map cK)) (a.length+t)=_) ?_
  have iZ:aZ (af ((jI a b t y).map cK)) (a.length+t) [.aa (.val (.string v.1)),.aa (.val (.int .i64 v.2))]=af ((jI a b (t+1) v).map cK):=by rw[<-n1,bg,aay];simp[af,aay,cK]
  have e1:=aL (k:=a.length+t) om;have e2:=aL (k:=a.length+1+t) om;refine⟨⟨t+1,v⟩,ht,(show b.length-(t+1)<b.length-t by omega),View.o 3 [0,1] [] ?_ ?_⟩
  .repeat(first|exact .nil|refine .ar ?_|refine .put (.aQ e1.symm) ?_|refine .put (.aQ e2.symm) ?_|refine .eq rfl ?_)
  .exact .pt rfl rfl (.bP iZ) (.pt rfl rfl (.km (ds:=[.val (.string name)]) rfl) (.nil _))
 .have h:¬((a.length+1+t:Nat):Int)<((lenOf (af ((jI a b t y).map cK)).length 0 none:Nat):Int):=h;rw[Gu,kj]at h;have ht:t=b.length:=om;subst ht;have Us:(af ((jI a b b.length y).map cK)).length=a.length+b.length+1:=by rw[<-kj];simp[af]
  have eA:cF (af ((jI a b b.length y).map cK)) (a.length+b.length) [[.aa (.val (.string ⟨#[]⟩)),.aa (.val (.int .i64 0))]]=af ((a++b++ [Ml]).map cK):=by
   have h1:af ((jI a b b.length y).map cK)=af ((a++b).map cK)++ [[.aa (.val (.string y.1)),.aa (.val (.int .i64 y.2))]]:=by simp[jI,af,cK]
   have h2:(af ((a++b).map cK)).length=a.length+b.length:=by simp[af]
   rw[h1,cF,List.take_left' h2,abL (by rw[aaH,h2];simp)]
   simp[af,cK,Ml]
  generalize hX:af ((jI a b b.length y).map cK)=X at Us eA;have Ut:lenOf X.length 0 none=a.length+b.length+1:=Us;refine cj (t:=(Nat.ble (a.length+b.length) (lenOf X.length 0 none)&&Nat.ble (lenOf X.length 0 none) (X.length-0))) (by rw[Ut,Us];simp[aak]) ?_
  have NV:cF X (a.length+b.length) (fC (lenOf X.length 0 none-(a.length+b.length)) [.aa (.val (.string ⟨#[]⟩)),.aa (.val (.int .i64 0))])=af ((a++b++ [Ml]).map cK):=by
   rw[Ut,show a.length+b.length+1-(a.length+b.length)=1 by omega]
   exact eA
  refine cj (t:=Nat.ble (lenOf X.length 0 none) X.length) (by rw[Ut,Us];simp[aak]) ?_
  refine cj (t:=Nat.blt (a.length+b.length) (lenOf X.length 0 none)) (by rw[Ut,aaQ];omega) ?_
  refine cj (t:=(Nat.ble 0 (a.length+b.length)&&Nat.ble (a.length+b.length) ((cF X (a.length+b.length) (fC (lenOf X.length 0 none-(a.length+b.length)) [.aa (.val (.string ⟨#[]⟩)),.aa (.val (.int .i64 0))])).length-0))) (by rw[NV];simp[af,aak]) ?_
  exact⟨rfl,congrArg (fun z=>[Bk.row 2 z,JN name]) NV⟩
theorem EN(a b:List NE)(x:NE)(hl:a.length+b.length<=4194303)(name:ByteArray)(hx:x.1.toList=name.toList)(ha:∀e,e∈a->e.1.toList≠name.toList)(hb:∀e,e∈b->e.1.toList≠name.toList){m:Mem}{K:CV->Mem->Prop}(i j:Nat)(o8:fI [i,j]=true)(aE:eR m.length [i,j]=true)(hi:cR m i=some (.row 2 (af ((a++x::b).map cK))))(hj:cR m j=some (JN name))(h:K (.rv (.one (.row i 2 0 (some (a.length+b.length))))) (cU m [i,j] [.row 2 (af ((a++b++ [Ml]).map cK)),JN name])):aq Tryz.prog 109 [.rv (.one (.row i 2 0 none)),.rv (.one (.fn 110 [j]))] m K:=by
 refine bw [i,j] m.length rfl rfl o8 aE (args0:=[.rv (.one (.row 0 2 0 none)),.rv (.one (.fn 110 [1]))]) rfl (m0:=[.row 2 (af ((a++x::b).map cK)),JN name]) (fun k b' hk=>?_) (aX Tryz.func109 l109 (Gw a b x hl name hx ha hb)) (fun r1 m1 hr=>?_)
 .match k,hk with
  |0,hk=>cases hk;exact .inr ⟨fun h=>h,_,by rw[aU]at hi;exact hi,.bP rfl⟩
  |1,hk=>cases hk;exact .inr ⟨fun h=>h,_,by rw[aU]at hj;exact hj,.km (ds:=[.val (.string name)]) rfl⟩
  |n+2,hk=>simp at hk
 .obtain⟨rfl,rfl⟩:=hr;refine⟨aI,?_⟩;show K (.rv (.one (.row i 2 0 (some (a.length+b.length))))) (cU m [i,j] [.row 2 ((af ((a++b++ [Ml]).map cK)).map (fun cs=>cs.map (CC.aQ (sg [i,j] m.length)))),JN name])
  rw[gd];exact h
end Go.Proofs.YtodckkkbiidffaaGreatDoor
