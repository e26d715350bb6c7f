/- Part 20 of 41: what the law stands on. -/
import Derived.Test.YthagjdhjmamakaaGreatDoorT16
import Derived.Test.YthagjdhjmamakaaGreatDoorT19
set_option linter.unusedVariables false
set_option linter.unusedSimpArgs false
set_option linter.unnecessarySimpa false
set_option maxRecDepth 100000
set_option maxHeartbeats 64000000
namespace Go.Proofs.YthagjdhjmamakaaGreatDoor
open Go.AM Go.ChangeShapes Go.WideShapes Go.ChangeAt Go.RowKit
def c52:LF:= ⟨32,[.cell true 3 2],(.seq (.ai [qu 1 (.box 0),qu 2 (.alloc [.aB,.aB,.aB])]) (.seq (.bT [qf 6 0 1,ql 7 6,qu 8 (qc 91 [7]),qf 9 1 1,ql 10 9,qu 11 (qc 92 [10]),qu 12 (.build [.aB,.aB,.aB] [(0,1,8),(1,1,11)]),qu 3 (.alloc [.aB,.aB,.aB]),qw (.store 3 3 12)] [(.cons 0 none (.cons 1 none (.cons 3 none (.cons 4 none (.zS (.cons 2 (some [4]) (.zS (.cons 5 (some []) (.cons 6 none (.cons 7 (some [4,1]) (.cons 8 (some []) .nil)))) (.cons 7 (some [4,1]) (.cons 5 (some []) (.cons 6 none (.cons 8 (some []) .nil)))))) (.cons 7 (some [4,1]) (.cons 2 (some [4]) (.cons 5 (some []) (.cons 6 none (.cons 8 (some []) .nil))))))))))]) (.seq (.seq (.ai [qf 13 2 1,ql 14 13,qu 15 (.len 1 14),qu 16 (.aD (qi 0))]) (.block 0 (.loop (.seq (.ai [qu 17 (.aE .lss 16 15)]) (.seq (.cond 17 .skip (.exit 0)) (.seq (.block 1 (.seq (.ai [qu 18 (.b7 4 14 16),qL 19 4 18,qu 5 (.alloc [(.aa (.val (.bool false))),(.aa (.val (.bool false))),(qd 0),.aB]),qw (.store 4 5 19)]) (.seq (.ai [qf 20 3 5,ql 21 20,qu 22 (qc 93 [21]),qf 23 3 5,qw (.store 1 23 22)]) (.ai [qf 24 2 3,ql 25 24,qL 26 4 5,qu 27 (.lu 4 [(.aa (.val (.bool false))),(.aa (.val (.bool false))),(qd 0),.aB] 1 [(0,26)]),qu 28 (.mY 4 40 25 27),qf 29 2 3,qw (.store 1 29 28)])))) (.ai [qu 30 (.aE .add 16 (qi 1)),qm 16 30]))))))) (.seq (.ai [qL 31 3 3,qw (.store 3 2 31)]) .ret))))⟩
def c92:LF:= ⟨8,[.tmp 2],(.seq (.ai [qu 2 (.aD qe)]) (.seq (.seq (.ai [qm 3 0,qu 4 (.v6 false 3)]) (.cond 4 (.seq (.ai [qu 2 (.aD qe)]) .ret) .skip)) (.seq (.ai [qu 5 (.lu 2 [(qd 0),(qd 0)] 0 []),qm 6 0,qu 7 (.mY 2 16 5 6),qm 2 7]) .ret)))⟩
def c93:LF:= ⟨8,[.tmp 2],(.seq (.ai [qu 2 (.aD qe)]) (.seq (.seq (.ai [qm 3 0,qu 4 (.v6 false 3)]) (.cond 4 (.seq (.ai [qu 2 (.aD qe)]) .ret) .skip)) (.seq (.ai [qu 5 (.lu 3 [(.aa (.val (.bool false))),(qd 0),(qd 0)] 0 []),qm 6 0,qu 7 (.mY 3 24 5 6),qm 2 7]) .ret)))⟩
theorem oa:∀(l:List Obj)(p Q k:Nat),k+l.length<=p->dW p Q k l=af (l.map Obj.enc)
 | [],_,_,_,_=>rfl
 |o::r,p,Q,k,h=>by
  have ih:=oa r p Q (k+1) (by simp at h;omega)
  have hk:¬k=p:=by simp at h;omega
  simp only[dW,ih,pW,if_neg hk];rfl
theorem AR(l:List Obj):yy l l.length l.length= .aZ:=by
 have:Nat.blt l.length l.length=false:=by
  cases h:Nat.blt l.length l.length
  .rfl
  .rw[aaO]at h;omega
 unfold yy;rw[this]
theorem l92:bq Tryz.prog Tryz.f92=some c92:=by kernel_rfl
theorem l93:bq Tryz.prog Tryz.f93=some c93:=by kernel_rfl
theorem l52:bq Tryz.prog Tryz.f52=some c52:=by kernel_rfl
theorem AS(ops:List bC)(ho:ops.length<=4194304):body Tryz.prog c92 [.rv (.one (.aa (eF ops)))] [] (fun r m=>∃r' m',View 0 ⟨[r],m⟩ ⟨[r'],m'⟩/\r'= .rv (.one (.row 0 2 0 none))/\m'=[.row 2 (af (ops.map bC.enc))]):=by
 have qK:((([]:List (List CC)).length+((ops.map bC.enc).map fun ds=>ds.map CC.aa).length)*16)<=140737488355328:=by simp;omega
 have hU:∃r' m',View 0 ⟨[CV.rv (.one (.row 1 2 0 none))],[.aZ,.row 2 (ct ([]:List (List CC)) 0 none++(ops.map bC.enc).map fun ds=>ds.map CC.aa)]⟩ ⟨[r'],m'⟩/\r'=CV.rv (.one (.row 0 2 0 none))/\m'=[Bk.row 2 (af (ops.map bC.enc))]:=
  ⟨_,_,View.o 2 [1] [] (.eq rfl .nil) (.pn rfl rfl rfl),rfl,rfl⟩
 refine ay (fun h=>?_) (fun h=>?_)
 .have hd:ops=[]:=XJ (by simpa using XM h)
  refine⟨?_,qK,hU⟩;subst hd;exact⟨_,_,View.aB 0 2 0 rfl rfl rfl,rfl,rfl⟩
 .exact⟨qK,hU⟩
theorem rq(ops:List bC)(ho:ops.length<=4194304){m:Mem}{K:CV->Mem->Prop}(h:K (.rv (.one (.row m.length 2 0 none))) (m++ [.row 2 (af (ops.map bC.enc))])):ar Tryz.prog 92 [.rv (.one (.aa (eF ops)))] m K:=by
 refine bv [] m.length rfl rfl rfl rfl (args0:=[.rv (.one (.aa (eF ops)))]) rfl (fun i b' hi=>by simp at hi) (K0:=fun r m=>r= .rv (.one (.row 0 2 0 none))/\m=[.row 2 (af (ops.map bC.enc))]) (bK (aW Tryz.func92 l92 (AS ops ho)) fun r m1 h=>h) (fun r m1 hr=>?_)
 obtain⟨rfl,rfl⟩:=hr;refine⟨XL _,?_⟩;show K (.rv (.one (.row (m.length+(0-0)) 2 0 none))) (gX m [.row 2 ((af (ops.map bC.enc)).map (fun cs=>cs.map (CC.aP (sg [] m.length))))])
 rw[dd,cg];exact h
theorem AT(d:List fq)(hb:d.length<=4194304):body Tryz.prog c93 [ma d] [] (fun r m=>cw m r (ma d)):=by
 have qK:((([]:List (List CC)).length+((d.map fq.enc).map fun ds=>ds.map CC.aa).length)*24)<=140737488355328:=by simp;omega
 refine ay (fun h=>?_) (fun h=>?_)
 .have hd:d=[]:=XJ (by simpa using XM h)
  subst hd;exact⟨.rv (.one (.aB 3)),qK,.rv (.one (dY.d6 rfl 0 none))⟩
 .exact⟨qK,.rv (.one (dY.d6 rfl 0 none))⟩
theorem iu(d:List fq)(hb:d.length<=4194304){m:Mem}{K:CV->Mem->Prop}(h:K (ma d) m):ar Tryz.prog 93 [ma d] m K:=
 aY (aW Tryz.func93 l93 (AT d hb)) (by simp[ma,wu,CV.c7,CC.c7]) fun r m1 hf=>⟨_,hf,h⟩
structure Qj where
 k:Nat
 qs:List bi
theorem Hh(l:List Obj)(ops:List bC)(ps:List bi)(hf:kg l)(ho:ops.length<=4194304)(iI:ps.length<=4194304)(pi:∀p,p∈ps->p.bd.length<=10)(eL:ps≠[]):
  body Tryz.prog c52 [dX l ops ps] [] (fun r m=>∃r' m',View 0 ⟨[r],m⟩ ⟨[r'],m'⟩/\r'= .rv (.agg [.row 0 9 0 none,.row 1 2 0 none,.row 2 4 0 none])/\m'=[.row 9 (af (l.map Obj.enc)),.row 2 (af (ops.map bC.enc)),.row 4 (af (ps.map bi.enc))]):=by
 refine⟨?_,?_⟩
 .skip
  refine uE l hf l.length ?_;rw[AR];refine⟨⟨rfl,trivial⟩,?_⟩;refine⟨?_,?_⟩
  .refine rq ops ho ?_;refine⟨trivial,⟨rfl,rfl,trivial⟩,trivial,?_⟩;refine aX (fun(a:Qj)=>a.k<=ps.length/\a.qs=ps.take a.k) [1,2,14,15] (fun a=>[(16,an .i64 (a.k:Nat)),(3,.rv (.one (.ptr 2 0)))]) (fun a=>match a.qs with
     | []=>[.var [.aa (da l),.aa (eF ops),.aa (fM ps)],.var z3,.var [.row 3 9 0 none,.row 4 2 0 none,.aB],.row 9 (af (l.map Obj.enc)),.row 2 (af (ops.map bC.enc))]
     |x::r=>[.var [.aa (da l),.aa (eF ops),.aa (fM ps)],.var z3,.var [.row 3 9 0 none,.row 4 2 0 none,.row 5 4 0 none],.row 9 (af (l.map Obj.enc)),.row 2 (af (ops.map bC.enc)),.row 4 (af ((x::r).map bi.enc))]) (fun a=>ps.length-a.k) ⟨0,[]⟩ ⟨XL _,rfl⟩ ?_ (fun a ha=>?_)
   .refine View.o1 6 [0,1,5,2,4] [] ?_
    .exact(.pe rfl rfl rfl (.pe rfl rfl rfl (.pe rfl rfl rfl (.pt rfl rfl (.bR (oa l _ _ _ om)) (.pn rfl rfl rfl)))))
   obtain⟨k,qs⟩:=a;obtain⟨hk,hq⟩:=ha;have hk:k<=ps.length:=hk;have hq:qs=ps.take k:=hq;cases qs with
   |nil=>
    refine aJ (fun h=>?_) (fun h=>?_)
    .have aF:k<ps.length:=by have h:(k:Int)<((ps.map bi.enc).length:Int):=h;rw[LW]at h;omega
     refine ag (dQ aF) ?_;refine iu ps[k].bd (by have:=pi _ (XP aF);omega) ?_
     refine⟨by simp[ct],?_⟩
     refine⟨⟨k+1,[ps[k]]⟩,⟨aF,(show [ps[k]]=ps.take (k+1) by rw[aaL,tq aF,<-hq];rfl)⟩,(show ps.length-(k+1)<ps.length-k by omega),View.o 8 [0,1,2,3,4,7] [] ?_ ?_⟩
     .repeat(first|exact .nil|refine .aq ?_|refine .put (.aP (aL om).symm) ?_|refine .eq rfl ?_)
     .exact(.pe rfl rfl rfl (.pe rfl rfl rfl (.pe rfl rfl rfl (.pr rfl rfl rfl (.pr rfl rfl rfl (.pt rfl rfl (.bR (by simp[ct,af,bi.enc])) (.nil _)))))))
    .have yF:k=ps.length:=by have h:¬(k:Int)<((ps.map bi.enc).length:Int):=h;rw[LW]at h;omega
     subst yF;rw[aan]at hq;exact absurd hq.symm eL
   |cons x r=>
    refine aJ (fun h=>?_) (fun h=>?_)
    .have aF:k<ps.length:=by have h:(k:Int)<((ps.map bi.enc).length:Int):=h;rw[LW]at h;omega
     refine ag (dQ aF) ?_;refine iu ps[k].bd (by have:=pi _ (XP aF);omega) ?_
     refine⟨by have e:=bb ((x::r).map bi.enc);have e2:=congrArg List.length hq;simp only[LW,XR,Z3]at e e2;simp only[ct,XR,aat];omega,?_⟩
     refine⟨⟨k+1,((x::r)++ [ps[k]])⟩,⟨aF,(show((x::r)++ [ps[k]])=ps.take (k+1) by rw[aaL,tq aF,<-hq];rfl)⟩,(show ps.length-(k+1)<ps.length-k by omega),View.o 9 [0,1,2,3,4,8] [] ?_ ?_⟩
     .repeat(first|exact .nil|refine .aq ?_|refine .put (.aP (aL om).symm) ?_|refine .eq rfl ?_)
     .exact(.pe rfl rfl rfl (.pe rfl rfl rfl (.pe rfl rfl rfl (.pr rfl rfl rfl (.pr rfl rfl rfl (.pt rfl rfl (.bR (by simp[ct,af,bi.enc])) (.nil _)))))))
    .have yF:k=ps.length:=by have h:¬(k:Int)<((ps.map bi.enc).length:Int):=h;rw[LW]at h;omega
     subst yF;rw[aan]at hq;refine⟨.rv (.agg [.row 0 9 0 none,.row 1 2 0 none,.row 2 4 0 none]),_,View.o 6 [3,4,5] [] (.eq rfl .nil) (.pr rfl rfl rfl (.pr rfl rfl rfl (.pn rfl rfl rfl))),rfl,?_⟩;rw[hq]
  .refine⟨⟨rfl,rfl,trivial⟩,?_⟩;refine rq ops ho ?_;refine⟨trivial,trivial,?_⟩;refine aX (fun(a:Qj)=>a.k<=ps.length/\a.qs=ps.take a.k) [1,2,14,15] (fun a=>[(16,an .i64 (a.k:Nat)),(3,.rv (.one (.ptr 2 0)))]) (fun a=>match a.qs with
     | []=>[.var [.aa (da l),.aa (eF ops),.aa (fM ps)],.var z3,.var [.row 3 9 0 none,.row 4 2 0 none,.aB],.row 9 (af (l.map Obj.enc)),.row 2 (af (ops.map bC.enc))]
     |x::r=>[.var [.aa (da l),.aa (eF ops),.aa (fM ps)],.var z3,.var [.row 3 9 0 none,.row 4 2 0 none,.row 5 4 0 none],.row 9 (af (l.map Obj.enc)),.row 2 (af (ops.map bC.enc)),.row 4 (af ((x::r).map bi.enc))]) (fun a=>ps.length-a.k) ⟨0,[]⟩ ⟨XL _,rfl⟩ ?_ (fun a ha=>?_)
   .refine View.o1 6 [0,1,4,2,5] [] ?_
    .exact(.pe rfl rfl rfl (.pe rfl rfl rfl (.pe rfl rfl rfl (.pt rfl rfl (.bR (oa l _ _ _ om)) (.pn rfl rfl rfl)))))
   obtain⟨k,qs⟩:=a;obtain⟨hk,hq⟩:=ha;have hk:k<=ps.length:=hk;have hq:qs=ps.take k:=hq;cases qs with
   |nil=>
    refine aJ (fun h=>?_) (fun h=>?_)
    .have aF:k<ps.length:=by have h:(k:Int)<((ps.map bi.enc).length:Int):=h;rw[LW]at h;omega
     refine ag (dQ aF) ?_;refine iu ps[k].bd (by have:=pi _ (XP aF);omega) ?_
     refine⟨by simp[ct],?_⟩
     refine⟨⟨k+1,[ps[k]]⟩,⟨aF,(show [ps[k]]=ps.take (k+1) by rw[aaL,tq aF,<-hq];rfl)⟩,(show ps.length-(k+1)<ps.length-k by omega),View.o 8 [0,1,2,3,4,7] [] ?_ ?_⟩
     .repeat(first|exact .nil|refine .aq ?_|refine .put (.aP (aL om).symm) ?_|refine .eq rfl ?_)
     .exact(.pe rfl rfl rfl (.pe rfl rfl rfl (.pe rfl rfl rfl (.pr rfl rfl rfl (.pr rfl rfl rfl (.pt rfl rfl (.bR (by simp[ct,af,bi.enc])) (.nil _)))))))
    .have yF:k=ps.length:=by have h:¬(k:Int)<((ps.map bi.enc).length:Int):=h;rw[LW]at h;omega
     subst yF;rw[aan]at hq;exact absurd hq.symm eL
   |cons x r=>
    refine aJ (fun h=>?_) (fun h=>?_)
    .have aF:k<ps.length:=by have h:(k:Int)<((ps.map bi.enc).length:Int):=h;rw[LW]at h;omega
     refine ag (dQ aF) ?_;refine iu ps[k].bd (by have:=pi _ (XP aF);omega) ?_
     refine⟨by have e:=bb ((x::r).map bi.enc);have e2:=congrArg List.length hq;simp only[LW,XR,Z3]at e e2;simp only[ct,XR,aat];omega,?_⟩
     refine⟨⟨k+1,((x::r)++ [ps[k]])⟩,⟨aF,(show((x::r)++ [ps[k]])=ps.take (k+1) by rw[aaL,tq aF,<-hq];rfl)⟩,(show ps.length-(k+1)<ps.length-k by omega),View.o 9 [0,1,2,3,4,8] [] ?_ ?_⟩
     .repeat(first|exact .nil|refine .aq ?_|refine .put (.aP (aL om).symm) ?_|refine .eq rfl ?_)
     .exact(.pe rfl rfl rfl (.pe rfl rfl rfl (.pe rfl rfl rfl (.pr rfl rfl rfl (.pr rfl rfl rfl (.pt rfl rfl (.bR (by simp[ct,af,bi.enc])) (.nil _)))))))
    .have yF:k=ps.length:=by have h:¬(k:Int)<((ps.map bi.enc).length:Int):=h;rw[LW]at h;omega
     subst yF;rw[aan]at hq;refine⟨.rv (.agg [.row 0 9 0 none,.row 1 2 0 none,.row 2 4 0 none]),_,View.o 6 [3,4,5] [] (.eq rfl .nil) (.pr rfl rfl rfl (.pr rfl rfl rfl (.pn rfl rfl rfl))),rfl,?_⟩;rw[hq]
 .refine⟨⟨rfl,rfl,trivial⟩,?_⟩;refine uE l hf l.length ?_;rw[AR];refine⟨⟨rfl,trivial⟩,?_⟩;refine rq ops ho ?_;refine⟨trivial,trivial,?_⟩;refine aX (fun(a:Qj)=>a.k<=ps.length/\a.qs=ps.take a.k) [1,2,14,15] (fun a=>[(16,an .i64 (a.k:Nat)),(3,.rv (.one (.ptr 2 0)))]) (fun a=>match a.qs with
    | []=>[.var [.aa (da l),.aa (eF ops),.aa (fM ps)],.var z3,.var [.row 3 9 0 none,.row 4 2 0 none,.aB],.row 9 (af (l.map Obj.enc)),.row 2 (af (ops.map bC.enc))]
    |x::r=>[.var [.aa (da l),.aa (eF ops),.aa (fM ps)],.var z3,.var [.row 3 9 0 none,.row 4 2 0 none,.row 5 4 0 none],.row 9 (af (l.map Obj.enc)),.row 2 (af (ops.map bC.enc)),.row 4 (af ((x::r).map bi.enc))]) (fun a=>ps.length-a.k) ⟨0,[]⟩ ⟨XL _,rfl⟩ ?_ (fun a ha=>?_)
  .refine View.o1 6 [0,1,2,3,5] [] ?_
   .exact(.pe rfl rfl rfl (.pe rfl rfl rfl (.pe rfl rfl rfl (.pt rfl rfl (.bR (oa l _ _ _ om)) (.pn rfl rfl rfl)))))
  obtain⟨k,qs⟩:=a;obtain⟨hk,hq⟩:=ha;have hk:k<=ps.length:=hk;have hq:qs=ps.take k:=hq;cases qs with
  |nil=>
   refine aJ (fun h=>?_) (fun h=>?_)
   .have aF:k<ps.length:=by have h:(k:Int)<((ps.map bi.enc).length:Int):=h;rw[LW]at h;omega
    refine ag (dQ aF) ?_;refine iu ps[k].bd (by have:=pi _ (XP aF);omega) ?_
    refine⟨by simp[ct],?_⟩
    refine⟨⟨k+1,[ps[k]]⟩,⟨aF,(show [ps[k]]=ps.take (k+1) by rw[aaL,tq aF,<-hq];rfl)⟩,(show ps.length-(k+1)<ps.length-k by omega),View.o 8 [0,1,2,3,4,7] [] ?_ ?_⟩
    .repeat(first|exact .nil|refine .aq ?_|refine .put (.aP (aL om).symm) ?_|refine .eq rfl ?_)
    .exact(.pe rfl rfl rfl (.pe rfl rfl rfl (.pe rfl rfl rfl (.pr rfl rfl rfl (.pr rfl rfl rfl (.pt rfl rfl (.bR (by simp[ct,af,bi.enc])) (.nil _)))))))
   .have yF:k=ps.length:=by have h:¬(k:Int)<((ps.map bi.enc).length:Int):=h;rw[LW]at h;omega
    subst yF;rw[aan]at hq;exact absurd hq.symm eL
  |cons x r=>
   refine aJ (fun h=>?_) (fun h=>?_)
   .have aF:k<ps.length:=by have h:(k:Int)<((ps.map bi.enc).length:Int):=h;rw[LW]at h;omega
    refine ag (dQ aF) ?_;refine iu ps[k].bd (by have:=pi _ (XP aF);omega) ?_
    refine⟨by have e:=bb ((x::r).map bi.enc);have e2:=congrArg List.length hq;simp only[LW,XR,Z3]at e e2;simp only[ct,XR,aat];omega,?_⟩
    refine⟨⟨k+1,((x::r)++ [ps[k]])⟩,⟨aF,(show((x::r)++ [ps[k]])=ps.take (k+1) by rw[aaL,tq aF,<-hq];rfl)⟩,(show ps.length-(k+1)<ps.length-k by omega),View.o 9 [0,1,2,3,4,8] [] ?_ ?_⟩
    .repeat(first|exact .nil|refine .aq ?_|refine .put (.aP (aL om).symm) ?_|refine .eq rfl ?_)
    .exact(.pe rfl rfl rfl (.pe rfl rfl rfl (.pe rfl rfl rfl (.pr rfl rfl rfl (.pr rfl rfl rfl (.pt rfl rfl (.bR (by simp[ct,af,bi.enc])) (.nil _)))))))
   .have yF:k=ps.length:=by have h:¬(k:Int)<((ps.map bi.enc).length:Int):=h;rw[LW]at h;omega
    subst yF;rw[aan]at hq;refine⟨.rv (.agg [.row 0 9 0 none,.row 1 2 0 none,.row 2 4 0 none]),_,View.o 6 [3,4,5] [] (.eq rfl .nil) (.pr rfl rfl rfl (.pr rfl rfl rfl (.pn rfl rfl rfl))),rfl,?_⟩;rw[hq]
theorem gP(l:List Obj)(ops:List bC)(ps:List bi)(hf:kg l)(ho:ops.length<=4194304)(iI:ps.length<=4194304)(pi:∀p,p∈ps->p.bd.length<=10)(eL:ps≠[]){m:Mem}{K:CV->Mem->Prop}(h:K (.rv (.agg [.row m.length 9 0 none,.row (m.length+1) 2 0 none,.row (m.length+2) 4 0 none])) (m++ [.row 9 (af (l.map Obj.enc)),.row 2 (af (ops.map bC.enc)),.row 4 (af (ps.map bi.enc))])):ar Tryz.prog 52 [dX l ops ps] m K:=by
 refine bv [] m.length rfl rfl rfl rfl (args0:=[dX l ops ps]) rfl (fun i b' hi=>by simp at hi) (K0:=fun r m=>r= .rv (.agg [.row 0 9 0 none,.row 1 2 0 none,.row 2 4 0 none])/\m=[.row 9 (af (l.map Obj.enc)),.row 2 (af (ops.map bC.enc)),.row 4 (af (ps.map bi.enc))])
  (bK (aW Tryz.func52 l52 (Hh l ops ps hf ho iI pi eL)) fun r m1 h=>h) (fun r m1 hr=>?_)
 obtain⟨rfl,rfl⟩:=hr;refine⟨XL _,?_⟩;show K (.rv (.agg [.row (m.length+(0-0)) 9 0 none,.row (m.length+(1-0)) 2 0 none,.row (m.length+(2-0)) 4 0 none])) (gX m [.row 9 ((af (l.map Obj.enc)).map (fun cs=>cs.map (CC.aP (sg [] m.length)))),.row 2 ((af (ops.map bC.enc)).map (fun cs=>cs.map (CC.aP (sg [] m.length)))),.row 4 ((af (ps.map bi.enc)).map (fun cs=>cs.map (CC.aP (sg [] m.length))))])
 rw[dd,dd,dd,cg];exact h
def c73:LF:= ⟨9,[.tmp 4],(.seq (.ai [qu 4 (.aD (qb false))]) (.seq (.ai [qm 5 0,qm 6 1,qu 7 (qc 114 [5,6]),qu 8 (.aE .geq 7 (qi 0)),qm 4 8]) .ret))⟩
def c74:LF:= ⟨13,[.tmp 3],(.seq (.ai [qu 2 (.box 0),qu 3 (.aD (qb false))]) (.seq (.ai [qf 4 0 2,ql 5 4,qu 6 (.aE .eql 5 (qi 5)),qm 7 6,qg 8 (.bQ 6 2) 7 true,qg 9 (.load false 1 8) 7 true,qg 10 (.load false 1 1) 7 true,qg 11 (.aE .eql 9 10) 7 true,qu 12 (.pick 7 11 (qb false)),qm 3 12]) .ret))⟩
def c113:LF:= ⟨13,[.tmp 3],(.seq (.ai [qu 2 (.box 0),qu 3 (.aD (qb false))]) (.seq (.ai [qf 4 0 2,ql 5 4,qu 6 (.aE .eql 5 (qi 5)),qm 7 6,qg 8 (.bQ 6 2) 7 true,qg 9 (.load false 1 8) 7 true,qg 10 (.load false 1 1) 7 true,qg 11 (.aE .eql 9 10) 7 true,qu 12 (.pick 7 11 (qb false)),qm 3 12]) .ret))⟩
def eH(p:Int)(o:Obj):Bool:=o.ah==5&&o.aM==p
theorem l113:bq Tryz.prog Tryz.f113=some c113:=by kernel_rfl
theorem l74:bq Tryz.prog Tryz.f74=some c74:=by kernel_rfl
theorem l73:bq Tryz.prog Tryz.f73=some c73:=by kernel_rfl
theorem AU(o:Obj)(p:Int):body Tryz.prog c113 [o.cv,.rv (.one (.ptr 0 0))] [.var ([Dt.val (.int .i64 p)].map .aa)] (fun r m=>r=aA (eH p o)/\∃ex,m= .var ([Dt.val (.int .i64 p)].map .aa)::ex):=by
 refine ay (fun h=>?_) (fun h=>?_)
 .refine⟨?_,_,rfl⟩;show aA _=aA _;rw[eH,h];rfl
 .refine⟨?_,_,rfl⟩;show aA _=aA _;rw[eH,h];rfl
theorem Qk(o:Obj)(p:Int)(K:CV->Mem->Prop)(h:K (aA (eH p o)) [.var ([Dt.val (.int .i64 p)].map .aa)]):ar Tryz.prog 113 [o.cv,.rv (.one (.ptr 0 0))] [.var ([Dt.val (.int .i64 p)].map .aa)] K:=
 eM rfl (aW Tryz.func113 l113 (AU o p)) h
theorem AV(o:Obj)(p:Int):body Tryz.prog c74 [o.cv,.rv (.one (.ptr 0 0))] [.var ([Dt.val (.int .i64 p)].map .aa)] (fun r m=>r=aA (eH p o)/\∃ex,m= .var ([Dt.val (.int .i64 p)].map .aa)::ex):=by
 refine ay (fun h=>?_) (fun h=>?_)
 .refine⟨?_,_,rfl⟩;show aA _=aA _;rw[eH,h];rfl
 .refine⟨?_,_,rfl⟩;show aA _=aA _;rw[eH,h];rfl
theorem Ql(o:Obj)(p:Int)(K:CV->Mem->Prop)(h:K (aA (eH p o)) [.var ([Dt.val (.int .i64 p)].map .aa)]):ar Tryz.prog 74 [o.cv,.rv (.one (.ptr 0 0))] [.var ([Dt.val (.int .i64 p)].map .aa)] K:=
 eM rfl (aW Tryz.func74 l74 (AV o p)) h
theorem xt{l:List Obj}{n:Nat}(h:n<l.length):dt (n:Int) (lenOf (af (l.map Obj.enc)).length 0 none)=some n:=bP (by show n<(af (l.map Obj.enc)).length;rw[bb,LW];exact h)
theorem Hi(l:List Obj)(hb:l.length<=4194304)(F:Nat)(cs:List Dt)(q:Obj->Bool)(hF:∀s,∀K:CV->Mem->Prop,K (aA (q s)) [.var (cs.map .aa)]->ar Tryz.prog F [s.cv,.rv (.one (.ptr 0 0))] [.var (cs.map .aa)] K):
  body Tryz.prog c114 [.rv (.one (.row 0 9 0 none)),.rv (.one (.fn F [1]))] [.row 9 (af (l.map Obj.enc)),.var (cs.map .aa)] (fun r m=>r=an .i64 (mV q l)/\m=[.row 9 (af (l.map Obj.enc)),.var (cs.map .aa)]):=by
 refine aX (fun k=>k<=l.length/\∀(j:Nat)s,j<k->l[j]? =some s->q s=false) [0,1,7] (fun k=>[(8,an .i64 (k:Nat))]) (fun _=>[.row 9 (af (l.map Obj.enc)),.var (cs.map .aa)]) (fun k=>l.length-k) 0 ⟨XL _,fun j s h=>absurd h (aal j)⟩ ?_ (fun k hk=>?_)
 .refine View.o1 2 [0,1] [] ?_
  .exact .pr rfl rfl rfl (.pt rfl rfl (.fz rfl) (.nil _))
 .refine aJ (fun h=>?_) (fun h=>?_)
  .have aF:k<l.length:=by have h:(k:Int)<((af (l.map Obj.enc)).length:Int):=h;rw[bb,LW]at h;omega
   refine ag (xt aF) ?_;refine ag (bA Obj.enc l aF) ?_;have hi:=tq aF;have TH:=jM (q:=q) aF;generalize l[k]=o at hi TH;refine fl (args0:=[o.cv,.rv (.one (.ptr 0 0))]) (cs:=cs) 1 rfl rfl (r0:=aA (q o)) rfl (fun K hK=>hF o K hK) ?_
   refine ay (fun FH=>?_) (fun FH=>?_)
   .rw[TH FH hk.2];exact⟨rfl,rfl⟩
   .refine⟨k+1,⟨aF,fun j s hj hs=>?_⟩,(show l.length-(k+1)<l.length-k by omega),View.o 2 [0,1] [] ?_ ?_⟩
    .rcases XN j k with h5|h5
     .exact hk.2 j s h5 hs
     .have:j=k:=om;subst this;rw[hi]at hs;cases hs;exact FH
    .repeat(first|exact .nil|refine .aq ?_|refine .put (.aP (aL om).symm) ?_|refine .eq rfl ?_)
    .exact .pr rfl rfl rfl (.pt rfl rfl (.fz rfl) (.nil _))
  .have ef:¬(k:Int)<((af (l.map Obj.enc)).length:Int):=h;rw[bb,LW]at ef;rw[lL fun j s hs=>hk.2 j s (by have:=(Hy.1 hs).1;omega) hs]
   exact⟨rfl,rfl⟩
theorem Dl(l:List Obj)(hb:l.length<=4194304)(F:Nat)(cs:List Dt)(q:Obj->Bool)(hF:∀s,∀K:CV->Mem->Prop,K (aA (q s)) [.var (cs.map .aa)]->ar Tryz.prog F [s.cv,.rv (.one (.ptr 0 0))] [.var (cs.map .aa)] K):
  body Tryz.prog c73 [.rv (.one (.row 0 9 0 none)),.rv (.one (.fn F [1]))] [.row 9 (af (l.map Obj.enc)),.var (cs.map .aa)] (fun r m=>r=aA (l.any q)/\m=[.row 9 (af (l.map Obj.enc)),.var (cs.map .aa)]):=by
 refine(aW Tryz.func114 l114 (Hi l hb F cs q hF)).mono fun r m⟨hr,hm⟩=>?_
 subst hr hm;refine⟨?_,rfl⟩;show aA _=aA _;rw[<-pY]
theorem Kb(l:List Obj)(hb:l.length<=4194304)(F:Nat)(cs:List Dt)(q:Obj->Bool)(hF:∀s,∀K:CV->Mem->Prop,K (aA (q s)) [.var (cs.map .aa)]->ar Tryz.prog F [s.cv,.rv (.one (.ptr 0 0))] [.var (cs.map .aa)] K):
  ar Tryz.prog 73 [.rv (.one (.row 0 9 0 none)),.rv (.one (.fn F [1]))] [.row 9 (af (l.map Obj.enc)),.var (cs.map .aa)] (fun r m=>r=aA (l.any q)/\m=[.row 9 (af (l.map Obj.enc)),.var (cs.map .aa)]):=
 aW Tryz.func73 l73 (Dl l hb F cs q hF)
def c72:LF:= ⟨146,[.tmp 2],(.seq (.ai [qu 2 (.aD (qb false))]) (.seq (.ai [qm 10 0,qu 11 (qc 112 [10]),qm 3 11]) (.seq (.seq (.ai [qm 12 0,qu 13 (.aR 12),qf 14 0 13,ql 15 14,qu 16 (.len 1 15),qu 17 (.aD (qi 0))]) (.block 0 (.loop (.seq (.ai [qu 18 (.aE .lss 17 16)]) (.seq (.cond 18 .skip (.exit 0)) (.seq (.block 1 (.seq (.ai [qm 19 17,qm 4 19]) (.seq (.seq (.ai [qm 20 3,qu 21 (.aR 20),qf 22 1 21,ql 23 22,qm 24 4,qu 25 (.b7 1 23 24),ql 26 25,qm 27 26,qg 28 (.aD 0) 27 false,qg 29 (.aR 28) 27 false,qg 30 (.bQ 0 29) 27 false,qg 31 (.load false 1 30) 27 false,qg 32 (.aD 4) 27 false,qg 33 (.b7 9 31 32) 27 false,qg 34 (.bQ 0 33) 27 false,qg 35 (.load false 1 34) 27 false,qg 36 (.aE .eql 35 (qi 0)) 27 false,qu 37 (.pick 27 (qb true) 36)]) (.cond 37 (.exit 1) .skip)) (.seq (.seq (.ai [qm 38 0,qu 39 (.aR 38),qf 40 0 39,ql 41 40,qu 42 (.len 1 41),qu 43 (.aD (qi 0))]) (.block 2 (.loop (.seq (.ai [qu 44 (.aE .lss 43 42)]) (.seq (.cond 44 .skip (.exit 2)) (.seq (.block 3 (.seq (.ai [qm 45 43,qm 5 45]) (.seq (.ai [qm 46 0,qu 47 (.aR 46),qf 48 0 47,ql 49 48,qm 50 5,qu 51 (.b7 9 49 50),qf 52 0 51,ql 53 52,qu 54 (.aE .eql 53 (qi 4)),qm 55 54,qg 56 (.aD 0) 55 true,qg 57 (.aR 56) 55 true,qg 58 (.bQ 0 57) 55 true,qg 59 (.load false 1 58) 55 true,qg 60 (.aD 5) 55 true,qg 61 (.b7 9 59 60) 55 true,qg 62 (.bQ 4 61) 55 true,qg 63 (.load false 1 62) 55 true,qg 64 (.aD 4) 55 true,qg 65 (.aE .eql 63 64) 55 true,qu 66 (.pick 55 65 (qb false))]) (.cond 66 (.ai [qm 67 0,qu 68 (.aR 67),qf 69 0 68,ql 70 69,qm 71 5,qu 72 (.b7 9 70 71),qf 73 4 72,qw (.store 1 73 (qi (-1)))]) .skip)))) (.ai [qu 74 (.aE .add 43 (qi 1)),qm 43 74]))))))) (.ai [qm 75 0,qu 76 (.aR 75),qf 77 0 76,ql 78 77,qm 79 4,qu 80 (.build [(qd 0),.aB,.aB,(.aa (.val (.string ⟨#[]⟩))),(qd 0),.aB,(qd 0),(qd 0),(qd 0)] []),qu 81 (.b7 9 78 79),qw (.store 9 81 80)]))))) (.ai [qu 82 (.aE .add 17 (qi 1)),qm 17 82]))))))) (.seq (.seq (.ai [qm 83 0,qu 84 (.aR 83),qf 85 1 84,ql 86 85,qu 87 (.len 1 86),qu 88 (.aD (qi 0))]) (.block 4 (.loop (.seq (.ai [qu 89 (.aE .lss 88 87)]) (.seq (.cond 89 .skip (.exit 4)) (.seq (.block 5 (.seq (.ai [qm 90 88,qm 6 90]) (.seq (.ai [qm 91 3,qu 92 (.aR 91),qf 93 2 92,ql 94 93,qm 95 6,qu 96 (.b7 1 94 95),ql 97 96,qu 98 (.un .not 97)]) (.cond 98 (.ai [qm 99 0,qu 100 (.aR 99),qf 101 1 100,ql 102 101,qm 103 6,qu 104 (.build [(qd 0),(qd 0)] [(0,1,(qi (-1)))]),qu 105 (.b7 2 102 103),qw (.store 2 105 104)]) .skip)))) (.ai [qu 106 (.aE .add 88 (qi 1)),qm 88 106]))))))) (.seq (.ai [qu 7 (.aD (qb false))]) (.seq (.seq (.ai [qm 107 0,qu 108 (.aR 107),qf 109 2 108,ql 110 109,qu 111 (.len 1 110),qu 112 (.aD (qi 0))]) (.block 6 (.loop (.seq (.ai [qu 113 (.aE .lss 112 111)]) (.seq (.cond 113 .skip (.exit 6)) (.seq (.block 7 (.seq (.ai [qm 114 112,qu 8 (.alloc [(qd 0)]),qw (.store 1 8 114)]) (.seq (.ai [qm 115 0,qu 116 (.aR 115),qf 117 0 116,ql 118 117,qu 119 (.fn 113 [8]),qu 120 (qc 73 [118,119]),qm 9 120]) (.seq (.bT [ql 121 8,qu 122 (.aE .gtr 121 (qi 0)),qm 123 122,qg 124 (.aD 0) 123 true,qg 125 (.aR 124) 123 true,qg 126 (.bQ 2 125) 123 true,qg 127 (.load false 1 126) 123 true,qg 128 (.load false 1 8) 123 true,qg 129 (.b7 4 127 128) 123 true,qg 130 (.bQ 0 129) 123 true,qg 131 (.load false 1 130) 123 true,qu 132 (.pick 123 131 (qb false)),qm 133 132,qg 134 (.aD 9) 133 true,qg 135 (.un .not 134) 133 true,qu 136 (.pick 133 135 (qb false))] [(.cons 0 none (.cons 1 none (.cons 2 none (.cons 3 none (.cons 4 none (.cons 5 none (.cons 6 none (.cons 7 none (.cons 8 none (.cons 9 none (.cons 10 none (.cons 11 none (.cons 12 none (.cons 13 none (.cons 14 none (.cons 15 none .nil))))))))))))))))]) (.cond 136 (.seq (.bT [qm 137 0,qu 138 (.aR 137),qf 139 2 138,ql 140 139,ql 141 8,qu 142 (.build [(.aa (.val (.bool false))),(.aa (.val (.bool false))),(qd 0),.aB] []),qu 143 (.b7 4 140 141),qw (.store 4 143 142)] [(.cons 0 none (.cons 1 none (.cons 2 none (.cons 3 none (.cons 4 none (.cons 5 none (.cons 6 none (.cons 7 (some []) .nil))))))))]) (.ai [qu 7 (.aD (qb true))])) .skip))))) (.ai [qu 144 (.aE .add 112 (qi 1)),qm 112 144]))))))) (.seq (.ai [qm 145 7,qm 2 145]) .ret)))))))⟩
def Pt{α:Type}(l L:List α)(f:Nat->α->α):Prop:=L.length=l.length/\∀(t:Nat)o,l[t]? =some o->L[t]? =some (f t o)
theorem Pt.refl{α:Type}(l:List α):Pt l l fun _ o=>o:=⟨rfl,fun _ _ h=>h⟩
theorem Pt.congr{α:Type}{l L:List α}{f g:Nat->α->α}(h:Pt l L f)(hfg:∀(t:Nat)o,l[t]? =some o->f t o=g t o):Pt l L g:=
 ⟨h.1,fun t o ho=>by rw[<-hfg t o ho];exact h.2 t o ho⟩
theorem Pt.set{α:Type}{l L:List α}{f g:Nat->α->α}(h:Pt l L f){j:Nat}{x:α}(hx:∀o,l[j]? =some o->g j o=x)(ho:∀(t:Nat)o,t≠j->l[t]? =some o->g t o=f t o):Pt l (L.set j x) g:=by
 refine⟨by simpa using h.1,fun t o Cg=>?_⟩
 have aF:t<L.length:=by rw[h.1];exact(Hy.1 Cg).1
 by_cases IK:t=j
 .subst IK;rw[hx o Cg];simp[aF]
 .rw[XK (fun e=>IK e.symm),ho t o IK Cg]
  exact h.2 t o Cg
theorem Pt.at{α:Type}{l L:List α}{f:Nat->α->α}(h:Pt l L f){j:Nat}(hj:j<l.length):∃hL:j<L.length,L[j]=f j l[j]:=by
 have hL:j<L.length:=by rw[h.1];exact hj
 have:=h.2 j l[j] (tq hj);rw[tq hL]at this;exact⟨hL,by simpa using this⟩
theorem lU.Kc{σ:Nat->Nat}{m:Mem}{Z:Nat->Prop}{id s:Nat}(ds:List (List Dt))(i:Nat){cs:List CC}{d:List Dt}(hl:cs.length=d.length)(h:∀(j:Nat)c c',cs[j]? =some c->(d.map CC.aa)[j]? =some c'->pj σ m Z (some id) c c'):lU σ m Z id (.row s (a7 (af ds) i cs)) (.row s (af (ds.set i d))):=by
 rw[bg];have e:af (ds.set i d)=(af ds).set i (d.map .aa):=by simp[af,aaG]
 rw[e];refine .row s aK (fun t xs ys h1 h2=>?_) (fun t xs ys j c c' h1 h2 h3 h4=>?_)
 .rw[aaq]at h1 h2;split at h1
  .rename_i JP;rw[if_pos JP]at h2;split at h1
   .rename_i aF;rw[if_pos aF]at h2;cases h1;cases h2;simpa using hl
   .cases h1
  .rename_i JP;rw[if_neg JP]at h2;rw[h1]at h2;cases h2;rfl
 .rw[aaq]at h1 h2;split at h1
  .rename_i JP;rw[if_pos JP]at h2;split at h1
   .rename_i aF;rw[if_pos aF]at h2;cases h1;cases h2;exact h j c c' h3 h4
   .cases h1
  .rename_i JP;rw[if_neg JP]at h2;rw[h1]at h2;cases h2;rw[h3]at h4;cases h4;have hd:∃d,c= .aa d:=by rw[af,O6]at h1;obtain⟨es,_,rfl⟩:=Z2.1 h1;rw[O6]at h3;obtain⟨d,_,rfl⟩:=Z2.1 h3;exact⟨d,rfl⟩
   obtain⟨d,rfl⟩:=hd;exact .aP (.aa d)
def gQ:Obj:=⟨0,[],[],⟨#[]⟩,0,[],0,0,0⟩
def OV:List CC:=[.aa (.val (.int .i64 0)),.aB,.aB,.aa (.val (.string ⟨#[]⟩)),.aa (.val (.int .i64 0)),.aB,.aa (.val (.int .i64 0)),.aa (.val (.int .i64 0)),.aa (.val (.int .i64 0))]
theorem Xf{σ:Nat->Nat}{m:Mem}{Z:Nat->Prop}{id:Nat}(L:List Obj)(i:Nat):lU σ m Z id (.row 9 (a7 (af (L.map Obj.enc)) i OV)) (.row 9 (af ((L.set i gQ).map Obj.enc))):=by
 rw[aaG];refine lU.Kc (L.map Obj.enc) i rfl fun j c c' h1 h2=>?_
 match j,h1,h2 with
 |0,h1,h2=>cases h1;cases h2;exact .aP (.aa _)
 |1,h1,h2=>cases h1;cases h2;exact .eu (.aB 1)
 |2,h1,h2=>cases h1;cases h2;exact .eu (.aB 2)
 |3,h1,h2=>cases h1;cases h2;exact .aP (.aa _)
 |4,h1,h2=>cases h1;cases h2;exact .aP (.aa _)
 |5,h1,h2=>cases h1;cases h2;exact .eu (.aB 4)
 |6,h1,h2=>cases h1;cases h2;exact .aP (.aa _)
 |7,h1,h2=>cases h1;cases h2;exact .aP (.aa _)
 |8,h1,h2=>cases h1;cases h2;exact .aP (.aa _)
 |n+9,h1,h2=>simp[OV]at h1
def fN:bi:=⟨false,false,0,[]⟩
theorem OW{σ:Nat->Nat}{m:Mem}{Z:Nat->Prop}{id:Nat}(L:List bi)(i:Nat):lU σ m Z id (.row 4 (a7 (af (L.map bi.enc)) i [.aa (.val (.bool false)),.aa (.val (.bool false)),.aa (.val (.int .i64 0)),.aB])) (.row 4 (af ((L.set i fN).map bi.enc))):=by
 rw[aaG];refine lU.Kc (L.map bi.enc) i rfl fun j c c' h1 h2=>?_
 match j,h1,h2 with
 |0,h1,h2=>cases h1;cases h2;exact .aP (.aa _)
 |1,h1,h2=>cases h1;cases h2;exact .aP (.aa _)
 |2,h1,h2=>cases h1;cases h2;exact .aP (.aa _)
 |3,h1,h2=>cases h1;cases h2;exact .eu (.aB 3)
 |n+4,h1,h2=>simp at h1
def eY(b:Mk)(l:List Obj)(i:Nat):Bool:=match l[i]? with
 |some o=>!(b.O[i]? ==some true)&&o.ah !=0
 |none=>false
def oC(b:Mk)(l:List Obj)(k:Nat)(z:Int):Bool:=decide (0<=z/\z.toNat<k)&&eY b l z.toNat
def cz(b:Mk)(l:List Obj)(k:Nat)(j:Nat)(o:Obj):Obj:=if(eY b l j&&decide (j<k))=true then gQ else if(o.ah==4&&oC b l k o.aG)=true then {o with aG:= -1}else o
def iv(i:Nat)(o:Obj):Obj:=if(o.ah==4&&o.aG==(i:Int))=true then {o with aG:= -1}else o
theorem uK(b:Mk)(l:List Obj)(i:Nat)(z:Int):oC b l (i+1) z=(oC b l i z||(z==(i:Int)&&eY b l i)):=by
 unfold oC;by_cases h:z=(i:Int)
 .subst h;simp
 .have h1:(z==(i:Int))=false:=by simpa using h
  rw[h1];have:decide (0<=z/\z.toNat<i+1)=decide (0<=z/\z.toNat<i):=by
   apply decide_eq_decide.2;constructor<;>intro⟨h2,h3⟩<;>exact⟨h2,om⟩
  rw[this];simp
theorem Hj{b:Mk}{l:List Obj}{i:Nat}(h:eY b l i=false)(j:Nat)(o:Obj):cz b l i j o=cz b l (i+1) j o:=by
 have h1:(eY b l j&&decide (j<i+1))=(eY b l j&&decide (j<i)):=by
  by_cases hj:j=i
  .subst hj;rw[h];simp
  .have:decide (j<i+1)=decide (j<i):=decide_eq_decide.2 om;rw[this]
 unfold cz;rw[h1,uK,h];simp
theorem Dm{b:Mk}{l:List Obj}{i:Nat}(h:eY b l i=true){j:Nat}(hj:j≠i)(o:Obj):iv i (cz b l i j o)=cz b l (i+1) j o:=by
 have h1:(eY b l j&&decide (j<i+1))=(eY b l j&&decide (j<i)):=by have:decide (j<i+1)=decide (j<i):=decide_eq_decide.2 om;rw[this]
 unfold cz;rw[h1,uK,h];by_cases hd:(eY b l j&&decide (j<i))=true
 .rw[if_pos hd,if_pos hd];rfl
 .rw[if_neg hd,if_neg hd];by_cases hk:(o.ah==4)=true
  .by_cases hz:oC b l i o.aG=true
   .rw[hk,hz];simp[iv]
   .rw[abB]at hz;rw[hk,hz];by_cases hp:(o.aG==(i:Int))=true
    .simp[iv,hk,hp]
    .rw[abB]at hp;simp[iv,hp]
  .rw[abB]at hk;rw[hk];simp[iv,hk]
theorem AW{b:Mk}{l:List Obj}{i:Nat}(h:eY b l i=true)(o:Obj):cz b l (i+1) i o=gQ:=by unfold cz;rw[h];simp
theorem AX(b:Mk)(l:List Obj)(j:Nat)(o:Obj):cz b l 0 j o=o:=by
 unfold cz;have:oC b l 0 o.aG=false:=by simp[oC]
 rw[this];simp
theorem AY{b:Mk}{l:List Obj}{i:Nat}(o:Obj):(cz b l i i o).ah=o.ah:=by
 unfold cz;simp;split<;>rfl
end Go.Proofs.YthagjdhjmamakaaGreatDoor
