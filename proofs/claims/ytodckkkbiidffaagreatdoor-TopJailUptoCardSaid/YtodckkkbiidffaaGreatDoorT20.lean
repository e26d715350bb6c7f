/- Part 20 of 39: what the law stands on. -/
import Derived.Test.YtodckkkbiidffaaGreatDoorT16
import Derived.Test.YtodckkkbiidffaaGreatDoorT19
set_option linter.unusedVariables false
set_option linter.unusedSimpArgs false
set_option linter.unnecessarySimpa false
set_option maxRecDepth 100000
set_option maxHeartbeats 64000000
namespace Go.Proofs.YtodckkkbiidffaaGreatDoor
open Go.AM Go.ChangeShapes Go.WideShapes Go.ChangeAt Go.RowKit
def c59:LF:= ⟨32,[.cell true 3 2],(.seq (.ai [qu 1 (.box 0),qu 2 (.alloc [.aB,.aB,.aB])]) (.seq (.bU [qf 6 0 1,ql 7 6,qu 8 (qc 98 [7]),qf 9 1 1,ql 10 9,qu 11 (qc 99 [10]),qu 12 (.build [.aB,.aB,.aB] [(0,1,8),(1,1,11)]),qu 3 (.alloc [.aB,.aB,.aB]),qw (.store 3 3 12)] [(.cons 0 none (.cons 1 none (.cons 3 none (.cons 4 none (.yU (.cons 2 (some [4]) (.yU (.cons 5 (some []) (.cons 6 none (.cons 7 (some [4,1]) (.cons 8 (some []) .nil)))) (.cons 7 (some [4,1]) (.cons 5 (some []) (.cons 6 none (.cons 8 (some []) .nil)))))) (.cons 7 (some [4,1]) (.cons 2 (some [4]) (.cons 5 (some []) (.cons 6 none (.cons 8 (some []) .nil))))))))))]) (.seq (.seq (.ai [qf 13 2 1,ql 14 13,qu 15 (.len 1 14),qu 16 (.aF (qi 0))]) (.block 0 (.loop (.seq (.ai [qu 17 (.aH .lss 16 15)]) (.seq (.cond 17 .skip (.exit 0)) (.seq (.block 1 (.seq (.ai [qu 18 (.cr 4 14 16),qL 19 4 18,qu 5 (.alloc [(.aa (.val (.bool false))),(.aa (.val (.bool false))),(qd 0),.aB]),qw (.store 4 5 19)]) (.seq (.ai [qf 20 3 5,ql 21 20,qu 22 (qc 100 [21]),qf 23 3 5,qw (.store 1 23 22)]) (.ai [qf 24 2 3,ql 25 24,qL 26 4 5,qu 27 (.l5 4 [(.aa (.val (.bool false))),(.aa (.val (.bool false))),(qd 0),.aB] 1 [(0,26)]),qu 28 (.mE 4 40 25 27),qf 29 2 3,qw (.store 1 29 28)])))) (.ai [qu 30 (.aH .add 16 (qi 1)),qm 16 30]))))))) (.seq (.ai [qL 31 3 3,qw (.store 3 2 31)]) .ret))))⟩
def c99:LF:= ⟨8,[.tmp 2],(.seq (.ai [qu 2 (.aF qe)]) (.seq (.seq (.ai [qm 3 0,qu 4 (.u5 false 3)]) (.cond 4 (.seq (.ai [qu 2 (.aF qe)]) .ret) .skip)) (.seq (.ai [qu 5 (.l5 2 [(qd 0),(qd 0)] 0 []),qm 6 0,qu 7 (.mE 2 16 5 6),qm 2 7]) .ret)))⟩
def c100:LF:= ⟨8,[.tmp 2],(.seq (.ai [qu 2 (.aF qe)]) (.seq (.seq (.ai [qm 3 0,qu 4 (.u5 false 3)]) (.cond 4 (.seq (.ai [qu 2 (.aF qe)]) .ret) .skip)) (.seq (.ai [qu 5 (.l5 3 [(.aa (.val (.bool false))),(qd 0),(qd 0)] 0 []),qm 6 0,qu 7 (.mE 3 24 5 6),qm 2 7]) .ret)))⟩
theorem nw:∀(l:List Obj)(p Q k:Nat),k+l.length<=p->dQ p Q k l=af (l.map Obj.enc)
 | [],_,_,_,_=>rfl
 |o::r,p,Q,k,h=>by
  have ih:=nw r p Q (k+1) (by simp at h;omega)
  have hk:¬k=p:=by simp at h;omega
  simp only[dQ,ih,px,if_neg hk];rfl
theorem zM(l:List Obj):xG l l.length l.length= .aO:=by
 have:Nat.blt l.length l.length=false:=by
  cases h:Nat.blt l.length l.length
  .rfl
  .rw[aaQ]at h;omega
 unfold xG;rw[this]
theorem l99:bs Tryz.prog Tryz.f99=some c99:=by kernel_rfl
theorem l100:bs Tryz.prog Tryz.f100=some c100:=by kernel_rfl
theorem l59:bs Tryz.prog Tryz.f59=some c59:=by kernel_rfl
theorem zN(ops:List bD)(ho:ops.length<=4194304):body Tryz.prog c99 [.rv (.one (.aa (eB ops)))] [] (fun r m=>∃r' m',View 0 ⟨[r],m⟩ ⟨[r'],m'⟩/\r'= .rv (.one (.row 0 2 0 none))/\m'=[.row 2 (af (ops.map bD.enc))]):=by
 have p0:((([]:List (List CC)).length+((ops.map bD.enc).map fun ds=>ds.map CC.aa).length)*16)<=140737488355328:=by simp;omega
 have iu:∃r' m',View 0 ⟨[CV.rv (.one (.row 1 2 0 none))],[.aO,.row 2 (cu ([]:List (List CC)) 0 none++(ops.map bD.enc).map fun ds=>ds.map CC.aa)]⟩ ⟨[r'],m'⟩/\r'=CV.rv (.one (.row 0 2 0 none))/\m'=[Bk.row 2 (af (ops.map bD.enc))]:=
  ⟨_,_,View.o 2 [1] [] (.eq rfl .nil) (.pn rfl rfl rfl),rfl,rfl⟩
 refine aD (fun h=>?_) (fun h=>?_)
 .have hd:ops=[]:=Wg (by simpa using Wh h)
  refine⟨?_,p0,iu⟩;subst hd;exact⟨_,_,View.aB 0 2 0 rfl rfl rfl,rfl,rfl⟩
 .exact⟨p0,iu⟩
theorem qI(ops:List bD)(ho:ops.length<=4194304){m:Mem}{K:CV->Mem->Prop}(h:K (.rv (.one (.row m.length 2 0 none))) (m++ [.row 2 (af (ops.map bD.enc))])):aq Tryz.prog 99 [.rv (.one (.aa (eB ops)))] m K:=by
 refine bw [] m.length rfl rfl rfl rfl (args0:=[.rv (.one (.aa (eB ops)))]) rfl (fun i b' hi=>by simp at hi) (K0:=fun r m=>r= .rv (.one (.row 0 2 0 none))/\m=[.row 2 (af (ops.map bD.enc))]) (bK (aX Tryz.func99 l99 (zN ops ho)) fun r m1 h=>h) (fun r m1 hr=>?_)
 obtain⟨rfl,rfl⟩:=hr;refine⟨Wi _,?_⟩;show K (.rv (.one (.row (m.length+(0-0)) 2 0 none))) (gL m [.row 2 ((af (ops.map bD.enc)).map (fun cs=>cs.map (CC.aQ (sg [] m.length))))])
 rw[db,cf];exact h
theorem zO(d:List fq)(hb:d.length<=4194304):body Tryz.prog c100 [lL d] [] (fun r m=>cw m r (lL d)):=by
 have p0:((([]:List (List CC)).length+((d.map fq.enc).map fun ds=>ds.map CC.aa).length)*24)<=140737488355328:=by simp;omega
 refine aD (fun h=>?_) (fun h=>?_)
 .have hd:d=[]:=Wg (by simpa using Wh h)
  subst hd;exact⟨.rv (.one (.aB 3)),p0,.rv (.one (dU.dX rfl 0 none))⟩
 .exact⟨p0,.rv (.one (dU.dX rfl 0 none))⟩
theorem ij(d:List fq)(hb:d.length<=4194304){m:Mem}{K:CV->Mem->Prop}(h:K (lL d) m):aq Tryz.prog 100 [lL d] m K:=
 aY (aX Tryz.func100 l100 (zO d hb)) (by simp[lL,vp,CV.c6,CC.c6]) fun r m1 hf=>⟨_,hf,h⟩
structure OY where
 k:Nat
 qs:List bj
theorem FW(l:List Obj)(ops:List bD)(ps:List bj)(hf:jV l)(ho:ops.length<=4194304)(ix:ps.length<=4194304)(oP:∀p,p∈ps->p.bd.length<=10)(eG:ps≠[]):
  body Tryz.prog c59 [dR l ops ps] [] (fun r m=>∃r' m',View 0 ⟨[r],m⟩ ⟨[r'],m'⟩/\r'= .rv (.agg [.row 0 9 0 none,.row 1 2 0 none,.row 2 4 0 none])/\m'=[.row 9 (af (l.map Obj.enc)),.row 2 (af (ops.map bD.enc)),.row 4 (af (ps.map bj.enc))]):=by
 refine⟨?_,?_⟩
 .skip
  refine tQ l hf l.length ?_;rw[zM];refine⟨⟨rfl,trivial⟩,?_⟩;refine⟨?_,?_⟩
  .refine qI ops ho ?_;refine⟨trivial,⟨rfl,rfl,trivial⟩,trivial,?_⟩;refine ba (fun(a:OY)=>a.k<=ps.length/\a.qs=ps.take a.k) [1,2,14,15] (fun a=>[(16,an .i64 (a.k:Nat)),(3,.rv (.one (.ptr 2 0)))]) (fun a=>match a.qs with
     | []=>[.var [.aa (c7 l),.aa (eB ops),.aa (fE ps)],.var z3,.var [.row 3 9 0 none,.row 4 2 0 none,.aB],.row 9 (af (l.map Obj.enc)),.row 2 (af (ops.map bD.enc))]
     |x::r=>[.var [.aa (c7 l),.aa (eB ops),.aa (fE ps)],.var z3,.var [.row 3 9 0 none,.row 4 2 0 none,.row 5 4 0 none],.row 9 (af (l.map Obj.enc)),.row 2 (af (ops.map bD.enc)),.row 4 (af ((x::r).map bj.enc))]) (fun a=>ps.length-a.k) ⟨0,[]⟩ ⟨Wi _,rfl⟩ ?_ (fun a ha=>?_)
   .refine View.o1 6 [0,1,5,2,4] [] ?_
    .exact(.pe rfl rfl rfl (.pe rfl rfl rfl (.pe rfl rfl rfl (.pt rfl rfl (.bP (nw l _ _ _ om)) (.pn rfl rfl rfl)))))
   obtain⟨k,qs⟩:=a;obtain⟨hk,hq⟩:=ha;have hk:k<=ps.length:=hk;have hq:qs=ps.take k:=hq;cases qs with
   |nil=>
    refine aJ (fun h=>?_) (fun h=>?_)
    .have aE:k<ps.length:=by have h:(k:Int)<((ps.map bj.enc).length:Int):=h;rw[KB]at h;omega
     refine ag (dM aE) ?_;refine ij ps[k].bd (by have:=oP _ (Wl aE);omega) ?_
     refine⟨by simp[cu],?_⟩
     refine⟨⟨k+1,[ps[k]]⟩,⟨aE,(show [ps[k]]=ps.take (k+1) by rw[aaM,sA aE,<-hq];rfl)⟩,(show ps.length-(k+1)<ps.length-k by omega),View.o 8 [0,1,2,3,4,7] [] ?_ ?_⟩
     .repeat(first|exact .nil|refine .ar ?_|refine .put (.aQ (aL om).symm) ?_|refine .eq rfl ?_)
     .exact(.pe rfl rfl rfl (.pe rfl rfl rfl (.pe rfl rfl rfl (.pr rfl rfl rfl (.pr rfl rfl rfl (.pt rfl rfl (.bP (by simp[cu,af,bj.enc])) (.nil _)))))))
    .have xN:k=ps.length:=by have h:¬(k:Int)<((ps.map bj.enc).length:Int):=h;rw[KB]at h;omega
     subst xN;rw[aal]at hq;exact absurd hq.symm eG
   |cons x r=>
    refine aJ (fun h=>?_) (fun h=>?_)
    .have aE:k<ps.length:=by have h:(k:Int)<((ps.map bj.enc).length:Int):=h;rw[KB]at h;omega
     refine ag (dM aE) ?_;refine ij ps[k].bd (by have:=oP _ (Wl aE);omega) ?_
     refine⟨by have e:=bb ((x::r).map bj.enc);have e2:=congrArg List.length hq;simp only[KB,Wo,Z3]at e e2;simp only[cu,Wo,aaq];omega,?_⟩
     refine⟨⟨k+1,((x::r)++ [ps[k]])⟩,⟨aE,(show((x::r)++ [ps[k]])=ps.take (k+1) by rw[aaM,sA aE,<-hq];rfl)⟩,(show ps.length-(k+1)<ps.length-k by omega),View.o 9 [0,1,2,3,4,8] [] ?_ ?_⟩
     .repeat(first|exact .nil|refine .ar ?_|refine .put (.aQ (aL om).symm) ?_|refine .eq rfl ?_)
     .exact(.pe rfl rfl rfl (.pe rfl rfl rfl (.pe rfl rfl rfl (.pr rfl rfl rfl (.pr rfl rfl rfl (.pt rfl rfl (.bP (by simp[cu,af,bj.enc])) (.nil _)))))))
    .have xN:k=ps.length:=by have h:¬(k:Int)<((ps.map bj.enc).length:Int):=h;rw[KB]at h;omega
     subst xN;rw[aal]at hq;refine⟨.rv (.agg [.row 0 9 0 none,.row 1 2 0 none,.row 2 4 0 none]),_,View.o 6 [3,4,5] [] (.eq rfl .nil) (.pr rfl rfl rfl (.pr rfl rfl rfl (.pn rfl rfl rfl))),rfl,?_⟩;rw[hq]
  .refine⟨⟨rfl,rfl,trivial⟩,?_⟩;refine qI ops ho ?_;refine⟨trivial,trivial,?_⟩;refine ba (fun(a:OY)=>a.k<=ps.length/\a.qs=ps.take a.k) [1,2,14,15] (fun a=>[(16,an .i64 (a.k:Nat)),(3,.rv (.one (.ptr 2 0)))]) (fun a=>match a.qs with
     | []=>[.var [.aa (c7 l),.aa (eB ops),.aa (fE ps)],.var z3,.var [.row 3 9 0 none,.row 4 2 0 none,.aB],.row 9 (af (l.map Obj.enc)),.row 2 (af (ops.map bD.enc))]
     |x::r=>[.var [.aa (c7 l),.aa (eB ops),.aa (fE ps)],.var z3,.var [.row 3 9 0 none,.row 4 2 0 none,.row 5 4 0 none],.row 9 (af (l.map Obj.enc)),.row 2 (af (ops.map bD.enc)),.row 4 (af ((x::r).map bj.enc))]) (fun a=>ps.length-a.k) ⟨0,[]⟩ ⟨Wi _,rfl⟩ ?_ (fun a ha=>?_)
   .refine View.o1 6 [0,1,4,2,5] [] ?_
    .exact(.pe rfl rfl rfl (.pe rfl rfl rfl (.pe rfl rfl rfl (.pt rfl rfl (.bP (nw l _ _ _ om)) (.pn rfl rfl rfl)))))
   obtain⟨k,qs⟩:=a;obtain⟨hk,hq⟩:=ha;have hk:k<=ps.length:=hk;have hq:qs=ps.take k:=hq;cases qs with
   |nil=>
    refine aJ (fun h=>?_) (fun h=>?_)
    .have aE:k<ps.length:=by have h:(k:Int)<((ps.map bj.enc).length:Int):=h;rw[KB]at h;omega
     refine ag (dM aE) ?_;refine ij ps[k].bd (by have:=oP _ (Wl aE);omega) ?_
     refine⟨by simp[cu],?_⟩
     refine⟨⟨k+1,[ps[k]]⟩,⟨aE,(show [ps[k]]=ps.take (k+1) by rw[aaM,sA aE,<-hq];rfl)⟩,(show ps.length-(k+1)<ps.length-k by omega),View.o 8 [0,1,2,3,4,7] [] ?_ ?_⟩
     .repeat(first|exact .nil|refine .ar ?_|refine .put (.aQ (aL om).symm) ?_|refine .eq rfl ?_)
     .exact(.pe rfl rfl rfl (.pe rfl rfl rfl (.pe rfl rfl rfl (.pr rfl rfl rfl (.pr rfl rfl rfl (.pt rfl rfl (.bP (by simp[cu,af,bj.enc])) (.nil _)))))))
    .have xN:k=ps.length:=by have h:¬(k:Int)<((ps.map bj.enc).length:Int):=h;rw[KB]at h;omega
     subst xN;rw[aal]at hq;exact absurd hq.symm eG
   |cons x r=>
    refine aJ (fun h=>?_) (fun h=>?_)
    .have aE:k<ps.length:=by have h:(k:Int)<((ps.map bj.enc).length:Int):=h;rw[KB]at h;omega
     refine ag (dM aE) ?_;refine ij ps[k].bd (by have:=oP _ (Wl aE);omega) ?_
     refine⟨by have e:=bb ((x::r).map bj.enc);have e2:=congrArg List.length hq;simp only[KB,Wo,Z3]at e e2;simp only[cu,Wo,aaq];omega,?_⟩
     refine⟨⟨k+1,((x::r)++ [ps[k]])⟩,⟨aE,(show((x::r)++ [ps[k]])=ps.take (k+1) by rw[aaM,sA aE,<-hq];rfl)⟩,(show ps.length-(k+1)<ps.length-k by omega),View.o 9 [0,1,2,3,4,8] [] ?_ ?_⟩
     .repeat(first|exact .nil|refine .ar ?_|refine .put (.aQ (aL om).symm) ?_|refine .eq rfl ?_)
     .exact(.pe rfl rfl rfl (.pe rfl rfl rfl (.pe rfl rfl rfl (.pr rfl rfl rfl (.pr rfl rfl rfl (.pt rfl rfl (.bP (by simp[cu,af,bj.enc])) (.nil _)))))))
    .have xN:k=ps.length:=by have h:¬(k:Int)<((ps.map bj.enc).length:Int):=h;rw[KB]at h;omega
     subst xN;rw[aal]at hq;refine⟨.rv (.agg [.row 0 9 0 none,.row 1 2 0 none,.row 2 4 0 none]),_,View.o 6 [3,4,5] [] (.eq rfl .nil) (.pr rfl rfl rfl (.pr rfl rfl rfl (.pn rfl rfl rfl))),rfl,?_⟩;rw[hq]
 .refine⟨⟨rfl,rfl,trivial⟩,?_⟩;refine tQ l hf l.length ?_;rw[zM];refine⟨⟨rfl,trivial⟩,?_⟩;refine qI ops ho ?_;refine⟨trivial,trivial,?_⟩;refine ba (fun(a:OY)=>a.k<=ps.length/\a.qs=ps.take a.k) [1,2,14,15] (fun a=>[(16,an .i64 (a.k:Nat)),(3,.rv (.one (.ptr 2 0)))]) (fun a=>match a.qs with
    | []=>[.var [.aa (c7 l),.aa (eB ops),.aa (fE ps)],.var z3,.var [.row 3 9 0 none,.row 4 2 0 none,.aB],.row 9 (af (l.map Obj.enc)),.row 2 (af (ops.map bD.enc))]
    |x::r=>[.var [.aa (c7 l),.aa (eB ops),.aa (fE ps)],.var z3,.var [.row 3 9 0 none,.row 4 2 0 none,.row 5 4 0 none],.row 9 (af (l.map Obj.enc)),.row 2 (af (ops.map bD.enc)),.row 4 (af ((x::r).map bj.enc))]) (fun a=>ps.length-a.k) ⟨0,[]⟩ ⟨Wi _,rfl⟩ ?_ (fun a ha=>?_)
  .refine View.o1 6 [0,1,2,3,5] [] ?_
   .exact(.pe rfl rfl rfl (.pe rfl rfl rfl (.pe rfl rfl rfl (.pt rfl rfl (.bP (nw l _ _ _ om)) (.pn rfl rfl rfl)))))
  obtain⟨k,qs⟩:=a;obtain⟨hk,hq⟩:=ha;have hk:k<=ps.length:=hk;have hq:qs=ps.take k:=hq;cases qs with
  |nil=>
   refine aJ (fun h=>?_) (fun h=>?_)
   .have aE:k<ps.length:=by have h:(k:Int)<((ps.map bj.enc).length:Int):=h;rw[KB]at h;omega
    refine ag (dM aE) ?_;refine ij ps[k].bd (by have:=oP _ (Wl aE);omega) ?_
    refine⟨by simp[cu],?_⟩
    refine⟨⟨k+1,[ps[k]]⟩,⟨aE,(show [ps[k]]=ps.take (k+1) by rw[aaM,sA aE,<-hq];rfl)⟩,(show ps.length-(k+1)<ps.length-k by omega),View.o 8 [0,1,2,3,4,7] [] ?_ ?_⟩
    .repeat(first|exact .nil|refine .ar ?_|refine .put (.aQ (aL om).symm) ?_|refine .eq rfl ?_)
    .exact(.pe rfl rfl rfl (.pe rfl rfl rfl (.pe rfl rfl rfl (.pr rfl rfl rfl (.pr rfl rfl rfl (.pt rfl rfl (.bP (by simp[cu,af,bj.enc])) (.nil _)))))))
   .have xN:k=ps.length:=by have h:¬(k:Int)<((ps.map bj.enc).length:Int):=h;rw[KB]at h;omega
    subst xN;rw[aal]at hq;exact absurd hq.symm eG
  |cons x r=>
   refine aJ (fun h=>?_) (fun h=>?_)
   .have aE:k<ps.length:=by have h:(k:Int)<((ps.map bj.enc).length:Int):=h;rw[KB]at h;omega
    refine ag (dM aE) ?_;refine ij ps[k].bd (by have:=oP _ (Wl aE);omega) ?_
    refine⟨by have e:=bb ((x::r).map bj.enc);have e2:=congrArg List.length hq;simp only[KB,Wo,Z3]at e e2;simp only[cu,Wo,aaq];omega,?_⟩
    refine⟨⟨k+1,((x::r)++ [ps[k]])⟩,⟨aE,(show((x::r)++ [ps[k]])=ps.take (k+1) by rw[aaM,sA aE,<-hq];rfl)⟩,(show ps.length-(k+1)<ps.length-k by omega),View.o 9 [0,1,2,3,4,8] [] ?_ ?_⟩
    .repeat(first|exact .nil|refine .ar ?_|refine .put (.aQ (aL om).symm) ?_|refine .eq rfl ?_)
    .exact(.pe rfl rfl rfl (.pe rfl rfl rfl (.pe rfl rfl rfl (.pr rfl rfl rfl (.pr rfl rfl rfl (.pt rfl rfl (.bP (by simp[cu,af,bj.enc])) (.nil _)))))))
   .have xN:k=ps.length:=by have h:¬(k:Int)<((ps.map bj.enc).length:Int):=h;rw[KB]at h;omega
    subst xN;rw[aal]at hq;refine⟨.rv (.agg [.row 0 9 0 none,.row 1 2 0 none,.row 2 4 0 none]),_,View.o 6 [3,4,5] [] (.eq rfl .nil) (.pr rfl rfl rfl (.pr rfl rfl rfl (.pn rfl rfl rfl))),rfl,?_⟩;rw[hq]
theorem gD(l:List Obj)(ops:List bD)(ps:List bj)(hf:jV l)(ho:ops.length<=4194304)(ix:ps.length<=4194304)(oP:∀p,p∈ps->p.bd.length<=10)(eG:ps≠[]){m:Mem}{K:CV->Mem->Prop}(h:K (.rv (.agg [.row m.length 9 0 none,.row (m.length+1) 2 0 none,.row (m.length+2) 4 0 none])) (m++ [.row 9 (af (l.map Obj.enc)),.row 2 (af (ops.map bD.enc)),.row 4 (af (ps.map bj.enc))])):aq Tryz.prog 59 [dR l ops ps] m K:=by
 refine bw [] m.length rfl rfl rfl rfl (args0:=[dR l ops ps]) rfl (fun i b' hi=>by simp at hi) (K0:=fun r m=>r= .rv (.agg [.row 0 9 0 none,.row 1 2 0 none,.row 2 4 0 none])/\m=[.row 9 (af (l.map Obj.enc)),.row 2 (af (ops.map bD.enc)),.row 4 (af (ps.map bj.enc))])
  (bK (aX Tryz.func59 l59 (FW l ops ps hf ho ix oP eG)) fun r m1 h=>h) (fun r m1 hr=>?_)
 obtain⟨rfl,rfl⟩:=hr;refine⟨Wi _,?_⟩;show K (.rv (.agg [.row (m.length+(0-0)) 9 0 none,.row (m.length+(1-0)) 2 0 none,.row (m.length+(2-0)) 4 0 none])) (gL m [.row 9 ((af (l.map Obj.enc)).map (fun cs=>cs.map (CC.aQ (sg [] m.length)))),.row 2 ((af (ops.map bD.enc)).map (fun cs=>cs.map (CC.aQ (sg [] m.length)))),.row 4 ((af (ps.map bj.enc)).map (fun cs=>cs.map (CC.aQ (sg [] m.length))))])
 rw[db,db,db,cf];exact h
def c80:LF:= ⟨9,[.tmp 4],(.seq (.ai [qu 4 (.aF (qb false))]) (.seq (.ai [qm 5 0,qm 6 1,qu 7 (qc 121 [5,6]),qu 8 (.aH .geq 7 (qi 0)),qm 4 8]) .ret))⟩
def c81:LF:= ⟨13,[.tmp 3],(.seq (.ai [qu 2 (.box 0),qu 3 (.aF (qb false))]) (.seq (.ai [qf 4 0 2,ql 5 4,qu 6 (.aH .eql 5 (qi 5)),qm 7 6,qg 8 (.bX 6 2) 7 true,qg 9 (.load false 1 8) 7 true,qg 10 (.load false 1 1) 7 true,qg 11 (.aH .eql 9 10) 7 true,qu 12 (.pick 7 11 (qb false)),qm 3 12]) .ret))⟩
def c120:LF:= ⟨13,[.tmp 3],(.seq (.ai [qu 2 (.box 0),qu 3 (.aF (qb false))]) (.seq (.ai [qf 4 0 2,ql 5 4,qu 6 (.aH .eql 5 (qi 5)),qm 7 6,qg 8 (.bX 6 2) 7 true,qg 9 (.load false 1 8) 7 true,qg 10 (.load false 1 1) 7 true,qg 11 (.aH .eql 9 10) 7 true,qu 12 (.pick 7 11 (qb false)),qm 3 12]) .ret))⟩
def eD(p:Int)(o:Obj):Bool:=o.ah==5&&o.aM==p
theorem l120:bs Tryz.prog Tryz.f120=some c120:=by kernel_rfl
theorem l81:bs Tryz.prog Tryz.f81=some c81:=by kernel_rfl
theorem l80:bs Tryz.prog Tryz.f80=some c80:=by kernel_rfl
theorem zP(o:Obj)(p:Int):body Tryz.prog c120 [o.cv,.rv (.one (.ptr 0 0))] [.var ([Dt.val (.int .i64 p)].map .aa)] (fun r m=>r=ay (eD p o)/\∃ex,m= .var ([Dt.val (.int .i64 p)].map .aa)::ex):=by
 refine aD (fun h=>?_) (fun h=>?_)
 .refine⟨?_,_,rfl⟩;show ay _=ay _;rw[eD,h];rfl
 .refine⟨?_,_,rfl⟩;show ay _=ay _;rw[eD,h];rfl
theorem OZ(o:Obj)(p:Int)(K:CV->Mem->Prop)(h:K (ay (eD p o)) [.var ([Dt.val (.int .i64 p)].map .aa)]):aq Tryz.prog 120 [o.cv,.rv (.one (.ptr 0 0))] [.var ([Dt.val (.int .i64 p)].map .aa)] K:=
 eH rfl (aX Tryz.func120 l120 (zP o p)) h
theorem zQ(o:Obj)(p:Int):body Tryz.prog c81 [o.cv,.rv (.one (.ptr 0 0))] [.var ([Dt.val (.int .i64 p)].map .aa)] (fun r m=>r=ay (eD p o)/\∃ex,m= .var ([Dt.val (.int .i64 p)].map .aa)::ex):=by
 refine aD (fun h=>?_) (fun h=>?_)
 .refine⟨?_,_,rfl⟩;show ay _=ay _;rw[eD,h];rfl
 .refine⟨?_,_,rfl⟩;show ay _=ay _;rw[eD,h];rfl
theorem O0(o:Obj)(p:Int)(K:CV->Mem->Prop)(h:K (ay (eD p o)) [.var ([Dt.val (.int .i64 p)].map .aa)]):aq Tryz.prog 81 [o.cv,.rv (.one (.ptr 0 0))] [.var ([Dt.val (.int .i64 p)].map .aa)] K:=
 eH rfl (aX Tryz.func81 l81 (zQ o p)) h
theorem wt{l:List Obj}{n:Nat}(h:n<l.length):dp (n:Int) (lenOf (af (l.map Obj.enc)).length 0 none)=some n:=bZ (by show n<(af (l.map Obj.enc)).length;rw[bb,KB];exact h)
theorem FX(l:List Obj)(hb:l.length<=4194304)(F:Nat)(cs:List Dt)(q:Obj->Bool)(hF:∀s,∀K:CV->Mem->Prop,K (ay (q s)) [.var (cs.map .aa)]->aq Tryz.prog F [s.cv,.rv (.one (.ptr 0 0))] [.var (cs.map .aa)] K):
  body Tryz.prog c121 [.rv (.one (.row 0 9 0 none)),.rv (.one (.fn F [1]))] [.row 9 (af (l.map Obj.enc)),.var (cs.map .aa)] (fun r m=>r=an .i64 (mA q l)/\m=[.row 9 (af (l.map Obj.enc)),.var (cs.map .aa)]):=by
 refine ba (fun k=>k<=l.length/\∀(j:Nat)s,j<k->l[j]? =some s->q s=false) [0,1,7] (fun k=>[(8,an .i64 (k:Nat))]) (fun _=>[.row 9 (af (l.map Obj.enc)),.var (cs.map .aa)]) (fun k=>l.length-k) 0 ⟨Wi _,fun j s h=>absurd h (aah j)⟩ ?_ (fun k hk=>?_)
 .refine View.o1 2 [0,1] [] ?_
  .exact .pr rfl rfl rfl (.pt rfl rfl (.km rfl) (.nil _))
 .refine aJ (fun h=>?_) (fun h=>?_)
  .have aE:k<l.length:=by have h:(k:Int)<((af (l.map Obj.enc)).length:Int):=h;rw[bb,KB]at h;omega
   refine ag (wt aE) ?_;refine ag (bC Obj.enc l aE) ?_;have hi:=sA aE;have Sg:=jB (q:=q) aE;generalize l[k]=o at hi Sg;refine fc (args0:=[o.cv,.rv (.one (.ptr 0 0))]) (cs:=cs) 1 rfl rfl (r0:=ay (q o)) rfl (fun K hK=>hF o K hK) ?_
   refine aD (fun Eo=>?_) (fun Eo=>?_)
   .rw[Sg Eo hk.2];exact⟨rfl,rfl⟩
   .refine⟨k+1,⟨aE,fun j s hj hs=>?_⟩,(show l.length-(k+1)<l.length-k by omega),View.o 2 [0,1] [] ?_ ?_⟩
    .rcases Wj j k with h5|h5
     .exact hk.2 j s h5 hs
     .have:j=k:=om;subst this;rw[hi]at hs;cases hs;exact Eo
    .repeat(first|exact .nil|refine .ar ?_|refine .put (.aQ (aL om).symm) ?_|refine .eq rfl ?_)
    .exact .pr rfl rfl rfl (.pt rfl rfl (.km rfl) (.nil _))
  .have eu:¬(k:Int)<((af (l.map Obj.enc)).length:Int):=h;rw[bb,KB]at eu;rw[lh fun j s hs=>hk.2 j s (by have:=(Gf.1 hs).1;omega) hs]
   exact⟨rfl,rfl⟩
theorem Ce(l:List Obj)(hb:l.length<=4194304)(F:Nat)(cs:List Dt)(q:Obj->Bool)(hF:∀s,∀K:CV->Mem->Prop,K (ay (q s)) [.var (cs.map .aa)]->aq Tryz.prog F [s.cv,.rv (.one (.ptr 0 0))] [.var (cs.map .aa)] K):
  body Tryz.prog c80 [.rv (.one (.row 0 9 0 none)),.rv (.one (.fn F [1]))] [.row 9 (af (l.map Obj.enc)),.var (cs.map .aa)] (fun r m=>r=ay (l.any q)/\m=[.row 9 (af (l.map Obj.enc)),.var (cs.map .aa)]):=by
 refine(aX Tryz.func121 l121 (FX l hb F cs q hF)).mono fun r m⟨hr,hm⟩=>?_
 subst hr hm;refine⟨?_,rfl⟩;show ay _=ay _;rw[<-pz]
theorem IV(l:List Obj)(hb:l.length<=4194304)(F:Nat)(cs:List Dt)(q:Obj->Bool)(hF:∀s,∀K:CV->Mem->Prop,K (ay (q s)) [.var (cs.map .aa)]->aq Tryz.prog F [s.cv,.rv (.one (.ptr 0 0))] [.var (cs.map .aa)] K):
  aq Tryz.prog 80 [.rv (.one (.row 0 9 0 none)),.rv (.one (.fn F [1]))] [.row 9 (af (l.map Obj.enc)),.var (cs.map .aa)] (fun r m=>r=ay (l.any q)/\m=[.row 9 (af (l.map Obj.enc)),.var (cs.map .aa)]):=
 aX Tryz.func80 l80 (Ce l hb F cs q hF)
def c79:LF:= ⟨146,[.tmp 2],(.seq (.ai [qu 2 (.aF (qb false))]) (.seq (.ai [qm 10 0,qu 11 (qc 119 [10]),qm 3 11]) (.seq (.seq (.ai [qm 12 0,qu 13 (.aT 12),qf 14 0 13,ql 15 14,qu 16 (.len 1 15),qu 17 (.aF (qi 0))]) (.block 0 (.loop (.seq (.ai [qu 18 (.aH .lss 17 16)]) (.seq (.cond 18 .skip (.exit 0)) (.seq (.block 1 (.seq (.ai [qm 19 17,qm 4 19]) (.seq (.seq (.ai [qm 20 3,qu 21 (.aT 20),qf 22 1 21,ql 23 22,qm 24 4,qu 25 (.cr 1 23 24),ql 26 25,qm 27 26,qg 28 (.aF 0) 27 false,qg 29 (.aT 28) 27 false,qg 30 (.bX 0 29) 27 false,qg 31 (.load false 1 30) 27 false,qg 32 (.aF 4) 27 false,qg 33 (.cr 9 31 32) 27 false,qg 34 (.bX 0 33) 27 false,qg 35 (.load false 1 34) 27 false,qg 36 (.aH .eql 35 (qi 0)) 27 false,qu 37 (.pick 27 (qb true) 36)]) (.cond 37 (.exit 1) .skip)) (.seq (.seq (.ai [qm 38 0,qu 39 (.aT 38),qf 40 0 39,ql 41 40,qu 42 (.len 1 41),qu 43 (.aF (qi 0))]) (.block 2 (.loop (.seq (.ai [qu 44 (.aH .lss 43 42)]) (.seq (.cond 44 .skip (.exit 2)) (.seq (.block 3 (.seq (.ai [qm 45 43,qm 5 45]) (.seq (.ai [qm 46 0,qu 47 (.aT 46),qf 48 0 47,ql 49 48,qm 50 5,qu 51 (.cr 9 49 50),qf 52 0 51,ql 53 52,qu 54 (.aH .eql 53 (qi 4)),qm 55 54,qg 56 (.aF 0) 55 true,qg 57 (.aT 56) 55 true,qg 58 (.bX 0 57) 55 true,qg 59 (.load false 1 58) 55 true,qg 60 (.aF 5) 55 true,qg 61 (.cr 9 59 60) 55 true,qg 62 (.bX 4 61) 55 true,qg 63 (.load false 1 62) 55 true,qg 64 (.aF 4) 55 true,qg 65 (.aH .eql 63 64) 55 true,qu 66 (.pick 55 65 (qb false))]) (.cond 66 (.ai [qm 67 0,qu 68 (.aT 67),qf 69 0 68,ql 70 69,qm 71 5,qu 72 (.cr 9 70 71),qf 73 4 72,qw (.store 1 73 (qi (-1)))]) .skip)))) (.ai [qu 74 (.aH .add 43 (qi 1)),qm 43 74]))))))) (.ai [qm 75 0,qu 76 (.aT 75),qf 77 0 76,ql 78 77,qm 79 4,qu 80 (.build [(qd 0),.aB,.aB,(.aa (.val (.string ⟨#[]⟩))),(qd 0),.aB,(qd 0),(qd 0),(qd 0)] []),qu 81 (.cr 9 78 79),qw (.store 9 81 80)]))))) (.ai [qu 82 (.aH .add 17 (qi 1)),qm 17 82]))))))) (.seq (.seq (.ai [qm 83 0,qu 84 (.aT 83),qf 85 1 84,ql 86 85,qu 87 (.len 1 86),qu 88 (.aF (qi 0))]) (.block 4 (.loop (.seq (.ai [qu 89 (.aH .lss 88 87)]) (.seq (.cond 89 .skip (.exit 4)) (.seq (.block 5 (.seq (.ai [qm 90 88,qm 6 90]) (.seq (.ai [qm 91 3,qu 92 (.aT 91),qf 93 2 92,ql 94 93,qm 95 6,qu 96 (.cr 1 94 95),ql 97 96,qu 98 (.un .not 97)]) (.cond 98 (.ai [qm 99 0,qu 100 (.aT 99),qf 101 1 100,ql 102 101,qm 103 6,qu 104 (.build [(qd 0),(qd 0)] [(0,1,(qi (-1)))]),qu 105 (.cr 2 102 103),qw (.store 2 105 104)]) .skip)))) (.ai [qu 106 (.aH .add 88 (qi 1)),qm 88 106]))))))) (.seq (.ai [qu 7 (.aF (qb false))]) (.seq (.seq (.ai [qm 107 0,qu 108 (.aT 107),qf 109 2 108,ql 110 109,qu 111 (.len 1 110),qu 112 (.aF (qi 0))]) (.block 6 (.loop (.seq (.ai [qu 113 (.aH .lss 112 111)]) (.seq (.cond 113 .skip (.exit 6)) (.seq (.block 7 (.seq (.ai [qm 114 112,qu 8 (.alloc [(qd 0)]),qw (.store 1 8 114)]) (.seq (.ai [qm 115 0,qu 116 (.aT 115),qf 117 0 116,ql 118 117,qu 119 (.fn 120 [8]),qu 120 (qc 80 [118,119]),qm 9 120]) (.seq (.bU [ql 121 8,qu 122 (.aH .gtr 121 (qi 0)),qm 123 122,qg 124 (.aF 0) 123 true,qg 125 (.aT 124) 123 true,qg 126 (.bX 2 125) 123 true,qg 127 (.load false 1 126) 123 true,qg 128 (.load false 1 8) 123 true,qg 129 (.cr 4 127 128) 123 true,qg 130 (.bX 0 129) 123 true,qg 131 (.load false 1 130) 123 true,qu 132 (.pick 123 131 (qb false)),qm 133 132,qg 134 (.aF 9) 133 true,qg 135 (.un .not 134) 133 true,qu 136 (.pick 133 135 (qb false))] [(.cons 0 none (.cons 1 none (.cons 2 none (.cons 3 none (.cons 4 none (.cons 5 none (.cons 6 none (.cons 7 none (.cons 8 none (.cons 9 none (.cons 10 none (.cons 11 none (.cons 12 none (.cons 13 none (.cons 14 none (.cons 15 none .nil))))))))))))))))]) (.cond 136 (.seq (.bU [qm 137 0,qu 138 (.aT 137),qf 139 2 138,ql 140 139,ql 141 8,qu 142 (.build [(.aa (.val (.bool false))),(.aa (.val (.bool false))),(qd 0),.aB] []),qu 143 (.cr 4 140 141),qw (.store 4 143 142)] [(.cons 0 none (.cons 1 none (.cons 2 none (.cons 3 none (.cons 4 none (.cons 5 none (.cons 6 none (.cons 7 (some []) .nil))))))))]) (.ai [qu 7 (.aF (qb true))])) .skip))))) (.ai [qu 144 (.aH .add 112 (qi 1)),qm 112 144]))))))) (.seq (.ai [qm 145 7,qm 2 145]) .ret)))))))⟩
def Pt{α:Type}(l L:List α)(f:Nat->α->α):Prop:=L.length=l.length/\∀(t:Nat)o,l[t]? =some o->L[t]? =some (f t o)
theorem Pt.refl{α:Type}(l:List α):Pt l l fun _ o=>o:=⟨rfl,fun _ _ h=>h⟩
theorem Pt.congr{α:Type}{l L:List α}{f g:Nat->α->α}(h:Pt l L f)(ZJ:∀(t:Nat)o,l[t]? =some o->f t o=g t o):Pt l L g:=
 ⟨h.1,fun t o ho=>by rw[<-ZJ t o ho];exact h.2 t o ho⟩
theorem Pt.set{α:Type}{l L:List α}{f g:Nat->α->α}(h:Pt l L f){j:Nat}{x:α}(hx:∀o,l[j]? =some o->g j o=x)(ho:∀(t:Nat)o,t≠j->l[t]? =some o->g t o=f t o):Pt l (L.set j x) g:=by
 refine⟨by simpa using h.1,fun t o Bb=>?_⟩
 have aE:t<L.length:=by rw[h.1];exact(Gf.1 Bb).1
 by_cases Hp:t=j
 .subst Hp;rw[hx o Bb];simp[aE]
 .rw[Wf (fun e=>Hp e.symm),ho t o Hp Bb]
  exact h.2 t o Bb
theorem Pt.at{α:Type}{l L:List α}{f:Nat->α->α}(h:Pt l L f){j:Nat}(hj:j<l.length):∃hL:j<L.length,L[j]=f j l[j]:=by
 have hL:j<L.length:=by rw[h.1];exact hj
 have:=h.2 j l[j] (sA hj);rw[sA hL]at this;exact⟨hL,by simpa using this⟩
theorem lA.IW{σ:Nat->Nat}{m:Mem}{Z:Nat->Prop}{id s:Nat}(ds:List (List Dt))(i:Nat){cs:List CC}{d:List Dt}(hl:cs.length=d.length)(h:∀(j:Nat)c c',cs[j]? =some c->(d.map CC.aa)[j]? =some c'->oQ σ m Z (some id) c c'):lA σ m Z id (.row s (aZ (af ds) i cs)) (.row s (af (ds.set i d))):=by
 rw[bg];have e:af (ds.set i d)=(af ds).set i (d.map .aa):=by simp[af,aay]
 rw[e];refine .row s aI (fun t xs ys h1 h2=>?_) (fun t xs ys j c c' h1 h2 h3 h4=>?_)
 .rw[aan]at h1 h2;split at h1
  .rename_i Ix;rw[if_pos Ix]at h2;split at h1
   .rename_i aE;rw[if_pos aE]at h2;cases h1;cases h2;simpa using hl
   .cases h1
  .rename_i Ix;rw[if_neg Ix]at h2;rw[h1]at h2;cases h2;rfl
 .rw[aan]at h1 h2;split at h1
  .rename_i Ix;rw[if_pos Ix]at h2;split at h1
   .rename_i aE;rw[if_pos aE]at h2;cases h1;cases h2;exact h j c c' h3 h4
   .cases h1
  .rename_i Ix;rw[if_neg Ix]at h2;rw[h1]at h2;cases h2;rw[h3]at h4;cases h4;have hd:∃d,c= .aa d:=by rw[af,NO]at h1;obtain⟨es,_,rfl⟩:=Yx.1 h1;rw[NO]at h3;obtain⟨d,_,rfl⟩:=Yx.1 h3;exact⟨d,rfl⟩
   obtain⟨d,rfl⟩:=hd;exact .aQ (.aa d)
def gE:Obj:=⟨0,[],[],⟨#[]⟩,0,[],0,0,0⟩
def NC:List CC:=[.aa (.val (.int .i64 0)),.aB,.aB,.aa (.val (.string ⟨#[]⟩)),.aa (.val (.int .i64 0)),.aB,.aa (.val (.int .i64 0)),.aa (.val (.int .i64 0)),.aa (.val (.int .i64 0))]
theorem VL{σ:Nat->Nat}{m:Mem}{Z:Nat->Prop}{id:Nat}(L:List Obj)(i:Nat):lA σ m Z id (.row 9 (aZ (af (L.map Obj.enc)) i NC)) (.row 9 (af ((L.set i gE).map Obj.enc))):=by
 rw[aay];refine lA.IW (L.map Obj.enc) i rfl fun j c c' h1 h2=>?_
 match j,h1,h2 with
 |0,h1,h2=>cases h1;cases h2;exact .aQ (.aa _)
 |1,h1,h2=>cases h1;cases h2;exact .eZ (.aB 1)
 |2,h1,h2=>cases h1;cases h2;exact .eZ (.aB 2)
 |3,h1,h2=>cases h1;cases h2;exact .aQ (.aa _)
 |4,h1,h2=>cases h1;cases h2;exact .aQ (.aa _)
 |5,h1,h2=>cases h1;cases h2;exact .eZ (.aB 4)
 |6,h1,h2=>cases h1;cases h2;exact .aQ (.aa _)
 |7,h1,h2=>cases h1;cases h2;exact .aQ (.aa _)
 |8,h1,h2=>cases h1;cases h2;exact .aQ (.aa _)
 |n+9,h1,h2=>simp[NC]at h1
def fF:bj:=⟨false,false,0,[]⟩
theorem ND{σ:Nat->Nat}{m:Mem}{Z:Nat->Prop}{id:Nat}(L:List bj)(i:Nat):lA σ m Z id (.row 4 (aZ (af (L.map bj.enc)) i [.aa (.val (.bool false)),.aa (.val (.bool false)),.aa (.val (.int .i64 0)),.aB])) (.row 4 (af ((L.set i fF).map bj.enc))):=by
 rw[aay];refine lA.IW (L.map bj.enc) i rfl fun j c c' h1 h2=>?_
 match j,h1,h2 with
 |0,h1,h2=>cases h1;cases h2;exact .aQ (.aa _)
 |1,h1,h2=>cases h1;cases h2;exact .aQ (.aa _)
 |2,h1,h2=>cases h1;cases h2;exact .aQ (.aa _)
 |3,h1,h2=>cases h1;cases h2;exact .eZ (.aB 3)
 |n+4,h1,h2=>simp at h1
def eT(b:Mk)(l:List Obj)(i:Nat):Bool:=match l[i]? with
 |some o=>!(b.O[i]? ==some true)&&o.ah !=0
 |none=>false
def nU(b:Mk)(l:List Obj)(k:Nat)(z:Int):Bool:=decide (0<=z/\z.toNat<k)&&eT b l z.toNat
def cA(b:Mk)(l:List Obj)(k:Nat)(j:Nat)(o:Obj):Obj:=if(eT b l j&&decide (j<k))=true then gE else if(o.ah==4&&nU b l k o.aC)=true then {o with aC:= -1}else o
def ik(i:Nat)(o:Obj):Obj:=if(o.ah==4&&o.aC==(i:Int))=true then {o with aC:= -1}else o
theorem tW(b:Mk)(l:List Obj)(i:Nat)(z:Int):nU b l (i+1) z=(nU b l i z||(z==(i:Int)&&eT b l i)):=by
 unfold nU;by_cases h:z=(i:Int)
 .subst h;simp
 .have h1:(z==(i:Int))=false:=by simpa using h
  rw[h1];have:decide (0<=z/\z.toNat<i+1)=decide (0<=z/\z.toNat<i):=by
   apply decide_eq_decide.2;constructor<;>intro⟨h2,h3⟩<;>exact⟨h2,om⟩
  rw[this];simp
theorem FY{b:Mk}{l:List Obj}{i:Nat}(h:eT b l i=false)(j:Nat)(o:Obj):cA b l i j o=cA b l (i+1) j o:=by
 have h1:(eT b l j&&decide (j<i+1))=(eT b l j&&decide (j<i)):=by
  by_cases hj:j=i
  .subst hj;rw[h];simp
  .have:decide (j<i+1)=decide (j<i):=decide_eq_decide.2 om;rw[this]
 unfold cA;rw[h1,tW,h];simp
theorem Cf{b:Mk}{l:List Obj}{i:Nat}(h:eT b l i=true){j:Nat}(hj:j≠i)(o:Obj):ik i (cA b l i j o)=cA b l (i+1) j o:=by
 have h1:(eT b l j&&decide (j<i+1))=(eT b l j&&decide (j<i)):=by have:decide (j<i+1)=decide (j<i):=decide_eq_decide.2 om;rw[this]
 unfold cA;rw[h1,tW,h];by_cases hd:(eT b l j&&decide (j<i))=true
 .rw[if_pos hd,if_pos hd];rfl
 .rw[if_neg hd,if_neg hd];by_cases hk:(o.ah==4)=true
  .by_cases hz:nU b l i o.aC=true
   .rw[hk,hz];simp[ik]
   .rw[abm]at hz;rw[hk,hz];by_cases hp:(o.aC==(i:Int))=true
    .simp[ik,hk,hp]
    .rw[abm]at hp;simp[ik,hp]
  .rw[abm]at hk;rw[hk];simp[ik,hk]
theorem zR{b:Mk}{l:List Obj}{i:Nat}(h:eT b l i=true)(o:Obj):cA b l (i+1) i o=gE:=by unfold cA;rw[h];simp
theorem zS(b:Mk)(l:List Obj)(j:Nat)(o:Obj):cA b l 0 j o=o:=by
 unfold cA;have:nU b l 0 o.aC=false:=by simp[nU]
 rw[this];simp
theorem zT{b:Mk}{l:List Obj}{i:Nat}(o:Obj):(cA b l i i o).ah=o.ah:=by
 unfold cA;simp;split<;>rfl
end Go.Proofs.YtodckkkbiidffaaGreatDoor
