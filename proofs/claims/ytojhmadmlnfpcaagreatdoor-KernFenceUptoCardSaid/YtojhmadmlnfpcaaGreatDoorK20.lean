/- Part 20 of 43: what the law stands on. -/
import Derived.Test.YtojhmadmlnfpcaaGreatDoorK16
import Derived.Test.YtojhmadmlnfpcaaGreatDoorK19
set_option linter.unusedVariables false
set_option linter.unusedSimpArgs false
set_option linter.unnecessarySimpa false
set_option maxRecDepth 100000
set_option maxHeartbeats 64000000
namespace Go.Proofs.YtojhmadmlnfpcaaGreatDoor
open Go.AM Go.ChangeShapes Go.WideShapes Go.ChangeAt Go.RowKit
def c66:LF:= ⟨32,[.cell true 3 2],(.seq (.ai [qu 1 (.box 0),qu 2 (.alloc [.aI,.aI,.aI])]) (.seq (.bQ [qf 6 0 1,ql 7 6,qu 8 (qc 105 [7]),qf 9 1 1,ql 10 9,qu 11 (qc 106 [10]),qu 12 (.build [.aI,.aI,.aI] [(0,1,8),(1,1,11)]),qu 3 (.alloc [.aI,.aI,.aI]),qw (.store 3 3 12)] [(.cons 0 none (.cons 1 none (.cons 3 none (.cons 4 none (.xK (.cons 2 (some [4]) (.xK (.cons 5 (some []) (.cons 6 none (.cons 7 (some [4,1]) (.cons 8 (some []) .nil)))) (.cons 7 (some [4,1]) (.cons 5 (some []) (.cons 6 none (.cons 8 (some []) .nil)))))) (.cons 7 (some [4,1]) (.cons 2 (some [4]) (.cons 5 (some []) (.cons 6 none (.cons 8 (some []) .nil))))))))))]) (.seq (.seq (.ai [qf 13 2 1,ql 14 13,qu 15 (.len 1 14),qu 16 (.aD (qi 0))]) (.block 0 (.loop (.seq (.ai [qu 17 (.aF .lss 16 15)]) (.seq (.cond 17 .skip (.exit 0)) (.seq (.block 1 (.seq (.ai [qu 18 (.bO 4 14 16),qL 19 4 18,qu 5 (.alloc [(.aa (.val (.bool false))),(.aa (.val (.bool false))),(qd 0),.aI]),qw (.store 4 5 19)]) (.seq (.ai [qf 20 3 5,ql 21 20,qu 22 (qc 107 [21]),qf 23 3 5,qw (.store 1 23 22)]) (.ai [qf 24 2 3,ql 25 24,qL 26 4 5,qu 27 (.mh 4 [(.aa (.val (.bool false))),(.aa (.val (.bool false))),(qd 0),.aI] 1 [(0,26)]),qu 28 (.nO 4 40 25 27),qf 29 2 3,qw (.store 1 29 28)])))) (.ai [qu 30 (.aF .add 16 (qi 1)),qm 16 30]))))))) (.seq (.ai [qL 31 3 3,qw (.store 3 2 31)]) .ret))))⟩
def c106:LF:= ⟨8,[.tmp 2],(.seq (.ai [qu 2 (.aD qe)]) (.seq (.seq (.ai [qm 3 0,qu 4 (.xJ false 3)]) (.cond 4 (.seq (.ai [qu 2 (.aD qe)]) .ret) .skip)) (.seq (.ai [qu 5 (.mh 2 [(qd 0),(qd 0)] 0 []),qm 6 0,qu 7 (.nO 2 16 5 6),qm 2 7]) .ret)))⟩
def c107:LF:= ⟨8,[.tmp 2],(.seq (.ai [qu 2 (.aD qe)]) (.seq (.seq (.ai [qm 3 0,qu 4 (.xJ false 3)]) (.cond 4 (.seq (.ai [qu 2 (.aD qe)]) .ret) .skip)) (.seq (.ai [qu 5 (.mh 3 [(.aa (.val (.bool false))),(qd 0),(qd 0)] 0 []),qm 6 0,qu 7 (.nO 3 24 5 6),qm 2 7]) .ret)))⟩
theorem oQ:∀(l:List Obj)(p Q k:Nat),k+l.length<=p->eD p Q k l=af (l.map Obj.enc)
 | [],_,_,_,_=>rfl
 |o::r,p,Q,k,h=>by
  have ih:=oQ r p Q (k+1) (by simp at h;omega)
  have hk:¬k=p:=by simp at h;omega
  simp only[eD,ih,re,if_neg hk];rfl
theorem Cj(l:List Obj):zZ l l.length l.length= .bh:=by
 have:Nat.blt l.length l.length=false:=by
  cases h:Nat.blt l.length l.length
  .rfl
  .rw[abe]at h;omega
 unfold zZ;rw[this]
theorem l106:bs Tryz.prog Tryz.f106=some c106:=by kernel_rfl
theorem l107:bs Tryz.prog Tryz.f107=some c107:=by kernel_rfl
theorem l66:bs Tryz.prog Tryz.f66=some c66:=by kernel_rfl
theorem Ck(ops:List bG)(ho:ops.length<=4194304):body Tryz.prog c106 [.rv (.one (.aa (eA ops)))] [] (fun r m=>∃r' m',View 0 ⟨[r],m⟩ ⟨[r'],m'⟩/\r'= .rv (.one (.row 0 2 0 none))/\m'=[.row 2 (af (ops.map bG.enc))]):=by
 have rR:((([]:List (List CC)).length+((ops.map bG.enc).map fun ds=>ds.map CC.aa).length)*16)<=140737488355328:=by simp;omega
 have fS:∃r' m',View 0 ⟨[CV.rv (.one (.row 1 2 0 none))],[.bh,.row 2 (cw ([]:List (List CC)) 0 none++(ops.map bG.enc).map fun ds=>ds.map CC.aa)]⟩ ⟨[r'],m'⟩/\r'=CV.rv (.one (.row 0 2 0 none))/\m'=[Bk.row 2 (af (ops.map bG.enc))]:=
  ⟨_,_,View.o 2 [1] [] (.eq rfl .nil) (.pn rfl rfl rfl),rfl,rfl⟩
 refine aE (fun h=>?_) (fun h=>?_)
 .have hd:ops=[]:=aat (by simpa using aav h)
  refine⟨?_,rR,fS⟩;subst hd;exact⟨_,_,View.aI 0 2 0 rfl rfl rfl,rfl,rfl⟩
 .exact⟨rR,fS⟩
theorem sD(ops:List bG)(ho:ops.length<=4194304){m:Mem}{K:CV->Mem->Prop}(h:K (.rv (.one (.row m.length 2 0 none))) (m++ [.row 2 (af (ops.map bG.enc))])):ar Tryz.prog 106 [.rv (.one (.aa (eA ops)))] m K:=by
 refine bC [] m.length rfl rfl rfl rfl (args0:=[.rv (.one (.aa (eA ops)))]) rfl (fun i b' hi=>by simp at hi) (K0:=fun r m=>r= .rv (.one (.row 0 2 0 none))/\m=[.row 2 (af (ops.map bG.enc))]) (bN (aZ Tryz.func106 l106 (Ck ops ho)) fun r m1 h=>h) (fun r m1 hr=>?_)
 obtain⟨rfl,rfl⟩:=hr;refine⟨aao _,?_⟩;show K (.rv (.one (.row (m.length+(0-0)) 2 0 none))) (iI m [.row 2 ((af (ops.map bG.enc)).map (fun cs=>cs.map (CC.aQ (sg [] m.length))))])
 rw[dC,cr];exact h
theorem Cm(d:List fH)(hb:d.length<=4194304):body Tryz.prog c107 [j7 d] [] (fun r m=>cJ m r (j7 d)):=by
 have rR:((([]:List (List CC)).length+((d.map fH.enc).map fun ds=>ds.map CC.aa).length)*24)<=140737488355328:=by simp;omega
 refine aE (fun h=>?_) (fun h=>?_)
 .have hd:d=[]:=aat (by simpa using aav h)
  subst hd;exact⟨.rv (.one (.aI 3)),rR,.rv (.one (eI.eE rfl 0 none))⟩
 .exact⟨rR,.rv (.one (eI.eE rfl 0 none))⟩
theorem i5(d:List fH)(hb:d.length<=4194304){m:Mem}{K:CV->Mem->Prop}(h:K (j7 d) m):ar Tryz.prog 107 [j7 d] m K:=
 bb (aZ Tryz.func107 l107 (Cm d hb)) (by simp[j7,xZ,CV.dx,CC.dx]) fun r m1 hf=>⟨_,hf,h⟩
structure Sa where
 k:Nat
 qs:List bi
theorem IQ(l:List Obj)(ops:List bG)(ps:List bi)(hf:jZ l)(ho:ops.length<=4194304)(gE:ps.length<=4194304)(qq:∀p,p∈ps->p.aU.length<=10)(eW:ps≠[]):
  body Tryz.prog c66 [dJ l ops ps] [] (fun r m=>∃r' m',View 0 ⟨[r],m⟩ ⟨[r'],m'⟩/\r'= .rv (.agg [.row 0 9 0 none,.row 1 2 0 none,.row 2 4 0 none])/\m'=[.row 9 (af (l.map Obj.enc)),.row 2 (af (ops.map bG.enc)),.row 4 (af (ps.map bi.enc))]):=by
 refine⟨?_,?_⟩
 .skip
  refine vN l hf l.length ?_;rw[Cj];refine⟨⟨rfl,trivial⟩,?_⟩;refine⟨?_,?_⟩
  .refine sD ops ho ?_;refine⟨trivial,⟨rfl,rfl,trivial⟩,trivial,?_⟩;refine aO (fun(a:Sa)=>a.k<=ps.length/\a.qs=ps.take a.k) [1,2,14,15] (fun a=>[(16,an .i64 (a.k:Nat)),(3,.rv (.one (.ptr 2 0)))]) (fun a=>match a.qs with
     | []=>[.var [.aa (cX l),.aa (eA ops),.aa (fC ps)],.var z3,.var [.row 3 9 0 none,.row 4 2 0 none,.aI],.row 9 (af (l.map Obj.enc)),.row 2 (af (ops.map bG.enc))]
     |x::r=>[.var [.aa (cX l),.aa (eA ops),.aa (fC ps)],.var z3,.var [.row 3 9 0 none,.row 4 2 0 none,.row 5 4 0 none],.row 9 (af (l.map Obj.enc)),.row 2 (af (ops.map bG.enc)),.row 4 (af ((x::r).map bi.enc))]) (fun a=>ps.length-a.k) ⟨0,[]⟩ ⟨aao _,rfl⟩ ?_ (fun a ha=>?_)
   .refine View.o1 6 [0,1,5,2,4] [] ?_
    .exact(.pe rfl rfl rfl (.pe rfl rfl rfl (.pe rfl rfl rfl (.pt rfl rfl (.bV (oQ l _ _ _ om)) (.pn rfl rfl rfl)))))
   obtain⟨k,qs⟩:=a;obtain⟨hk,hq⟩:=ha;have hk:k<=ps.length:=hk;have hq:qs=ps.take k:=hq;cases qs with
   |nil=>
    refine aB (fun h=>?_) (fun h=>?_)
    .have aC:k<ps.length:=by have h:(k:Int)<((ps.map bi.enc).length:Int):=h;rw[aad]at h;omega
     refine ag (d5 aC) ?_;refine i5 ps[k].aU (by have:=qq _ (aau aC);omega) ?_
     refine⟨by simp[cw],?_⟩
     refine⟨⟨k+1,[ps[k]]⟩,⟨aC,(show [ps[k]]=ps.take (k+1) by rw[aa8,aab aC,<-hq];rfl)⟩,(show ps.length-(k+1)<ps.length-k by omega),View.o 8 [0,1,2,3,4,7] [] ?_ ?_⟩
     .repeat(first|exact .nil|refine .ap ?_|refine .put (.aQ (aq om).symm) ?_|refine .eq rfl ?_)
     .exact(.pe rfl rfl rfl (.pe rfl rfl rfl (.pe rfl rfl rfl (.pr rfl rfl rfl (.pr rfl rfl rfl (.pt rfl rfl (.bV (by simp[cw,af,bi.enc])) (.nil _)))))))
    .have Ac:k=ps.length:=by have h:¬(k:Int)<((ps.map bi.enc).length:Int):=h;rw[aad]at h;omega
     subst Ac;rw[aaO]at hq;exact absurd hq.symm eW
   |cons x r=>
    refine aB (fun h=>?_) (fun h=>?_)
    .have aC:k<ps.length:=by have h:(k:Int)<((ps.map bi.enc).length:Int):=h;rw[aad]at h;omega
     refine ag (d5 aC) ?_;refine i5 ps[k].aU (by have:=qq _ (aau aC);omega) ?_
     refine⟨by have e:=bc ((x::r).map bi.enc);have e2:=congrArg List.length hq;simp only[aad,aax,aaz]at e e2;simp only[cw,aax,aaT];omega,?_⟩
     refine⟨⟨k+1,((x::r)++ [ps[k]])⟩,⟨aC,(show((x::r)++ [ps[k]])=ps.take (k+1) by rw[aa8,aab aC,<-hq];rfl)⟩,(show ps.length-(k+1)<ps.length-k by omega),View.o 9 [0,1,2,3,4,8] [] ?_ ?_⟩
     .repeat(first|exact .nil|refine .ap ?_|refine .put (.aQ (aq om).symm) ?_|refine .eq rfl ?_)
     .exact(.pe rfl rfl rfl (.pe rfl rfl rfl (.pe rfl rfl rfl (.pr rfl rfl rfl (.pr rfl rfl rfl (.pt rfl rfl (.bV (by simp[cw,af,bi.enc])) (.nil _)))))))
    .have Ac:k=ps.length:=by have h:¬(k:Int)<((ps.map bi.enc).length:Int):=h;rw[aad]at h;omega
     subst Ac;rw[aaO]at hq;refine⟨.rv (.agg [.row 0 9 0 none,.row 1 2 0 none,.row 2 4 0 none]),_,View.o 6 [3,4,5] [] (.eq rfl .nil) (.pr rfl rfl rfl (.pr rfl rfl rfl (.pn rfl rfl rfl))),rfl,?_⟩;rw[hq]
  .refine⟨⟨rfl,rfl,trivial⟩,?_⟩;refine sD ops ho ?_;refine⟨trivial,trivial,?_⟩;refine aO (fun(a:Sa)=>a.k<=ps.length/\a.qs=ps.take a.k) [1,2,14,15] (fun a=>[(16,an .i64 (a.k:Nat)),(3,.rv (.one (.ptr 2 0)))]) (fun a=>match a.qs with
     | []=>[.var [.aa (cX l),.aa (eA ops),.aa (fC ps)],.var z3,.var [.row 3 9 0 none,.row 4 2 0 none,.aI],.row 9 (af (l.map Obj.enc)),.row 2 (af (ops.map bG.enc))]
     |x::r=>[.var [.aa (cX l),.aa (eA ops),.aa (fC ps)],.var z3,.var [.row 3 9 0 none,.row 4 2 0 none,.row 5 4 0 none],.row 9 (af (l.map Obj.enc)),.row 2 (af (ops.map bG.enc)),.row 4 (af ((x::r).map bi.enc))]) (fun a=>ps.length-a.k) ⟨0,[]⟩ ⟨aao _,rfl⟩ ?_ (fun a ha=>?_)
   .refine View.o1 6 [0,1,4,2,5] [] ?_
    .exact(.pe rfl rfl rfl (.pe rfl rfl rfl (.pe rfl rfl rfl (.pt rfl rfl (.bV (oQ l _ _ _ om)) (.pn rfl rfl rfl)))))
   obtain⟨k,qs⟩:=a;obtain⟨hk,hq⟩:=ha;have hk:k<=ps.length:=hk;have hq:qs=ps.take k:=hq;cases qs with
   |nil=>
    refine aB (fun h=>?_) (fun h=>?_)
    .have aC:k<ps.length:=by have h:(k:Int)<((ps.map bi.enc).length:Int):=h;rw[aad]at h;omega
     refine ag (d5 aC) ?_;refine i5 ps[k].aU (by have:=qq _ (aau aC);omega) ?_
     refine⟨by simp[cw],?_⟩
     refine⟨⟨k+1,[ps[k]]⟩,⟨aC,(show [ps[k]]=ps.take (k+1) by rw[aa8,aab aC,<-hq];rfl)⟩,(show ps.length-(k+1)<ps.length-k by omega),View.o 8 [0,1,2,3,4,7] [] ?_ ?_⟩
     .repeat(first|exact .nil|refine .ap ?_|refine .put (.aQ (aq om).symm) ?_|refine .eq rfl ?_)
     .exact(.pe rfl rfl rfl (.pe rfl rfl rfl (.pe rfl rfl rfl (.pr rfl rfl rfl (.pr rfl rfl rfl (.pt rfl rfl (.bV (by simp[cw,af,bi.enc])) (.nil _)))))))
    .have Ac:k=ps.length:=by have h:¬(k:Int)<((ps.map bi.enc).length:Int):=h;rw[aad]at h;omega
     subst Ac;rw[aaO]at hq;exact absurd hq.symm eW
   |cons x r=>
    refine aB (fun h=>?_) (fun h=>?_)
    .have aC:k<ps.length:=by have h:(k:Int)<((ps.map bi.enc).length:Int):=h;rw[aad]at h;omega
     refine ag (d5 aC) ?_;refine i5 ps[k].aU (by have:=qq _ (aau aC);omega) ?_
     refine⟨by have e:=bc ((x::r).map bi.enc);have e2:=congrArg List.length hq;simp only[aad,aax,aaz]at e e2;simp only[cw,aax,aaT];omega,?_⟩
     refine⟨⟨k+1,((x::r)++ [ps[k]])⟩,⟨aC,(show((x::r)++ [ps[k]])=ps.take (k+1) by rw[aa8,aab aC,<-hq];rfl)⟩,(show ps.length-(k+1)<ps.length-k by omega),View.o 9 [0,1,2,3,4,8] [] ?_ ?_⟩
     .repeat(first|exact .nil|refine .ap ?_|refine .put (.aQ (aq om).symm) ?_|refine .eq rfl ?_)
     .exact(.pe rfl rfl rfl (.pe rfl rfl rfl (.pe rfl rfl rfl (.pr rfl rfl rfl (.pr rfl rfl rfl (.pt rfl rfl (.bV (by simp[cw,af,bi.enc])) (.nil _)))))))
    .have Ac:k=ps.length:=by have h:¬(k:Int)<((ps.map bi.enc).length:Int):=h;rw[aad]at h;omega
     subst Ac;rw[aaO]at hq;refine⟨.rv (.agg [.row 0 9 0 none,.row 1 2 0 none,.row 2 4 0 none]),_,View.o 6 [3,4,5] [] (.eq rfl .nil) (.pr rfl rfl rfl (.pr rfl rfl rfl (.pn rfl rfl rfl))),rfl,?_⟩;rw[hq]
 .refine⟨⟨rfl,rfl,trivial⟩,?_⟩;refine vN l hf l.length ?_;rw[Cj];refine⟨⟨rfl,trivial⟩,?_⟩;refine sD ops ho ?_;refine⟨trivial,trivial,?_⟩;refine aO (fun(a:Sa)=>a.k<=ps.length/\a.qs=ps.take a.k) [1,2,14,15] (fun a=>[(16,an .i64 (a.k:Nat)),(3,.rv (.one (.ptr 2 0)))]) (fun a=>match a.qs with
    | []=>[.var [.aa (cX l),.aa (eA ops),.aa (fC ps)],.var z3,.var [.row 3 9 0 none,.row 4 2 0 none,.aI],.row 9 (af (l.map Obj.enc)),.row 2 (af (ops.map bG.enc))]
    |x::r=>[.var [.aa (cX l),.aa (eA ops),.aa (fC ps)],.var z3,.var [.row 3 9 0 none,.row 4 2 0 none,.row 5 4 0 none],.row 9 (af (l.map Obj.enc)),.row 2 (af (ops.map bG.enc)),.row 4 (af ((x::r).map bi.enc))]) (fun a=>ps.length-a.k) ⟨0,[]⟩ ⟨aao _,rfl⟩ ?_ (fun a ha=>?_)
  .refine View.o1 6 [0,1,2,3,5] [] ?_
   .exact(.pe rfl rfl rfl (.pe rfl rfl rfl (.pe rfl rfl rfl (.pt rfl rfl (.bV (oQ l _ _ _ om)) (.pn rfl rfl rfl)))))
  obtain⟨k,qs⟩:=a;obtain⟨hk,hq⟩:=ha;have hk:k<=ps.length:=hk;have hq:qs=ps.take k:=hq;cases qs with
  |nil=>
   refine aB (fun h=>?_) (fun h=>?_)
   .have aC:k<ps.length:=by have h:(k:Int)<((ps.map bi.enc).length:Int):=h;rw[aad]at h;omega
    refine ag (d5 aC) ?_;refine i5 ps[k].aU (by have:=qq _ (aau aC);omega) ?_
    refine⟨by simp[cw],?_⟩
    refine⟨⟨k+1,[ps[k]]⟩,⟨aC,(show [ps[k]]=ps.take (k+1) by rw[aa8,aab aC,<-hq];rfl)⟩,(show ps.length-(k+1)<ps.length-k by omega),View.o 8 [0,1,2,3,4,7] [] ?_ ?_⟩
    .repeat(first|exact .nil|refine .ap ?_|refine .put (.aQ (aq om).symm) ?_|refine .eq rfl ?_)
    .exact(.pe rfl rfl rfl (.pe rfl rfl rfl (.pe rfl rfl rfl (.pr rfl rfl rfl (.pr rfl rfl rfl (.pt rfl rfl (.bV (by simp[cw,af,bi.enc])) (.nil _)))))))
   .have Ac:k=ps.length:=by have h:¬(k:Int)<((ps.map bi.enc).length:Int):=h;rw[aad]at h;omega
    subst Ac;rw[aaO]at hq;exact absurd hq.symm eW
  |cons x r=>
   refine aB (fun h=>?_) (fun h=>?_)
   .have aC:k<ps.length:=by have h:(k:Int)<((ps.map bi.enc).length:Int):=h;rw[aad]at h;omega
    refine ag (d5 aC) ?_;refine i5 ps[k].aU (by have:=qq _ (aau aC);omega) ?_
    refine⟨by have e:=bc ((x::r).map bi.enc);have e2:=congrArg List.length hq;simp only[aad,aax,aaz]at e e2;simp only[cw,aax,aaT];omega,?_⟩
    refine⟨⟨k+1,((x::r)++ [ps[k]])⟩,⟨aC,(show((x::r)++ [ps[k]])=ps.take (k+1) by rw[aa8,aab aC,<-hq];rfl)⟩,(show ps.length-(k+1)<ps.length-k by omega),View.o 9 [0,1,2,3,4,8] [] ?_ ?_⟩
    .repeat(first|exact .nil|refine .ap ?_|refine .put (.aQ (aq om).symm) ?_|refine .eq rfl ?_)
    .exact(.pe rfl rfl rfl (.pe rfl rfl rfl (.pe rfl rfl rfl (.pr rfl rfl rfl (.pr rfl rfl rfl (.pt rfl rfl (.bV (by simp[cw,af,bi.enc])) (.nil _)))))))
   .have Ac:k=ps.length:=by have h:¬(k:Int)<((ps.map bi.enc).length:Int):=h;rw[aad]at h;omega
    subst Ac;rw[aaO]at hq;refine⟨.rv (.agg [.row 0 9 0 none,.row 1 2 0 none,.row 2 4 0 none]),_,View.o 6 [3,4,5] [] (.eq rfl .nil) (.pr rfl rfl rfl (.pr rfl rfl rfl (.pn rfl rfl rfl))),rfl,?_⟩;rw[hq]
theorem ix(l:List Obj)(ops:List bG)(ps:List bi)(hf:jZ l)(ho:ops.length<=4194304)(gE:ps.length<=4194304)(qq:∀p,p∈ps->p.aU.length<=10)(eW:ps≠[]){m:Mem}{K:CV->Mem->Prop}(h:K (.rv (.agg [.row m.length 9 0 none,.row (m.length+1) 2 0 none,.row (m.length+2) 4 0 none])) (m++ [.row 9 (af (l.map Obj.enc)),.row 2 (af (ops.map bG.enc)),.row 4 (af (ps.map bi.enc))])):ar Tryz.prog 66 [dJ l ops ps] m K:=by
 refine bC [] m.length rfl rfl rfl rfl (args0:=[dJ l ops ps]) rfl (fun i b' hi=>by simp at hi) (K0:=fun r m=>r= .rv (.agg [.row 0 9 0 none,.row 1 2 0 none,.row 2 4 0 none])/\m=[.row 9 (af (l.map Obj.enc)),.row 2 (af (ops.map bG.enc)),.row 4 (af (ps.map bi.enc))])
  (bN (aZ Tryz.func66 l66 (IQ l ops ps hf ho gE qq eW)) fun r m1 h=>h) (fun r m1 hr=>?_)
 obtain⟨rfl,rfl⟩:=hr;refine⟨aao _,?_⟩;show K (.rv (.agg [.row (m.length+(0-0)) 9 0 none,.row (m.length+(1-0)) 2 0 none,.row (m.length+(2-0)) 4 0 none])) (iI m [.row 9 ((af (l.map Obj.enc)).map (fun cs=>cs.map (CC.aQ (sg [] m.length)))),.row 2 ((af (ops.map bG.enc)).map (fun cs=>cs.map (CC.aQ (sg [] m.length)))),.row 4 ((af (ps.map bi.enc)).map (fun cs=>cs.map (CC.aQ (sg [] m.length))))])
 rw[dC,dC,dC,cr];exact h
def c87:LF:= ⟨9,[.tmp 4],(.seq (.ai [qu 4 (.aD (qb false))]) (.seq (.ai [qm 5 0,qm 6 1,qu 7 (qc 128 [5,6]),qu 8 (.aF .geq 7 (qi 0)),qm 4 8]) .ret))⟩
def c88:LF:= ⟨13,[.tmp 3],(.seq (.ai [qu 2 (.box 0),qu 3 (.aD (qb false))]) (.seq (.ai [qf 4 0 2,ql 5 4,qu 6 (.aF .eql 5 (qi 5)),qm 7 6,qg 8 (.bg 6 2) 7 true,qg 9 (.load false 1 8) 7 true,qg 10 (.load false 1 1) 7 true,qg 11 (.aF .eql 9 10) 7 true,qu 12 (.pick 7 11 (qb false)),qm 3 12]) .ret))⟩
def c127:LF:= ⟨13,[.tmp 3],(.seq (.ai [qu 2 (.box 0),qu 3 (.aD (qb false))]) (.seq (.ai [qf 4 0 2,ql 5 4,qu 6 (.aF .eql 5 (qi 5)),qm 7 6,qg 8 (.bg 6 2) 7 true,qg 9 (.load false 1 8) 7 true,qg 10 (.load false 1 1) 7 true,qg 11 (.aF .eql 9 10) 7 true,qu 12 (.pick 7 11 (qb false)),qm 3 12]) .ret))⟩
def dL(p:Int)(o:Obj):Bool:=o.ah==5&&o.aL==p
theorem l127:bs Tryz.prog Tryz.f127=some c127:=by kernel_rfl
theorem l88:bs Tryz.prog Tryz.f88=some c88:=by kernel_rfl
theorem l87:bs Tryz.prog Tryz.f87=some c87:=by kernel_rfl
theorem Cn(o:Obj)(p:Int):body Tryz.prog c127 [o.cv,.rv (.one (.ptr 0 0))] [.var ([Dt.val (.int .i64 p)].map .aa)] (fun r m=>r=ay (dL p o)/\∃ex,m= .var ([Dt.val (.int .i64 p)].map .aa)::ex):=by
 refine aE (fun h=>?_) (fun h=>?_)
 .refine⟨?_,_,rfl⟩;show ay _=ay _;rw[dL,h];rfl
 .refine⟨?_,_,rfl⟩;show ay _=ay _;rw[dL,h];rfl
theorem Sb(o:Obj)(p:Int)(K:CV->Mem->Prop)(h:K (ay (dL p o)) [.var ([Dt.val (.int .i64 p)].map .aa)]):ar Tryz.prog 127 [o.cv,.rv (.one (.ptr 0 0))] [.var ([Dt.val (.int .i64 p)].map .aa)] K:=
 eJ rfl (aZ Tryz.func127 l127 (Cn o p)) h
theorem Co(o:Obj)(p:Int):body Tryz.prog c88 [o.cv,.rv (.one (.ptr 0 0))] [.var ([Dt.val (.int .i64 p)].map .aa)] (fun r m=>r=ay (dL p o)/\∃ex,m= .var ([Dt.val (.int .i64 p)].map .aa)::ex):=by
 refine aE (fun h=>?_) (fun h=>?_)
 .refine⟨?_,_,rfl⟩;show ay _=ay _;rw[dL,h];rfl
 .refine⟨?_,_,rfl⟩;show ay _=ay _;rw[dL,h];rfl
theorem Sc(o:Obj)(p:Int)(K:CV->Mem->Prop)(h:K (ay (dL p o)) [.var ([Dt.val (.int .i64 p)].map .aa)]):ar Tryz.prog 88 [o.cv,.rv (.one (.ptr 0 0))] [.var ([Dt.val (.int .i64 p)].map .aa)] K:=
 eJ rfl (aZ Tryz.func88 l88 (Co o p)) h
theorem yX{l:List Obj}{n:Nat}(h:n<l.length):dU (n:Int) (lenOf (af (l.map Obj.enc)).length 0 none)=some n:=bT (by show n<(af (l.map Obj.enc)).length;rw[bc,aad];exact h)
theorem IS(l:List Obj)(hb:l.length<=4194304)(F:Nat)(cs:List Dt)(q:Obj->Bool)(hF:∀s,∀K:CV->Mem->Prop,K (ay (q s)) [.var (cs.map .aa)]->ar Tryz.prog F [s.cv,.rv (.one (.ptr 0 0))] [.var (cs.map .aa)] K):
  body Tryz.prog c128 [.rv (.one (.row 0 9 0 none)),.rv (.one (.fn F [1]))] [.row 9 (af (l.map Obj.enc)),.var (cs.map .aa)] (fun r m=>r=an .i64 (nJ q l)/\m=[.row 9 (af (l.map Obj.enc)),.var (cs.map .aa)]):=by
 refine aO (fun k=>k<=l.length/\∀(j:Nat)s,j<k->l[j]? =some s->q s=false) [0,1,7] (fun k=>[(8,an .i64 (k:Nat))]) (fun _=>[.row 9 (af (l.map Obj.enc)),.var (cs.map .aa)]) (fun k=>l.length-k) 0 ⟨aao _,fun j s h=>absurd h (aaL j)⟩ ?_ (fun k hk=>?_)
 .refine View.o1 2 [0,1] [] ?_
  .exact .pr rfl rfl rfl (.pt rfl rfl (.fK rfl) (.nil _))
 .refine aB (fun h=>?_) (fun h=>?_)
  .have aC:k<l.length:=by have h:(k:Int)<((af (l.map Obj.enc)).length:Int):=h;rw[bc,aad]at h;omega
   refine ag (yX aC) ?_;refine ag (bI Obj.enc l aC) ?_;have hi:=aab aC;have Vh:=kP (q:=q) aC;generalize l[k]=o at hi Vh;refine fb (args0:=[o.cv,.rv (.one (.ptr 0 0))]) (cs:=cs) 1 rfl rfl (r0:=ay (q o)) rfl (fun K hK=>hF o K hK) ?_
   refine aE (fun Hc=>?_) (fun Hc=>?_)
   .rw[Vh Hc hk.2];exact⟨rfl,rfl⟩
   .refine⟨k+1,⟨aC,fun j s hj hs=>?_⟩,(show l.length-(k+1)<l.length-k by omega),View.o 2 [0,1] [] ?_ ?_⟩
    .rcases aaq j k with h5|h5
     .exact hk.2 j s h5 hs
     .have:j=k:=om;subst this;rw[hi]at hs;cases hs;exact Hc
    .repeat(first|exact .nil|refine .ap ?_|refine .put (.aQ (aq om).symm) ?_|refine .eq rfl ?_)
    .exact .pr rfl rfl rfl (.pt rfl rfl (.fK rfl) (.nil _))
  .have ei:¬(k:Int)<((af (l.map Obj.enc)).length:Int):=h;rw[bc,aad]at ei;rw[mC fun j s hs=>hk.2 j s (by have:=(aac.1 hs).1;omega) hs]
   exact⟨rfl,rfl⟩
theorem ES(l:List Obj)(hb:l.length<=4194304)(F:Nat)(cs:List Dt)(q:Obj->Bool)(hF:∀s,∀K:CV->Mem->Prop,K (ay (q s)) [.var (cs.map .aa)]->ar Tryz.prog F [s.cv,.rv (.one (.ptr 0 0))] [.var (cs.map .aa)] K):
  body Tryz.prog c87 [.rv (.one (.row 0 9 0 none)),.rv (.one (.fn F [1]))] [.row 9 (af (l.map Obj.enc)),.var (cs.map .aa)] (fun r m=>r=ay (l.any q)/\m=[.row 9 (af (l.map Obj.enc)),.var (cs.map .aa)]):=by
 refine(aZ Tryz.func128 l128 (IS l hb F cs q hF)).mono fun r m⟨hr,hm⟩=>?_
 subst hr hm;refine⟨?_,rfl⟩;show ay _=ay _;rw[<-rh]
theorem LZ(l:List Obj)(hb:l.length<=4194304)(F:Nat)(cs:List Dt)(q:Obj->Bool)(hF:∀s,∀K:CV->Mem->Prop,K (ay (q s)) [.var (cs.map .aa)]->ar Tryz.prog F [s.cv,.rv (.one (.ptr 0 0))] [.var (cs.map .aa)] K):
  ar Tryz.prog 87 [.rv (.one (.row 0 9 0 none)),.rv (.one (.fn F [1]))] [.row 9 (af (l.map Obj.enc)),.var (cs.map .aa)] (fun r m=>r=ay (l.any q)/\m=[.row 9 (af (l.map Obj.enc)),.var (cs.map .aa)]):=
 aZ Tryz.func87 l87 (ES l hb F cs q hF)
def c86:LF:= ⟨146,[.tmp 2],(.seq (.ai [qu 2 (.aD (qb false))]) (.seq (.ai [qm 10 0,qu 11 (qc 126 [10]),qm 3 11]) (.seq (.seq (.ai [qm 12 0,qu 13 (.aW 12),qf 14 0 13,ql 15 14,qu 16 (.len 1 15),qu 17 (.aD (qi 0))]) (.block 0 (.loop (.seq (.ai [qu 18 (.aF .lss 17 16)]) (.seq (.cond 18 .skip (.exit 0)) (.seq (.block 1 (.seq (.ai [qm 19 17,qm 4 19]) (.seq (.seq (.ai [qm 20 3,qu 21 (.aW 20),qf 22 1 21,ql 23 22,qm 24 4,qu 25 (.bO 1 23 24),ql 26 25,qm 27 26,qg 28 (.aD 0) 27 false,qg 29 (.aW 28) 27 false,qg 30 (.bg 0 29) 27 false,qg 31 (.load false 1 30) 27 false,qg 32 (.aD 4) 27 false,qg 33 (.bO 9 31 32) 27 false,qg 34 (.bg 0 33) 27 false,qg 35 (.load false 1 34) 27 false,qg 36 (.aF .eql 35 (qi 0)) 27 false,qu 37 (.pick 27 (qb true) 36)]) (.cond 37 (.exit 1) .skip)) (.seq (.seq (.ai [qm 38 0,qu 39 (.aW 38),qf 40 0 39,ql 41 40,qu 42 (.len 1 41),qu 43 (.aD (qi 0))]) (.block 2 (.loop (.seq (.ai [qu 44 (.aF .lss 43 42)]) (.seq (.cond 44 .skip (.exit 2)) (.seq (.block 3 (.seq (.ai [qm 45 43,qm 5 45]) (.seq (.ai [qm 46 0,qu 47 (.aW 46),qf 48 0 47,ql 49 48,qm 50 5,qu 51 (.bO 9 49 50),qf 52 0 51,ql 53 52,qu 54 (.aF .eql 53 (qi 4)),qm 55 54,qg 56 (.aD 0) 55 true,qg 57 (.aW 56) 55 true,qg 58 (.bg 0 57) 55 true,qg 59 (.load false 1 58) 55 true,qg 60 (.aD 5) 55 true,qg 61 (.bO 9 59 60) 55 true,qg 62 (.bg 4 61) 55 true,qg 63 (.load false 1 62) 55 true,qg 64 (.aD 4) 55 true,qg 65 (.aF .eql 63 64) 55 true,qu 66 (.pick 55 65 (qb false))]) (.cond 66 (.ai [qm 67 0,qu 68 (.aW 67),qf 69 0 68,ql 70 69,qm 71 5,qu 72 (.bO 9 70 71),qf 73 4 72,qw (.store 1 73 (qi (-1)))]) .skip)))) (.ai [qu 74 (.aF .add 43 (qi 1)),qm 43 74]))))))) (.ai [qm 75 0,qu 76 (.aW 75),qf 77 0 76,ql 78 77,qm 79 4,qu 80 (.build [(qd 0),.aI,.aI,(.aa (.val (.string ⟨#[]⟩))),(qd 0),.aI,(qd 0),(qd 0),(qd 0)] []),qu 81 (.bO 9 78 79),qw (.store 9 81 80)]))))) (.ai [qu 82 (.aF .add 17 (qi 1)),qm 17 82]))))))) (.seq (.seq (.ai [qm 83 0,qu 84 (.aW 83),qf 85 1 84,ql 86 85,qu 87 (.len 1 86),qu 88 (.aD (qi 0))]) (.block 4 (.loop (.seq (.ai [qu 89 (.aF .lss 88 87)]) (.seq (.cond 89 .skip (.exit 4)) (.seq (.block 5 (.seq (.ai [qm 90 88,qm 6 90]) (.seq (.ai [qm 91 3,qu 92 (.aW 91),qf 93 2 92,ql 94 93,qm 95 6,qu 96 (.bO 1 94 95),ql 97 96,qu 98 (.un .not 97)]) (.cond 98 (.ai [qm 99 0,qu 100 (.aW 99),qf 101 1 100,ql 102 101,qm 103 6,qu 104 (.build [(qd 0),(qd 0)] [(0,1,(qi (-1)))]),qu 105 (.bO 2 102 103),qw (.store 2 105 104)]) .skip)))) (.ai [qu 106 (.aF .add 88 (qi 1)),qm 88 106]))))))) (.seq (.ai [qu 7 (.aD (qb false))]) (.seq (.seq (.ai [qm 107 0,qu 108 (.aW 107),qf 109 2 108,ql 110 109,qu 111 (.len 1 110),qu 112 (.aD (qi 0))]) (.block 6 (.loop (.seq (.ai [qu 113 (.aF .lss 112 111)]) (.seq (.cond 113 .skip (.exit 6)) (.seq (.block 7 (.seq (.ai [qm 114 112,qu 8 (.alloc [(qd 0)]),qw (.store 1 8 114)]) (.seq (.ai [qm 115 0,qu 116 (.aW 115),qf 117 0 116,ql 118 117,qu 119 (.fn 127 [8]),qu 120 (qc 87 [118,119]),qm 9 120]) (.seq (.bQ [ql 121 8,qu 122 (.aF .gtr 121 (qi 0)),qm 123 122,qg 124 (.aD 0) 123 true,qg 125 (.aW 124) 123 true,qg 126 (.bg 2 125) 123 true,qg 127 (.load false 1 126) 123 true,qg 128 (.load false 1 8) 123 true,qg 129 (.bO 4 127 128) 123 true,qg 130 (.bg 0 129) 123 true,qg 131 (.load false 1 130) 123 true,qu 132 (.pick 123 131 (qb false)),qm 133 132,qg 134 (.aD 9) 133 true,qg 135 (.un .not 134) 133 true,qu 136 (.pick 133 135 (qb false))] [(.cons 0 none (.cons 1 none (.cons 2 none (.cons 3 none (.cons 4 none (.cons 5 none (.cons 6 none (.cons 7 none (.cons 8 none (.cons 9 none (.cons 10 none (.cons 11 none (.cons 12 none (.cons 13 none (.cons 14 none (.cons 15 none .nil))))))))))))))))]) (.cond 136 (.seq (.bQ [qm 137 0,qu 138 (.aW 137),qf 139 2 138,ql 140 139,ql 141 8,qu 142 (.build [(.aa (.val (.bool false))),(.aa (.val (.bool false))),(qd 0),.aI] []),qu 143 (.bO 4 140 141),qw (.store 4 143 142)] [(.cons 0 none (.cons 1 none (.cons 2 none (.cons 3 none (.cons 4 none (.cons 5 none (.cons 6 none (.cons 7 (some []) .nil))))))))]) (.ai [qu 7 (.aD (qb true))])) .skip))))) (.ai [qu 144 (.aF .add 112 (qi 1)),qm 112 144]))))))) (.seq (.ai [qm 145 7,qm 2 145]) .ret)))))))⟩
def Pt{α:Type}(l L:List α)(f:Nat->α->α):Prop:=L.length=l.length/\∀(t:Nat)o,l[t]? =some o->L[t]? =some (f t o)
theorem Pt.refl{α:Type}(l:List α):Pt l l fun _ o=>o:=⟨rfl,fun _ _ h=>h⟩
theorem Pt.congr{α:Type}{l L:List α}{f g:Nat->α->α}(h:Pt l L f)(hfg:∀(t:Nat)o,l[t]? =some o->f t o=g t o):Pt l L g:=
 ⟨h.1,fun t o ho=>by rw[<-hfg t o ho];exact h.2 t o ho⟩
theorem Pt.set{α:Type}{l L:List α}{f g:Nat->α->α}(h:Pt l L f){j:Nat}{x:α}(hx:∀o,l[j]? =some o->g j o=x)(ho:∀(t:Nat)o,t≠j->l[t]? =some o->g t o=f t o):Pt l (L.set j x) g:=by
 refine⟨by simpa using h.1,fun t o DF=>?_⟩
 have aC:t<L.length:=by rw[h.1];exact(aac.1 DF).1
 by_cases Kl:t=j
 .subst Kl;rw[hx o DF];simp[aC]
 .rw[aas (fun e=>Kl e.symm),ho t o Kl DF]
  exact h.2 t o DF
theorem Pt.at{α:Type}{l L:List α}{f:Nat->α->α}(h:Pt l L f){j:Nat}(hj:j<l.length):∃hL:j<L.length,L[j]=f j l[j]:=by
 have hL:j<L.length:=by rw[h.1];exact hj
 have:=h.2 j l[j] (aab hj);rw[aab hL]at this;exact⟨hL,by simpa using this⟩
theorem mZ.L4{σ:Nat->Nat}{m:Mem}{Z:Nat->Prop}{id s:Nat}(ds:List (List Dt))(i:Nat){cs:List CC}{d:List Dt}(hl:cs.length=d.length)(h:∀(j:Nat)c c',cs[j]? =some c->(d.map CC.aa)[j]? =some c'->qt σ m Z (some id) c c'):mZ σ m Z id (.row s (ba (af ds) i cs)) (.row s (af (ds.set i d))):=by
 rw[bn];have e:af (ds.set i d)=(af ds).set i (d.map .aa):=by simp[af,aa6]
 rw[e];refine .row s aG (fun t xs ys h1 h2=>?_) (fun t xs ys j c c' h1 h2 h3 h4=>?_)
 .rw[aaQ]at h1 h2;split at h1
  .rename_i Lw;rw[if_pos Lw]at h2;split at h1
   .rename_i aC;rw[if_pos aC]at h2;cases h1;cases h2;simpa using hl
   .cases h1
  .rename_i Lw;rw[if_neg Lw]at h2;rw[h1]at h2;cases h2;rfl
 .rw[aaQ]at h1 h2;split at h1
  .rename_i Lw;rw[if_pos Lw]at h2;split at h1
   .rename_i aC;rw[if_pos aC]at h2;cases h1;cases h2;exact h j c c' h3 h4
   .cases h1
  .rename_i Lw;rw[if_neg Lw]at h2;rw[h1]at h2;cases h2;rw[h3]at h4;cases h4;have hd:∃d,c= .aa d:=by rw[af,aaf]at h1;obtain⟨es,_,rfl⟩:=aaD.1 h1;rw[aaf]at h3;obtain⟨d,_,rfl⟩:=aaD.1 h3;exact⟨d,rfl⟩
   obtain⟨d,rfl⟩:=hd;exact .aQ (.aa d)
def gH:Obj:=⟨0,[],[],⟨#[]⟩,0,[],0,0,0⟩
def QR:List CC:=[.aa (.val (.int .i64 0)),.aI,.aI,.aa (.val (.string ⟨#[]⟩)),.aa (.val (.int .i64 0)),.aI,.aa (.val (.int .i64 0)),.aa (.val (.int .i64 0)),.aa (.val (.int .i64 0))]
theorem YF{σ:Nat->Nat}{m:Mem}{Z:Nat->Prop}{id:Nat}(L:List Obj)(i:Nat):mZ σ m Z id (.row 9 (ba (af (L.map Obj.enc)) i QR)) (.row 9 (af ((L.set i gH).map Obj.enc))):=by
 rw[aa6];refine mZ.L4 (L.map Obj.enc) i rfl fun j c c' h1 h2=>?_
 match j,h1,h2 with
 |0,h1,h2=>cases h1;cases h2;exact .aQ (.aa _)
 |1,h1,h2=>cases h1;cases h2;exact .fv (.aI 1)
 |2,h1,h2=>cases h1;cases h2;exact .fv (.aI 2)
 |3,h1,h2=>cases h1;cases h2;exact .aQ (.aa _)
 |4,h1,h2=>cases h1;cases h2;exact .aQ (.aa _)
 |5,h1,h2=>cases h1;cases h2;exact .fv (.aI 4)
 |6,h1,h2=>cases h1;cases h2;exact .aQ (.aa _)
 |7,h1,h2=>cases h1;cases h2;exact .aQ (.aa _)
 |8,h1,h2=>cases h1;cases h2;exact .aQ (.aa _)
 |n+9,h1,h2=>simp[QR]at h1
def fQ:bi:=⟨false,false,0,[]⟩
theorem QS{σ:Nat->Nat}{m:Mem}{Z:Nat->Prop}{id:Nat}(L:List bi)(i:Nat):mZ σ m Z id (.row 4 (ba (af (L.map bi.enc)) i [.aa (.val (.bool false)),.aa (.val (.bool false)),.aa (.val (.int .i64 0)),.aI])) (.row 4 (af ((L.set i fQ).map bi.enc))):=by
 rw[aa6];refine mZ.L4 (L.map bi.enc) i rfl fun j c c' h1 h2=>?_
 match j,h1,h2 with
 |0,h1,h2=>cases h1;cases h2;exact .aQ (.aa _)
 |1,h1,h2=>cases h1;cases h2;exact .aQ (.aa _)
 |2,h1,h2=>cases h1;cases h2;exact .aQ (.aa _)
 |3,h1,h2=>cases h1;cases h2;exact .fv (.aI 3)
 |n+4,h1,h2=>simp at h1
def eK(b:Mk)(l:List Obj)(i:Nat):Bool:=match l[i]? with
 |some o=>!(b.O[i]? ==some true)&&o.ah !=0
 |none=>false
def lM(b:Mk)(l:List Obj)(k:Nat)(z:Int):Bool:=decide (0<=z/\z.toNat<k)&&eK b l z.toNat
def cu(b:Mk)(l:List Obj)(k:Nat)(j:Nat)(o:Obj):Obj:=if(eK b l j&&decide (j<k))=true then gH else if(o.ah==4&&lM b l k o.aJ)=true then {o with aJ:= -1}else o
def i7(i:Nat)(o:Obj):Obj:=if(o.ah==4&&o.aJ==(i:Int))=true then {o with aJ:= -1}else o
theorem vV(b:Mk)(l:List Obj)(i:Nat)(z:Int):lM b l (i+1) z=(lM b l i z||(z==(i:Int)&&eK b l i)):=by
 unfold lM;by_cases h:z=(i:Int)
 .subst h;simp
 .have h1:(z==(i:Int))=false:=by simpa using h
  rw[h1];have:decide (0<=z/\z.toNat<i+1)=decide (0<=z/\z.toNat<i):=by
   apply decide_eq_decide.2;constructor<;>intro⟨h2,h3⟩<;>exact⟨h2,om⟩
  rw[this];simp
theorem IT{b:Mk}{l:List Obj}{i:Nat}(h:eK b l i=false)(j:Nat)(o:Obj):cu b l i j o=cu b l (i+1) j o:=by
 have h1:(eK b l j&&decide (j<i+1))=(eK b l j&&decide (j<i)):=by
  by_cases hj:j=i
  .subst hj;rw[h];simp
  .have:decide (j<i+1)=decide (j<i):=decide_eq_decide.2 om;rw[this]
 unfold cu;rw[h1,vV,h];simp
theorem ET{b:Mk}{l:List Obj}{i:Nat}(h:eK b l i=true){j:Nat}(hj:j≠i)(o:Obj):i7 i (cu b l i j o)=cu b l (i+1) j o:=by
 have h1:(eK b l j&&decide (j<i+1))=(eK b l j&&decide (j<i)):=by have:decide (j<i+1)=decide (j<i):=decide_eq_decide.2 om;rw[this]
 unfold cu;rw[h1,vV,h];by_cases hd:(eK b l j&&decide (j<i))=true
 .rw[if_pos hd,if_pos hd];rfl
 .rw[if_neg hd,if_neg hd];by_cases hk:(o.ah==4)=true
  .by_cases hz:lM b l i o.aJ=true
   .rw[hk,hz];simp[i7]
   .rw[ab1]at hz;rw[hk,hz];by_cases hp:(o.aJ==(i:Int))=true
    .simp[i7,hk,hp]
    .rw[ab1]at hp;simp[i7,hp]
  .rw[ab1]at hk;rw[hk];simp[i7,hk]
theorem Cp{b:Mk}{l:List Obj}{i:Nat}(h:eK b l i=true)(o:Obj):cu b l (i+1) i o=gH:=by unfold cu;rw[h];simp
theorem Cq(b:Mk)(l:List Obj)(j:Nat)(o:Obj):cu b l 0 j o=o:=by
 unfold cu;have:lM b l 0 o.aJ=false:=by simp[lM]
 rw[this];simp
theorem Cr{b:Mk}{l:List Obj}{i:Nat}(o:Obj):(cu b l i i o).ah=o.ah:=by
 unfold cu;simp;split<;>rfl
end Go.Proofs.YtojhmadmlnfpcaaGreatDoor
