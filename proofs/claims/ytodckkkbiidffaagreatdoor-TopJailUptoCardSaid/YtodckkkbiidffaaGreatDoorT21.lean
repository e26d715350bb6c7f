/- Part 21 of 39: what the law stands on. -/
import Derived.Test.YtodckkkbiidffaaGreatDoorT16
import Derived.Test.YtodckkkbiidffaaGreatDoorT20
set_option linter.unusedVariables false
set_option linter.unusedSimpArgs false
set_option linter.unnecessarySimpa false
set_option maxRecDepth 100000
set_option maxHeartbeats 64000000
namespace Go.Proofs.YtodckkkbiidffaaGreatDoor
open Go.AM Go.ChangeShapes Go.WideShapes Go.ChangeAt Go.RowKit
def lP(L:List Obj)(t:Nat)(o:bj):Bool:=decide (0<t)&&(o.a7&& !(L.any (eD (t:Int))))
def Bc(b:Mk)(k:Nat)(t:Nat)(o:bD):bD:=if(decide (t<k)&& !(b.P[t]? ==some true))=true then⟨-1,0⟩else o
def wu(L:List Obj)(k:Nat)(t:Nat)(o:bj):bj:=if(decide (t<k)&&lP L t o)=true then fF else o
def ko(L:List Obj)(ps:List bj)(k:Nat):Bool:=(List.range k).any fun t=>match ps[t]? with
 |some o=>lP L t o
 |none=>false
structure da(l:List Obj)(ops:List bD)(ps:List bj)(L:List Obj)(L2:List bD)(L3:List bj)(en:Bool):Prop where
 ex:∃b,kL l ops ps b/\Pt l L (cA b l l.length)/\Pt ops L2 (Bc b ops.length)
 pr:Pt ps L3 (wu L ps.length)
 en:en=ko L ps ps.length
structure X0 where
 i:Nat
 L:List Obj
structure VM where
 i:Nat
 L:List bD
structure ZK where
 i:Nat
 L:List bj
 en:Bool
theorem xO{l:List bD}{n:Nat}(h:n<l.length):dp (n:Int) (lenOf (af (l.map bD.enc)).length 0 none)=some n:=bZ (by show n<(af (l.map bD.enc)).length;rw[bb,KB];exact h)
theorem kM{l:List bj}{n:Nat}(h:n<l.length):dp (n:Int) (lenOf (af (l.map bj.enc)).length 0 none)=some n:=bZ (by show n<(af (l.map bj.enc)).length;rw[bb,KB];exact h)
theorem tX{α:Type}{f:α->List Dt}{l:List α}{k:Nat}(h:(k:Int)<(((af (l.map f)).length:Nat):Int)):k<l.length:=by rw[bb,KB]at h;omega
theorem tY{α:Type}{f:α->List Dt}{l:List α}{k:Nat}(h:¬(k:Int)<(((af (l.map f)).length:Nat):Int)):l.length<=k:=by rw[bb,KB]at h;omega
theorem Cg{L:List Obj}{ps:List bj}{p:Nat}(h:p<ps.length):ko L ps (p+1)=(ko L ps p||lP L p ps[p]):=by
 unfold ko;rw[List.range_succ,List.any_append,sA h|>fun e=>(by simp[e]:(List.any [p] fun t=>match ps[t]? with|some o=>lP L t o|none=>false)=lP L p ps[p])]
theorem Ch(L:List Obj)(L2:List bD)(L3:List bj)(b:Mk)(p:Nat)(hl:L.length<=4194304){K:CV->Mem->Prop}(h:K (ay (L.any (eD (p:Int)))) [.var [.row 1 9 0 none,.row 2 2 0 none,.row 3 4 0 none],.row 9 (af (L.map Obj.enc)),.row 2 (af (L2.map bD.enc)),.row 4 (af (L3.map bj.enc)),.var [.ptr 0 0,.row 5 1 0 none,.row 6 1 0 none],.row 1 (af (b.O.map bE)),.row 1 (af (b.P.map bE)),.var [.aa (.val (.int .i64 (p:Nat)))]]):aq Tryz.prog 80 [.rv (.one (.row 1 9 0 none)),.rv (.one (.fn 120 [7]))] [.var [.row 1 9 0 none,.row 2 2 0 none,.row 3 4 0 none],.row 9 (af (L.map Obj.enc)),.row 2 (af (L2.map bD.enc)),.row 4 (af (L3.map bj.enc)),.var [.ptr 0 0,.row 5 1 0 none,.row 6 1 0 none],.row 1 (af (b.O.map bE)),.row 1 (af (b.P.map bE)),.var [.aa (.val (.int .i64 (p:Nat)))]] K:=by
 refine bw [1,7] 8 rfl rfl rfl rfl (args0:=[.rv (.one (.row 0 9 0 none)),.rv (.one (.fn 120 [1]))]) rfl (fun i b' hi=>?_) (IV L hl 120 [.val (.int .i64 (p:Nat))] (eD (p:Int)) (fun s K hK=>OZ s p K hK)) (fun r m1 hr=>?_)
 .match i,hi with
  |0,hi=>cases hi;exact .inr ⟨fun h=>h,_,rfl,.bP rfl⟩
  |1,hi=>cases hi;exact .inr ⟨fun h=>h,_,rfl,.km rfl⟩
  |n+2,hi=>simp at hi
 .obtain⟨rfl,rfl⟩:=hr;refine⟨Pq _,?_⟩;have e:(Bk.row 9 (af (L.map Obj.enc))).aQ (sg [1,7] 8)= .row 9 (af (L.map Obj.enc)):=by simp only[Bk.aQ,db]
  show K _ [.var [.row 1 9 0 none,.row 2 2 0 none,.row 3 4 0 none],(Bk.row 9 (af (L.map Obj.enc))).aQ (sg [1,7] 8),.row 2 (af (L2.map bD.enc)),.row 4 (af (L3.map bj.enc)),.var [.ptr 0 0,.row 5 1 0 none,.row 6 1 0 none],.row 1 (af (b.O.map bE)),.row 1 (af (b.P.map bE)),.var [.aa (.val (.int .i64 (p:Nat)))]];rw[e];exact h
theorem l79:bs Tryz.prog Tryz.f79=some c79:=by kernel_rfl
theorem FZ(l:List Obj)(ops:List bD)(ps:List bj)(g:∀o,o∈l->o.sm)(hl:l.length<=4194304)(ho:ops.length<=4194304)(ix:ps.length<=4194304)(oP:∀p,p∈ps->p.bd.length<=10):
  body Tryz.prog c79 [.rv (.one (.ptr 0 0))] [.var [.row 1 9 0 none,.row 2 2 0 none,.row 3 4 0 none],.row 9 (af (l.map Obj.enc)),.row 2 (af (ops.map bD.enc)),.row 4 (af (ps.map bj.enc))]
   (fun r m=>∃r' m',View 4 ⟨[r],m⟩ ⟨[r'],m'⟩/\∃L L2 L3 en,da l ops ps L L2 L3 en/\r'=ay en/\m'=[.var [.row 1 9 0 none,.row 2 2 0 none,.row 3 4 0 none],.row 9 (af (L.map Obj.enc)),.row 2 (af (L2.map bD.enc)),.row 4 (af (L3.map bj.enc))]):=by
 refine(IU l ops ps g hl ho ix oP).mono fun r m⟨b,hb,hr,hm⟩=>?_
 subst hr hm;have hbO:=hb.len.1;have hbP:=hb.len.2;refine ba (fun(s:X0)=>s.i<=l.length/\Pt l s.L (cA b l s.i)) [0,3,16] (fun s=>[(17,an .i64 (s.i:Nat))]) (fun s=>[.var [.row 1 9 0 none,.row 2 2 0 none,.row 3 4 0 none],.row 9 (af (s.L.map Obj.enc)),.row 2 (af (ops.map bD.enc)),.row 4 (af (ps.map bj.enc)),.var [.ptr 0 0,.row 5 1 0 none,.row 6 1 0 none],.row 1 (af (b.O.map bE)),.row 1 (af (b.P.map bE))]) (fun s=>l.length-s.i) ⟨0,l⟩ ⟨Wi _,(Pt.refl l).congr fun t o _=>(zS b l t o).symm⟩ ?_ (fun s hs=>?_)
 .refine View.o1 7 [0,1,2,3,4,5,6] [] ?_
  .exact(.pe rfl rfl rfl (.pr rfl rfl rfl (.pr rfl rfl rfl (.pr rfl rfl rfl (.pe rfl rfl rfl (.pr rfl rfl rfl (.pn rfl rfl rfl)))))))
 obtain⟨i,L⟩:=s;obtain⟨hi,zU⟩:=hs;have hi:i<=l.length:=hi;have zU:Pt l L (cA b l i):=zU;refine aJ (fun h=>?_) (fun h=>?_)
 .have aE:i<l.length:=tX h;have T9:i<b.O.length:=om;refine ag (wo T9) ?_;refine ag (qH T9) ?_;have nG:∀(hd:eT b l i=false),Pt l L (cA b l (i+1)):=fun hd=>zU.congr fun t o _=>FY hd t o
  refine aD (fun h2=>?_) (fun h2=>?_)
  .have hd:eT b l i=false:=by unfold eT;rw[sA aE,sA T9,h2];simp
   refine⟨⟨i+1,L⟩,⟨aE,nG hd⟩,(show l.length-(i+1)<l.length-i by omega),View.o 7 [0,1,2,3,4,5,6] [] ?_ ?_⟩
   .repeat(first|exact .nil|refine .ar ?_|refine .put (.aQ (aL om).symm) ?_|refine .eq rfl ?_)
   .exact(.pe rfl rfl rfl (.pr rfl rfl rfl (.pr rfl rfl rfl (.pr rfl rfl rfl (.pe rfl rfl rfl (.pr rfl rfl rfl (.pn rfl rfl rfl)))))))
  .obtain⟨hL,ZL⟩:=zU.at aE;have Qi:L[i].ah=l[i].ah:=by rw[ZL,zT]
   refine ag (wt hL) ?_;refine ag (bC Obj.enc L hL) ?_;refine bA (fun h3=>?_) (fun h3=>?_)
   .have h3:L[i].ah=0:=h3;have hd:eT b l i=false:=by unfold eT;rw[sA aE];show(!(b.O[i]? ==some true)&&l[i].ah !=0)=false;rw[<-Qi,h3];simp
    refine⟨⟨i+1,L⟩,⟨aE,nG hd⟩,(show l.length-(i+1)<l.length-i by omega),View.o 7 [0,1,2,3,4,5,6] [] ?_ ?_⟩
    .repeat(first|exact .nil|refine .ar ?_|refine .put (.aQ (aL om).symm) ?_|refine .eq rfl ?_)
    .exact(.pe rfl rfl rfl (.pr rfl rfl rfl (.pr rfl rfl rfl (.pr rfl rfl rfl (.pe rfl rfl rfl (.pr rfl rfl rfl (.pn rfl rfl rfl)))))))
   .have h3:L[i].ah≠0:=h3;have hd:eT b l i=true:=by unfold eT;rw[sA aE,sA T9,h2];simp[<-Qi,h3]
    have ZM:=zU.1;refine ba (fun(s:X0)=>s.i<=l.length/\Pt l s.L (fun t o=>if t<s.i then ik i (cA b l i t o)else cA b l i t o)) [0,3,4,16,17,42] (fun s=>[(43,an .i64 (s.i:Nat))]) (fun s=>[.var [.row 1 9 0 none,.row 2 2 0 none,.row 3 4 0 none],.row 9 (af (s.L.map Obj.enc)),.row 2 (af (ops.map bD.enc)),.row 4 (af (ps.map bj.enc)),.var [.ptr 0 0,.row 5 1 0 none,.row 6 1 0 none],.row 1 (af (b.O.map bE)),.row 1 (af (b.P.map bE))]) (fun s=>l.length-s.i) ⟨0,L⟩ ⟨Wi _,zU.congr fun t o _=>aI⟩ ?_ (fun s hs=>?_)
    .refine View.o1 7 [0,1,2,3,4,5,6] [] ?_
     .exact(.pe rfl rfl rfl (.pr rfl rfl rfl (.pr rfl rfl rfl (.pr rfl rfl rfl (.pe rfl rfl rfl (.pr rfl rfl rfl (.pn rfl rfl rfl)))))))
    clear zU nG;obtain⟨j,M⟩:=s;obtain⟨hj,zU⟩:=hs;have hj:j<=l.length:=hj;have zU:Pt l M (fun t o=>if t<j then ik i (cA b l i t o)else cA b l i t o):=zU
    have hMl:=zU.1;refine aJ (fun lG=>?_) (fun lG=>?_)
    .have dL:j<L.length:=tX lG;have F0:j<l.length:=om;obtain⟨hM,Qj⟩:=zU.at F0;simp only[Nat.lt_irrefl,if_false]at Qj;have iZ:=fun x=>zU.set (j:=j) (x:=x) (g:=fun t o=>if t<j+1 then ik i (cA b l i t o)else cA b l i t o)
     have pb:=fun(hh:ik i M[j]=M[j])=>zU.congr (g:=fun t o=>if t<j+1 then ik i (cA b l i t o)else cA b l i t o) fun t o ho=>by
      by_cases Hp:t=j
      .subst Hp;rw[sA F0]at ho;cases ho;simp only[Nat.lt_irrefl,if_false,aa3,if_true];rw[<-Qj,hh]
      .have e1:(t<j+1)↔(t<j):=om;simp only[e1]
     refine ag (wt hM) ?_;refine ag (bC Obj.enc M hM) ?_;have Rh:=bC Obj.enc M hM;generalize hx:M[j]=x at Qj pb Rh;refine bA (fun h4=>?_) (fun h4=>?_)
     .have h4:x.ah=4:=h4;refine ag (wt hM) ?_;refine ag Rh ?_;refine bA (fun h5=>?_) (fun h5=>?_)
      .have h5:x.aC=(i:Int):=h5;refine ag (wt hM) ?_;refine ag Rh ?_;have hs:=iZ {x with aC:= -1} (fun o ho=>by
        rw[sA F0]at ho;cases ho;simp only[aa3,if_true];rw[<-Qj];simp[ik,h4,h5]) (fun t o Hp _=>by
        have e1:(t<j+1)↔(t<j):=om;simp only[e1])
       refine⟨⟨j+1,M.set j {x with aC:= -1}⟩,⟨F0,hs⟩,(show l.length-(j+1)<l.length-j by omega),View.o 7 [0,1,2,3,4,5,6] [] ?_ ?_⟩
       .repeat(first|exact .nil|refine .ar ?_|refine .put (.aQ (aL om).symm) ?_|refine .eq rfl ?_)
       .exact(.pe rfl rfl rfl (.pt rfl rfl (.bP (lM Obj.enc M j {x with aC:= -1})) (.pr rfl rfl rfl (.pr rfl rfl rfl (.pe rfl rfl rfl (.pr rfl rfl rfl (.pn rfl rfl rfl)))))))
      .have h5:x.aC≠(i:Int):=h5;refine⟨⟨j+1,M⟩,⟨F0,pb (by simp[ik,h5])⟩,(show l.length-(j+1)<l.length-j by omega),View.o 7 [0,1,2,3,4,5,6] [] ?_ ?_⟩
       .repeat(first|exact .nil|refine .ar ?_|refine .put (.aQ (aL om).symm) ?_|refine .eq rfl ?_)
       .exact(.pe rfl rfl rfl (.pr rfl rfl rfl (.pr rfl rfl rfl (.pr rfl rfl rfl (.pe rfl rfl rfl (.pr rfl rfl rfl (.pn rfl rfl rfl)))))))
     .have h4:x.ah≠4:=h4;refine⟨⟨j+1,M⟩,⟨F0,pb (by simp[ik,h4])⟩,(show l.length-(j+1)<l.length-j by omega),View.o 7 [0,1,2,3,4,5,6] [] ?_ ?_⟩
      .repeat(first|exact .nil|refine .ar ?_|refine .put (.aQ (aL om).symm) ?_|refine .eq rfl ?_)
      .exact(.pe rfl rfl rfl (.pr rfl rfl rfl (.pr rfl rfl rfl (.pr rfl rfl rfl (.pe rfl rfl rfl (.pr rfl rfl rfl (.pn rfl rfl rfl)))))))
    .have KP:L.length<=j:=tY lG;have hM:i<M.length:=om;refine ag (wt hM) ?_;refine ag (bC Obj.enc M hM) ?_;have hs:=zU.set (j:=i) (x:=gE) (g:=cA b l (i+1)) (fun o _=>zR hd o) (fun t o Ix ht=>by
      have:t<j:=by have:=(Gf.1 ht).1;omega
      rw[if_pos this,Cf hd Ix])
     refine⟨⟨i+1,M.set i gE⟩,⟨aE,hs⟩,(show l.length-(i+1)<l.length-i by omega),View.o 7 [0,1,2,3,4,5,6] [] ?_ ?_⟩
     .repeat(first|exact .nil|refine .ar ?_|refine .put (.aQ (aL om).symm) ?_|refine .eq rfl ?_)
     .exact(.pe rfl rfl rfl (.pt rfl rfl (VL M i) (.pr rfl rfl rfl (.pr rfl rfl rfl (.pe rfl rfl rfl (.pr rfl rfl rfl (.pn rfl rfl rfl)))))))
 .have h9:l.length<=i:=tY h;have kT:i=l.length:=om;subst kT;have ZM:=zU.1;refine ba (fun(s:VM)=>s.i<=ops.length/\Pt ops s.L (Bc b s.i)) [0,3,87] (fun s=>[(88,an .i64 (s.i:Nat))]) (fun s=>[.var [.row 1 9 0 none,.row 2 2 0 none,.row 3 4 0 none],.row 9 (af (L.map Obj.enc)),.row 2 (af (s.L.map bD.enc)),.row 4 (af (ps.map bj.enc)),.var [.ptr 0 0,.row 5 1 0 none,.row 6 1 0 none],.row 1 (af (b.O.map bE)),.row 1 (af (b.P.map bE))]) (fun s=>ops.length-s.i) ⟨0,ops⟩ ⟨Wi _,(Pt.refl ops).congr fun t o _=>by simp[Bc]⟩ ?_ (fun s hs=>?_)
  .refine View.o1 7 [0,1,2,3,4,5,6] [] ?_
   .exact(.pe rfl rfl rfl (.pr rfl rfl rfl (.pr rfl rfl rfl (.pr rfl rfl rfl (.pe rfl rfl rfl (.pr rfl rfl rfl (.pn rfl rfl rfl)))))))
  obtain⟨k,L2⟩:=s;obtain⟨hk,Ep⟩:=hs;have hk:k<=ops.length:=hk;have Ep:Pt ops L2 (Bc b k):=Ep;have ZN:=Ep.1;refine aJ (fun h=>?_) (fun h=>?_)
  .have Io:k<ops.length:=tX h;have Ua:k<b.P.length:=om;refine ag (wo Ua) ?_;refine ag (qH Ua) ?_;have iH:∀t,t≠k->decide (t<k+1)=decide (t<k):=fun t ht=>decide_eq_decide.2 om
   refine aD (fun h2=>?_) (fun h2=>?_)
   .have h2:b.P[k]=false:=by simpa using h2
    have X1:k<L2.length:=om;refine ag (xO X1) ?_;refine ag (bC bD.enc L2 X1) ?_;have hs:=Ep.set (j:=k) (x:=⟨-1,0⟩) (g:=Bc b (k+1)) (fun o _=>by simp[Bc,sA Ua,h2]) (fun t o NF _=>by unfold Bc;rw[iH t NF])
    refine⟨⟨k+1,L2.set k ⟨-1,0⟩⟩,⟨Io,hs⟩,(show ops.length-(k+1)<ops.length-k by omega),View.o 7 [0,1,2,3,4,5,6] [] ?_ ?_⟩
    .repeat(first|exact .nil|refine .ar ?_|refine .put (.aQ (aL om).symm) ?_|refine .eq rfl ?_)
    .exact(.pe rfl rfl rfl (.pr rfl rfl rfl (.pt rfl rfl (.bP (lM bD.enc L2 k ⟨-1,0⟩)) (.pr rfl rfl rfl (.pe rfl rfl rfl (.pr rfl rfl rfl (.pn rfl rfl rfl)))))))
   .have h2:b.P[k]=true:=by simpa using h2
    have hs:=Ep.congr (g:=Bc b (k+1)) fun t o _=>by
     by_cases NF:t=k
     .subst NF;simp[Bc,sA Ua,h2]
     .unfold Bc;rw[iH t NF]
    refine⟨⟨k+1,L2⟩,⟨Io,hs⟩,(show ops.length-(k+1)<ops.length-k by omega),View.o 7 [0,1,2,3,4,5,6] [] ?_ ?_⟩
    .repeat(first|exact .nil|refine .ar ?_|refine .put (.aQ (aL om).symm) ?_|refine .eq rfl ?_)
    .exact(.pe rfl rfl rfl (.pr rfl rfl rfl (.pr rfl rfl rfl (.pr rfl rfl rfl (.pe rfl rfl rfl (.pr rfl rfl rfl (.pn rfl rfl rfl)))))))
  .have h9:ops.length<=k:=tY h;have xN:k=ops.length:=om;subst xN;refine ba (fun(s:ZK)=>s.i<=ps.length/\Pt ps s.L (wu L s.i)/\s.en=ko L ps s.i) [0,3,111] (fun s=>[(112,an .i64 (s.i:Nat)),(7,ay s.en)]) (fun s=>[.var [.row 1 9 0 none,.row 2 2 0 none,.row 3 4 0 none],.row 9 (af (L.map Obj.enc)),.row 2 (af (L2.map bD.enc)),.row 4 (af (s.L.map bj.enc)),.var [.ptr 0 0,.row 5 1 0 none,.row 6 1 0 none],.row 1 (af (b.O.map bE)),.row 1 (af (b.P.map bE))]) (fun s=>ps.length-s.i) ⟨0,ps,false⟩ ⟨Wi _,(Pt.refl ps).congr fun t o _=>by simp[wu],rfl⟩ ?_ (fun s hs=>?_)
   .refine View.o1 7 [0,1,2,3,4,5,6] [] ?_
    .exact(.pe rfl rfl rfl (.pr rfl rfl rfl (.pr rfl rfl rfl (.pr rfl rfl rfl (.pe rfl rfl rfl (.pr rfl rfl rfl (.pn rfl rfl rfl)))))))
   obtain⟨p,L3,en⟩:=s;obtain⟨hp,O1,rY⟩:=hs;have hp:p<=ps.length:=hp;have O1:Pt ps L3 (wu L p):=O1;have rY:en=ko L ps p:=rY;have ZO:=O1.1;refine aJ (fun h=>?_) (fun h=>?_)
   .have gO:p<ps.length:=tX h;obtain⟨Ub,LP⟩:=O1.at gO;have LP:L3[p]=ps[p]:=by rw[LP];simp[wu]
    have iH:∀t,t≠p->decide (t<p+1)=decide (t<p):=fun t ht=>decide_eq_decide.2 om
    have Si:=Cg (L:=L) gO;have nV:lP L p ps[p]=false->Pt ps L3 (wu L (p+1))/\en=ko L ps (p+1):=fun hf=>⟨O1.congr fun t o Bb=>by
     by_cases LQ:t=p
     .subst LQ;rw[sA gO]at Bb;cases Bb;simp[wu,hf]
     .unfold wu;rw[iH t LQ],by rw[Si,hf,rY];simp⟩
    refine Ch L L2 L3 b p om ?_;refine aJ (fun sM=>?_) (fun sM=>?_)
    .have sM:0<p:=by have h:(p:Int)>0:=sM;omega
     refine ag (kM Ub) ?_;refine ag (bC bj.enc L3 Ub) ?_;refine aD (fun dD=>?_) (fun dD=>?_)
     .refine aD (fun Hq=>?_) (fun Hq=>?_)
      .refine ag (kM Ub) ?_;refine ag (bC bj.enc L3 Ub) ?_;refine⟨trivial,?_⟩;have he:lP L p ps[p]=true:=by rw[LP]at dD;unfold lP;rw[dD,Hq];simp[sM]
       have hs:=O1.set (j:=p) (x:=fF) (g:=wu L (p+1)) (fun o Bb=>by rw[sA gO]at Bb;cases Bb;simp[wu,he]) (fun t o LQ _=>by unfold wu;rw[iH t LQ])
       refine⟨⟨p+1,L3.set p fF,true⟩,⟨gO,hs,(by rw[Si,he];simp)⟩,(show ps.length-(p+1)<ps.length-p by omega),View.o 8 [0,1,2,3,4,5,6] [] ?_ ?_⟩
       .repeat(first|exact .nil|refine .ar ?_|refine .put (.aQ (aL om).symm) ?_|refine .eq rfl ?_)
       .exact(.pe rfl rfl rfl (.pr rfl rfl rfl (.pr rfl rfl rfl (.pt rfl rfl (ND L3 p) (.pe rfl rfl rfl (.pr rfl rfl rfl (.pn rfl rfl rfl)))))))
      .skip
       refine⟨⟨p+1,L3,en⟩,⟨gO,(nV (by unfold lP;rw[Hq];simp)).1,(nV (by unfold lP;rw[Hq];simp)).2⟩,(show ps.length-(p+1)<ps.length-p by omega),View.o 8 [0,1,2,3,4,5,6] [] ?_ ?_⟩
       .repeat(first|exact .nil|refine .ar ?_|refine .put (.aQ (aL om).symm) ?_|refine .eq rfl ?_)
       .exact(.pe rfl rfl rfl (.pr rfl rfl rfl (.pr rfl rfl rfl (.pr rfl rfl rfl (.pe rfl rfl rfl (.pr rfl rfl rfl (.pn rfl rfl rfl)))))))
     .rw[LP]at dD;refine⟨⟨p+1,L3,en⟩,⟨gO,(nV (by unfold lP;rw[dD];simp)).1,(nV (by unfold lP;rw[dD];simp)).2⟩,(show ps.length-(p+1)<ps.length-p by omega),View.o 8 [0,1,2,3,4,5,6] [] ?_ ?_⟩
      .repeat(first|exact .nil|refine .ar ?_|refine .put (.aQ (aL om).symm) ?_|refine .eq rfl ?_)
      .exact(.pe rfl rfl rfl (.pr rfl rfl rfl (.pr rfl rfl rfl (.pr rfl rfl rfl (.pe rfl rfl rfl (.pr rfl rfl rfl (.pn rfl rfl rfl)))))))
    .have sM:p=0:=by have h:¬(p:Int)>0:=sM;omega
     refine⟨⟨p+1,L3,en⟩,⟨gO,(nV (by simp[lP,sM])).1,(nV (by simp[lP,sM])).2⟩,(show ps.length-(p+1)<ps.length-p by omega),View.o 8 [0,1,2,3,4,5,6] [] ?_ ?_⟩
     .repeat(first|exact .nil|refine .ar ?_|refine .put (.aQ (aL om).symm) ?_|refine .eq rfl ?_)
     .exact(.pe rfl rfl rfl (.pr rfl rfl rfl (.pr rfl rfl rfl (.pr rfl rfl rfl (.pe rfl rfl rfl (.pr rfl rfl rfl (.pn rfl rfl rfl)))))))
   .have h9:ps.length<=p:=tY h;have y9:p=ps.length:=om;subst y9;refine⟨ay en,_,View.o 7 [0,1,2,3] [] (.eq rfl .nil) (.pe rfl rfl rfl (.pr rfl rfl rfl (.pr rfl rfl rfl (.pn rfl rfl rfl)))),L,L2,L3,en,⟨⟨b,hb,zU,Ep⟩,O1,rY⟩,rfl,rfl⟩
theorem LR(l:List Obj)(ops:List bD)(ps:List bj)(g:∀o,o∈l->o.sm)(hl:l.length<=4194304)(ho:ops.length<=4194304)(ix:ps.length<=4194304)(oP:∀p,p∈ps->p.bd.length<=10):
  aq Tryz.prog 79 [.rv (.one (.ptr 0 0))] [.var [.row 1 9 0 none,.row 2 2 0 none,.row 3 4 0 none],.row 9 (af (l.map Obj.enc)),.row 2 (af (ops.map bD.enc)),.row 4 (af (ps.map bj.enc))]
   (fun r m=>∃L L2 L3 en,da l ops ps L L2 L3 en/\r=ay en/\m=[.var [.row 1 9 0 none,.row 2 2 0 none,.row 3 4 0 none],.row 9 (af (L.map Obj.enc)),.row 2 (af (L2.map bD.enc)),.row 4 (af (L3.map bj.enc))]):=
 bK (aX Tryz.func79 l79 (FZ l ops ps g hl ho ix oP)) fun r m1 h=>h
structure dz(l:List Obj)(ops:List bD)(ps:List bj):Prop where
 sm:∀o,o∈l->o.sm
 ll:l.length<=4194304
 lo:ops.length<=4194304
 lp:ps.length<=4194304
 sl:∀p,p∈ps->p.bd.length<=10
 ne:ps≠[]
theorem IX:gE.sm:=⟨⟨⟨[],rfl⟩,⟨[],rfl⟩,fun q hq=>by simp[gE]at hq⟩,by simp[gE],by simp[gE],by simp[gE],fun q hq=>by simp[gE]at hq⟩
theorem Pt.all{α:Type}{l L:List α}{f:Nat->α->α}(h:Pt l L f){Q:α->Prop}(hf:∀(t:Nat)o,l[t]? =some o->Q (f t o)):∀x,x∈L->Q x:=by
 intro x hx;obtain⟨t,ht⟩:=Un hx;have aE:t<l.length:=by have:=(Gf.1 ht).1;rw[h.1]at this;exact this
 have:=h.2 t l[t] (sA aE);rw[ht]at this;cases this;exact hf t _ (sA aE)
theorem da.kr{l:List Obj}{ops:List bD}{ps:List bj}{L:List Obj}{L2:List bD}{L3:List bj}{en:Bool}(h:da l ops ps L L2 L3 en)(k:dz l ops ps):dz L L2 L3:=by
 obtain⟨b,hb,hP,Ep⟩:=h.ex;refine⟨hP.all fun t o ho=>?_,by rw[hP.1];exact k.ll,by rw[Ep.1];exact k.lo,by rw[h.pr.1];exact k.lp,h.pr.all (Q:=fun p=>p.bd.length<=10) fun t o ho=>?_,fun e=>k.ne (Wg (by rw[<-h.pr.1,e];rfl))⟩
 .have hs:=k.sm o (NQ ho);unfold cA;split
  .exact IX
  .split
   .exact⟨⟨hs.t.1,hs.t.2.1,hs.t.2.2⟩,hs.d,hs.e,hs.q,hs.qd⟩
   .exact hs
 .unfold wu;split
  .simp[fF]
  .exact k.sl o (NQ ho)
def jD(ps:List bj):Nat:=(ps.filter fun p=>p.a7).length
theorem zV:∀(a b:List bj),b.length=a.length->(∀(t:Nat)x y,a[t]? =some x->b[t]? =some y->y.a7=true->x.a7=true)->jD b<=jD a/\((∃(t:Nat)(x y:bj),a[t]? =some x/\b[t]? =some y/\x.a7=true/\y.a7=false)->jD b<jD a)
 | [],[],_,_=>⟨Pq _,fun⟨t,x,y,h,_⟩=>by simp at h⟩
 | [],_::_,h,_=>by simp at h
 |_::_,[],h,_=>by simp at h
 |x::a,y::b,h,hm=>by
  obtain⟨X2,ZP⟩:=zV a b (by simpa using h) (fun t u v hu hv=>hm (t+1) u v (by simpa using hu) (by simpa using hv))
  have h0:=hm 0 x y aI aI;refine⟨?_,fun⟨t,u,v,hu,hv,X3,vg⟩=>?_⟩
  .unfold jD at X2⊢;cases hx:x.a7<;>cases hy:y.a7<;>simp[hx,hy]at h0⊢<;>omega
  .cases t with
   |zero=>
    simp at hu hv;subst hu hv;unfold jD at X2⊢;simp[X3,vg];omega
   |succ t=>
    have:=ZP ⟨t,u,v,by simpa using hu,by simpa using hv,X3,vg⟩
    unfold jD at this⊢;cases hx:x.a7<;>cases hy:y.a7<;>simp[hx,hy]at h0⊢<;>omega
theorem da.jD{l:List Obj}{ops:List bD}{ps:List bj}{L:List Obj}{L2:List bD}{L3:List bj}(h:da l ops ps L L2 L3 true):jD L3<Go.Proofs.YtodckkkbiidffaaGreatDoor.jD ps:=by
 have rY:=h.en;unfold ko at rY;have rY:=rY.symm;rw[aaB]at rY;obtain⟨t,ht,O2⟩:=rY;have Uc:t<ps.length:=by simpa using ht
 rw[sA Uc]at O2;have O2:lP L t ps[t]=true:=O2;refine(zV ps L3 h.pr.1 (fun i x y hx hy hl=>?_)).2 ⟨t,ps[t],fF,sA Uc,?_,?_,rfl⟩
 .have:=h.pr.2 i x hx;rw[hy]at this;cases this;unfold wu at hl;split at hl
  .simp[fF]at hl
  .exact hl
 .have:=h.pr.2 t _ (sA Uc);rw[this];simp[wu,O2,Uc]
 .unfold lP at O2;simp at O2;exact O2.2.1
structure Kr where
 l:List Obj
 ops:List bD
 ps:List bj
inductive iB(k:Kr):Kr->Prop
 |refl:iB k k
 |step {a b:Kr} (h:iB k a) (ho:da a.l a.ops a.ps b.l b.ops b.ps true):iB k b
theorem IY{σ:Nat->Nat}{m:Mem}{Z:Nat->Prop}{p:Option Nat}{a b:Dt}(h:a=b):oQ σ m Z p (.aa a) (.aa b):=h▸ .aQ (.aa a)
theorem Ci(a:Kr)(ha:dz a.l a.ops a.ps){K:CV->Mem->Prop}(x0:Bk)(h:∀(c:Kr)en,da a.l a.ops a.ps c.l c.ops c.ps en->K (ay en) [x0,.var z3,.var [.row 3 9 0 none,.row 4 2 0 none,.row 5 4 0 none],.row 9 (af (c.l.map Obj.enc)),.row 2 (af (c.ops.map bD.enc)),.row 4 (af (c.ps.map bj.enc))]):
  aq Tryz.prog 79 [.rv (.one (.ptr 2 0))] [x0,.var z3,.var [.row 3 9 0 none,.row 4 2 0 none,.row 5 4 0 none],.row 9 (af (a.l.map Obj.enc)),.row 2 (af (a.ops.map bD.enc)),.row 4 (af (a.ps.map bj.enc))] K:=by
 refine bw [2,3,4,5] 6 rfl rfl rfl rfl (args0:=[.rv (.one (.ptr 0 0))]) rfl (fun i b' hi=>?_) (LR a.l a.ops a.ps ha.sm ha.ll ha.lo ha.lp ha.sl) (fun r m1 hr=>?_)
 .match i,hi with
  |0,hi=>cases hi;exact .inr ⟨fun h=>h,_,rfl,.eq rfl aI⟩
  |1,hi=>cases hi;exact .inr ⟨fun h=>h,_,rfl,.bP rfl⟩
  |2,hi=>cases hi;exact .inr ⟨fun h=>h,_,rfl,.bP rfl⟩
  |3,hi=>cases hi;exact .inr ⟨fun h=>h,_,rfl,.bP rfl⟩
  |n+4,hi=>simp at hi
 .obtain⟨L,L2,L3,en,ho,rfl,rfl⟩:=hr;refine⟨Pq _,?_⟩;have e:∀(s:Nat)(ds:List (List Dt)),(Bk.row s (af ds)).aQ (sg [2,3,4,5] 6)= .row s (af ds):=fun s ds=>by simp only[Bk.aQ,db]
  show K _ [x0,.var z3,.var [.row 3 9 0 none,.row 4 2 0 none,.row 5 4 0 none],(Bk.row 9 (af (L.map Obj.enc))).aQ (sg [2,3,4,5] 6),(Bk.row 2 (af (L2.map bD.enc))).aQ (sg [2,3,4,5] 6),(Bk.row 4 (af (L3.map bj.enc))).aQ (sg [2,3,4,5] 6)];rw[e,e,e];exact h ⟨L,L2,L3⟩ en ho
def c82:LF:= ⟨16,[.tmp 3],(.seq (.ai [qu 2 (.box 0),qu 3 (.aF (qb false))]) (.seq (.ai [qf 4 0 2,ql 5 4,qu 6 (.aH .eql 5 (qi 5)),qm 7 6,qg 8 (.bX 6 2) 7 true,qg 9 (.load false 1 8) 7 true,qg 10 (.bX 2 1) 7 true,qg 11 (.load false 1 10) 7 true,qg 12 (.len 1 11) 7 true,qg 13 (.aH .sub 12 (qi 1)) 7 true,qg 14 (.aH .eql 9 13) 7 true,qu 15 (.pick 7 14 (qb false)),qm 3 15]) .ret))⟩
theorem l82:bs Tryz.prog Tryz.f82=some c82:=by kernel_rfl
theorem Cj(l:List Obj)(hb:l.length<=4194304)(F:Nat)(cs:List Dt)(q:Obj->Bool)(hF:∀s,∀K:CV->Mem->Prop,K (ay (q s)) [.var (cs.map .aa)]->aq Tryz.prog F [s.cv,.rv (.one (.ptr 0 0))] [.var (cs.map .aa)] K):
  body Tryz.prog c121 [cq l,.rv (.one (.fn F [0]))] [.var (cs.map .aa)] (fun r m=>r=an .i64 (mA q l)/\m=[.var (cs.map .aa)]):=by
 refine ba (fun k=>k<=l.length/\∀(j:Nat)s,j<k->l[j]? =some s->q s=false) [0,1,7] (fun k=>[(8,an .i64 (k:Nat))]) (fun _=>[.var (cs.map .aa)]) (fun k=>l.length-k) 0 ⟨Wi _,fun j s h=>absurd h (aah j)⟩ ?_ (fun k hk=>?_)
 .refine View.o1 1 [0] [] ?_
  .exact .pt rfl rfl (.km rfl) (.nil _)
 .refine aJ (fun h=>?_) (fun h=>?_)
  .have aE:k<l.length:=by have h:(k:Int)<((l.map Obj.enc).length:Int):=h;rw[KB]at h;omega
   refine ag (LI aE) ?_;have hi:=sA aE;have Sg:=jB (q:=q) aE;generalize l[k]=o at hi Sg;refine hF o _ ?_;refine aD (fun Eo=>?_) (fun Eo=>?_)
   .rw[Sg Eo hk.2];exact⟨rfl,rfl⟩
   .refine⟨k+1,⟨aE,fun j s hj hs=>?_⟩,(show l.length-(k+1)<l.length-k by omega),View.o 1 [0] [] ?_ ?_⟩
    .rcases Wj j k with h5|h5
     .exact hk.2 j s h5 hs
     .have:j=k:=om;subst this;rw[hi]at hs;cases hs;exact Eo
    .repeat(first|exact .nil|refine .ar ?_|refine .put (.aQ (aL om).symm) ?_|refine .eq rfl ?_)
    .exact .pt rfl rfl (.km rfl) (.nil _)
  .have eu:¬(k:Int)<((l.map Obj.enc).length:Int):=h;rw[KB]at eu;rw[lh fun j s hs=>hk.2 j s (by have:=(Gf.1 hs).1;omega) hs]
   exact⟨rfl,rfl⟩
theorem zW(l:List Obj)(hb:l.length<=4194304)(F:Nat)(cs:List Dt)(q:Obj->Bool)(hF:∀s,∀K:CV->Mem->Prop,K (ay (q s)) [.var (cs.map .aa)]->aq Tryz.prog F [s.cv,.rv (.one (.ptr 0 0))] [.var (cs.map .aa)] K):
  body Tryz.prog c80 [cq l,.rv (.one (.fn F [0]))] [.var (cs.map .aa)] (fun r m=>r=ay (l.any q)/\m=[.var (cs.map .aa)]):=by
 refine(aX Tryz.func121 l121 (Cj l hb F cs q hF)).mono fun r m⟨hr,hm⟩=>?_
 subst hr hm;refine⟨?_,rfl⟩;show ay _=ay _;rw[<-pz]
theorem qJ(l:List Obj)(hb:l.length<=4194304)(F:Nat)(cs:List Dt)(q:Obj->Bool)(hF:∀s,∀K:CV->Mem->Prop,K (ay (q s)) [.var (cs.map .aa)]->aq Tryz.prog F [s.cv,.rv (.one (.ptr 0 0))] [.var (cs.map .aa)] K)(K:CV->Mem->Prop)(h:K (ay (l.any q)) [.var (cs.map .aa)]):
  aq Tryz.prog 80 [cq l,.rv (.one (.fn F [0]))] [.var (cs.map .aa)] K:=
 (aX Tryz.func80 l80 (zW l hb F cs q hF)).mono fun r m⟨hr,hm⟩=>by subst hr hm;exact h
def c41:LF:= ⟨120,[.cell true 3 2],(.seq (.ai [qu 1 (.box 0),qu 2 (.alloc [.aB,.aB,.aB])]) (.seq (.ai [qL 6 3 1,qu 7 (qc 59 [6]),qu 3 (.alloc [.aB,.aB,.aB]),qw (.store 3 3 7)]) (.seq (.block 0 (.loop (.seq (.seq (.ai [qu 8 (qc 79 [3])]) (.cond 8 .skip (.exit 0))) (.block 1 .skip)))) (.seq (.block 2 (.loop (.seq (.seq (.ai [qf 9 0 3,ql 10 9,qu 11 (.len 1 10),qu 12 (.aH .gtr 11 (qi 1)),qm 13 12,qg 14 (.bX 0 3) 13 true,qg 15 (.load false 1 14) 13 true,qg 16 (.bX 0 3) 13 true,qg 17 (.load false 1 16) 13 true,qg 18 (.len 1 17) 13 true,qg 19 (.aH .sub 18 (qi 1)) 13 true,qg 20 (.cr 9 15 19) 13 true,qg 21 (.bX 0 20) 13 true,qg 22 (.load false 1 21) 13 true,qg 23 (.aH .eql 22 (qi 0)) 13 true,qu 24 (.pick 13 23 (qb false))]) (.cond 24 .skip (.exit 2))) (.block 3 (.ai [qf 25 0 3,ql 26 25,qf 27 0 3,ql 28 27,qu 29 (.len 1 28),qu 30 (.aH .sub 29 (qi 1)),qu 31 (.mD 9 26 none (some 30) none),qf 32 0 3,qw (.store 1 32 31)]))))) (.cI (.seq (.block 4 (.loop (.seq (.seq (.ai [qf 33 1 3,ql 34 33,qu 35 (.len 1 34),qu 36 (.aH .gtr 35 (qi 0)),qm 37 36,qg 38 (.bX 1 3) 37 true,qg 39 (.load false 1 38) 37 true,qg 40 (.bX 1 3) 37 true,qg 41 (.load false 1 40) 37 true,qg 42 (.len 1 41) 37 true,qg 43 (.aH .sub 42 (qi 1)) 37 true,qg 44 (.cr 2 39 43) 37 true,qg 45 (.bX 0 44) 37 true,qg 46 (.load false 1 45) 37 true,qg 47 (.aH .lss 46 (qi 0)) 37 true,qu 48 (.pick 37 47 (qb false))]) (.cond 48 .skip (.exit 4))) (.block 5 (.ai [qf 49 1 3,ql 50 49,qf 51 1 3,ql 52 51,qu 53 (.len 1 52),qu 54 (.aH .sub 53 (qi 1)),qu 55 (.mD 2 50 none (some 54) none),qf 56 1 3,qw (.store 1 56 55)]))))) (.seq (.cI (.seq (.ai [qf 57 2 3,ql 58 57,qu 59 (.len 1 58),qu 60 (.aF (qi 0))]) (.block 6 (.loop (.seq (.ai [qu 61 (.aH .lss 60 59)]) (.seq (.cond 61 .skip (.exit 6)) (.seq (.block 7 (.seq (.ai [qm 62 60,qu 4 (.alloc [(qd 0)]),qw (.store 1 4 62)]) (.seq (.ai [qf 63 0 3,ql 64 63,qu 65 (.fn 81 [4]),qu 66 (qc 80 [64,65]),qm 5 66]) (.seq (.ai [ql 67 4,qu 68 (.aH .gtr 67 (qi 0)),qm 69 68,qg 70 (.bX 2 3) 69 true,qg 71 (.load false 1 70) 69 true,qg 72 (.load false 1 4) 69 true,qg 73 (.cr 4 71 72) 69 true,qg 74 (.bX 0 73) 69 true,qg 75 (.load false 1 74) 69 true,qg 76 (.un .not 75) 69 true,qu 77 (.pick 69 76 (qb false)),qm 78 77,qg 79 (.aF 5) 78 true,qg 80 (.un .not 79) 78 true,qu 81 (.pick 78 80 (qb false))]) (.cond 81 (.ai [qf 82 2 3,ql 83 82,ql 84 4,qu 85 (.build [(.aa (.val (.bool false))),(.aa (.val (.bool false))),(qd 0),.aB] []),qu 86 (.cr 4 83 84),qw (.store 4 86 85)]) .skip))))) (.ai [qu 87 (.aH .add 60 (qi 1)),qm 60 87])))))))) (.cI (.seq (.block 8 (.loop (.seq (.seq (.ai [qf 88 2 3,ql 89 88,qu 90 (.len 1 89),qu 91 (.aH .gtr 90 (qi 1)),qm 92 91,qg 93 (.bX 2 3) 92 true,qg 94 (.load false 1 93) 92 true,qg 95 (.bX 2 3) 92 true,qg 96 (.load false 1 95) 92 true,qg 97 (.len 1 96) 92 true,qg 98 (.aH .sub 97 (qi 1)) 92 true,qg 99 (.cr 4 94 98) 92 true,qg 100 (.bX 0 99) 92 true,qg 101 (.load false 1 100) 92 true,qg 102 (.un .not 101) 92 true,qu 103 (.pick 92 102 (qb false)),qm 104 103,qg 105 (.bX 0 3) 104 true,qg 106 (.load false 1 105) 104 true,qg 107 (.fn 82 [3]) 104 true,qg 108 (qc 80 [106,107]) 104 true,qg 109 (.un .not 108) 104 true,qu 110 (.pick 104 109 (qb false))]) (.cond 110 .skip (.exit 8))) (.block 9 (.ai [qf 111 2 3,ql 112 111,qf 113 2 3,ql 114 113,qu 115 (.len 1 114),qu 116 (.aH .sub 115 (qi 1)),qu 117 (.mD 4 112 none (some 116) none),qf 118 2 3,qw (.store 1 118 117)]))))) (.seq (.ai [qL 119 3 3,qw (.store 3 2 119)]) .ret))))))))))⟩
theorem l41:bs Tryz.prog Tryz.f41=some c41.er:=by kernel_rfl
theorem zX(o:Obj)(a c:Dt)(ps:List bj):body Tryz.prog c82 [o.cv,.rv (.one (.ptr 0 0))] [.var ([a,c,fE ps].map .aa)] (fun r m=>r=ay (eD (IntKind.i64.wrap (((ps.map bj.enc).length:Int)-1)) o)/\∃ex,m= .var ([a,c,fE ps].map .aa)::ex):=by
 refine aD (fun h=>?_) (fun h=>?_)
 .refine⟨?_,_,rfl⟩;show ay _=ay _;rw[eD,h];rfl
 .refine⟨?_,_,rfl⟩;show ay _=ay _;rw[eD,h];rfl
theorem O3(o:Obj)(a c:Dt)(ps:List bj)(K:CV->Mem->Prop)(h:K (ay (eD (IntKind.i64.wrap (((ps.map bj.enc).length:Int)-1)) o)) [.var ([a,c,fE ps].map .aa)]):aq Tryz.prog 82 [o.cv,.rv (.one (.ptr 0 0))] [.var ([a,c,fE ps].map .aa)] K:=
 eH rfl (aX Tryz.func82 l82 (zX o a c ps)) h
structure F3{α:Type}(q:Nat->α->Bool)(mn:Nat)(L:List α)(n:Nat):Prop where
 le:n<=L.length
 mn:min mn L.length<=n
 dr:∀(t:Nat)o,n<=t->L[t]? =some o->q t o=true
structure qK{α:Type}(q:Nat->α->Bool)(mn:Nat)(L:List α)(n:Nat):Prop where
 t:F3 q mn L n
 e:n<=mn\/∃o,L[n-1]? =some o/\q (n-1) o=false
theorem F3.start{α:Type}(q:Nat->α->Bool)(mn:Nat)(L:List α):F3 q mn L L.length:=
 ⟨Pq _,Nat.min_le_right _ _,fun t o h ho=>by have:=(Gf.1 ho).1;omega⟩
theorem F3.step{α:Type}{q:Nat->α->Bool}{mn:Nat}{L:List α}{n:Nat}(h:F3 q mn L n)(hn:mn<n)(hl:n-1<L.length)(hq:q (n-1) L[n-1]=true):F3 q mn L (n-1):=
 ⟨om,om,fun t o ht ho=>by
  rcases Wj t n with h1|h1
  .have:t=n-1:=om;subst this;rw[sA hl]at ho;cases ho;exact hq
  .exact h.dr t o h1 ho⟩
theorem gF{α:Type}{L:List α}{n:Nat}(h:n<=L.length):(L.take n).length=n:=by rw[Z3];omega
theorem tZ{α:Type}(f:α->List Dt)(L:List α){n:Nat}(h:n<=L.length):(((L.take n).map f).take (n-1)).drop 0=(L.take (n-1)).map f:=by rw[abt,<-abd,List.take_take,abU om]
theorem t6{α:Type}(f:α->List Dt)(L:List α){n:Nat}(h1:0<n)(h:n<=L.length):dg ((L.take n).map f) ((n-1:Nat):Int)=some (f (L[n-1]'(by omega))):=by rw[bI,NO,List.getElem?_take_of_lt om,sA om];rfl
def qO(_:Nat)(o:Obj):Bool:=o.ah==0
def qP(_:Nat)(o:bD):Bool:=decide (o.br<0)
def qZ(O:List Obj)(t:Nat)(o:bj):Bool:=decide (0<t)&&(!o.a7&& !(O.any (eD (t:Int))))
def xP(O:List Obj)(k:Nat)(t:Nat)(o:bj):bj:=if(decide (t<k)&&qZ O t o)=true then fF else o
def qR(O:List Obj)(t:Nat)(o:bj):Bool:= !o.a7&& !(O.any (eD (t:Int)))
structure kp(c:Kr)(d:Kr):Prop where
 ex:∃(n1 n2 n3:Nat)(P:List bj),qK qO 1 c.l n1/\qK qP 0 c.ops n2/\Pt c.ps P (xP (c.l.take n1) c.ps.length)/\qK (qR (c.l.take n1)) 1 P n3/\d=⟨c.l.take n1,c.ops.take n2,P.take n3⟩
def KS(k:Kr)(r:CV)(m:Mem):Prop:=∃a c d,iB k a/\da a.l a.ops a.ps c.l c.ops c.ps false/\kp c d/\cw m r (dR d.l d.ops d.ps)
def VN(k:Kr):Ex->St->Prop:=mJ Tryz.prog c41.jW (KS k)
def T4:LC:=ov (bH (bH (bH (bH c41.code))))
def ZQ:LC:=ov (R7 (bH T4))
def R8:LC:=bH (bH T4)
def VO:List CV:=kR 120 [(2,.rv (.one (.ptr 1 0))),(3,.rv (.one (.ptr 2 0)))]
theorem VP(m:Mem)(d:Kr):cw m (.rv (.agg [.aa (c7 d.l),.aa (eB d.ops),.aa (fE d.ps)])) (dR d.l d.ops d.ps):=cw.self rfl
theorem VQ(k a c:Kr)(ha:iB k a)(hc:da a.l a.ops a.ps c.l c.ops c.ps false)(hk:dz c.l c.ops c.ps)(n1 n2:Nat)(h1:qK qO 1 c.l n1)(h2:qK qP 0 c.ops n2)(P:List bj)(O:List Obj)(hO:O=c.l.take n1)(hP:Pt c.ps P (xP (c.l.take n1) c.ps.length)):aw Tryz.prog 0 (ov R8) (VN k) ⟨VO,[.aO,.var z3,.var [.aa (c7 O),.aa (eB (c.ops.take n2)),.aa (fE P)]]⟩:=by
 have Ud:P.length<=4194304:=by rw[hP.1];exact hk.lp
 have Ue:O.length<=4194304:=by rw[hO,Z3];have:=hk.ll;omega
 have O4:∀(n:Nat)(m:Mem),F3 (qR O) 1 P n->(n<=1\/∃o,P[n-1]? =some o/\qR O (n-1) o=false)->KS k (.rv (.agg [.aa (c7 O),.aa (eB (c.ops.take n2)),.aa (fE (P.take n))])) m:=fun n m hn he=>
  ⟨a,c,⟨O,c.ops.take n2,P.take n⟩,ha,hc,⟨n1,n2,n,P,h1,h2,hP,by rw[<-hO];exact⟨hn,he⟩,by rw[hO]⟩,VP m ⟨O,c.ops.take n2,P.take n⟩⟩
 refine ba (fun n=>F3 (qR O) 1 P n) [2,3] (fun _=>[]) (fun n=>[.aO,.var z3,.var [.aa (c7 O),.aa (eB (c.ops.take n2)),.aa (fE (P.take n))]]) (fun n=>n) P.length (.start _ _ _) ?_ (fun n hn=>?_)
 .refine View.o1 3 [0,1,2] [] ?_
  .exact(.aO (.pe rfl rfl rfl (.pt rfl rfl (eC.var (.cons (.aQ (.aa _)) (.cons (.aQ (.aa _)) (.cons (IY (by rw[aal])) .nil)))) (.nil _))))
 have hn:F3 (qR O) 1 P n:=hn;have jQ:=hn.le;refine aJ (fun h=>?_) (fun h=>?_)
 .have og:1<n:=by have h:(((P.take n).map bj.enc).length:Int)>1:=h;rw[KB,gF jQ]at h;omega
  have hz:IntKind.i64.wrap ((((P.take n).map bj.enc).length:Int)-1)=((n-1:Nat):Int):=by rw[KB,gF jQ,gk om om];omega
  have aE:n-1<P.length:=om;have hg:=t6 bj.enc P om jQ;rw[<-hz]at hg;have mc:=sA aE;have nO:=hn.step om aE;generalize P[n-1]=x at hg mc nO;have hg:dg ((P.take n).map bj.enc) (IntKind.i64.wrap ((((P.take n).map bj.enc).length:Int)-1))=some [.val (.bool x.a7),.val (.bool x.fenced),.val (.int .i64 x.code),vp x.bd]:=hg;refine ag hg ?_;refine aD (fun dD=>?_) (fun dD=>?_)
  .refine fc (args0:=[cq O,.rv (.one (.fn 82 [0]))]) (cs:=[c7 O,eB (c.ops.take n2),fE (P.take n)]) 2 rfl rfl (r0:=ay (O.any (eD (IntKind.i64.wrap ((((P.take n).map bj.enc).length:Int)-1))))) rfl (fun K hK=>qJ O Ue 82 _ _ (fun s K hK=>O3 s _ _ _ K hK) K hK) ?_
   rw[hz];refine aD (fun Hq=>?_) (fun Hq=>?_)
   .have hq:qR O (n-1) x=true:=by unfold qR;rw[dD,Hq];rfl
    refine ag (x:=n-1) (by show nC (an .i64 (IntKind.i64.wrap ((((P.take n).map bj.enc).length:Int)-1)))=_;rw[hz];rfl) ?_
    refine cj (by simp[aak];omega) ?_
    refine⟨n-1,nO hq,(show n-1<n by omega),View.o1 3 [0,1,2] [] ?_⟩
    .exact(.aO (.pe rfl rfl rfl (.pt rfl rfl (eC.var (.cons (.aQ (.aa _)) (.cons (.aQ (.aa _)) (.cons (IY (congrArg (Dt.sl 4) (tZ bj.enc P jQ))) .nil)))) (.nil _))))
   .have hq:qR O (n-1) x=false:=by unfold qR;rw[dD,Hq];rfl
    exact O4 n _ hn (.inr ⟨x,mc,hq⟩)
  .have hq:qR O (n-1) x=false:=by unfold qR;rw[dD];rfl
   exact O4 n _ hn (.inr ⟨x,mc,hq⟩)
 .have og:n<=1:=by have h:¬(((P.take n).map bj.enc).length:Int)>1:=h;rw[KB,gF jQ]at h;omega
  exact O4 n _ hn (.inl og)
structure ZR where
 p:Nat
 P:List bj
theorem dz.VR{l:List Obj}{ops:List bD}{ps:List bj}(h:dz l ops ps)(n:Nat):(l.take n).length<=4194304:=by rw[Z3];have:=h.ll;omega
theorem NG(k a c:Kr)(ha:iB k a)(hc:da a.l a.ops a.ps c.l c.ops c.ps false)(hk:dz c.l c.ops c.ps)(n1 n2:Nat)(h1:qK qO 1 c.l n1)(h2:qK qP 0 c.ops n2):
  aw Tryz.prog 0 ZQ (Oi (aw Tryz.prog 0 R8) (VN k)) ⟨VO,[.aO,.var z3,.var [.aa (c7 (c.l.take n1)),.aa (eB (c.ops.take n2)),.row 3 4 0 none],.row 4 (af (c.ps.map bj.enc))]⟩:=by
 have ix:=hk.lp;have Ue:=hk.VR n1;generalize hO:c.l.take n1=O at Ue;refine ba (fun(s:ZR)=>s.p<=c.ps.length/\Pt c.ps s.P (xP O s.p)) [2,3,59] (fun s=>[(60,an .i64 (s.p:Nat))]) (fun s=>[.aO,.var z3,.var [.aa (c7 O),.aa (eB (c.ops.take n2)),.row 3 4 0 none],.row 4 (af (s.P.map bj.enc))]) (fun s=>c.ps.length-s.p) ⟨0,c.ps⟩ ⟨Wi _,(Pt.refl c.ps).congr fun t o _=>by simp[xP]⟩ ?_ (fun s hs=>?_)
 .refine View.o1 4 [0,1,2,3] [] ?_
  .exact(.aO (.pe rfl rfl rfl (.pt rfl rfl (eC.var (.cons (.aQ (.aa _)) (.cons (.aQ (.aa _)) (.cons (.aQ (.row 3 4 0 none)) .nil)))) (.pn rfl rfl rfl))))
 obtain⟨p,P⟩:=s;obtain⟨hp,hP⟩:=hs;have hp:p<=c.ps.length:=hp;have hP:Pt c.ps P (xP O p):=hP;have Ud:=hP.1;refine aJ (fun h=>?_) (fun h=>?_)
 .have gO:p<c.ps.length:=tX h;obtain⟨Uf,Ug⟩:=hP.at gO;have Ug:P[p]=c.ps[p]:=by rw[Ug];simp[xP]
  have iH:∀t,t≠p->decide (t<p+1)=decide (t<p):=fun t ht=>decide_eq_decide.2 om
  have nV:qZ O p c.ps[p]=false->Pt c.ps P (xP O (p+1)):=fun hf=>hP.congr fun t o Bb=>by
   by_cases LQ:t=p
   .subst LQ;rw[sA gO]at Bb;cases Bb;simp[xP,hf]
   .unfold xP;rw[iH t LQ]
  refine fc (args0:=[cq O,.rv (.one (.fn 81 [0]))]) (cs:=[.val (.int .i64 (p:Nat))]) 4 rfl rfl (r0:=ay (O.any (eD (p:Int)))) rfl (fun K hK=>qJ O Ue 81 _ _ (fun s K hK=>O0 s _ K hK) K hK) ?_
  refine aJ (fun sM=>?_) (fun sM=>?_)
  .have sM:0<p:=by have h:(p:Int)>0:=sM;omega
   refine ag (kM Uf) ?_;refine ag (bC bj.enc P Uf) ?_;refine aD (fun dD=>?_) (fun dD=>?_)
   .rw[Ug]at dD;refine aD (fun Hq=>?_) (fun Hq=>?_)
    .refine ag (kM Uf) ?_;refine ag (bC bj.enc P Uf) ?_;have he:qZ O p c.ps[p]=true:=by unfold qZ;rw[dD,Hq];simp[sM]
     have hs:=hP.set (j:=p) (x:=fF) (g:=xP O (p+1)) (fun o Bb=>by rw[sA gO]at Bb;cases Bb;simp[xP,he]) (fun t o LQ _=>by unfold xP;rw[iH t LQ])
     refine⟨⟨p+1,P.set p fF⟩,⟨gO,hs⟩,(show c.ps.length-(p+1)<c.ps.length-p by omega),View.o 5 [0,1,2,3] [] ?_ ?_⟩
     .repeat(first|exact .nil|refine .ar ?_|refine .put (.aQ (aL om).symm) ?_|refine .eq rfl ?_)
     .exact(.aO (.pe rfl rfl rfl (.pt rfl rfl (eC.var (.cons (.aQ (.aa _)) (.cons (.aQ (.aa _)) (.cons (.aQ (.row 3 4 0 none)) .nil)))) (.pt rfl rfl (ND P p) (.nil _)))))
    .skip
     refine⟨⟨p+1,P⟩,⟨gO,nV (by unfold qZ;rw[Hq];simp)⟩,(show c.ps.length-(p+1)<c.ps.length-p by omega),View.o 5 [0,1,2,3] [] ?_ ?_⟩
     .repeat(first|exact .nil|refine .ar ?_|refine .put (.aQ (aL om).symm) ?_|refine .eq rfl ?_)
     .exact(.aO (.pe rfl rfl rfl (.pt rfl rfl (eC.var (.cons (.aQ (.aa _)) (.cons (.aQ (.aa _)) (.cons (.aQ (.row 3 4 0 none)) .nil)))) (.pn rfl rfl rfl))))
   .rw[Ug]at dD;refine⟨⟨p+1,P⟩,⟨gO,nV (by unfold qZ;rw[dD];simp)⟩,(show c.ps.length-(p+1)<c.ps.length-p by omega),View.o 5 [0,1,2,3] [] ?_ ?_⟩
    .repeat(first|exact .nil|refine .ar ?_|refine .put (.aQ (aL om).symm) ?_|refine .eq rfl ?_)
    .exact(.aO (.pe rfl rfl rfl (.pt rfl rfl (eC.var (.cons (.aQ (.aa _)) (.cons (.aQ (.aa _)) (.cons (.aQ (.row 3 4 0 none)) .nil)))) (.pn rfl rfl rfl))))
  .have sM:p=0:=by have h:¬(p:Int)>0:=sM;omega
   refine⟨⟨p+1,P⟩,⟨gO,nV (by simp[qZ,sM])⟩,(show c.ps.length-(p+1)<c.ps.length-p by omega),View.o 5 [0,1,2,3] [] ?_ ?_⟩
   .repeat(first|exact .nil|refine .ar ?_|refine .put (.aQ (aL om).symm) ?_|refine .eq rfl ?_)
   .exact(.aO (.pe rfl rfl rfl (.pt rfl rfl (eC.var (.cons (.aQ (.aa _)) (.cons (.aQ (.aa _)) (.cons (.aQ (.row 3 4 0 none)) .nil)))) (.pn rfl rfl rfl))))
 .have h9:c.ps.length<=p:=tY h;have y9:p=c.ps.length:=om;subst y9;rw[<-hO]at hP;refine fv [2,3] [] ([.aO,.var z3,.var [.aa (c7 O),.aa (eB (c.ops.take n2)),.aa (fE P)]]) (View.o1 4 [0,1,2] [3] ?_) ?_
  .exact(.aO (.pe rfl rfl rfl (.pt rfl rfl (eC.var (.cons (.aQ (.aa _)) (.cons (.aQ (.aa _)) (.cons (.eZ (dj.dX (Z:=fun k=>bz [3] k=true) rfl rfl 0 none)) .nil)))) (.nil _))))
  exact VQ k a c ha hc hk n1 n2 h1 h2 P O hO.symm hP
end Go.Proofs.YtodckkkbiidffaaGreatDoor
