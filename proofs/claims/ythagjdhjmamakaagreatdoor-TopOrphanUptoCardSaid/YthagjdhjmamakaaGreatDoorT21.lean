/- Part 21 of 41: what the law stands on. -/
import Derived.Test.YthagjdhjmamakaaGreatDoorT16
import Derived.Test.YthagjdhjmamakaaGreatDoorT20
set_option linter.unusedVariables false
set_option linter.unusedSimpArgs false
set_option linter.unnecessarySimpa false
set_option maxRecDepth 100000
set_option maxHeartbeats 64000000
namespace Go.Proofs.YthagjdhjmamakaaGreatDoor
open Go.AM Go.ChangeShapes Go.WideShapes Go.ChangeAt Go.RowKit
def mf(L:List Obj)(t:Nat)(o:bi):Bool:=decide (0<t)&&(o.a8&& !(L.any (eH (t:Int))))
def Ch(b:Mk)(k:Nat)(t:Nat)(o:bC):bC:=if(decide (t<k)&& !(b.P[t]? ==some true))=true then⟨-1,0⟩else o
def xu(L:List Obj)(k:Nat)(t:Nat)(o:bi):bi:=if(decide (t<k)&&mf L t o)=true then fN else o
def kK(L:List Obj)(ps:List bi)(k:Nat):Bool:=(List.range k).any fun t=>match ps[t]? with
 |some o=>mf L t o
 |none=>false
structure db(l:List Obj)(ops:List bC)(ps:List bi)(L:List Obj)(L2:List bC)(L3:List bi)(en:Bool):Prop where
 ex:∃b,k8 l ops ps b/\Pt l L (cz b l l.length)/\Pt ops L2 (Ch b ops.length)
 pr:Pt ps L3 (xu L ps.length)
 en:en=kK L ps ps.length
structure Zv where
 i:Nat
 L:List Obj
structure Xg where
 i:Nat
 L:List bC
structure St3 where
 i:Nat
 L:List bi
 en:Bool
theorem yG{l:List bC}{n:Nat}(h:n<l.length):dt (n:Int) (lenOf (af (l.map bC.enc)).length 0 none)=some n:=bP (by show n<(af (l.map bC.enc)).length;rw[bb,LW];exact h)
theorem k9{l:List bi}{n:Nat}(h:n<l.length):dt (n:Int) (lenOf (af (l.map bi.enc)).length 0 none)=some n:=bP (by show n<(af (l.map bi.enc)).length;rw[bb,LW];exact h)
theorem uL{α:Type}{f:α->List Dt}{l:List α}{k:Nat}(h:(k:Int)<(((af (l.map f)).length:Nat):Int)):k<l.length:=by rw[bb,LW]at h;omega
theorem uM{α:Type}{f:α->List Dt}{l:List α}{k:Nat}(h:¬(k:Int)<(((af (l.map f)).length:Nat):Int)):l.length<=k:=by rw[bb,LW]at h;omega
theorem Dn{L:List Obj}{ps:List bi}{p:Nat}(h:p<ps.length):kK L ps (p+1)=(kK L ps p||mf L p ps[p]):=by
 unfold kK;rw[List.range_succ,List.any_append,tq h|>fun e=>(by simp[e]:(List.any [p] fun t=>match ps[t]? with|some o=>mf L t o|none=>false)=mf L p ps[p])]
theorem Dp(L:List Obj)(L2:List bC)(L3:List bi)(b:Mk)(p:Nat)(hl:L.length<=4194304){K:CV->Mem->Prop}(h:K (aA (L.any (eH (p:Int)))) [.var [.row 1 9 0 none,.row 2 2 0 none,.row 3 4 0 none],.row 9 (af (L.map Obj.enc)),.row 2 (af (L2.map bC.enc)),.row 4 (af (L3.map bi.enc)),.var [.ptr 0 0,.row 5 1 0 none,.row 6 1 0 none],.row 1 (af (b.O.map bE)),.row 1 (af (b.P.map bE)),.var [.aa (.val (.int .i64 (p:Nat)))]]):ar Tryz.prog 73 [.rv (.one (.row 1 9 0 none)),.rv (.one (.fn 113 [7]))] [.var [.row 1 9 0 none,.row 2 2 0 none,.row 3 4 0 none],.row 9 (af (L.map Obj.enc)),.row 2 (af (L2.map bC.enc)),.row 4 (af (L3.map bi.enc)),.var [.ptr 0 0,.row 5 1 0 none,.row 6 1 0 none],.row 1 (af (b.O.map bE)),.row 1 (af (b.P.map bE)),.var [.aa (.val (.int .i64 (p:Nat)))]] K:=by
 refine bv [1,7] 8 rfl rfl rfl rfl (args0:=[.rv (.one (.row 0 9 0 none)),.rv (.one (.fn 113 [1]))]) rfl (fun i b' hi=>?_) (Kb L hl 113 [.val (.int .i64 (p:Nat))] (eH (p:Int)) (fun s K hK=>Qk s p K hK)) (fun r m1 hr=>?_)
 .match i,hi with
  |0,hi=>cases hi;exact .inr ⟨fun h=>h,_,rfl,.bR rfl⟩
  |1,hi=>cases hi;exact .inr ⟨fun h=>h,_,rfl,.fz rfl⟩
  |n+2,hi=>simp at hi
 .obtain⟨rfl,rfl⟩:=hr;refine⟨QN _,?_⟩;have e:(Bk.row 9 (af (L.map Obj.enc))).aP (sg [1,7] 8)= .row 9 (af (L.map Obj.enc)):=by simp only[Bk.aP,dd]
  show K _ [.var [.row 1 9 0 none,.row 2 2 0 none,.row 3 4 0 none],(Bk.row 9 (af (L.map Obj.enc))).aP (sg [1,7] 8),.row 2 (af (L2.map bC.enc)),.row 4 (af (L3.map bi.enc)),.var [.ptr 0 0,.row 5 1 0 none,.row 6 1 0 none],.row 1 (af (b.O.map bE)),.row 1 (af (b.P.map bE)),.var [.aa (.val (.int .i64 (p:Nat)))]];rw[e];exact h
theorem l72:bq Tryz.prog Tryz.f72=some c72:=by kernel_rfl
theorem Hk(l:List Obj)(ops:List bC)(ps:List bi)(g:∀o,o∈l->o.sm)(hl:l.length<=4194304)(ho:ops.length<=4194304)(iI:ps.length<=4194304)(pi:∀p,p∈ps->p.bd.length<=10):
  body Tryz.prog c72 [.rv (.one (.ptr 0 0))] [.var [.row 1 9 0 none,.row 2 2 0 none,.row 3 4 0 none],.row 9 (af (l.map Obj.enc)),.row 2 (af (ops.map bC.enc)),.row 4 (af (ps.map bi.enc))]
   (fun r m=>∃r' m',View 4 ⟨[r],m⟩ ⟨[r'],m'⟩/\∃L L2 L3 en,db l ops ps L L2 L3 en/\r'=aA en/\m'=[.var [.row 1 9 0 none,.row 2 2 0 none,.row 3 4 0 none],.row 9 (af (L.map Obj.enc)),.row 2 (af (L2.map bC.enc)),.row 4 (af (L3.map bi.enc))]):=by
 refine(Ka l ops ps g hl ho iI pi).mono fun r m⟨b,hb,hr,hm⟩=>?_
 subst hr hm;have hbO:=hb.len.1;have hbP:=hb.len.2;refine aX (fun(s:Zv)=>s.i<=l.length/\Pt l s.L (cz b l s.i)) [0,3,16] (fun s=>[(17,an .i64 (s.i:Nat))]) (fun s=>[.var [.row 1 9 0 none,.row 2 2 0 none,.row 3 4 0 none],.row 9 (af (s.L.map Obj.enc)),.row 2 (af (ops.map bC.enc)),.row 4 (af (ps.map bi.enc)),.var [.ptr 0 0,.row 5 1 0 none,.row 6 1 0 none],.row 1 (af (b.O.map bE)),.row 1 (af (b.P.map bE))]) (fun s=>l.length-s.i) ⟨0,l⟩ ⟨XL _,(Pt.refl l).congr fun t o _=>(AX b l t o).symm⟩ ?_ (fun s hs=>?_)
 .refine View.o1 7 [0,1,2,3,4,5,6] [] ?_
  .exact(.pe rfl rfl rfl (.pr rfl rfl rfl (.pr rfl rfl rfl (.pr rfl rfl rfl (.pe rfl rfl rfl (.pr rfl rfl rfl (.pn rfl rfl rfl)))))))
 obtain⟨i,L⟩:=s;obtain⟨hi,AZ⟩:=hs;have hi:i<=l.length:=hi;have AZ:Pt l L (cz b l i):=AZ;refine aJ (fun h=>?_) (fun h=>?_)
 .have aF:i<l.length:=uL h;have VA:i<b.O.length:=om;refine ag (xq VA) ?_;refine ag (ro VA) ?_;have oo:∀(hd:eY b l i=false),Pt l L (cz b l (i+1)):=fun hd=>AZ.congr fun t o _=>Hj hd t o
  refine ay (fun h2=>?_) (fun h2=>?_)
  .have hd:eY b l i=false:=by unfold eY;rw[tq aF,tq VA,h2];simp
   refine⟨⟨i+1,L⟩,⟨aF,oo hd⟩,(show l.length-(i+1)<l.length-i by omega),View.o 7 [0,1,2,3,4,5,6] [] ?_ ?_⟩
   .repeat(first|exact .nil|refine .aq ?_|refine .put (.aP (aL om).symm) ?_|refine .eq rfl ?_)
   .exact(.pe rfl rfl rfl (.pr rfl rfl rfl (.pr rfl rfl rfl (.pr rfl rfl rfl (.pe rfl rfl rfl (.pr rfl rfl rfl (.pn rfl rfl rfl)))))))
  .obtain⟨hL,hLi⟩:=AZ.at aF;have RK:L[i].ah=l[i].ah:=by rw[hLi,AY]
   refine ag (xt hL) ?_;refine ag (bA Obj.enc L hL) ?_;refine bz (fun h3=>?_) (fun h3=>?_)
   .have h3:L[i].ah=0:=h3;have hd:eY b l i=false:=by unfold eY;rw[tq aF];show(!(b.O[i]? ==some true)&&l[i].ah !=0)=false;rw[<-RK,h3];simp
    refine⟨⟨i+1,L⟩,⟨aF,oo hd⟩,(show l.length-(i+1)<l.length-i by omega),View.o 7 [0,1,2,3,4,5,6] [] ?_ ?_⟩
    .repeat(first|exact .nil|refine .aq ?_|refine .put (.aP (aL om).symm) ?_|refine .eq rfl ?_)
    .exact(.pe rfl rfl rfl (.pr rfl rfl rfl (.pr rfl rfl rfl (.pr rfl rfl rfl (.pe rfl rfl rfl (.pr rfl rfl rfl (.pn rfl rfl rfl)))))))
   .have h3:L[i].ah≠0:=h3;have hd:eY b l i=true:=by unfold eY;rw[tq aF,tq VA,h2];simp[<-RK,h3]
    have hLl:=AZ.1;refine aX (fun(s:Zv)=>s.i<=l.length/\Pt l s.L (fun t o=>if t<s.i then iv i (cz b l i t o)else cz b l i t o)) [0,3,4,16,17,42] (fun s=>[(43,an .i64 (s.i:Nat))]) (fun s=>[.var [.row 1 9 0 none,.row 2 2 0 none,.row 3 4 0 none],.row 9 (af (s.L.map Obj.enc)),.row 2 (af (ops.map bC.enc)),.row 4 (af (ps.map bi.enc)),.var [.ptr 0 0,.row 5 1 0 none,.row 6 1 0 none],.row 1 (af (b.O.map bE)),.row 1 (af (b.P.map bE))]) (fun s=>l.length-s.i) ⟨0,L⟩ ⟨XL _,AZ.congr fun t o _=>aK⟩ ?_ (fun s hs=>?_)
    .refine View.o1 7 [0,1,2,3,4,5,6] [] ?_
     .exact(.pe rfl rfl rfl (.pr rfl rfl rfl (.pr rfl rfl rfl (.pr rfl rfl rfl (.pe rfl rfl rfl (.pr rfl rfl rfl (.pn rfl rfl rfl)))))))
    clear AZ oo;obtain⟨j,M⟩:=s;obtain⟨hj,AZ⟩:=hs;have hj:j<=l.length:=hj;have AZ:Pt l M (fun t o=>if t<j then iv i (cz b l i t o)else cz b l i t o):=AZ
    have hMl:=AZ.1;refine aJ (fun l4=>?_) (fun l4=>?_)
    .have dP:j<L.length:=uL l4;have Hl:j<l.length:=om;obtain⟨hM,RL⟩:=AZ.at Hl;simp only[Nat.lt_irrefl,if_false]at RL;have ji:=fun x=>AZ.set (j:=j) (x:=x) (g:=fun t o=>if t<j+1 then iv i (cz b l i t o)else cz b l i t o)
     have pJ:=fun(hh:iv i M[j]=M[j])=>AZ.congr (g:=fun t o=>if t<j+1 then iv i (cz b l i t o)else cz b l i t o) fun t o ho=>by
      by_cases IK:t=j
      .subst IK;rw[tq Hl]at ho;cases ho;simp only[Nat.lt_irrefl,if_false,aaZ,if_true];rw[<-RL,hh]
      .have e1:(t<j+1)↔(t<j):=om;simp only[e1]
     refine ag (xt hM) ?_;refine ag (bA Obj.enc M hM) ?_;have SK:=bA Obj.enc M hM;generalize hx:M[j]=x at RL pJ SK;refine bz (fun h4=>?_) (fun h4=>?_)
     .have h4:x.ah=4:=h4;refine ag (xt hM) ?_;refine ag SK ?_;refine bz (fun h5=>?_) (fun h5=>?_)
      .have h5:x.aG=(i:Int):=h5;refine ag (xt hM) ?_;refine ag SK ?_;have hs:=ji {x with aG:= -1} (fun o ho=>by
        rw[tq Hl]at ho;cases ho;simp only[aaZ,if_true];rw[<-RL];simp[iv,h4,h5]) (fun t o IK _=>by
        have e1:(t<j+1)↔(t<j):=om;simp only[e1])
       refine⟨⟨j+1,M.set j {x with aG:= -1}⟩,⟨Hl,hs⟩,(show l.length-(j+1)<l.length-j by omega),View.o 7 [0,1,2,3,4,5,6] [] ?_ ?_⟩
       .repeat(first|exact .nil|refine .aq ?_|refine .put (.aP (aL om).symm) ?_|refine .eq rfl ?_)
       .exact(.pe rfl rfl rfl (.pt rfl rfl (.bR (mc Obj.enc M j {x with aG:= -1})) (.pr rfl rfl rfl (.pr rfl rfl rfl (.pe rfl rfl rfl (.pr rfl rfl rfl (.pn rfl rfl rfl)))))))
      .have h5:x.aG≠(i:Int):=h5;refine⟨⟨j+1,M⟩,⟨Hl,pJ (by simp[iv,h5])⟩,(show l.length-(j+1)<l.length-j by omega),View.o 7 [0,1,2,3,4,5,6] [] ?_ ?_⟩
       .repeat(first|exact .nil|refine .aq ?_|refine .put (.aP (aL om).symm) ?_|refine .eq rfl ?_)
       .exact(.pe rfl rfl rfl (.pr rfl rfl rfl (.pr rfl rfl rfl (.pr rfl rfl rfl (.pe rfl rfl rfl (.pr rfl rfl rfl (.pn rfl rfl rfl)))))))
     .have h4:x.ah≠4:=h4;refine⟨⟨j+1,M⟩,⟨Hl,pJ (by simp[iv,h4])⟩,(show l.length-(j+1)<l.length-j by omega),View.o 7 [0,1,2,3,4,5,6] [] ?_ ?_⟩
      .repeat(first|exact .nil|refine .aq ?_|refine .put (.aP (aL om).symm) ?_|refine .eq rfl ?_)
      .exact(.pe rfl rfl rfl (.pr rfl rfl rfl (.pr rfl rfl rfl (.pr rfl rfl rfl (.pe rfl rfl rfl (.pr rfl rfl rfl (.pn rfl rfl rfl)))))))
    .have Mj:L.length<=j:=uM l4;have hM:i<M.length:=om;refine ag (xt hM) ?_;refine ag (bA Obj.enc M hM) ?_;have hs:=AZ.set (j:=i) (x:=gQ) (g:=cz b l (i+1)) (fun o _=>AW hd o) (fun t o JP ht=>by
      have:t<j:=by have:=(Hy.1 ht).1;omega
      rw[if_pos this,Dm hd JP])
     refine⟨⟨i+1,M.set i gQ⟩,⟨aF,hs⟩,(show l.length-(i+1)<l.length-i by omega),View.o 7 [0,1,2,3,4,5,6] [] ?_ ?_⟩
     .repeat(first|exact .nil|refine .aq ?_|refine .put (.aP (aL om).symm) ?_|refine .eq rfl ?_)
     .exact(.pe rfl rfl rfl (.pt rfl rfl (Xf M i) (.pr rfl rfl rfl (.pr rfl rfl rfl (.pe rfl rfl rfl (.pr rfl rfl rfl (.pn rfl rfl rfl)))))))
 .have h9:l.length<=i:=uM h;have ko:i=l.length:=om;subst ko;have hLl:=AZ.1;refine aX (fun(s:Xg)=>s.i<=ops.length/\Pt ops s.L (Ch b s.i)) [0,3,87] (fun s=>[(88,an .i64 (s.i:Nat))]) (fun s=>[.var [.row 1 9 0 none,.row 2 2 0 none,.row 3 4 0 none],.row 9 (af (L.map Obj.enc)),.row 2 (af (s.L.map bC.enc)),.row 4 (af (ps.map bi.enc)),.var [.ptr 0 0,.row 5 1 0 none,.row 6 1 0 none],.row 1 (af (b.O.map bE)),.row 1 (af (b.P.map bE))]) (fun s=>ops.length-s.i) ⟨0,ops⟩ ⟨XL _,(Pt.refl ops).congr fun t o _=>by simp[Ch]⟩ ?_ (fun s hs=>?_)
  .refine View.o1 7 [0,1,2,3,4,5,6] [] ?_
   .exact(.pe rfl rfl rfl (.pr rfl rfl rfl (.pr rfl rfl rfl (.pr rfl rfl rfl (.pe rfl rfl rfl (.pr rfl rfl rfl (.pn rfl rfl rfl)))))))
  obtain⟨k,L2⟩:=s;obtain⟨hk,FI⟩:=hs;have hk:k<=ops.length:=hk;have FI:Pt ops L2 (Ch b k):=FI;have abj:=FI.1;refine aJ (fun h=>?_) (fun h=>?_)
  .have JG:k<ops.length:=uL h;have VB:k<b.P.length:=om;refine ag (xq VB) ?_;refine ag (ro VB) ?_;have iV:∀t,t≠k->decide (t<k+1)=decide (t<k):=fun t ht=>decide_eq_decide.2 om
   refine ay (fun h2=>?_) (fun h2=>?_)
   .have h2:b.P[k]=false:=by simpa using h2
    have Zw:k<L2.length:=om;refine ag (yG Zw) ?_;refine ag (bA bC.enc L2 Zw) ?_;have hs:=FI.set (j:=k) (x:=⟨-1,0⟩) (g:=Ch b (k+1)) (fun o _=>by simp[Ch,tq VB,h2]) (fun t o OX _=>by unfold Ch;rw[iV t OX])
    refine⟨⟨k+1,L2.set k ⟨-1,0⟩⟩,⟨JG,hs⟩,(show ops.length-(k+1)<ops.length-k by omega),View.o 7 [0,1,2,3,4,5,6] [] ?_ ?_⟩
    .repeat(first|exact .nil|refine .aq ?_|refine .put (.aP (aL om).symm) ?_|refine .eq rfl ?_)
    .exact(.pe rfl rfl rfl (.pr rfl rfl rfl (.pt rfl rfl (.bR (mc bC.enc L2 k ⟨-1,0⟩)) (.pr rfl rfl rfl (.pe rfl rfl rfl (.pr rfl rfl rfl (.pn rfl rfl rfl)))))))
   .have h2:b.P[k]=true:=by simpa using h2
    have hs:=FI.congr (g:=Ch b (k+1)) fun t o _=>by
     by_cases OX:t=k
     .subst OX;simp[Ch,tq VB,h2]
     .unfold Ch;rw[iV t OX]
    refine⟨⟨k+1,L2⟩,⟨JG,hs⟩,(show ops.length-(k+1)<ops.length-k by omega),View.o 7 [0,1,2,3,4,5,6] [] ?_ ?_⟩
    .repeat(first|exact .nil|refine .aq ?_|refine .put (.aP (aL om).symm) ?_|refine .eq rfl ?_)
    .exact(.pe rfl rfl rfl (.pr rfl rfl rfl (.pr rfl rfl rfl (.pr rfl rfl rfl (.pe rfl rfl rfl (.pr rfl rfl rfl (.pn rfl rfl rfl)))))))
  .have h9:ops.length<=k:=uM h;have yF:k=ops.length:=om;subst yF;refine aX (fun(s:St3)=>s.i<=ps.length/\Pt ps s.L (xu L s.i)/\s.en=kK L ps s.i) [0,3,111] (fun s=>[(112,an .i64 (s.i:Nat)),(7,aA s.en)]) (fun s=>[.var [.row 1 9 0 none,.row 2 2 0 none,.row 3 4 0 none],.row 9 (af (L.map Obj.enc)),.row 2 (af (L2.map bC.enc)),.row 4 (af (s.L.map bi.enc)),.var [.ptr 0 0,.row 5 1 0 none,.row 6 1 0 none],.row 1 (af (b.O.map bE)),.row 1 (af (b.P.map bE))]) (fun s=>ps.length-s.i) ⟨0,ps,false⟩ ⟨XL _,(Pt.refl ps).congr fun t o _=>by simp[xu],rfl⟩ ?_ (fun s hs=>?_)
   .refine View.o1 7 [0,1,2,3,4,5,6] [] ?_
    .exact(.pe rfl rfl rfl (.pr rfl rfl rfl (.pr rfl rfl rfl (.pr rfl rfl rfl (.pe rfl rfl rfl (.pr rfl rfl rfl (.pn rfl rfl rfl)))))))
   obtain⟨p,L3,en⟩:=s;obtain⟨hp,Qm,sX⟩:=hs;have hp:p<=ps.length:=hp;have Qm:Pt ps L3 (xu L p):=Qm;have sX:en=kK L ps p:=sX;have abk:=Qm.1;refine aJ (fun h=>?_) (fun h=>?_)
   .have g9:p<ps.length:=uL h;obtain⟨VC,M7⟩:=Qm.at g9;have M7:L3[p]=ps[p]:=by rw[M7];simp[xu]
    have iV:∀t,t≠p->decide (t<p+1)=decide (t<p):=fun t ht=>decide_eq_decide.2 om
    have TI:=Dn (L:=L) g9;have oD:mf L p ps[p]=false->Pt ps L3 (xu L (p+1))/\en=kK L ps (p+1):=fun hf=>⟨Qm.congr fun t o Cg=>by
     by_cases M8:t=p
     .subst M8;rw[tq g9]at Cg;cases Cg;simp[xu,hf]
     .unfold xu;rw[iV t M8],by rw[TI,hf,sX];simp⟩
    refine Dp L L2 L3 b p om ?_;refine aJ (fun ww=>?_) (fun ww=>?_)
    .have ww:0<p:=by have h:(p:Int)>0:=ww;omega
     refine ag (k9 VC) ?_;refine ag (bA bi.enc L3 VC) ?_;refine ay (fun dG=>?_) (fun dG=>?_)
     .refine ay (fun IL=>?_) (fun IL=>?_)
      .refine ag (k9 VC) ?_;refine ag (bA bi.enc L3 VC) ?_;refine⟨trivial,?_⟩;have he:mf L p ps[p]=true:=by rw[M7]at dG;unfold mf;rw[dG,IL];simp[ww]
       have hs:=Qm.set (j:=p) (x:=fN) (g:=xu L (p+1)) (fun o Cg=>by rw[tq g9]at Cg;cases Cg;simp[xu,he]) (fun t o M8 _=>by unfold xu;rw[iV t M8])
       refine⟨⟨p+1,L3.set p fN,true⟩,⟨g9,hs,(by rw[TI,he];simp)⟩,(show ps.length-(p+1)<ps.length-p by omega),View.o 8 [0,1,2,3,4,5,6] [] ?_ ?_⟩
       .repeat(first|exact .nil|refine .aq ?_|refine .put (.aP (aL om).symm) ?_|refine .eq rfl ?_)
       .exact(.pe rfl rfl rfl (.pr rfl rfl rfl (.pr rfl rfl rfl (.pt rfl rfl (OW L3 p) (.pe rfl rfl rfl (.pr rfl rfl rfl (.pn rfl rfl rfl)))))))
      .skip
       refine⟨⟨p+1,L3,en⟩,⟨g9,(oD (by unfold mf;rw[IL];simp)).1,(oD (by unfold mf;rw[IL];simp)).2⟩,(show ps.length-(p+1)<ps.length-p by omega),View.o 8 [0,1,2,3,4,5,6] [] ?_ ?_⟩
       .repeat(first|exact .nil|refine .aq ?_|refine .put (.aP (aL om).symm) ?_|refine .eq rfl ?_)
       .exact(.pe rfl rfl rfl (.pr rfl rfl rfl (.pr rfl rfl rfl (.pr rfl rfl rfl (.pe rfl rfl rfl (.pr rfl rfl rfl (.pn rfl rfl rfl)))))))
     .rw[M7]at dG;refine⟨⟨p+1,L3,en⟩,⟨g9,(oD (by unfold mf;rw[dG];simp)).1,(oD (by unfold mf;rw[dG];simp)).2⟩,(show ps.length-(p+1)<ps.length-p by omega),View.o 8 [0,1,2,3,4,5,6] [] ?_ ?_⟩
      .repeat(first|exact .nil|refine .aq ?_|refine .put (.aP (aL om).symm) ?_|refine .eq rfl ?_)
      .exact(.pe rfl rfl rfl (.pr rfl rfl rfl (.pr rfl rfl rfl (.pr rfl rfl rfl (.pe rfl rfl rfl (.pr rfl rfl rfl (.pn rfl rfl rfl)))))))
    .have ww:p=0:=by have h:¬(p:Int)>0:=ww;omega
     refine⟨⟨p+1,L3,en⟩,⟨g9,(oD (by simp[mf,ww])).1,(oD (by simp[mf,ww])).2⟩,(show ps.length-(p+1)<ps.length-p by omega),View.o 8 [0,1,2,3,4,5,6] [] ?_ ?_⟩
     .repeat(first|exact .nil|refine .aq ?_|refine .put (.aP (aL om).symm) ?_|refine .eq rfl ?_)
     .exact(.pe rfl rfl rfl (.pr rfl rfl rfl (.pr rfl rfl rfl (.pr rfl rfl rfl (.pe rfl rfl rfl (.pr rfl rfl rfl (.pn rfl rfl rfl)))))))
   .have h9:ps.length<=p:=uM h;have Ad:p=ps.length:=om;subst Ad;refine⟨aA en,_,View.o 7 [0,1,2,3] [] (.eq rfl .nil) (.pe rfl rfl rfl (.pr rfl rfl rfl (.pr rfl rfl rfl (.pn rfl rfl rfl)))),L,L2,L3,en,⟨⟨b,hb,AZ,FI⟩,Qm,sX⟩,rfl,rfl⟩
theorem M9(l:List Obj)(ops:List bC)(ps:List bi)(g:∀o,o∈l->o.sm)(hl:l.length<=4194304)(ho:ops.length<=4194304)(iI:ps.length<=4194304)(pi:∀p,p∈ps->p.bd.length<=10):
  ar Tryz.prog 72 [.rv (.one (.ptr 0 0))] [.var [.row 1 9 0 none,.row 2 2 0 none,.row 3 4 0 none],.row 9 (af (l.map Obj.enc)),.row 2 (af (ops.map bC.enc)),.row 4 (af (ps.map bi.enc))]
   (fun r m=>∃L L2 L3 en,db l ops ps L L2 L3 en/\r=aA en/\m=[.var [.row 1 9 0 none,.row 2 2 0 none,.row 3 4 0 none],.row 9 (af (L.map Obj.enc)),.row 2 (af (L2.map bC.enc)),.row 4 (af (L3.map bi.enc))]):=
 bK (aW Tryz.func72 l72 (Hk l ops ps g hl ho iI pi)) fun r m1 h=>h
structure dC(l:List Obj)(ops:List bC)(ps:List bi):Prop where
 sm:∀o,o∈l->o.sm
 ll:l.length<=4194304
 lo:ops.length<=4194304
 lp:ps.length<=4194304
 sl:∀p,p∈ps->p.bd.length<=10
 ne:ps≠[]
theorem Ke:gQ.sm:=⟨⟨⟨[],rfl⟩,⟨[],rfl⟩,fun q hq=>by simp[gQ]at hq⟩,by simp[gQ],by simp[gQ],by simp[gQ],fun q hq=>by simp[gQ]at hq⟩
theorem Pt.all{α:Type}{l L:List α}{f:Nat->α->α}(h:Pt l L f){Q:α->Prop}(hf:∀(t:Nat)o,l[t]? =some o->Q (f t o)):∀x,x∈L->Q x:=by
 intro x hx;obtain⟨t,ht⟩:=Xz hx;have aF:t<l.length:=by have:=(Hy.1 ht).1;rw[h.1]at this;exact this
 have:=h.2 t l[t] (tq aF);rw[ht]at this;cases this;exact hf t _ (tq aF)
theorem db.kr{l:List Obj}{ops:List bC}{ps:List bi}{L:List Obj}{L2:List bC}{L3:List bi}{en:Bool}(h:db l ops ps L L2 L3 en)(k:dC l ops ps):dC L L2 L3:=by
 obtain⟨b,hb,hP,FI⟩:=h.ex;refine⟨hP.all fun t o ho=>?_,by rw[hP.1];exact k.ll,by rw[FI.1];exact k.lo,by rw[h.pr.1];exact k.lp,h.pr.all (Q:=fun p=>p.bd.length<=10) fun t o ho=>?_,fun e=>k.ne (XJ (by rw[<-h.pr.1,e];rfl))⟩
 .have hs:=k.sm o (O9 ho);unfold cz;split
  .exact Ke
  .split
   .exact⟨⟨hs.t.1,hs.t.2.1,hs.t.2.2⟩,hs.d,hs.e,hs.q,hs.qd⟩
   .exact hs
 .unfold xu;split
  .simp[fN]
  .exact k.sl o (O9 ho)
def jO(ps:List bi):Nat:=(ps.filter fun p=>p.a8).length
theorem A0:∀(a b:List bi),b.length=a.length->(∀(t:Nat)x y,a[t]? =some x->b[t]? =some y->y.a8=true->x.a8=true)->jO b<=jO a/\((∃(t:Nat)(x y:bi),a[t]? =some x/\b[t]? =some y/\x.a8=true/\y.a8=false)->jO b<jO a)
 | [],[],_,_=>⟨QN _,fun⟨t,x,y,h,_⟩=>by simp at h⟩
 | [],_::_,h,_=>by simp at h
 |_::_,[],h,_=>by simp at h
 |x::a,y::b,h,hm=>by
  obtain⟨Zx,ih2⟩:=A0 a b (by simpa using h) (fun t u v hu hv=>hm (t+1) u v (by simpa using hu) (by simpa using hv))
  have h0:=hm 0 x y aK aK;refine⟨?_,fun⟨t,u,v,hu,hv,Zy,wi⟩=>?_⟩
  .unfold jO at Zx⊢;cases hx:x.a8<;>cases hy:y.a8<;>simp[hx,hy]at h0⊢<;>omega
  .cases t with
   |zero=>
    simp at hu hv;subst hu hv;unfold jO at Zx⊢;simp[Zy,wi];omega
   |succ t=>
    have:=ih2 ⟨t,u,v,by simpa using hu,by simpa using hv,Zy,wi⟩
    unfold jO at this⊢;cases hx:x.a8<;>cases hy:y.a8<;>simp[hx,hy]at h0⊢<;>omega
theorem db.jO{l:List Obj}{ops:List bC}{ps:List bi}{L:List Obj}{L2:List bC}{L3:List bi}(h:db l ops ps L L2 L3 true):jO L3<Go.Proofs.YthagjdhjmamakaaGreatDoor.jO ps:=by
 have sX:=h.en;unfold kK at sX;have sX:=sX.symm;rw[aaH]at sX;obtain⟨t,ht,Qn⟩:=sX;have VD:t<ps.length:=by simpa using ht
 rw[tq VD]at Qn;have Qn:mf L t ps[t]=true:=Qn;refine(A0 ps L3 h.pr.1 (fun i x y hx hy hl=>?_)).2 ⟨t,ps[t],fN,tq VD,?_,?_,rfl⟩
 .have:=h.pr.2 i x hx;rw[hy]at this;cases this;unfold xu at hl;split at hl
  .simp[fN]at hl
  .exact hl
 .have:=h.pr.2 t _ (tq VD);rw[this];simp[xu,Qn,VD]
 .unfold mf at Qn;simp at Qn;exact Qn.2.1
structure Kr where
 l:List Obj
 ops:List bC
 ps:List bi
inductive iL(k:Kr):Kr->Prop
 |refl:iL k k
 |step {a b:Kr} (h:iL k a) (ho:db a.l a.ops a.ps b.l b.ops b.ps true):iL k b
theorem Kf{σ:Nat->Nat}{m:Mem}{Z:Nat->Prop}{p:Option Nat}{a b:Dt}(h:a=b):pj σ m Z p (.aa a) (.aa b):=h▸ .aP (.aa a)
theorem Dq(a:Kr)(ha:dC a.l a.ops a.ps){K:CV->Mem->Prop}(x0:Bk)(h:∀(c:Kr)en,db a.l a.ops a.ps c.l c.ops c.ps en->K (aA en) [x0,.var z3,.var [.row 3 9 0 none,.row 4 2 0 none,.row 5 4 0 none],.row 9 (af (c.l.map Obj.enc)),.row 2 (af (c.ops.map bC.enc)),.row 4 (af (c.ps.map bi.enc))]):
  ar Tryz.prog 72 [.rv (.one (.ptr 2 0))] [x0,.var z3,.var [.row 3 9 0 none,.row 4 2 0 none,.row 5 4 0 none],.row 9 (af (a.l.map Obj.enc)),.row 2 (af (a.ops.map bC.enc)),.row 4 (af (a.ps.map bi.enc))] K:=by
 refine bv [2,3,4,5] 6 rfl rfl rfl rfl (args0:=[.rv (.one (.ptr 0 0))]) rfl (fun i b' hi=>?_) (M9 a.l a.ops a.ps ha.sm ha.ll ha.lo ha.lp ha.sl) (fun r m1 hr=>?_)
 .match i,hi with
  |0,hi=>cases hi;exact .inr ⟨fun h=>h,_,rfl,.eq rfl aK⟩
  |1,hi=>cases hi;exact .inr ⟨fun h=>h,_,rfl,.bR rfl⟩
  |2,hi=>cases hi;exact .inr ⟨fun h=>h,_,rfl,.bR rfl⟩
  |3,hi=>cases hi;exact .inr ⟨fun h=>h,_,rfl,.bR rfl⟩
  |n+4,hi=>simp at hi
 .obtain⟨L,L2,L3,en,ho,rfl,rfl⟩:=hr;refine⟨QN _,?_⟩;have e:∀(s:Nat)(ds:List (List Dt)),(Bk.row s (af ds)).aP (sg [2,3,4,5] 6)= .row s (af ds):=fun s ds=>by simp only[Bk.aP,dd]
  show K _ [x0,.var z3,.var [.row 3 9 0 none,.row 4 2 0 none,.row 5 4 0 none],(Bk.row 9 (af (L.map Obj.enc))).aP (sg [2,3,4,5] 6),(Bk.row 2 (af (L2.map bC.enc))).aP (sg [2,3,4,5] 6),(Bk.row 4 (af (L3.map bi.enc))).aP (sg [2,3,4,5] 6)];rw[e,e,e];exact h ⟨L,L2,L3⟩ en ho
def c75:LF:= ⟨16,[.tmp 3],(.seq (.ai [qu 2 (.box 0),qu 3 (.aD (qb false))]) (.seq (.ai [qf 4 0 2,ql 5 4,qu 6 (.aE .eql 5 (qi 5)),qm 7 6,qg 8 (.bQ 6 2) 7 true,qg 9 (.load false 1 8) 7 true,qg 10 (.bQ 2 1) 7 true,qg 11 (.load false 1 10) 7 true,qg 12 (.len 1 11) 7 true,qg 13 (.aE .sub 12 (qi 1)) 7 true,qg 14 (.aE .eql 9 13) 7 true,qu 15 (.pick 7 14 (qb false)),qm 3 15]) .ret))⟩
theorem l75:bq Tryz.prog Tryz.f75=some c75:=by kernel_rfl
theorem Dr(l:List Obj)(hb:l.length<=4194304)(F:Nat)(cs:List Dt)(q:Obj->Bool)(hF:∀s,∀K:CV->Mem->Prop,K (aA (q s)) [.var (cs.map .aa)]->ar Tryz.prog F [s.cv,.rv (.one (.ptr 0 0))] [.var (cs.map .aa)] K):
  body Tryz.prog c114 [cq l,.rv (.one (.fn F [0]))] [.var (cs.map .aa)] (fun r m=>r=an .i64 (mV q l)/\m=[.var (cs.map .aa)]):=by
 refine aX (fun k=>k<=l.length/\∀(j:Nat)s,j<k->l[j]? =some s->q s=false) [0,1,7] (fun k=>[(8,an .i64 (k:Nat))]) (fun _=>[.var (cs.map .aa)]) (fun k=>l.length-k) 0 ⟨XL _,fun j s h=>absurd h (aal j)⟩ ?_ (fun k hk=>?_)
 .refine View.o1 1 [0] [] ?_
  .exact .pt rfl rfl (.fz rfl) (.nil _)
 .refine aJ (fun h=>?_) (fun h=>?_)
  .have aF:k<l.length:=by have h:(k:Int)<((l.map Obj.enc).length:Int):=h;rw[LW]at h;omega
   refine ag (M1 aF) ?_;have hi:=tq aF;have TH:=jM (q:=q) aF;generalize l[k]=o at hi TH;refine hF o _ ?_;refine ay (fun FH=>?_) (fun FH=>?_)
   .rw[TH FH hk.2];exact⟨rfl,rfl⟩
   .refine⟨k+1,⟨aF,fun j s hj hs=>?_⟩,(show l.length-(k+1)<l.length-k by omega),View.o 1 [0] [] ?_ ?_⟩
    .rcases XN j k with h5|h5
     .exact hk.2 j s h5 hs
     .have:j=k:=om;subst this;rw[hi]at hs;cases hs;exact FH
    .repeat(first|exact .nil|refine .aq ?_|refine .put (.aP (aL om).symm) ?_|refine .eq rfl ?_)
    .exact .pt rfl rfl (.fz rfl) (.nil _)
  .have ef:¬(k:Int)<((l.map Obj.enc).length:Int):=h;rw[LW]at ef;rw[lL fun j s hs=>hk.2 j s (by have:=(Hy.1 hs).1;omega) hs]
   exact⟨rfl,rfl⟩
theorem A2(l:List Obj)(hb:l.length<=4194304)(F:Nat)(cs:List Dt)(q:Obj->Bool)(hF:∀s,∀K:CV->Mem->Prop,K (aA (q s)) [.var (cs.map .aa)]->ar Tryz.prog F [s.cv,.rv (.one (.ptr 0 0))] [.var (cs.map .aa)] K):
  body Tryz.prog c73 [cq l,.rv (.one (.fn F [0]))] [.var (cs.map .aa)] (fun r m=>r=aA (l.any q)/\m=[.var (cs.map .aa)]):=by
 refine(aW Tryz.func114 l114 (Dr l hb F cs q hF)).mono fun r m⟨hr,hm⟩=>?_
 subst hr hm;refine⟨?_,rfl⟩;show aA _=aA _;rw[<-pY]
theorem ru(l:List Obj)(hb:l.length<=4194304)(F:Nat)(cs:List Dt)(q:Obj->Bool)(hF:∀s,∀K:CV->Mem->Prop,K (aA (q s)) [.var (cs.map .aa)]->ar Tryz.prog F [s.cv,.rv (.one (.ptr 0 0))] [.var (cs.map .aa)] K)(K:CV->Mem->Prop)(h:K (aA (l.any q)) [.var (cs.map .aa)]):
  ar Tryz.prog 73 [cq l,.rv (.one (.fn F [0]))] [.var (cs.map .aa)] K:=
 (aW Tryz.func73 l73 (A2 l hb F cs q hF)).mono fun r m⟨hr,hm⟩=>by subst hr hm;exact h
def c37:LF:= ⟨120,[.cell true 3 2],(.seq (.ai [qu 1 (.box 0),qu 2 (.alloc [.aB,.aB,.aB])]) (.seq (.ai [qL 6 3 1,qu 7 (qc 52 [6]),qu 3 (.alloc [.aB,.aB,.aB]),qw (.store 3 3 7)]) (.seq (.block 0 (.loop (.seq (.seq (.ai [qu 8 (qc 72 [3])]) (.cond 8 .skip (.exit 0))) (.block 1 .skip)))) (.seq (.block 2 (.loop (.seq (.seq (.ai [qf 9 0 3,ql 10 9,qu 11 (.len 1 10),qu 12 (.aE .gtr 11 (qi 1)),qm 13 12,qg 14 (.bQ 0 3) 13 true,qg 15 (.load false 1 14) 13 true,qg 16 (.bQ 0 3) 13 true,qg 17 (.load false 1 16) 13 true,qg 18 (.len 1 17) 13 true,qg 19 (.aE .sub 18 (qi 1)) 13 true,qg 20 (.b7 9 15 19) 13 true,qg 21 (.bQ 0 20) 13 true,qg 22 (.load false 1 21) 13 true,qg 23 (.aE .eql 22 (qi 0)) 13 true,qu 24 (.pick 13 23 (qb false))]) (.cond 24 .skip (.exit 2))) (.block 3 (.ai [qf 25 0 3,ql 26 25,qf 27 0 3,ql 28 27,qu 29 (.len 1 28),qu 30 (.aE .sub 29 (qi 1)),qu 31 (.m6 9 26 none (some 30) none),qf 32 0 3,qw (.store 1 32 31)]))))) (.cL (.seq (.block 4 (.loop (.seq (.seq (.ai [qf 33 1 3,ql 34 33,qu 35 (.len 1 34),qu 36 (.aE .gtr 35 (qi 0)),qm 37 36,qg 38 (.bQ 1 3) 37 true,qg 39 (.load false 1 38) 37 true,qg 40 (.bQ 1 3) 37 true,qg 41 (.load false 1 40) 37 true,qg 42 (.len 1 41) 37 true,qg 43 (.aE .sub 42 (qi 1)) 37 true,qg 44 (.b7 2 39 43) 37 true,qg 45 (.bQ 0 44) 37 true,qg 46 (.load false 1 45) 37 true,qg 47 (.aE .lss 46 (qi 0)) 37 true,qu 48 (.pick 37 47 (qb false))]) (.cond 48 .skip (.exit 4))) (.block 5 (.ai [qf 49 1 3,ql 50 49,qf 51 1 3,ql 52 51,qu 53 (.len 1 52),qu 54 (.aE .sub 53 (qi 1)),qu 55 (.m6 2 50 none (some 54) none),qf 56 1 3,qw (.store 1 56 55)]))))) (.seq (.cL (.seq (.ai [qf 57 2 3,ql 58 57,qu 59 (.len 1 58),qu 60 (.aD (qi 0))]) (.block 6 (.loop (.seq (.ai [qu 61 (.aE .lss 60 59)]) (.seq (.cond 61 .skip (.exit 6)) (.seq (.block 7 (.seq (.ai [qm 62 60,qu 4 (.alloc [(qd 0)]),qw (.store 1 4 62)]) (.seq (.ai [qf 63 0 3,ql 64 63,qu 65 (.fn 74 [4]),qu 66 (qc 73 [64,65]),qm 5 66]) (.seq (.ai [ql 67 4,qu 68 (.aE .gtr 67 (qi 0)),qm 69 68,qg 70 (.bQ 2 3) 69 true,qg 71 (.load false 1 70) 69 true,qg 72 (.load false 1 4) 69 true,qg 73 (.b7 4 71 72) 69 true,qg 74 (.bQ 0 73) 69 true,qg 75 (.load false 1 74) 69 true,qg 76 (.un .not 75) 69 true,qu 77 (.pick 69 76 (qb false)),qm 78 77,qg 79 (.aD 5) 78 true,qg 80 (.un .not 79) 78 true,qu 81 (.pick 78 80 (qb false))]) (.cond 81 (.ai [qf 82 2 3,ql 83 82,ql 84 4,qu 85 (.build [(.aa (.val (.bool false))),(.aa (.val (.bool false))),(qd 0),.aB] []),qu 86 (.b7 4 83 84),qw (.store 4 86 85)]) .skip))))) (.ai [qu 87 (.aE .add 60 (qi 1)),qm 60 87])))))))) (.cL (.seq (.block 8 (.loop (.seq (.seq (.ai [qf 88 2 3,ql 89 88,qu 90 (.len 1 89),qu 91 (.aE .gtr 90 (qi 1)),qm 92 91,qg 93 (.bQ 2 3) 92 true,qg 94 (.load false 1 93) 92 true,qg 95 (.bQ 2 3) 92 true,qg 96 (.load false 1 95) 92 true,qg 97 (.len 1 96) 92 true,qg 98 (.aE .sub 97 (qi 1)) 92 true,qg 99 (.b7 4 94 98) 92 true,qg 100 (.bQ 0 99) 92 true,qg 101 (.load false 1 100) 92 true,qg 102 (.un .not 101) 92 true,qu 103 (.pick 92 102 (qb false)),qm 104 103,qg 105 (.bQ 0 3) 104 true,qg 106 (.load false 1 105) 104 true,qg 107 (.fn 75 [3]) 104 true,qg 108 (qc 73 [106,107]) 104 true,qg 109 (.un .not 108) 104 true,qu 110 (.pick 104 109 (qb false))]) (.cond 110 .skip (.exit 8))) (.block 9 (.ai [qf 111 2 3,ql 112 111,qf 113 2 3,ql 114 113,qu 115 (.len 1 114),qu 116 (.aE .sub 115 (qi 1)),qu 117 (.m6 4 112 none (some 116) none),qf 118 2 3,qw (.store 1 118 117)]))))) (.seq (.ai [qL 119 3 3,qw (.store 3 2 119)]) .ret))))))))))⟩
theorem l37:bq Tryz.prog Tryz.f37=some c37.er:=by kernel_rfl
theorem A3(o:Obj)(a c:Dt)(ps:List bi):body Tryz.prog c75 [o.cv,.rv (.one (.ptr 0 0))] [.var ([a,c,fM ps].map .aa)] (fun r m=>r=aA (eH (IntKind.i64.wrap (((ps.map bi.enc).length:Int)-1)) o)/\∃ex,m= .var ([a,c,fM ps].map .aa)::ex):=by
 refine ay (fun h=>?_) (fun h=>?_)
 .refine⟨?_,_,rfl⟩;show aA _=aA _;rw[eH,h];rfl
 .refine⟨?_,_,rfl⟩;show aA _=aA _;rw[eH,h];rfl
theorem Qo(o:Obj)(a c:Dt)(ps:List bi)(K:CV->Mem->Prop)(h:K (aA (eH (IntKind.i64.wrap (((ps.map bi.enc).length:Int)-1)) o)) [.var ([a,c,fM ps].map .aa)]):ar Tryz.prog 75 [o.cv,.rv (.one (.ptr 0 0))] [.var ([a,c,fM ps].map .aa)] K:=
 eM rfl (aW Tryz.func75 l75 (A3 o a c ps)) h
structure Hm{α:Type}(q:Nat->α->Bool)(mn:Nat)(L:List α)(n:Nat):Prop where
 le:n<=L.length
 mn:min mn L.length<=n
 dr:∀(t:Nat)o,n<=t->L[t]? =some o->q t o=true
structure rx{α:Type}(q:Nat->α->Bool)(mn:Nat)(L:List α)(n:Nat):Prop where
 t:Hm q mn L n
 e:n<=mn\/∃o,L[n-1]? =some o/\q (n-1) o=false
theorem Hm.start{α:Type}(q:Nat->α->Bool)(mn:Nat)(L:List α):Hm q mn L L.length:=
 ⟨QN _,Nat.min_le_right _ _,fun t o h ho=>by have:=(Hy.1 ho).1;omega⟩
theorem Hm.step{α:Type}{q:Nat->α->Bool}{mn:Nat}{L:List α}{n:Nat}(h:Hm q mn L n)(hn:mn<n)(hl:n-1<L.length)(hq:q (n-1) L[n-1]=true):Hm q mn L (n-1):=
 ⟨om,om,fun t o ht ho=>by
  rcases XN t n with h1|h1
  .have:t=n-1:=om;subst this;rw[tq hl]at ho;cases ho;exact hq
  .exact h.dr t o h1 ho⟩
theorem gR{α:Type}{L:List α}{n:Nat}(h:n<=L.length):(L.take n).length=n:=by rw[Z3];omega
theorem uN{α:Type}(f:α->List Dt)(L:List α){n:Nat}(h:n<=L.length):(((L.take n).map f).take (n-1)).drop 0=(L.take (n-1)).map f:=by rw[abe,<-abc,List.take_take,ab3 om]
theorem uO{α:Type}(f:α->List Dt)(L:List α){n:Nat}(h1:0<n)(h:n<=L.length):dg ((L.take n).map f) ((n-1:Nat):Int)=some (f (L[n-1]'(by omega))):=by rw[bF,O6,List.getElem?_take_of_lt om,tq om];rfl
def qO(_:Nat)(o:Obj):Bool:=o.ah==0
def qP(_:Nat)(o:bC):Bool:=decide (o.bt<0)
def qZ(O:List Obj)(t:Nat)(o:bi):Bool:=decide (0<t)&&(!o.a8&& !(O.any (eH (t:Int))))
def yH(O:List Obj)(k:Nat)(t:Nat)(o:bi):bi:=if(decide (t<k)&&qZ O t o)=true then fN else o
def qR(O:List Obj)(t:Nat)(o:bi):Bool:= !o.a8&& !(O.any (eH (t:Int)))
structure kL(c:Kr)(d:Kr):Prop where
 ex:∃(n1 n2 n3:Nat)(P:List bi),rx qO 1 c.l n1/\rx qP 0 c.ops n2/\Pt c.ps P (yH (c.l.take n1) c.ps.length)/\rx (qR (c.l.take n1)) 1 P n3/\d=⟨c.l.take n1,c.ops.take n2,P.take n3⟩
def KS(k:Kr)(r:CV)(m:Mem):Prop:=∃a c d,iL k a/\db a.l a.ops a.ps c.l c.ops c.ps false/\kL c d/\cw m r (dX d.l d.ops d.ps)
def Xh(k:Kr):Ex->St->Prop:=nb Tryz.prog c37.ki (KS k)
def T4:LC:=oV (bI (bI (bI (bI c37.code))))
def T57:LC:=oV (Ty (bI T4))
def R8:LC:=bI (bI T4)
def Xi:List CV:=lB 120 [(2,.rv (.one (.ptr 1 0))),(3,.rv (.one (.ptr 2 0)))]
theorem Xj(m:Mem)(d:Kr):cw m (.rv (.agg [.aa (da d.l),.aa (eF d.ops),.aa (fM d.ps)])) (dX d.l d.ops d.ps):=cw.self rfl
theorem Xk(k a c:Kr)(ha:iL k a)(hc:db a.l a.ops a.ps c.l c.ops c.ps false)(hk:dC c.l c.ops c.ps)(n1 n2:Nat)(h1:rx qO 1 c.l n1)(h2:rx qP 0 c.ops n2)(P:List bi)(O:List Obj)(hO:O=c.l.take n1)(hP:Pt c.ps P (yH (c.l.take n1) c.ps.length)):aw Tryz.prog 0 (oV R8) (Xh k) ⟨Xi,[.aZ,.var z3,.var [.aa (da O),.aa (eF (c.ops.take n2)),.aa (fM P)]]⟩:=by
 have VE:P.length<=4194304:=by rw[hP.1];exact hk.lp
 have VF:O.length<=4194304:=by rw[hO,Z3];have:=hk.ll;omega
 have Qp:∀(n:Nat)(m:Mem),Hm (qR O) 1 P n->(n<=1\/∃o,P[n-1]? =some o/\qR O (n-1) o=false)->KS k (.rv (.agg [.aa (da O),.aa (eF (c.ops.take n2)),.aa (fM (P.take n))])) m:=fun n m hn he=>
  ⟨a,c,⟨O,c.ops.take n2,P.take n⟩,ha,hc,⟨n1,n2,n,P,h1,h2,hP,by rw[<-hO];exact⟨hn,he⟩,by rw[hO]⟩,Xj m ⟨O,c.ops.take n2,P.take n⟩⟩
 refine aX (fun n=>Hm (qR O) 1 P n) [2,3] (fun _=>[]) (fun n=>[.aZ,.var z3,.var [.aa (da O),.aa (eF (c.ops.take n2)),.aa (fM (P.take n))]]) (fun n=>n) P.length (.start _ _ _) ?_ (fun n hn=>?_)
 .refine View.o1 3 [0,1,2] [] ?_
  .exact(.aZ (.pe rfl rfl rfl (.pt rfl rfl (eG.var (.cons (.aP (.aa _)) (.cons (.aP (.aa _)) (.cons (Kf (by rw[aan])) .nil)))) (.nil _))))
 have hn:Hm (qR O) 1 P n:=hn;have j8:=hn.le;refine aJ (fun h=>?_) (fun h=>?_)
 .have oO:1<n:=by have h:(((P.take n).map bi.enc).length:Int)>1:=h;rw[LW,gR j8]at h;omega
  have hz:IntKind.i64.wrap ((((P.take n).map bi.enc).length:Int)-1)=((n-1:Nat):Int):=by rw[LW,gR j8,gh om om];omega
  have aF:n-1<P.length:=om;have hg:=uO bi.enc P om j8;rw[<-hz]at hg;have mI:=tq aF;have oy:=hn.step om aF;generalize P[n-1]=x at hg mI oy;have hg:dg ((P.take n).map bi.enc) (IntKind.i64.wrap ((((P.take n).map bi.enc).length:Int)-1))=some [.val (.bool x.a8),.val (.bool x.fenced),.val (.int .i64 x.code),wu x.bd]:=hg;refine ag hg ?_;refine ay (fun dG=>?_) (fun dG=>?_)
  .refine fl (args0:=[cq O,.rv (.one (.fn 75 [0]))]) (cs:=[da O,eF (c.ops.take n2),fM (P.take n)]) 2 rfl rfl (r0:=aA (O.any (eH (IntKind.i64.wrap ((((P.take n).map bi.enc).length:Int)-1))))) rfl (fun K hK=>ru O VF 75 _ _ (fun s K hK=>Qo s _ _ _ K hK) K hK) ?_
   rw[hz];refine ay (fun IL=>?_) (fun IL=>?_)
   .have hq:qR O (n-1) x=true:=by unfold qR;rw[dG,IL];rfl
    refine ag (x:=n-1) (by show oi (an .i64 (IntKind.i64.wrap ((((P.take n).map bi.enc).length:Int)-1)))=_;rw[hz];rfl) ?_
    refine b8 (by simp[aap];omega) ?_
    refine⟨n-1,oy hq,(show n-1<n by omega),View.o1 3 [0,1,2] [] ?_⟩
    .exact(.aZ (.pe rfl rfl rfl (.pt rfl rfl (eG.var (.cons (.aP (.aa _)) (.cons (.aP (.aa _)) (.cons (Kf (congrArg (Dt.sl 4) (uN bi.enc P j8))) .nil)))) (.nil _))))
   .have hq:qR O (n-1) x=false:=by unfold qR;rw[dG,IL];rfl
    exact Qp n _ hn (.inr ⟨x,mI,hq⟩)
  .have hq:qR O (n-1) x=false:=by unfold qR;rw[dG];rfl
   exact Qp n _ hn (.inr ⟨x,mI,hq⟩)
 .have oO:n<=1:=by have h:¬(((P.take n).map bi.enc).length:Int)>1:=h;rw[LW,gR j8]at h;omega
  exact Qp n _ hn (.inl oO)
structure StZ where
 p:Nat
 P:List bi
theorem dC.Xl{l:List Obj}{ops:List bC}{ps:List bi}(h:dC l ops ps)(n:Nat):(l.take n).length<=4194304:=by rw[Z3];have:=h.ll;omega
theorem OY(k a c:Kr)(ha:iL k a)(hc:db a.l a.ops a.ps c.l c.ops c.ps false)(hk:dC c.l c.ops c.ps)(n1 n2:Nat)(h1:rx qO 1 c.l n1)(h2:rx qP 0 c.ops n2):
  aw Tryz.prog 0 T57 (PC (aw Tryz.prog 0 R8) (Xh k)) ⟨Xi,[.aZ,.var z3,.var [.aa (da (c.l.take n1)),.aa (eF (c.ops.take n2)),.row 3 4 0 none],.row 4 (af (c.ps.map bi.enc))]⟩:=by
 have iI:=hk.lp;have VF:=hk.Xl n1;generalize hO:c.l.take n1=O at VF;refine aX (fun(s:StZ)=>s.p<=c.ps.length/\Pt c.ps s.P (yH O s.p)) [2,3,59] (fun s=>[(60,an .i64 (s.p:Nat))]) (fun s=>[.aZ,.var z3,.var [.aa (da O),.aa (eF (c.ops.take n2)),.row 3 4 0 none],.row 4 (af (s.P.map bi.enc))]) (fun s=>c.ps.length-s.p) ⟨0,c.ps⟩ ⟨XL _,(Pt.refl c.ps).congr fun t o _=>by simp[yH]⟩ ?_ (fun s hs=>?_)
 .refine View.o1 4 [0,1,2,3] [] ?_
  .exact(.aZ (.pe rfl rfl rfl (.pt rfl rfl (eG.var (.cons (.aP (.aa _)) (.cons (.aP (.aa _)) (.cons (.aP (.row 3 4 0 none)) .nil)))) (.pn rfl rfl rfl))))
 obtain⟨p,P⟩:=s;obtain⟨hp,hP⟩:=hs;have hp:p<=c.ps.length:=hp;have hP:Pt c.ps P (yH O p):=hP;have VE:=hP.1;refine aJ (fun h=>?_) (fun h=>?_)
 .have g9:p<c.ps.length:=uL h;obtain⟨VG,VH⟩:=hP.at g9;have VH:P[p]=c.ps[p]:=by rw[VH];simp[yH]
  have iV:∀t,t≠p->decide (t<p+1)=decide (t<p):=fun t ht=>decide_eq_decide.2 om
  have oD:qZ O p c.ps[p]=false->Pt c.ps P (yH O (p+1)):=fun hf=>hP.congr fun t o Cg=>by
   by_cases M8:t=p
   .subst M8;rw[tq g9]at Cg;cases Cg;simp[yH,hf]
   .unfold yH;rw[iV t M8]
  refine fl (args0:=[cq O,.rv (.one (.fn 74 [0]))]) (cs:=[.val (.int .i64 (p:Nat))]) 4 rfl rfl (r0:=aA (O.any (eH (p:Int)))) rfl (fun K hK=>ru O VF 74 _ _ (fun s K hK=>Ql s _ K hK) K hK) ?_
  refine aJ (fun ww=>?_) (fun ww=>?_)
  .have ww:0<p:=by have h:(p:Int)>0:=ww;omega
   refine ag (k9 VG) ?_;refine ag (bA bi.enc P VG) ?_;refine ay (fun dG=>?_) (fun dG=>?_)
   .rw[VH]at dG;refine ay (fun IL=>?_) (fun IL=>?_)
    .refine ag (k9 VG) ?_;refine ag (bA bi.enc P VG) ?_;have he:qZ O p c.ps[p]=true:=by unfold qZ;rw[dG,IL];simp[ww]
     have hs:=hP.set (j:=p) (x:=fN) (g:=yH O (p+1)) (fun o Cg=>by rw[tq g9]at Cg;cases Cg;simp[yH,he]) (fun t o M8 _=>by unfold yH;rw[iV t M8])
     refine⟨⟨p+1,P.set p fN⟩,⟨g9,hs⟩,(show c.ps.length-(p+1)<c.ps.length-p by omega),View.o 5 [0,1,2,3] [] ?_ ?_⟩
     .repeat(first|exact .nil|refine .aq ?_|refine .put (.aP (aL om).symm) ?_|refine .eq rfl ?_)
     .exact(.aZ (.pe rfl rfl rfl (.pt rfl rfl (eG.var (.cons (.aP (.aa _)) (.cons (.aP (.aa _)) (.cons (.aP (.row 3 4 0 none)) .nil)))) (.pt rfl rfl (OW P p) (.nil _)))))
    .skip
     refine⟨⟨p+1,P⟩,⟨g9,oD (by unfold qZ;rw[IL];simp)⟩,(show c.ps.length-(p+1)<c.ps.length-p by omega),View.o 5 [0,1,2,3] [] ?_ ?_⟩
     .repeat(first|exact .nil|refine .aq ?_|refine .put (.aP (aL om).symm) ?_|refine .eq rfl ?_)
     .exact(.aZ (.pe rfl rfl rfl (.pt rfl rfl (eG.var (.cons (.aP (.aa _)) (.cons (.aP (.aa _)) (.cons (.aP (.row 3 4 0 none)) .nil)))) (.pn rfl rfl rfl))))
   .rw[VH]at dG;refine⟨⟨p+1,P⟩,⟨g9,oD (by unfold qZ;rw[dG];simp)⟩,(show c.ps.length-(p+1)<c.ps.length-p by omega),View.o 5 [0,1,2,3] [] ?_ ?_⟩
    .repeat(first|exact .nil|refine .aq ?_|refine .put (.aP (aL om).symm) ?_|refine .eq rfl ?_)
    .exact(.aZ (.pe rfl rfl rfl (.pt rfl rfl (eG.var (.cons (.aP (.aa _)) (.cons (.aP (.aa _)) (.cons (.aP (.row 3 4 0 none)) .nil)))) (.pn rfl rfl rfl))))
  .have ww:p=0:=by have h:¬(p:Int)>0:=ww;omega
   refine⟨⟨p+1,P⟩,⟨g9,oD (by simp[qZ,ww])⟩,(show c.ps.length-(p+1)<c.ps.length-p by omega),View.o 5 [0,1,2,3] [] ?_ ?_⟩
   .repeat(first|exact .nil|refine .aq ?_|refine .put (.aP (aL om).symm) ?_|refine .eq rfl ?_)
   .exact(.aZ (.pe rfl rfl rfl (.pt rfl rfl (eG.var (.cons (.aP (.aa _)) (.cons (.aP (.aa _)) (.cons (.aP (.row 3 4 0 none)) .nil)))) (.pn rfl rfl rfl))))
 .have h9:c.ps.length<=p:=uM h;have Ad:p=c.ps.length:=om;subst Ad;rw[<-hO]at hP;refine fC [2,3] [] ([.aZ,.var z3,.var [.aa (da O),.aa (eF (c.ops.take n2)),.aa (fM P)]]) (View.o1 4 [0,1,2] [3] ?_) ?_
  .exact(.aZ (.pe rfl rfl rfl (.pt rfl rfl (eG.var (.cons (.aP (.aa _)) (.cons (.aP (.aa _)) (.cons (.eu (dm.d6 (Z:=fun k=>bs [3] k=true) rfl rfl 0 none)) .nil)))) (.nil _))))
  exact Xk k a c ha hc hk n1 n2 h1 h2 P O hO.symm hP
end Go.Proofs.YthagjdhjmamakaaGreatDoor
