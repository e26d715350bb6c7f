/- Part 21 of 43: what the law stands on. -/
import Derived.Test.YtojhmadmlnfpcaaGreatDoorK16
import Derived.Test.YtojhmadmlnfpcaaGreatDoorK20
set_option linter.unusedVariables false
set_option linter.unusedSimpArgs false
set_option linter.unnecessarySimpa false
set_option maxRecDepth 100000
set_option maxHeartbeats 64000000
namespace Go.Proofs.YtojhmadmlnfpcaaGreatDoor
open Go.AM Go.ChangeShapes Go.WideShapes Go.ChangeAt Go.RowKit
def ik(L:List Obj)(t:Nat)(o:bi):Bool:=decide (0<t)&&(o.aV&& !(L.any (dL (t:Int))))
def Br(b:Mk)(k:Nat)(t:Nat)(o:bG):bG:=if(decide (t<k)&& !(b.P[t]? ==some true))=true then⟨-1,0⟩else o
def xI(L:List Obj)(k:Nat)(t:Nat)(o:bi):bi:=if(decide (t<k)&&ik L t o)=true then fQ else o
def iP(L:List Obj)(ps:List bi)(k:Nat):Bool:=(List.range k).any fun t=>match ps[t]? with
 |some o=>ik L t o
 |none=>false
structure cU(l:List Obj)(ops:List bG)(ps:List bi)(L:List Obj)(L2:List bG)(L3:List bi)(en:Bool):Prop where
 ex:∃b,gq l ops ps b/\Pt l L (cu b l l.length)/\Pt ops L2 (Br b ops.length)
 pr:Pt ps L3 (xI L ps.length)
 en:en=iP L ps ps.length
structure StL where
 i:Nat
 L:List Obj
structure YG where
 i:Nat
 L:List bG
structure St3 where
 i:Nat
 L:List bi
 en:Bool
theorem Ad{l:List bG}{n:Nat}(h:n<l.length):dU (n:Int) (lenOf (af (l.map bG.enc)).length 0 none)=some n:=bT (by show n<(af (l.map bG.enc)).length;rw[bc,aad];exact h)
theorem lY{l:List bi}{n:Nat}(h:n<l.length):dU (n:Int) (lenOf (af (l.map bi.enc)).length 0 none)=some n:=bT (by show n<(af (l.map bi.enc)).length;rw[bc,aad];exact h)
theorem vW{α:Type}{f:α->List Dt}{l:List α}{k:Nat}(h:(k:Int)<(((af (l.map f)).length:Nat):Int)):k<l.length:=by rw[bc,aad]at h;omega
theorem vX{α:Type}{f:α->List Dt}{l:List α}{k:Nat}(h:¬(k:Int)<(((af (l.map f)).length:Nat):Int)):l.length<=k:=by rw[bc,aad]at h;omega
theorem EU{L:List Obj}{ps:List bi}{p:Nat}(h:p<ps.length):iP L ps (p+1)=(iP L ps p||ik L p ps[p]):=by
 unfold iP;rw[List.range_succ,List.any_append,aab h|>fun e=>(by simp[e]:(List.any [p] fun t=>match ps[t]? with|some o=>ik L t o|none=>false)=ik L p ps[p])]
theorem EV(L:List Obj)(L2:List bG)(L3:List bi)(b:Mk)(p:Nat)(hl:L.length<=4194304){K:CV->Mem->Prop}(h:K (ay (L.any (dL (p:Int)))) [.var [.row 1 9 0 none,.row 2 2 0 none,.row 3 4 0 none],.row 9 (af (L.map Obj.enc)),.row 2 (af (L2.map bG.enc)),.row 4 (af (L3.map bi.enc)),.var [.ptr 0 0,.row 5 1 0 none,.row 6 1 0 none],.row 1 (af (b.O.map bE)),.row 1 (af (b.P.map bE)),.var [.aa (.val (.int .i64 (p:Nat)))]]):ar Tryz.prog 87 [.rv (.one (.row 1 9 0 none)),.rv (.one (.fn 127 [7]))] [.var [.row 1 9 0 none,.row 2 2 0 none,.row 3 4 0 none],.row 9 (af (L.map Obj.enc)),.row 2 (af (L2.map bG.enc)),.row 4 (af (L3.map bi.enc)),.var [.ptr 0 0,.row 5 1 0 none,.row 6 1 0 none],.row 1 (af (b.O.map bE)),.row 1 (af (b.P.map bE)),.var [.aa (.val (.int .i64 (p:Nat)))]] K:=by
 refine bC [1,7] 8 rfl rfl rfl rfl (args0:=[.rv (.one (.row 0 9 0 none)),.rv (.one (.fn 127 [1]))]) rfl (fun i b' hi=>?_) (LZ L hl 127 [.val (.int .i64 (p:Nat))] (dL (p:Int)) (fun s K hK=>Sb s p K hK)) (fun r m1 hr=>?_)
 .match i,hi with
  |0,hi=>cases hi;exact .inr ⟨fun h=>h,_,rfl,.bV rfl⟩
  |1,hi=>cases hi;exact .inr ⟨fun h=>h,_,rfl,.fK rfl⟩
  |n+2,hi=>simp at hi
 .obtain⟨rfl,rfl⟩:=hr;refine⟨aaj _,?_⟩;have e:(Bk.row 9 (af (L.map Obj.enc))).aQ (sg [1,7] 8)= .row 9 (af (L.map Obj.enc)):=by simp only[Bk.aQ,dC]
  show K _ [.var [.row 1 9 0 none,.row 2 2 0 none,.row 3 4 0 none],(Bk.row 9 (af (L.map Obj.enc))).aQ (sg [1,7] 8),.row 2 (af (L2.map bG.enc)),.row 4 (af (L3.map bi.enc)),.var [.ptr 0 0,.row 5 1 0 none,.row 6 1 0 none],.row 1 (af (b.O.map bE)),.row 1 (af (b.P.map bE)),.var [.aa (.val (.int .i64 (p:Nat)))]];rw[e];exact h
theorem l86:bs Tryz.prog Tryz.f86=some c86:=by kernel_rfl
theorem IU(l:List Obj)(ops:List bG)(ps:List bi)(g:∀o,o∈l->o.sm)(hl:l.length<=4194304)(ho:ops.length<=4194304)(gE:ps.length<=4194304)(qq:∀p,p∈ps->p.aU.length<=10):
  body Tryz.prog c86 [.rv (.one (.ptr 0 0))] [.var [.row 1 9 0 none,.row 2 2 0 none,.row 3 4 0 none],.row 9 (af (l.map Obj.enc)),.row 2 (af (ops.map bG.enc)),.row 4 (af (ps.map bi.enc))]
   (fun r m=>∃r' m',View 4 ⟨[r],m⟩ ⟨[r'],m'⟩/\∃L L2 L3 en,cU l ops ps L L2 L3 en/\r'=ay en/\m'=[.var [.row 1 9 0 none,.row 2 2 0 none,.row 3 4 0 none],.row 9 (af (L.map Obj.enc)),.row 2 (af (L2.map bG.enc)),.row 4 (af (L3.map bi.enc))]):=by
 refine(LY l ops ps g hl ho gE qq).mono fun r m⟨b,hb,hr,hm⟩=>?_
 subst hr hm;have hbO:=hb.len.1;have hbP:=hb.len.2;refine aO (fun(s:StL)=>s.i<=l.length/\Pt l s.L (cu b l s.i)) [0,3,16] (fun s=>[(17,an .i64 (s.i:Nat))]) (fun s=>[.var [.row 1 9 0 none,.row 2 2 0 none,.row 3 4 0 none],.row 9 (af (s.L.map Obj.enc)),.row 2 (af (ops.map bG.enc)),.row 4 (af (ps.map bi.enc)),.var [.ptr 0 0,.row 5 1 0 none,.row 6 1 0 none],.row 1 (af (b.O.map bE)),.row 1 (af (b.P.map bE))]) (fun s=>l.length-s.i) ⟨0,l⟩ ⟨aao _,(Pt.refl l).congr fun t o _=>(Cq b l t o).symm⟩ ?_ (fun s hs=>?_)
 .refine View.o1 7 [0,1,2,3,4,5,6] [] ?_
  .exact(.pe rfl rfl rfl (.pr rfl rfl rfl (.pr rfl rfl rfl (.pr rfl rfl rfl (.pe rfl rfl rfl (.pr rfl rfl rfl (.pn rfl rfl rfl)))))))
 obtain⟨i,L⟩:=s;obtain⟨hi,yY⟩:=hs;have hi:i<=l.length:=hi;have yY:Pt l L (cu b l i):=yY;refine aB (fun h=>?_) (fun h=>?_)
 .have aC:i<l.length:=vW h;have W7:i<b.O.length:=om;refine ag (yV W7) ?_;refine ag (sC W7) ?_;have o0:∀(hd:eK b l i=false),Pt l L (cu b l (i+1)):=fun hd=>yY.congr fun t o _=>IT hd t o
  refine aE (fun h2=>?_) (fun h2=>?_)
  .have hd:eK b l i=false:=by unfold eK;rw[aab aC,aab W7,h2];simp
   refine⟨⟨i+1,L⟩,⟨aC,o0 hd⟩,(show l.length-(i+1)<l.length-i by omega),View.o 7 [0,1,2,3,4,5,6] [] ?_ ?_⟩
   .repeat(first|exact .nil|refine .ap ?_|refine .put (.aQ (aq om).symm) ?_|refine .eq rfl ?_)
   .exact(.pe rfl rfl rfl (.pr rfl rfl rfl (.pr rfl rfl rfl (.pr rfl rfl rfl (.pe rfl rfl rfl (.pr rfl rfl rfl (.pn rfl rfl rfl)))))))
  .obtain⟨hL,hLi⟩:=yY.at aC;have vY:L[i].ah=l[i].ah:=by rw[hLi,Cr]
   refine ag (yX hL) ?_;refine ag (bI Obj.enc L hL) ?_;refine bH (fun h3=>?_) (fun h3=>?_)
   .have h3:L[i].ah=0:=h3;have hd:eK b l i=false:=by unfold eK;rw[aab aC];show(!(b.O[i]? ==some true)&&l[i].ah !=0)=false;rw[<-vY,h3];simp
    refine⟨⟨i+1,L⟩,⟨aC,o0 hd⟩,(show l.length-(i+1)<l.length-i by omega),View.o 7 [0,1,2,3,4,5,6] [] ?_ ?_⟩
    .repeat(first|exact .nil|refine .ap ?_|refine .put (.aQ (aq om).symm) ?_|refine .eq rfl ?_)
    .exact(.pe rfl rfl rfl (.pr rfl rfl rfl (.pr rfl rfl rfl (.pr rfl rfl rfl (.pe rfl rfl rfl (.pr rfl rfl rfl (.pn rfl rfl rfl)))))))
   .have h3:L[i].ah≠0:=h3;have hd:eK b l i=true:=by unfold eK;rw[aab aC,aab W7,h2];simp[<-vY,h3]
    have hLl:=yY.1;refine aO (fun(s:StL)=>s.i<=l.length/\Pt l s.L (fun t o=>if t<s.i then i7 i (cu b l i t o)else cu b l i t o)) [0,3,4,16,17,42] (fun s=>[(43,an .i64 (s.i:Nat))]) (fun s=>[.var [.row 1 9 0 none,.row 2 2 0 none,.row 3 4 0 none],.row 9 (af (s.L.map Obj.enc)),.row 2 (af (ops.map bG.enc)),.row 4 (af (ps.map bi.enc)),.var [.ptr 0 0,.row 5 1 0 none,.row 6 1 0 none],.row 1 (af (b.O.map bE)),.row 1 (af (b.P.map bE))]) (fun s=>l.length-s.i) ⟨0,L⟩ ⟨aao _,yY.congr fun t o _=>aG⟩ ?_ (fun s hs=>?_)
    .refine View.o1 7 [0,1,2,3,4,5,6] [] ?_
     .exact(.pe rfl rfl rfl (.pr rfl rfl rfl (.pr rfl rfl rfl (.pr rfl rfl rfl (.pe rfl rfl rfl (.pr rfl rfl rfl (.pn rfl rfl rfl)))))))
    clear yY o0;obtain⟨j,M⟩:=s;obtain⟨hj,yY⟩:=hs;have hj:j<=l.length:=hj;have yY:Pt l M (fun t o=>if t<j then i7 i (cu b l i t o)else cu b l i t o):=yY
    have hMl:=yY.1;refine aB (fun mU=>?_) (fun mU=>?_)
    .have dA:j<L.length:=vW mU;have IV:j<l.length:=om;obtain⟨hM,Tq⟩:=yY.at IV;simp only[Nat.lt_irrefl,if_false]at Tq;have jU:=fun x=>yY.set (j:=j) (x:=x) (g:=fun t o=>if t<j+1 then i7 i (cu b l i t o)else cu b l i t o)
     have qU:=fun(hh:i7 i M[j]=M[j])=>yY.congr (g:=fun t o=>if t<j+1 then i7 i (cu b l i t o)else cu b l i t o) fun t o ho=>by
      by_cases Kl:t=j
      .subst Kl;rw[aab IV]at ho;cases ho;simp only[Nat.lt_irrefl,if_false,abp,if_true];rw[<-Tq,hh]
      .have e1:(t<j+1)↔(t<j):=om;simp only[e1]
     refine ag (yX hM) ?_;refine ag (bI Obj.enc M hM) ?_;have Uq:=bI Obj.enc M hM;generalize hx:M[j]=x at Tq qU Uq;refine bH (fun h4=>?_) (fun h4=>?_)
     .have h4:x.ah=4:=h4;refine ag (yX hM) ?_;refine ag Uq ?_;refine bH (fun h5=>?_) (fun h5=>?_)
      .have h5:x.aJ=(i:Int):=h5;refine ag (yX hM) ?_;refine ag Uq ?_;have hs:=jU {x with aJ:= -1} (fun o ho=>by
        rw[aab IV]at ho;cases ho;simp only[abp,if_true];rw[<-Tq];simp[i7,h4,h5]) (fun t o Kl _=>by
        have e1:(t<j+1)↔(t<j):=om;simp only[e1])
       refine⟨⟨j+1,M.set j {x with aJ:= -1}⟩,⟨IV,hs⟩,(show l.length-(j+1)<l.length-j by omega),View.o 7 [0,1,2,3,4,5,6] [] ?_ ?_⟩
       .repeat(first|exact .nil|refine .ap ?_|refine .put (.aQ (aq om).symm) ?_|refine .eq rfl ?_)
       .exact(.pe rfl rfl rfl (.pt rfl rfl (.bV (m5 Obj.enc M j {x with aJ:= -1})) (.pr rfl rfl rfl (.pr rfl rfl rfl (.pe rfl rfl rfl (.pr rfl rfl rfl (.pn rfl rfl rfl)))))))
      .have h5:x.aJ≠(i:Int):=h5;refine⟨⟨j+1,M⟩,⟨IV,qU (by simp[i7,h5])⟩,(show l.length-(j+1)<l.length-j by omega),View.o 7 [0,1,2,3,4,5,6] [] ?_ ?_⟩
       .repeat(first|exact .nil|refine .ap ?_|refine .put (.aQ (aq om).symm) ?_|refine .eq rfl ?_)
       .exact(.pe rfl rfl rfl (.pr rfl rfl rfl (.pr rfl rfl rfl (.pr rfl rfl rfl (.pe rfl rfl rfl (.pr rfl rfl rfl (.pn rfl rfl rfl)))))))
     .have h4:x.ah≠4:=h4;refine⟨⟨j+1,M⟩,⟨IV,qU (by simp[i7,h4])⟩,(show l.length-(j+1)<l.length-j by omega),View.o 7 [0,1,2,3,4,5,6] [] ?_ ?_⟩
      .repeat(first|exact .nil|refine .ap ?_|refine .put (.aQ (aq om).symm) ?_|refine .eq rfl ?_)
      .exact(.pe rfl rfl rfl (.pr rfl rfl rfl (.pr rfl rfl rfl (.pr rfl rfl rfl (.pe rfl rfl rfl (.pr rfl rfl rfl (.pn rfl rfl rfl)))))))
    .have N7:L.length<=j:=vX mU;have hM:i<M.length:=om;refine ag (yX hM) ?_;refine ag (bI Obj.enc M hM) ?_;have hs:=yY.set (j:=i) (x:=gH) (g:=cu b l (i+1)) (fun o _=>Cp hd o) (fun t o Lw ht=>by
      have:t<j:=by have:=(aac.1 ht).1;omega
      rw[if_pos this,ET hd Lw])
     refine⟨⟨i+1,M.set i gH⟩,⟨aC,hs⟩,(show l.length-(i+1)<l.length-i by omega),View.o 7 [0,1,2,3,4,5,6] [] ?_ ?_⟩
     .repeat(first|exact .nil|refine .ap ?_|refine .put (.aQ (aq om).symm) ?_|refine .eq rfl ?_)
     .exact(.pe rfl rfl rfl (.pt rfl rfl (YF M i) (.pr rfl rfl rfl (.pr rfl rfl rfl (.pe rfl rfl rfl (.pr rfl rfl rfl (.pn rfl rfl rfl)))))))
 .have h9:l.length<=i:=vX h;have lA:i=l.length:=om;subst lA;have hLl:=yY.1;refine aO (fun(s:YG)=>s.i<=ops.length/\Pt ops s.L (Br b s.i)) [0,3,87] (fun s=>[(88,an .i64 (s.i:Nat))]) (fun s=>[.var [.row 1 9 0 none,.row 2 2 0 none,.row 3 4 0 none],.row 9 (af (L.map Obj.enc)),.row 2 (af (s.L.map bG.enc)),.row 4 (af (ps.map bi.enc)),.var [.ptr 0 0,.row 5 1 0 none,.row 6 1 0 none],.row 1 (af (b.O.map bE)),.row 1 (af (b.P.map bE))]) (fun s=>ops.length-s.i) ⟨0,ops⟩ ⟨aao _,(Pt.refl ops).congr fun t o _=>by simp[Br]⟩ ?_ (fun s hs=>?_)
  .refine View.o1 7 [0,1,2,3,4,5,6] [] ?_
   .exact(.pe rfl rfl rfl (.pr rfl rfl rfl (.pr rfl rfl rfl (.pr rfl rfl rfl (.pe rfl rfl rfl (.pr rfl rfl rfl (.pn rfl rfl rfl)))))))
  obtain⟨k,L2⟩:=s;obtain⟨hk,Bs⟩:=hs;have hk:k<=ops.length:=hk;have Bs:Pt ops L2 (Br b k):=Bs;have acH:=Bs.1;refine aB (fun h=>?_) (fun h=>?_)
  .have Ln:k<ops.length:=vW h;have W8:k<b.P.length:=om;refine ag (yV W8) ?_;refine ag (sC W8) ?_;have jC:∀t,t≠k->decide (t<k+1)=decide (t<k):=fun t ht=>decide_eq_decide.2 om
   refine aE (fun h2=>?_) (fun h2=>?_)
   .have h2:b.P[k]=false:=by simpa using h2
    have hL2:k<L2.length:=om;refine ag (Ad hL2) ?_;refine ag (bI bG.enc L2 hL2) ?_;have hs:=Bs.set (j:=k) (x:=⟨-1,0⟩) (g:=Br b (k+1)) (fun o _=>by simp[Br,aab W8,h2]) (fun t o L5 _=>by unfold Br;rw[jC t L5])
    refine⟨⟨k+1,L2.set k ⟨-1,0⟩⟩,⟨Ln,hs⟩,(show ops.length-(k+1)<ops.length-k by omega),View.o 7 [0,1,2,3,4,5,6] [] ?_ ?_⟩
    .repeat(first|exact .nil|refine .ap ?_|refine .put (.aQ (aq om).symm) ?_|refine .eq rfl ?_)
    .exact(.pe rfl rfl rfl (.pr rfl rfl rfl (.pt rfl rfl (.bV (m5 bG.enc L2 k ⟨-1,0⟩)) (.pr rfl rfl rfl (.pe rfl rfl rfl (.pr rfl rfl rfl (.pn rfl rfl rfl)))))))
   .have h2:b.P[k]=true:=by simpa using h2
    have hs:=Bs.congr (g:=Br b (k+1)) fun t o _=>by
     by_cases L5:t=k
     .subst L5;simp[Br,aab W8,h2]
     .unfold Br;rw[jC t L5]
    refine⟨⟨k+1,L2⟩,⟨Ln,hs⟩,(show ops.length-(k+1)<ops.length-k by omega),View.o 7 [0,1,2,3,4,5,6] [] ?_ ?_⟩
    .repeat(first|exact .nil|refine .ap ?_|refine .put (.aQ (aq om).symm) ?_|refine .eq rfl ?_)
    .exact(.pe rfl rfl rfl (.pr rfl rfl rfl (.pr rfl rfl rfl (.pr rfl rfl rfl (.pe rfl rfl rfl (.pr rfl rfl rfl (.pn rfl rfl rfl)))))))
  .have h9:ops.length<=k:=vX h;have Ac:k=ops.length:=om;subst Ac;refine aO (fun(s:St3)=>s.i<=ps.length/\Pt ps s.L (xI L s.i)/\s.en=iP L ps s.i) [0,3,111] (fun s=>[(112,an .i64 (s.i:Nat)),(7,ay s.en)]) (fun s=>[.var [.row 1 9 0 none,.row 2 2 0 none,.row 3 4 0 none],.row 9 (af (L.map Obj.enc)),.row 2 (af (L2.map bG.enc)),.row 4 (af (s.L.map bi.enc)),.var [.ptr 0 0,.row 5 1 0 none,.row 6 1 0 none],.row 1 (af (b.O.map bE)),.row 1 (af (b.P.map bE))]) (fun s=>ps.length-s.i) ⟨0,ps,false⟩ ⟨aao _,(Pt.refl ps).congr fun t o _=>by simp[xI],rfl⟩ ?_ (fun s hs=>?_)
   .refine View.o1 7 [0,1,2,3,4,5,6] [] ?_
    .exact(.pe rfl rfl rfl (.pr rfl rfl rfl (.pr rfl rfl rfl (.pr rfl rfl rfl (.pe rfl rfl rfl (.pr rfl rfl rfl (.pn rfl rfl rfl)))))))
   obtain⟨p,L3,en⟩:=s;obtain⟨hp,Sd,pk⟩:=hs;have hp:p<=ps.length:=hp;have Sd:Pt ps L3 (xI L p):=Sd;have pk:en=iP L ps p:=pk;have acI:=Sd.1;refine aB (fun h=>?_) (fun h=>?_)
   .have gu:p<ps.length:=vW h;obtain⟨W9,O2⟩:=Sd.at gu;have O2:L3[p]=ps[p]:=by rw[O2];simp[xI]
    have jC:∀t,t≠p->decide (t<p+1)=decide (t<p):=fun t ht=>decide_eq_decide.2 om
    have Vi:=EU (L:=L) gu;have pl:ik L p ps[p]=false->Pt ps L3 (xI L (p+1))/\en=iP L ps (p+1):=fun hf=>⟨Sd.congr fun t o DF=>by
     by_cases O3:t=p
     .subst O3;rw[aab gu]at DF;cases DF;simp[xI,hf]
     .unfold xI;rw[jC t O3],by rw[Vi,hf,pk];simp⟩
    refine EV L L2 L3 b p om ?_;refine aB (fun x5=>?_) (fun x5=>?_)
    .have x5:0<p:=by have h:(p:Int)>0:=x5;omega
     refine ag (lY W9) ?_;refine ag (bI bi.enc L3 W9) ?_;refine aE (fun dh=>?_) (fun dh=>?_)
     .refine aE (fun Km=>?_) (fun Km=>?_)
      .refine ag (lY W9) ?_;refine ag (bI bi.enc L3 W9) ?_;refine⟨trivial,?_⟩;have he:ik L p ps[p]=true:=by rw[O2]at dh;unfold ik;rw[dh,Km];simp[x5]
       have hs:=Sd.set (j:=p) (x:=fQ) (g:=xI L (p+1)) (fun o DF=>by rw[aab gu]at DF;cases DF;simp[xI,he]) (fun t o O3 _=>by unfold xI;rw[jC t O3])
       refine⟨⟨p+1,L3.set p fQ,true⟩,⟨gu,hs,(by rw[Vi,he];simp)⟩,(show ps.length-(p+1)<ps.length-p by omega),View.o 8 [0,1,2,3,4,5,6] [] ?_ ?_⟩
       .repeat(first|exact .nil|refine .ap ?_|refine .put (.aQ (aq om).symm) ?_|refine .eq rfl ?_)
       .exact(.pe rfl rfl rfl (.pr rfl rfl rfl (.pr rfl rfl rfl (.pt rfl rfl (QS L3 p) (.pe rfl rfl rfl (.pr rfl rfl rfl (.pn rfl rfl rfl)))))))
      .skip
       refine⟨⟨p+1,L3,en⟩,⟨gu,(pl (by unfold ik;rw[Km];simp)).1,(pl (by unfold ik;rw[Km];simp)).2⟩,(show ps.length-(p+1)<ps.length-p by omega),View.o 8 [0,1,2,3,4,5,6] [] ?_ ?_⟩
       .repeat(first|exact .nil|refine .ap ?_|refine .put (.aQ (aq om).symm) ?_|refine .eq rfl ?_)
       .exact(.pe rfl rfl rfl (.pr rfl rfl rfl (.pr rfl rfl rfl (.pr rfl rfl rfl (.pe rfl rfl rfl (.pr rfl rfl rfl (.pn rfl rfl rfl)))))))
     .rw[O2]at dh;refine⟨⟨p+1,L3,en⟩,⟨gu,(pl (by unfold ik;rw[dh];simp)).1,(pl (by unfold ik;rw[dh];simp)).2⟩,(show ps.length-(p+1)<ps.length-p by omega),View.o 8 [0,1,2,3,4,5,6] [] ?_ ?_⟩
      .repeat(first|exact .nil|refine .ap ?_|refine .put (.aQ (aq om).symm) ?_|refine .eq rfl ?_)
      .exact(.pe rfl rfl rfl (.pr rfl rfl rfl (.pr rfl rfl rfl (.pr rfl rfl rfl (.pe rfl rfl rfl (.pr rfl rfl rfl (.pn rfl rfl rfl)))))))
    .have x5:p=0:=by have h:¬(p:Int)>0:=x5;omega
     refine⟨⟨p+1,L3,en⟩,⟨gu,(pl (by simp[ik,x5])).1,(pl (by simp[ik,x5])).2⟩,(show ps.length-(p+1)<ps.length-p by omega),View.o 8 [0,1,2,3,4,5,6] [] ?_ ?_⟩
     .repeat(first|exact .nil|refine .ap ?_|refine .put (.aQ (aq om).symm) ?_|refine .eq rfl ?_)
     .exact(.pe rfl rfl rfl (.pr rfl rfl rfl (.pr rfl rfl rfl (.pr rfl rfl rfl (.pe rfl rfl rfl (.pr rfl rfl rfl (.pn rfl rfl rfl)))))))
   .have h9:ps.length<=p:=vX h;have BK:p=ps.length:=om;subst BK;refine⟨ay en,_,View.o 7 [0,1,2,3] [] (.eq rfl .nil) (.pe rfl rfl rfl (.pr rfl rfl rfl (.pr rfl rfl rfl (.pn rfl rfl rfl)))),L,L2,L3,en,⟨⟨b,hb,yY,Bs⟩,Sd,pk⟩,rfl,rfl⟩
theorem O4(l:List Obj)(ops:List bG)(ps:List bi)(g:∀o,o∈l->o.sm)(hl:l.length<=4194304)(ho:ops.length<=4194304)(gE:ps.length<=4194304)(qq:∀p,p∈ps->p.aU.length<=10):
  ar Tryz.prog 86 [.rv (.one (.ptr 0 0))] [.var [.row 1 9 0 none,.row 2 2 0 none,.row 3 4 0 none],.row 9 (af (l.map Obj.enc)),.row 2 (af (ops.map bG.enc)),.row 4 (af (ps.map bi.enc))]
   (fun r m=>∃L L2 L3 en,cU l ops ps L L2 L3 en/\r=ay en/\m=[.var [.row 1 9 0 none,.row 2 2 0 none,.row 3 4 0 none],.row 9 (af (L.map Obj.enc)),.row 2 (af (L2.map bG.enc)),.row 4 (af (L3.map bi.enc))]):=
 bN (aZ Tryz.func86 l86 (IU l ops ps g hl ho gE qq)) fun r m1 h=>h
structure dE(l:List Obj)(ops:List bG)(ps:List bi):Prop where
 sm:∀o,o∈l->o.sm
 ll:l.length<=4194304
 lo:ops.length<=4194304
 lp:ps.length<=4194304
 sl:∀p,p∈ps->p.aU.length<=10
 ne:ps≠[]
theorem L6:gH.sm:=⟨⟨⟨[],rfl⟩,⟨[],rfl⟩,fun q hq=>by simp[gH]at hq⟩,by simp[gH],by simp[gH],by simp[gH],fun q hq=>by simp[gH]at hq⟩
theorem Pt.all{α:Type}{l L:List α}{f:Nat->α->α}(h:Pt l L f){Q:α->Prop}(hf:∀(t:Nat)o,l[t]? =some o->Q (f t o)):∀x,x∈L->Q x:=by
 intro x hx;obtain⟨t,ht⟩:=aam hx;have aC:t<l.length:=by have:=(aac.1 ht).1;rw[h.1]at this;exact this
 have:=h.2 t l[t] (aab aC);rw[ht]at this;cases this;exact hf t _ (aab aC)
theorem cU.kr{l:List Obj}{ops:List bG}{ps:List bi}{L:List Obj}{L2:List bG}{L3:List bi}{en:Bool}(h:cU l ops ps L L2 L3 en)(k:dE l ops ps):dE L L2 L3:=by
 obtain⟨b,hb,hP,Bs⟩:=h.ex;refine⟨hP.all fun t o ho=>?_,by rw[hP.1];exact k.ll,by rw[Bs.1];exact k.lo,by rw[h.pr.1];exact k.lp,h.pr.all (Q:=fun p=>p.aU.length<=10) fun t o ho=>?_,fun e=>k.ne (aat (by rw[<-h.pr.1,e];rfl))⟩
 .have hs:=k.sm o (aag ho);unfold cu;split
  .exact L6
  .split
   .exact⟨⟨hs.t.1,hs.t.2.1,hs.t.2.2⟩,hs.d,hs.e,hs.q,hs.qd⟩
   .exact hs
 .unfold xI;split
  .simp[fQ]
  .exact k.sl o (aag ho)
def kR(ps:List bi):Nat:=(ps.filter fun p=>p.aV).length
theorem Cs:∀(a b:List bi),b.length=a.length->(∀(t:Nat)x y,a[t]? =some x->b[t]? =some y->y.aV=true->x.aV=true)->kR b<=kR a/\((∃(t:Nat)(x y:bi),a[t]? =some x/\b[t]? =some y/\x.aV=true/\y.aV=false)->kR b<kR a)
 | [],[],_,_=>⟨aaj _,fun⟨t,x,y,h,_⟩=>by simp at h⟩
 | [],_::_,h,_=>by simp at h
 |_::_,[],h,_=>by simp at h
 |x::a,y::b,h,hm=>by
  obtain⟨ih1,ih2⟩:=Cs a b (by simpa using h) (fun t u v hu hv=>hm (t+1) u v (by simpa using hu) (by simpa using hv))
  have h0:=hm 0 x y aG aG;refine⟨?_,fun⟨t,u,v,hu,hv,hul,xS⟩=>?_⟩
  .unfold kR at ih1⊢;cases hx:x.aV<;>cases hy:y.aV<;>simp[hx,hy]at h0⊢<;>omega
  .cases t with
   |zero=>
    simp at hu hv;subst hu hv;unfold kR at ih1⊢;simp[hul,xS];omega
   |succ t=>
    have:=ih2 ⟨t,u,v,by simpa using hu,by simpa using hv,hul,xS⟩
    unfold kR at this⊢;cases hx:x.aV<;>cases hy:y.aV<;>simp[hx,hy]at h0⊢<;>omega
theorem cU.kR{l:List Obj}{ops:List bG}{ps:List bi}{L:List Obj}{L2:List bG}{L3:List bi}(h:cU l ops ps L L2 L3 true):kR L3<Go.Proofs.YtojhmadmlnfpcaaGreatDoor.kR ps:=by
 have pk:=h.en;unfold iP at pk;have pk:=pk.symm;rw[aaM]at pk;obtain⟨t,ht,Ae⟩:=pk;have Oj:t<ps.length:=by simpa using ht
 rw[aab Oj]at Ae;have Ae:ik L t ps[t]=true:=Ae;refine(Cs ps L3 h.pr.1 (fun i x y hx hy hl=>?_)).2 ⟨t,ps[t],fQ,aab Oj,?_,?_,rfl⟩
 .have:=h.pr.2 i x hx;rw[hy]at this;cases this;unfold xI at hl;split at hl
  .simp[fQ]at hl
  .exact hl
 .have:=h.pr.2 t _ (aab Oj);rw[this];simp[xI,Ae,Oj]
 .unfold ik at Ae;simp at Ae;exact Ae.2.1
structure Kr where
 l:List Obj
 ops:List bG
 ps:List bi
inductive il(k:Kr):Kr->Prop
 |refl:il k k
 |step {a b:Kr} (h:il k a) (ho:cU a.l a.ops a.ps b.l b.ops b.ps true):il k b
theorem L7{σ:Nat->Nat}{m:Mem}{Z:Nat->Prop}{p:Option Nat}{a b:Dt}(h:a=b):qt σ m Z p (.aa a) (.aa b):=h▸ .aQ (.aa a)
theorem EW(a:Kr)(ha:dE a.l a.ops a.ps){K:CV->Mem->Prop}(x0:Bk)(h:∀(c:Kr)en,cU a.l a.ops a.ps c.l c.ops c.ps en->K (ay en) [x0,.var z3,.var [.row 3 9 0 none,.row 4 2 0 none,.row 5 4 0 none],.row 9 (af (c.l.map Obj.enc)),.row 2 (af (c.ops.map bG.enc)),.row 4 (af (c.ps.map bi.enc))]):
  ar Tryz.prog 86 [.rv (.one (.ptr 2 0))] [x0,.var z3,.var [.row 3 9 0 none,.row 4 2 0 none,.row 5 4 0 none],.row 9 (af (a.l.map Obj.enc)),.row 2 (af (a.ops.map bG.enc)),.row 4 (af (a.ps.map bi.enc))] K:=by
 refine bC [2,3,4,5] 6 rfl rfl rfl rfl (args0:=[.rv (.one (.ptr 0 0))]) rfl (fun i b' hi=>?_) (O4 a.l a.ops a.ps ha.sm ha.ll ha.lo ha.lp ha.sl) (fun r m1 hr=>?_)
 .match i,hi with
  |0,hi=>cases hi;exact .inr ⟨fun h=>h,_,rfl,.eq rfl aG⟩
  |1,hi=>cases hi;exact .inr ⟨fun h=>h,_,rfl,.bV rfl⟩
  |2,hi=>cases hi;exact .inr ⟨fun h=>h,_,rfl,.bV rfl⟩
  |3,hi=>cases hi;exact .inr ⟨fun h=>h,_,rfl,.bV rfl⟩
  |n+4,hi=>simp at hi
 .obtain⟨L,L2,L3,en,ho,rfl,rfl⟩:=hr;refine⟨aaj _,?_⟩;have e:∀(s:Nat)(ds:List (List Dt)),(Bk.row s (af ds)).aQ (sg [2,3,4,5] 6)= .row s (af ds):=fun s ds=>by simp only[Bk.aQ,dC]
  show K _ [x0,.var z3,.var [.row 3 9 0 none,.row 4 2 0 none,.row 5 4 0 none],(Bk.row 9 (af (L.map Obj.enc))).aQ (sg [2,3,4,5] 6),(Bk.row 2 (af (L2.map bG.enc))).aQ (sg [2,3,4,5] 6),(Bk.row 4 (af (L3.map bi.enc))).aQ (sg [2,3,4,5] 6)];rw[e,e,e];exact h ⟨L,L2,L3⟩ en ho
def c89:LF:= ⟨16,[.tmp 3],(.seq (.ai [qu 2 (.box 0),qu 3 (.aD (qb false))]) (.seq (.ai [qf 4 0 2,ql 5 4,qu 6 (.aF .eql 5 (qi 5)),qm 7 6,qg 8 (.bg 6 2) 7 true,qg 9 (.load false 1 8) 7 true,qg 10 (.bg 2 1) 7 true,qg 11 (.load false 1 10) 7 true,qg 12 (.len 1 11) 7 true,qg 13 (.aF .sub 12 (qi 1)) 7 true,qg 14 (.aF .eql 9 13) 7 true,qu 15 (.pick 7 14 (qb false)),qm 3 15]) .ret))⟩
theorem l89:bs Tryz.prog Tryz.f89=some c89:=by kernel_rfl
theorem EX(l:List Obj)(hb:l.length<=4194304)(F:Nat)(cs:List Dt)(q:Obj->Bool)(hF:∀s,∀K:CV->Mem->Prop,K (ay (q s)) [.var (cs.map .aa)]->ar Tryz.prog F [s.cv,.rv (.one (.ptr 0 0))] [.var (cs.map .aa)] K):
  body Tryz.prog c128 [cg l,.rv (.one (.fn F [0]))] [.var (cs.map .aa)] (fun r m=>r=an .i64 (nJ q l)/\m=[.var (cs.map .aa)]):=by
 refine aO (fun k=>k<=l.length/\∀(j:Nat)s,j<k->l[j]? =some s->q s=false) [0,1,7] (fun k=>[(8,an .i64 (k:Nat))]) (fun _=>[.var (cs.map .aa)]) (fun k=>l.length-k) 0 ⟨aao _,fun j s h=>absurd h (aaL j)⟩ ?_ (fun k hk=>?_)
 .refine View.o1 1 [0] [] ?_
  .exact .pt rfl rfl (.fK rfl) (.nil _)
 .refine aB (fun h=>?_) (fun h=>?_)
  .have aC:k<l.length:=by have h:(k:Int)<((l.map Obj.enc).length:Int):=h;rw[aad]at h;omega
   refine ag (OW aC) ?_;have hi:=aab aC;have Vh:=kP (q:=q) aC;generalize l[k]=o at hi Vh;refine hF o _ ?_;refine aE (fun Hc=>?_) (fun Hc=>?_)
   .rw[Vh Hc hk.2];exact⟨rfl,rfl⟩
   .refine⟨k+1,⟨aC,fun j s hj hs=>?_⟩,(show l.length-(k+1)<l.length-k by omega),View.o 1 [0] [] ?_ ?_⟩
    .rcases aaq j k with h5|h5
     .exact hk.2 j s h5 hs
     .have:j=k:=om;subst this;rw[hi]at hs;cases hs;exact Hc
    .repeat(first|exact .nil|refine .ap ?_|refine .put (.aQ (aq om).symm) ?_|refine .eq rfl ?_)
    .exact .pt rfl rfl (.fK rfl) (.nil _)
  .have ei:¬(k:Int)<((l.map Obj.enc).length:Int):=h;rw[aad]at ei;rw[mC fun j s hs=>hk.2 j s (by have:=(aac.1 hs).1;omega) hs]
   exact⟨rfl,rfl⟩
theorem Ct(l:List Obj)(hb:l.length<=4194304)(F:Nat)(cs:List Dt)(q:Obj->Bool)(hF:∀s,∀K:CV->Mem->Prop,K (ay (q s)) [.var (cs.map .aa)]->ar Tryz.prog F [s.cv,.rv (.one (.ptr 0 0))] [.var (cs.map .aa)] K):
  body Tryz.prog c87 [cg l,.rv (.one (.fn F [0]))] [.var (cs.map .aa)] (fun r m=>r=ay (l.any q)/\m=[.var (cs.map .aa)]):=by
 refine(aZ Tryz.func128 l128 (EX l hb F cs q hF)).mono fun r m⟨hr,hm⟩=>?_
 subst hr hm;refine⟨?_,rfl⟩;show ay _=ay _;rw[<-rh]
theorem sF(l:List Obj)(hb:l.length<=4194304)(F:Nat)(cs:List Dt)(q:Obj->Bool)(hF:∀s,∀K:CV->Mem->Prop,K (ay (q s)) [.var (cs.map .aa)]->ar Tryz.prog F [s.cv,.rv (.one (.ptr 0 0))] [.var (cs.map .aa)] K)(K:CV->Mem->Prop)(h:K (ay (l.any q)) [.var (cs.map .aa)]):
  ar Tryz.prog 87 [cg l,.rv (.one (.fn F [0]))] [.var (cs.map .aa)] K:=
 (aZ Tryz.func87 l87 (Ct l hb F cs q hF)).mono fun r m⟨hr,hm⟩=>by subst hr hm;exact h
def c46:LF:= ⟨120,[.cell true 3 2],(.seq (.ai [qu 1 (.box 0),qu 2 (.alloc [.aI,.aI,.aI])]) (.seq (.ai [qL 6 3 1,qu 7 (qc 66 [6]),qu 3 (.alloc [.aI,.aI,.aI]),qw (.store 3 3 7)]) (.seq (.block 0 (.loop (.seq (.seq (.ai [qu 8 (qc 86 [3])]) (.cond 8 .skip (.exit 0))) (.block 1 .skip)))) (.seq (.block 2 (.loop (.seq (.seq (.ai [qf 9 0 3,ql 10 9,qu 11 (.len 1 10),qu 12 (.aF .gtr 11 (qi 1)),qm 13 12,qg 14 (.bg 0 3) 13 true,qg 15 (.load false 1 14) 13 true,qg 16 (.bg 0 3) 13 true,qg 17 (.load false 1 16) 13 true,qg 18 (.len 1 17) 13 true,qg 19 (.aF .sub 18 (qi 1)) 13 true,qg 20 (.bO 9 15 19) 13 true,qg 21 (.bg 0 20) 13 true,qg 22 (.load false 1 21) 13 true,qg 23 (.aF .eql 22 (qi 0)) 13 true,qu 24 (.pick 13 23 (qb false))]) (.cond 24 .skip (.exit 2))) (.block 3 (.ai [qf 25 0 3,ql 26 25,qf 27 0 3,ql 28 27,qu 29 (.len 1 28),qu 30 (.aF .sub 29 (qi 1)),qu 31 (.nN 9 26 none (some 30) none),qf 32 0 3,qw (.store 1 32 31)]))))) (.cO (.seq (.block 4 (.loop (.seq (.seq (.ai [qf 33 1 3,ql 34 33,qu 35 (.len 1 34),qu 36 (.aF .gtr 35 (qi 0)),qm 37 36,qg 38 (.bg 1 3) 37 true,qg 39 (.load false 1 38) 37 true,qg 40 (.bg 1 3) 37 true,qg 41 (.load false 1 40) 37 true,qg 42 (.len 1 41) 37 true,qg 43 (.aF .sub 42 (qi 1)) 37 true,qg 44 (.bO 2 39 43) 37 true,qg 45 (.bg 0 44) 37 true,qg 46 (.load false 1 45) 37 true,qg 47 (.aF .lss 46 (qi 0)) 37 true,qu 48 (.pick 37 47 (qb false))]) (.cond 48 .skip (.exit 4))) (.block 5 (.ai [qf 49 1 3,ql 50 49,qf 51 1 3,ql 52 51,qu 53 (.len 1 52),qu 54 (.aF .sub 53 (qi 1)),qu 55 (.nN 2 50 none (some 54) none),qf 56 1 3,qw (.store 1 56 55)]))))) (.seq (.cO (.seq (.ai [qf 57 2 3,ql 58 57,qu 59 (.len 1 58),qu 60 (.aD (qi 0))]) (.block 6 (.loop (.seq (.ai [qu 61 (.aF .lss 60 59)]) (.seq (.cond 61 .skip (.exit 6)) (.seq (.block 7 (.seq (.ai [qm 62 60,qu 4 (.alloc [(qd 0)]),qw (.store 1 4 62)]) (.seq (.ai [qf 63 0 3,ql 64 63,qu 65 (.fn 88 [4]),qu 66 (qc 87 [64,65]),qm 5 66]) (.seq (.ai [ql 67 4,qu 68 (.aF .gtr 67 (qi 0)),qm 69 68,qg 70 (.bg 2 3) 69 true,qg 71 (.load false 1 70) 69 true,qg 72 (.load false 1 4) 69 true,qg 73 (.bO 4 71 72) 69 true,qg 74 (.bg 0 73) 69 true,qg 75 (.load false 1 74) 69 true,qg 76 (.un .not 75) 69 true,qu 77 (.pick 69 76 (qb false)),qm 78 77,qg 79 (.aD 5) 78 true,qg 80 (.un .not 79) 78 true,qu 81 (.pick 78 80 (qb false))]) (.cond 81 (.ai [qf 82 2 3,ql 83 82,ql 84 4,qu 85 (.build [(.aa (.val (.bool false))),(.aa (.val (.bool false))),(qd 0),.aI] []),qu 86 (.bO 4 83 84),qw (.store 4 86 85)]) .skip))))) (.ai [qu 87 (.aF .add 60 (qi 1)),qm 60 87])))))))) (.cO (.seq (.block 8 (.loop (.seq (.seq (.ai [qf 88 2 3,ql 89 88,qu 90 (.len 1 89),qu 91 (.aF .gtr 90 (qi 1)),qm 92 91,qg 93 (.bg 2 3) 92 true,qg 94 (.load false 1 93) 92 true,qg 95 (.bg 2 3) 92 true,qg 96 (.load false 1 95) 92 true,qg 97 (.len 1 96) 92 true,qg 98 (.aF .sub 97 (qi 1)) 92 true,qg 99 (.bO 4 94 98) 92 true,qg 100 (.bg 0 99) 92 true,qg 101 (.load false 1 100) 92 true,qg 102 (.un .not 101) 92 true,qu 103 (.pick 92 102 (qb false)),qm 104 103,qg 105 (.bg 0 3) 104 true,qg 106 (.load false 1 105) 104 true,qg 107 (.fn 89 [3]) 104 true,qg 108 (qc 87 [106,107]) 104 true,qg 109 (.un .not 108) 104 true,qu 110 (.pick 104 109 (qb false))]) (.cond 110 .skip (.exit 8))) (.block 9 (.ai [qf 111 2 3,ql 112 111,qf 113 2 3,ql 114 113,qu 115 (.len 1 114),qu 116 (.aF .sub 115 (qi 1)),qu 117 (.nN 4 112 none (some 116) none),qf 118 2 3,qw (.store 1 118 117)]))))) (.seq (.ai [qL 119 3 3,qw (.store 3 2 119)]) .ret))))))))))⟩
theorem l46:bs Tryz.prog Tryz.f46=some c46.er:=by kernel_rfl
theorem Cu(o:Obj)(a c:Dt)(ps:List bi):body Tryz.prog c89 [o.cv,.rv (.one (.ptr 0 0))] [.var ([a,c,fC ps].map .aa)] (fun r m=>r=ay (dL (IntKind.i64.wrap (((ps.map bi.enc).length:Int)-1)) o)/\∃ex,m= .var ([a,c,fC ps].map .aa)::ex):=by
 refine aE (fun h=>?_) (fun h=>?_)
 .refine⟨?_,_,rfl⟩;show ay _=ay _;rw[dL,h];rfl
 .refine⟨?_,_,rfl⟩;show ay _=ay _;rw[dL,h];rfl
theorem Se(o:Obj)(a c:Dt)(ps:List bi)(K:CV->Mem->Prop)(h:K (ay (dL (IntKind.i64.wrap (((ps.map bi.enc).length:Int)-1)) o)) [.var ([a,c,fC ps].map .aa)]):ar Tryz.prog 89 [o.cv,.rv (.one (.ptr 0 0))] [.var ([a,c,fC ps].map .aa)] K:=
 eJ rfl (aZ Tryz.func89 l89 (Cu o a c ps)) h
structure Cv{α:Type}(q:Nat->α->Bool)(mn:Nat)(L:List α)(n:Nat):Prop where
 le:n<=L.length
 mn:min mn L.length<=n
 dr:∀(t:Nat)o,n<=t->L[t]? =some o->q t o=true
structure o4{α:Type}(q:Nat->α->Bool)(mn:Nat)(L:List α)(n:Nat):Prop where
 t:Cv q mn L n
 e:n<=mn\/∃o,L[n-1]? =some o/\q (n-1) o=false
theorem Cv.start{α:Type}(q:Nat->α->Bool)(mn:Nat)(L:List α):Cv q mn L L.length:=
 ⟨aaj _,Nat.min_le_right _ _,fun t o h ho=>by have:=(aac.1 ho).1;omega⟩
theorem Cv.step{α:Type}{q:Nat->α->Bool}{mn:Nat}{L:List α}{n:Nat}(h:Cv q mn L n)(hn:mn<n)(hl:n-1<L.length)(hq:q (n-1) L[n-1]=true):Cv q mn L (n-1):=
 ⟨om,om,fun t o ht ho=>by
  rcases aaq t n with h1|h1
  .have:t=n-1:=om;subst this;rw[aab hl]at ho;cases ho;exact hq
  .exact h.dr t o h1 ho⟩
theorem gI{α:Type}{L:List α}{n:Nat}(h:n<=L.length):(L.take n).length=n:=by rw[aaz];omega
theorem vZ{α:Type}(f:α->List Dt)(L:List α){n:Nat}(h:n<=L.length):(((L.take n).map f).take (n-1)).drop 0=(L.take (n-1)).map f:=by rw[acC,<-abS,List.take_take,acq om]
theorem v6{α:Type}(f:α->List Dt)(L:List α){n:Nat}(h1:0<n)(h:n<=L.length):cy ((L.take n).map f) ((n-1:Nat):Int)=some (f (L[n-1]'(by omega))):=by rw[bl,aaf,abj om,aab om];rfl
def qO(_:Nat)(o:Obj):Bool:=o.ah==0
def qP(_:Nat)(o:bG):Bool:=decide (o.bv<0)
def qZ(O:List Obj)(t:Nat)(o:bi):Bool:=decide (0<t)&&(!o.aV&& !(O.any (dL (t:Int))))
def rS(O:List Obj)(k:Nat)(t:Nat)(o:bi):bi:=if(decide (t<k)&&qZ O t o)=true then fQ else o
def qR(O:List Obj)(t:Nat)(o:bi):Bool:= !o.aV&& !(O.any (dL (t:Int)))
structure gm(c:Kr)(d:Kr):Prop where
 ex:∃(n1 n2 n3:Nat)(P:List bi),o4 qO 1 c.l n1/\o4 qP 0 c.ops n2/\Pt c.ps P (rS (c.l.take n1) c.ps.length)/\o4 (qR (c.l.take n1)) 1 P n3/\d=⟨c.l.take n1,c.ops.take n2,P.take n3⟩
def KS(k:Kr)(r:CV)(m:Mem):Prop:=∃a c d,il k a/\cU a.l a.ops a.ps c.l c.ops c.ps false/\gm c d/\cJ m r (dJ d.l d.ops d.ps)
def YH(k:Kr):Ex->St->Prop:=nG Tryz.prog c46.lj (KS k)
def T4:LC:=pj (bK (bK (bK (bK c46.code))))
def T57:LC:=pj (U9 (bK T4))
def R8:LC:=bK (bK T4)
def YI:List CV:=mg 120 [(2,.rv (.one (.ptr 1 0))),(3,.rv (.one (.ptr 2 0)))]
theorem YJ(m:Mem)(d:Kr):cJ m (.rv (.agg [.aa (cX d.l),.aa (eA d.ops),.aa (fC d.ps)])) (dJ d.l d.ops d.ps):=cJ.self rfl
theorem YK(k a c:Kr)(ha:il k a)(hc:cU a.l a.ops a.ps c.l c.ops c.ps false)(hk:dE c.l c.ops c.ps)(n1 n2:Nat)(h1:o4 qO 1 c.l n1)(h2:o4 qP 0 c.ops n2)(P:List bi)(O:List Obj)(hO:O=c.l.take n1)(hP:Pt c.ps P (rS (c.l.take n1) c.ps.length)):aw Tryz.prog 0 (pj R8) (YH k) ⟨YI,[.bh,.var z3,.var [.aa (cX O),.aa (eA (c.ops.take n2)),.aa (fC P)]]⟩:=by
 have Xa:P.length<=4194304:=by rw[hP.1];exact hk.lp
 have Xb:O.length<=4194304:=by rw[hO,aaz];have:=hk.ll;omega
 have Sf:∀(n:Nat)(m:Mem),Cv (qR O) 1 P n->(n<=1\/∃o,P[n-1]? =some o/\qR O (n-1) o=false)->KS k (.rv (.agg [.aa (cX O),.aa (eA (c.ops.take n2)),.aa (fC (P.take n))])) m:=fun n m hn he=>
  ⟨a,c,⟨O,c.ops.take n2,P.take n⟩,ha,hc,⟨n1,n2,n,P,h1,h2,hP,by rw[<-hO];exact⟨hn,he⟩,by rw[hO]⟩,YJ m ⟨O,c.ops.take n2,P.take n⟩⟩
 refine aO (fun n=>Cv (qR O) 1 P n) [2,3] (fun _=>[]) (fun n=>[.bh,.var z3,.var [.aa (cX O),.aa (eA (c.ops.take n2)),.aa (fC (P.take n))]]) (fun n=>n) P.length (.start _ _ _) ?_ (fun n hn=>?_)
 .refine View.o1 3 [0,1,2] [] ?_
  .exact(.bh (.pe rfl rfl rfl (.pt rfl rfl (e7.var (.cons (.aQ (.aa _)) (.cons (.aQ (.aa _)) (.cons (L7 (by rw[aaO])) .nil)))) (.nil _))))
 have hn:Cv (qR O) 1 P n:=hn;have kM:=hn.le;refine aB (fun h=>?_) (fun h=>?_)
 .have pJ:1<n:=by have h:(((P.take n).map bi.enc).length:Int)>1:=h;rw[aad,gI kM]at h;omega
  have hz:IntKind.i64.wrap ((((P.take n).map bi.enc).length:Int)-1)=((n-1:Nat):Int):=by rw[aad,gI kM,g9 om om];omega
  have aC:n-1<P.length:=om;have hg:=v6 bi.enc P om kM;rw[<-hz]at hg;have lN:=aab aC;have pb:=hn.step om aC;generalize P[n-1]=x at hg lN pb;have hg:cy ((P.take n).map bi.enc) (IntKind.i64.wrap ((((P.take n).map bi.enc).length:Int)-1))=some [.val (.bool x.aV),.val (.bool x.fenced),.val (.int .i64 x.code),xZ x.aU]:=hg;refine ag hg ?_;refine aE (fun dh=>?_) (fun dh=>?_)
  .refine fb (args0:=[cg O,.rv (.one (.fn 89 [0]))]) (cs:=[cX O,eA (c.ops.take n2),fC (P.take n)]) 2 rfl rfl (r0:=ay (O.any (dL (IntKind.i64.wrap ((((P.take n).map bi.enc).length:Int)-1))))) rfl (fun K hK=>sF O Xb 89 _ _ (fun s K hK=>Se s _ _ _ K hK) K hK) ?_
   rw[hz];refine aE (fun Km=>?_) (fun Km=>?_)
   .have hq:qR O (n-1) x=true:=by unfold qR;rw[dh,Km];rfl
    refine ag (x:=n-1) (by show pF (an .i64 (IntKind.i64.wrap ((((P.take n).map bi.enc).length:Int)-1)))=_;rw[hz];rfl) ?_
    refine cF (by simp[aaR];omega) ?_
    refine⟨n-1,pb hq,(show n-1<n by omega),View.o1 3 [0,1,2] [] ?_⟩
    .exact(.bh (.pe rfl rfl rfl (.pt rfl rfl (e7.var (.cons (.aQ (.aa _)) (.cons (.aQ (.aa _)) (.cons (L7 (congrArg (Dt.sl 4) (vZ bi.enc P kM))) .nil)))) (.nil _))))
   .have hq:qR O (n-1) x=false:=by unfold qR;rw[dh,Km];rfl
    exact Sf n _ hn (.inr ⟨x,lN,hq⟩)
  .have hq:qR O (n-1) x=false:=by unfold qR;rw[dh];rfl
   exact Sf n _ hn (.inr ⟨x,lN,hq⟩)
 .have pJ:n<=1:=by have h:¬(((P.take n).map bi.enc).length:Int)>1:=h;rw[aad,gI kM]at h;omega
  exact Sf n _ hn (.inl pJ)
structure StZ where
 p:Nat
 P:List bi
theorem dE.YL{l:List Obj}{ops:List bG}{ps:List bi}(h:dE l ops ps)(n:Nat):(l.take n).length<=4194304:=by rw[aaz];have:=h.ll;omega
theorem QT(k a c:Kr)(ha:il k a)(hc:cU a.l a.ops a.ps c.l c.ops c.ps false)(hk:dE c.l c.ops c.ps)(n1 n2:Nat)(h1:o4 qO 1 c.l n1)(h2:o4 qP 0 c.ops n2):
  aw Tryz.prog 0 T57 (Rs (aw Tryz.prog 0 R8) (YH k)) ⟨YI,[.bh,.var z3,.var [.aa (cX (c.l.take n1)),.aa (eA (c.ops.take n2)),.row 3 4 0 none],.row 4 (af (c.ps.map bi.enc))]⟩:=by
 have gE:=hk.lp;have Xb:=hk.YL n1;generalize hO:c.l.take n1=O at Xb;refine aO (fun(s:StZ)=>s.p<=c.ps.length/\Pt c.ps s.P (rS O s.p)) [2,3,59] (fun s=>[(60,an .i64 (s.p:Nat))]) (fun s=>[.bh,.var z3,.var [.aa (cX O),.aa (eA (c.ops.take n2)),.row 3 4 0 none],.row 4 (af (s.P.map bi.enc))]) (fun s=>c.ps.length-s.p) ⟨0,c.ps⟩ ⟨aao _,(Pt.refl c.ps).congr fun t o _=>by simp[rS]⟩ ?_ (fun s hs=>?_)
 .refine View.o1 4 [0,1,2,3] [] ?_
  .exact(.bh (.pe rfl rfl rfl (.pt rfl rfl (e7.var (.cons (.aQ (.aa _)) (.cons (.aQ (.aa _)) (.cons (.aQ (.row 3 4 0 none)) .nil)))) (.pn rfl rfl rfl))))
 obtain⟨p,P⟩:=s;obtain⟨hp,hP⟩:=hs;have hp:p<=c.ps.length:=hp;have hP:Pt c.ps P (rS O p):=hP;have Xa:=hP.1;refine aB (fun h=>?_) (fun h=>?_)
 .have gu:p<c.ps.length:=vW h;obtain⟨Xc,QU⟩:=hP.at gu;have QU:P[p]=c.ps[p]:=by rw[QU];simp[rS]
  have jC:∀t,t≠p->decide (t<p+1)=decide (t<p):=fun t ht=>decide_eq_decide.2 om
  have pl:qZ O p c.ps[p]=false->Pt c.ps P (rS O (p+1)):=fun hf=>hP.congr fun t o DF=>by
   by_cases O3:t=p
   .subst O3;rw[aab gu]at DF;cases DF;simp[rS,hf]
   .unfold rS;rw[jC t O3]
  refine fb (args0:=[cg O,.rv (.one (.fn 88 [0]))]) (cs:=[.val (.int .i64 (p:Nat))]) 4 rfl rfl (r0:=ay (O.any (dL (p:Int)))) rfl (fun K hK=>sF O Xb 88 _ _ (fun s K hK=>Sc s _ K hK) K hK) ?_
  refine aB (fun x5=>?_) (fun x5=>?_)
  .have x5:0<p:=by have h:(p:Int)>0:=x5;omega
   refine ag (lY Xc) ?_;refine ag (bI bi.enc P Xc) ?_;refine aE (fun dh=>?_) (fun dh=>?_)
   .rw[QU]at dh;refine aE (fun Km=>?_) (fun Km=>?_)
    .refine ag (lY Xc) ?_;refine ag (bI bi.enc P Xc) ?_;have he:qZ O p c.ps[p]=true:=by unfold qZ;rw[dh,Km];simp[x5]
     have hs:=hP.set (j:=p) (x:=fQ) (g:=rS O (p+1)) (fun o DF=>by rw[aab gu]at DF;cases DF;simp[rS,he]) (fun t o O3 _=>by unfold rS;rw[jC t O3])
     refine⟨⟨p+1,P.set p fQ⟩,⟨gu,hs⟩,(show c.ps.length-(p+1)<c.ps.length-p by omega),View.o 5 [0,1,2,3] [] ?_ ?_⟩
     .repeat(first|exact .nil|refine .ap ?_|refine .put (.aQ (aq om).symm) ?_|refine .eq rfl ?_)
     .exact(.bh (.pe rfl rfl rfl (.pt rfl rfl (e7.var (.cons (.aQ (.aa _)) (.cons (.aQ (.aa _)) (.cons (.aQ (.row 3 4 0 none)) .nil)))) (.pt rfl rfl (QS P p) (.nil _)))))
    .skip
     refine⟨⟨p+1,P⟩,⟨gu,pl (by unfold qZ;rw[Km];simp)⟩,(show c.ps.length-(p+1)<c.ps.length-p by omega),View.o 5 [0,1,2,3] [] ?_ ?_⟩
     .repeat(first|exact .nil|refine .ap ?_|refine .put (.aQ (aq om).symm) ?_|refine .eq rfl ?_)
     .exact(.bh (.pe rfl rfl rfl (.pt rfl rfl (e7.var (.cons (.aQ (.aa _)) (.cons (.aQ (.aa _)) (.cons (.aQ (.row 3 4 0 none)) .nil)))) (.pn rfl rfl rfl))))
   .rw[QU]at dh;refine⟨⟨p+1,P⟩,⟨gu,pl (by unfold qZ;rw[dh];simp)⟩,(show c.ps.length-(p+1)<c.ps.length-p by omega),View.o 5 [0,1,2,3] [] ?_ ?_⟩
    .repeat(first|exact .nil|refine .ap ?_|refine .put (.aQ (aq om).symm) ?_|refine .eq rfl ?_)
    .exact(.bh (.pe rfl rfl rfl (.pt rfl rfl (e7.var (.cons (.aQ (.aa _)) (.cons (.aQ (.aa _)) (.cons (.aQ (.row 3 4 0 none)) .nil)))) (.pn rfl rfl rfl))))
  .have x5:p=0:=by have h:¬(p:Int)>0:=x5;omega
   refine⟨⟨p+1,P⟩,⟨gu,pl (by simp[qZ,x5])⟩,(show c.ps.length-(p+1)<c.ps.length-p by omega),View.o 5 [0,1,2,3] [] ?_ ?_⟩
   .repeat(first|exact .nil|refine .ap ?_|refine .put (.aQ (aq om).symm) ?_|refine .eq rfl ?_)
   .exact(.bh (.pe rfl rfl rfl (.pt rfl rfl (e7.var (.cons (.aQ (.aa _)) (.cons (.aQ (.aa _)) (.cons (.aQ (.row 3 4 0 none)) .nil)))) (.pn rfl rfl rfl))))
 .have h9:c.ps.length<=p:=vX h;have BK:p=c.ps.length:=om;subst BK;rw[<-hO]at hP;refine fa [2,3] [] ([.bh,.var z3,.var [.aa (cX O),.aa (eA (c.ops.take n2)),.aa (fC P)]]) (View.o1 4 [0,1,2] [3] ?_) ?_
  .exact(.bh (.pe rfl rfl rfl (.pt rfl rfl (e7.var (.cons (.aQ (.aa _)) (.cons (.aQ (.aa _)) (.cons (.fv (dP.eE (Z:=fun k=>bq [3] k=true) rfl rfl 0 none)) .nil)))) (.nil _))))
  exact YK k a c ha hc hk n1 n2 h1 h2 P O hO.symm hP
end Go.Proofs.YtojhmadmlnfpcaaGreatDoor
