/- Part 35 of 35. -/
import Derived.Test.YtllkfpggoigbaaaGreatDoorS15
import Derived.Test.YtllkfpggoigbaaaGreatDoorS16
import Derived.Test.YtllkfpggoigbaaaGreatDoorS32
import Derived.Test.YtllkfpggoigbaaaGreatDoorS34
set_option linter.unusedVariables false
set_option linter.unusedSimpArgs false
set_option linter.unnecessarySimpa false
set_option maxRecDepth 100000
set_option maxHeartbeats 0
namespace Go.Proofs.YtllkfpggoigbaaaGreatDoor
open Proofs.Tryz
open Go.AM Go.ChangeShapes Go.WideShapes Go.ChangeAt Go.RowKit
def c3:LF:=Cq prog Tryz.f3 [] [[(d9 6 0 (.cons 6 (some []) (d9 15 7 (.cons 22 (some []) (d9 3 23 .nil)))))]]
namespace Kn
theorem l3N:bs prog Tryz.f3=some c3.er:=by kernel_rfl
theorem QY(pl:List Int):(aa (pl.map Fe.iE)).length=pl.length:=by rw[aJ,O9]
theorem Kh(pl:List Int)(z:Int):aa ((pl++ [z]).map Fe.iE)=aa (pl.map Fe.iE)++ [[.ai (.val (.int .i64 z))]]:=by rw[abM,bZ];rfl
theorem af3(G:List Nat)(hG:G.length<=4194304)(z:Int){m:Mem}{K:CV->Mem->Prop}(h:K (aq (decide (z∈Fe.nZ G))) m):ap prog 11 [Fe.Bi G,al .i64 z] m K:=by
 rw[Fe.tR];exact Fe.Xm (Fe.nZ G) (by unfold Fe.nZ;rw[O9];exact hG) z h
theorem Uh(b:List Int)(hb:t6 b)(cs:List Cl)(fA:Xx cs):body Tryz.prog c3 [.rv (.one (.ai (.sl 1 (eX b)))),abh cs] [] (λr m=>r=aq true):=by
 refine MG ?_;refine TL ?_;refine Ty Tz (λh=>absurd Xv h) (λ_ l' _ _=>?_)
 generalize E5 l'=prog;refine MJ b hb λk0 zw=>?_
 refine Ug k0 zw ?_;have hk:=zw.tM;have hs:Ro (eC k0):=zw.Jh;generalize eC k0=k at hk hs;have hlp:=hk.lp;have X5:=hk.ll;have gF:=fA.l;refine ar (λi=>i<=k.ps.length) [1,5,30,31] (λi=>[(32,al .i64 (i:Nat)),(7,.rv (.one (.ptr 0 0))),(8,.rv (.one (.row 1 1 0 none)))]) (λi=>[kB k,.row 1 (aa ((Fe.nZ (o9 k.ps i)).map Fe.iE))]) (λi=>k.ps.length-i) 0 (WG _) ?_ (λi hi=>?_)
 .refine View.trans (View.bt 8 1 2 rfl rfl rfl) (View.o1 3 [1,2] [] ?_)
  .exact .au
 have hi:i<=k.ps.length:=hi;refine am (λh=>?_) (λh=>?_)
 .have ax:i<k.ps.length:=by have h:(i:Int)<((k.ps.map aL.enc).length:Int):=h;rw[O9]at h;omega
  have hp:=wy ax;have hg:cm (k.ps.map aL.enc) (i:Nat)=some (k.ps[i].enc):=by rw[aU,Qu,hp];rfl
  have hz:=QE hp;have NJ:=J3 k.ps i;generalize k.ps[i]=x at hp hg hz;obtain⟨aF,fenced,code,an⟩:=x;refine af (x:=[.val (.bool aF),.val (.bool fenced),.val (.int .i64 code),gL an]) hg ?_;cases aF<;>cases fenced
  rotate_right
  .have hz:o9 k.ps (i+1)=o9 k.ps i++ [i]:=hz;refine⟨by have e:=QY (Fe.nZ (o9 k.ps i));have e2:(Fe.nZ (o9 k.ps i)).length=(o9 k.ps i).length:=O9 _;simp only[bA,aa2,abO];omega,?_⟩
   refine⟨i+1,ax,(show k.ps.length-(i+1)<k.ps.length-i by omega),View.o2 5 [0,4] [] ?_⟩
   .exact .pt rfl rfl (.eq rfl (JJ _)) (.pt rfl rfl (.bn (by rw[hz,show Fe.nZ (o9 k.ps i++ [i])=Fe.nZ (o9 k.ps i)++ [(i:Int)] by simp[Fe.nZ],Kh];rfl)) (.nil _))
  all_goals
   have hz:o9 k.ps (i+1)=o9 k.ps i++ []:=hz;rw[ab9]at hz;refine⟨i+1,ax,(show k.ps.length-(i+1)<k.ps.length-i by omega),View.o2 3 [0,1] [] ?_⟩
   .exact .pt rfl rfl (.eq rfl (JJ _)) (.pt rfl rfl (.bn (by rw[hz])) (.nil _))
 have iw:i=k.ps.length:=by have h:¬(i:Int)<((k.ps.map aL.enc).length:Int):=h;rw[O9]at h;omega
 subst iw;have MW:=J3 k.ps k.ps.length;have af4:(Fe.nZ (o9 k.ps k.ps.length)).length<=8:=by unfold Fe.nZ;rw[O9];omega
 refine XD hk (Fe.nZ (o9 k.ps k.ps.length)) om rfl λL hL=>?_
 have hF:=QF hk hs hL;have hG:=Fe.p7 hL.lt;have hGl:=Fe.tQ k.l.length L k.l.length;generalize Fe.my k.l.length L k.l.length=G at hG hGl;generalize Fe.nZ (o9 k.ps k.ps.length)=pl at hF af4;refine ar (λi=>i<=cs.length) [5,7,11,12,52,53] (λi=>[(54,al .i64 (i:Nat)),(8,.rv (.one (.row 1 1 0 none)))]) (λi=>[kB k,.row 1 (aa ((hS prog (k,pl) (cs.take i)).2.map Fe.iE)),kB (hS prog (k,pl) (cs.take i)).1]) (λi=>cs.length-i) 0 (WG _) ?_ (λi hi=>?_)
 .refine View.o1 3 [0,1,2] [] ?_
  .exact .au
 have hi:i<=cs.length:=hi;refine am (λh=>?_) (λh=>?_)
 .have ax:i<cs.length:=by have h:(i:Int)<((cs.map Cl.enc).length:Int):=h;rw[O9]at h;omega
  have ht:cs.take (i+1)=cs.take i++ [cs[i]]:=nH (wy ax);have Fs:=QG prog (cs.take i) (k,pl) hk;have Vl:=Ii prog (cs.take i) (k,pl);have Da:=CS prog (cs.take i) (k,pl) cs[i];rw[<-ht]at Da;have Vl:(hS prog (k,pl) (cs.take i)).2.length<=8+1048576:=by
   have:=List.length_take_le i cs;have h2:(cs.take i).length<=cs.length:=by rw[aa8];omega
   have Vl:(hS prog (k,pl) (cs.take i)).2.length<=pl.length+(cs.take i).length:=Vl;omega
  have hd:=fA.d _ (aaR ax);have RY:=Xu ax;generalize hS prog (k,pl) (cs.take i)=s at Fs Vl Da;obtain⟨x,q⟩:=s;have Vl:q.length<=8+1048576:=Vl;have Fs:KI x:=Fs;generalize cs[i]=c at Da hd RY;refine af RY ?_;refine afz q om c.aQ rfl ?_;by_cases hm:c.aQ∈q
  .rw[decide_eq_true hm];have Da:hS prog (k,pl) (cs.take (i+1))=((np prog x c).1,if c.ah=18/\(np prog x c).2.gz=0 then q++ [(np prog x c).2.n]else q):=by rw[Da,hS,if_pos hm];rfl
   refine Xp prog x Fs c hd ?_;generalize np prog x c=D at Da;obtain⟨y,a⟩:=D;refine ba (λh18=>?_) (λh18=>?_)
   .refine ba (λhe=>?_) (λhe=>?_)
    .have Da:hS prog (k,pl) (cs.take (i+1))=(y,q++ [a.n]):=by rw[Da,if_pos ⟨h18,he⟩]
     refine⟨by have e:=QY q;simp only[bA,aa2,abO];omega,?_⟩
     refine⟨i+1,ax,(show cs.length-(i+1)<cs.length-i by omega),View.o2 8 [0,7,2] [] ?_⟩
     .rw[Da];exact .pt rfl rfl (.eq rfl (JJ _)) (.pt rfl rfl (.bn (by rw[Kh];rfl)) (.pt rfl rfl (.eq rfl (JJ _)) (.nil _)))
    .have Da:hS prog (k,pl) (cs.take (i+1))=(y,q):=by rw[Da,if_neg λh=>he h.2]
     refine⟨i+1,ax,(show cs.length-(i+1)<cs.length-i by omega),View.o2 6 [0,1,2] [] ?_⟩
     .rw[Da];exact .au
   .have Da:hS prog (k,pl) (cs.take (i+1))=(y,q):=by rw[Da,if_neg λh=>h18 h.1]
    refine⟨i+1,ax,(show cs.length-(i+1)<cs.length-i by omega),View.o2 6 [0,1,2] [] ?_⟩
    .rw[Da];exact .au
  .rw[decide_eq_false hm];have Da:hS prog (k,pl) (cs.take (i+1))=(x,q):=by rw[Da,hS,if_neg hm];rfl
   refine⟨i+1,ax,(show cs.length-(i+1)<cs.length-i by omega),View.o2 4 [0,1,2] [] ?_⟩
   .rw[Da];exact .au
 have hic:i=cs.length:=by have h:¬(i:Int)<((cs.map Cl.enc).length:Int):=h;rw[O9]at h;omega
 subst hic;rw[abD];have hH:∀j,UO k (·∈L) j->(hS prog (k,pl) cs).1.l[j]? =k.l[j]? :=zi prog cs (k,pl) (·∈L) hF
 generalize hS prog (k,pl) cs=s at hH;obtain⟨x,q⟩:=s;have hH:∀j,UO k (·∈L) j->x.l[j]? =k.l[j]? :=hH
 refine ar (λi=>i<=k.l.length) [11,12,86,87] (λi=>[(88,al .i64 (i:Nat))]) (λi=>[kB k,.row 1 (aa (q.map Fe.iE)),kB x]) (λi=>k.l.length-i) 0 (WG _) ?_ (λi hi=>?_)
 .refine View.o1 3 [0,1,2] [] ?_
  .exact .au
 have hi:i<=k.l.length:=hi;refine am (λh=>?_) (λh=>?_)
 rotate_left
 .exact rfl
 have ax:i<k.l.length:=by have h:(i:Int)<((k.l.map Obj.enc).length:Int):=h;rw[O9]at h;omega
 have ho:=wy ax;have qy:=hk.sm _ (aaR ax);have pK:cm (k.l.map Obj.enc) (i:Nat)=some (k.l[i].enc):=by rw[aU,Qu,ho];rfl
 generalize k.l[i]=o at ho qy pK;refine af pK ?_;have RN:i+1<=k.l.length:=ax;refine bF (λh0=>?_) (λh0=>?_)
 .refine af3 G om (i:Nat) ?_;by_cases hm:((i:Nat):Int)∈Fe.nZ G
  .rw[decide_eq_true hm];refine⟨trivial,?_⟩;refine⟨by repeat(first|exact trivial|exact rfl|refine⟨?_,?_⟩),?_⟩
   refine⟨i+1,RN,(show k.l.length-(i+1)<k.l.length-i by omega),View.o2 4 [0,1,2] [] ?_⟩
   .exact .au
  .rw[decide_eq_false hm];have hu:UO k (·∈L) i:=⟨⟨o,ho,h0⟩,λYh=>hm (Fe.H4.2 ((hG i).2 Yh))⟩
   have hx:x.l[i]? =some o:=(hH i hu).trans ho;have hxl:=(Lw.1 hx).1;have hxg:cm (x.l.map Obj.enc) (i:Nat)=some o.enc:=by rw[aU,Qu,hx];rfl
   refine⟨trivial,?_⟩;refine gG (decide_eq_false (by show ¬((i:Nat):Int)>=((x.l.map Obj.enc).length:Int);rw[O9];omega)) ?_
   refine af hxg ?_;refine Oq o qy.t qy.oi ?_;refine⟨trivial,?_⟩;refine⟨i+1,RN,(show k.l.length-(i+1)<k.l.length-i by omega),View.o2 4 [0,1,2] [] ?_⟩
   .exact .au
 .refine⟨by repeat(first|exact trivial|exact rfl|refine⟨?_,?_⟩),?_⟩
  refine⟨by repeat(first|exact trivial|exact rfl|refine⟨?_,?_⟩),?_⟩
  refine⟨i+1,RN,(show k.l.length-(i+1)<k.l.length-i by omega),View.o2 4 [0,1,2] [] ?_⟩
  .exact .au
theorem Aa(b:List Int)(hb:t6 b)(cs:List Cl)(fA:Xx cs):ap prog 3 [.rv (.one (.ai (.sl 1 (eX b)))),abh cs] [] (λr _=>r=aq true):=
 vJ func3 l3N rfl (aav rfl) (Uh b hb cs fA) rfl rfl rfl
end Kn
end Go.Proofs.YtllkfpggoigbaaaGreatDoor
