/- Part 22 of 35. -/
import Derived.Test.YtllkfpggoigbaaaGreatDoorS15
import Derived.Test.YtllkfpggoigbaaaGreatDoorS17
import Derived.Test.YtllkfpggoigbaaaGreatDoorS20
import Derived.Test.YtllkfpggoigbaaaGreatDoorS21
set_option linter.unusedVariables false
set_option linter.unusedSimpArgs false
set_option linter.unnecessarySimpa false
set_option maxRecDepth 100000
set_option maxHeartbeats 0
namespace Go.Proofs.YtllkfpggoigbaaaGreatDoor
open Proofs.Tryz
open Go.AM Go.ChangeShapes Go.WideShapes Go.ChangeAt Go.RowKit
def c67:LF:=Cq prog f67 [[4]] []
theorem l67:bs prog f67=some c67.er:=by kernel_rfl
def zb:List Dt:=[.val (.int .u8 0)]
def Wv(d:List (List Dt))(n:Nat):List (List Dt):=d++List.replicate (n-d.length) zb
def rk(d:List (List Dt))(A:Nat)(b:List (List Dt)):List (List Dt):=if b.length=0 then d else dd (Wv d (A+b.length)) A b
def Pf:Obj:=⟨0,[],[],⟨#[]⟩,0,[],0,0,0⟩
def LB(o:Obj):RV:= .agg (o.enc.map .ai)
def fo(o:Obj)(di:Int)(b:List (List Dt)):Obj×Int:=
 if o.ah=2 then(Pf,12)else if o.ah≠1 then(Pf,8)else if di<0 then(Pf,3)else if di>60\/(b.length:Int)>60-di then(Pf,15)
 else({o with data:=rk o.data di.toNat b},0)
def tC:List CC:=[.ai (.val (.int .i64 0)),.bt,.bt,.ai (.val (.string ⟨#[]⟩)),.ai (.val (.int .i64 0)),.bt,.ai (.val (.int .i64 0)),.ai (.val (.int .i64 0)),.ai (.val (.int .i64 0))]
theorem pV{m:Mem}:dE m (.agg tC) (LB Pf):=by
 refine .agg rfl λi c c' h1 h2=>?_
 match i,h1,h2 with
 |0,h1,h2=>cases h1;cases h2;exact .ai _
 |1,h1,h2=>cases h1;cases h2;exact .bt 1
 |2,h1,h2=>cases h1;cases h2;exact .bt 2
 |3,h1,h2=>cases h1;cases h2;exact .ai _
 |4,h1,h2=>cases h1;cases h2;exact .ai _
 |5,h1,h2=>cases h1;cases h2;exact .bt 4
 |6,h1,h2=>cases h1;cases h2;exact .ai _
 |7,h1,h2=>cases h1;cases h2;exact .ai _
 |8,h1,h2=>cases h1;cases h2;exact .ai _
 |n+9,h1,h2=>simp[tC]at h1
theorem El{m:Mem}{Q:Nat}{o:Obj}{D:List (List Dt)}(h:m[Q]? =some (.row 1 (aa D))):dE m (.agg (ph Q o)) (LB {o with data:=D}):=by
 refine .agg rfl λi c c' h1 h2=>?_
 match i,h1,h2 with
 |0,h1,h2=>cases h1;cases h2;exact .ai _
 |1,h1,h2=>cases h1;cases h2;exact d7.da h 0 none
 |2,h1,h2=>cases h1;cases h2;exact .ai _
 |3,h1,h2=>cases h1;cases h2;exact .ai _
 |4,h1,h2=>cases h1;cases h2;exact .ai _
 |5,h1,h2=>cases h1;cases h2;exact .ai _
 |6,h1,h2=>cases h1;cases h2;exact .ai _
 |7,h1,h2=>cases h1;cases h2;exact .ai _
 |8,h1,h2=>cases h1;cases h2;exact .ai _
 |n+9,h1,h2=>simp[ph]at h1
theorem dW(d:List (List Dt)):(aa d).length=d.length:=by simp[aa]
theorem Ct(D b:List (List Dt))(A:Nat):dd (aa D) A (aa b)=aa (dd D A b):=by simp[dd,aa,ac7,ad5]
theorem Pg(x:Nat):fL 0 x=x:=by simp[fL]
def nU:LC->LC
 | .seq _ b=>b
 |x=>x
def unW:LC->LC
 | .q9 a=>a
 |x=>x
def C57:LC:=nU (nU (nU (nU c67.code)))
def G57:LC:=unW C57
theorem Ww(o:Obj)(D b:List (List Dt))(A:Nat)(h:b.length≠0->A+b.length<=D.length):
  aw prog 0 G57 (nu prog c67.lM (λr m=>cH m r (.bG [LB {o with data:=if b.length=0 then D else dd D A b},cK 0])))
   ⟨i5 68 [(1,al .i64 (A:Nat)),(2,ta 1 b),(6,.rv (.one (.ptr 0 0))),(8,.rv (.one (.ptr 2 0)))],[.var tC,.row 1 (aa D),.var (ph 1 o)]⟩:=by
 have hm:=oP A D.length;have hmi:px (al .i64 (if((lenOf (aa D).length 0 none:Nat):Int)<(A:Int)then((lenOf (aa D).length 0 none:Nat):Int)else(A:Int)))=some (fD A D.length):=by have e:lenOf (aa D).length 0 none=D.length:=dW D;rw[e,tz];rfl
 refine af hmi ?_;refine bV (by show(Nat.ble (fD A D.length) (aa D).length&&Nat.ble (aa D).length ((aa D).length-0))=true;rw[dW];simp[abR];omega) ?_
 by_cases hb:b.length=0
 .rw[if_pos hb];refine bV (by show Nat.beq (aa b).length 0=true;rw[dW,hb];rfl) ?_
  exact gC (El rfl)
 .rw[if_neg hb];have hle:=h hb;have hmA:fD A D.length=A:=by unfold fD;rw[if_neg om]
  rw[hmA];refine gG (by show Nat.beq (aa b).length 0=false;rw[dW];exact Bool.eq_false_iff.2 λhh=>hb (aa1 hh)) ?_
  refine bV (by have e1:=Pg A;show(Nat.beq 1 1&&(Nat.beq 1 1&&(Nat.ble (fL 0 (aa D).length) (aa D).length&&(Nat.ble (fL 0 A+(aa b).length) (fL 0 (aa D).length)&&fM (aa b)))))=true;rw[kS,e1,dW,dW,Pg D.length];simp[abR];omega) ?_
  refine gC (El ?_);show some (Bk.row 1 (dd (aa D) (fL 0 A) (aa b)))=_;rw[Pg A,Ct]
theorem Hb(o:Obj)(hf:o.oi)(di:Int)(b:List (List Dt))(hb:b.length<=4194304):body prog c67 [o.cv,al .i64 di,ta 1 b] [] (λr m=>cH m r (.bG [LB (fo o di b).1,cK (fo o di b).2])):=by
 refine ba (λh1=>?_) (λh1=>?_)
 .have h1:o.ah=2:=h1;rw[fo,if_pos h1];exact gC pV
 have h1:¬o.ah=2:=h1;refine bF (λh2=>?_) (λh2=>?_)
 .have h2:o.ah≠1:=h2;rw[fo,if_neg h1,if_pos h2];exact gC pV
 have h2:¬o.ah≠1:=by simpa using h2
 refine am (λh3=>?_) (λh3=>?_)
 .rw[fo,if_neg h1,if_neg h2,if_pos h3];exact gC pV
 have h3:¬di<0:=h3;refine am (λh4=>?_) (λh4=>?_)
 .rw[fo,if_neg h1,if_neg h2,if_neg h3,if_pos (.inl h4)];exact gC pV
 have h4:¬di>60:=h4;have hw:IntKind.i64.wrap (60-di)=60-di:=by obtain⟨z,hz⟩:∃z:Nat,60-di=(z:Int):=⟨(60-di).toNat,om⟩;rw[hz,lW om]
 refine am (λh5=>?_) (λh5=>?_)
 .have h5:(b.length:Int)>IntKind.i64.wrap (60-di):=h5;rw[hw]at h5;rw[fo,if_neg h1,if_neg h2,if_neg h3,if_pos (.inr h5)];exact gC pV
 have h5:¬(b.length:Int)>IntKind.i64.wrap (60-di):=h5;rw[hw]at h5;rw[fo,if_neg h1,if_neg h2,if_neg h3,if_neg (λh=>h.elim h4 h5)]
 obtain⟨A,rfl⟩:∃A:Nat,di=A:=⟨di.toNat,om⟩;rw[show((A:Nat):Int).toNat=A from rfl];have lH:=hf.1;refine ek (iQ:=[cJ [o]]) (m':=[.var (o.enc.map .ai),.var tC,.aE]) (View.o 3 [0,1,2] [2] (.put (.rv (.one (.dG (cS.da (Z:=λk=>bc [2] k=true) (ds:=[o.enc]) rfl rfl 0 none)))) .nil)
  (.pe rfl rfl rfl (.pe rfl rfl rfl (.aE (.nil _))))) ?_
 refine SE o hf ?_;obtain⟨N,hN⟩:∃N:Nat,N=if b.length=0 then 0 else A+b.length-o.data.length:=⟨_,rfl⟩
 have hN0:b.length=0->N=0:=λh0=>by rw[hN,if_pos h0]
 have hN1:b.length≠0->N=A+b.length-o.data.length:=λh0=>by rw[hN,if_neg h0]
 have ai4:N<=A+b.length-o.data.length:=by
  by_cases h0:b.length=0
  .rw[hN0 h0];exact WG _
  .rw[hN1 h0];exact aai _
 clear hN;have Wx:∀j,j<=N->(o.data++List.replicate j zb).length=o.data.length+j:=λj _=>aD
 have hwA:IntKind.i64.wrap ((A:Int)+(b.length:Int))=((A+b.length:Nat):Int):=by
  rw[show(A:Int)+(b.length:Int)=((A+b.length:Nat):Int) by omega,lW om]
 refine ar (λj=>j<=N) [1,2] (λj=>[(6,.rv (.one (.ptr 0 0))),(8,.rv (.one (.ptr 2 0)))]) (λj=>[.var tC,.row 1 (aa (o.data++List.replicate j zb)),.var (ph 1 o)]) (λj=>N-j) 0 (WG _) ?_ (λj hj=>?_)
 .refine View.o1 6 [1,4,5] [] ?_
  .exact .pe rfl rfl rfl (.pt rfl rfl (.bn aD) (.pm rfl rfl rfl))
 have hj:j<=N:=hj;have hlen:lenOf (aa (o.data++List.replicate j zb)).length 0 none=o.data.length+j:=by show(aa (o.data++List.replicate j zb)).length=_;rw[dW,Wx j hj]
 have gu:∀(D:List (List Dt)),D=o.data++List.replicate j zb->(b.length≠0->A+b.length<=o.data.length+j)->aw prog 0 G57 (nu prog c67.lM (λr m=>cH m r (.bG [LB {o with data:=rk o.data A b},cK 0])))
   ⟨i5 68 [(1,al .i64 (A:Nat)),(2,ta 1 b),(6,.rv (.one (.ptr 0 0))),(8,.rv (.one (.ptr 2 0)))],[.var tC,.row 1 (aa D),.var (ph 1 o)]⟩:=λD hD hh=>by
  have hs:=Ww o D b A (λh0=>by rw[hD,Wx j hj];exact hh h0)
  have e:rk o.data A b=if b.length=0 then D else dd D A b:=by
   unfold rk;by_cases h0:b.length=0
   .rw[if_pos h0,if_pos h0,hD];have:=hN0 h0;have ej:j=0:=om;rw[ej];simp
   .rw[if_neg h0,if_neg h0,hD];have:=hh h0;have ej:j=A+b.length-o.data.length:=om;rw[Wv,ej]
  rw[e];exact hs
 have out:∀e,iB (sg [0,1,2] 3) [.var tC,.row 1 (aa (o.data++List.replicate j zb)),.var (ph 1 o)] (λk=>bc [] k=true) e (i5 68 [(1,al .i64 (A:Nat)),(2,ta 1 b),(6,.rv (.one (.ptr 0 0))),(8,.rv (.one (.ptr 2 0)))])->
   View 0 ⟨e,[.var tC,.row 1 (aa (o.data++List.replicate j zb)),.var (ph 1 o)]⟩ ⟨i5 68 [(1,al .i64 (A:Nat)),(2,ta 1 b),(6,.rv (.one (.ptr 0 0))),(8,.rv (.one (.ptr 2 0)))],[.var tC,.row 1 (aa (o.data++List.replicate j zb)),.var (ph 1 o)]⟩:=λe he=>
  View.o 3 [0,1,2] [] he (.pe rfl rfl rfl (.pr rfl rfl rfl (.pm rfl rfl rfl)))
 refine am (λh6=>?_) (λh6=>?_)
 .have h6:((lenOf (aa (o.data++List.replicate j zb)).length 0 none:Nat):Int)<IntKind.i64.wrap ((A:Int)+(b.length:Int)):=h6;rw[hlen,hwA]at h6;refine am (λh7=>?_) (λh7=>?_)
  .have h7:(b.length:Int)>0:=h7;have:=hN1 om;refine⟨by simp only[bA,dW,aa2,abO,Wx j hj];omega,?_⟩
   refine⟨j+1,(show j+1<=N by omega),(show N-(j+1)<N-j by omega),View.o1 5 [0,4,2] [] ?_⟩
   .refine .pe rfl rfl rfl (.pt rfl rfl (.bn ?_) (.pm rfl rfl rfl));rw[List.replicate_succ'];simp[bA,aa,zb]
  .have h7:¬(b.length:Int)>0:=h7;refine⟨_,out _ ?_,gu _ rfl (λh0=>om)⟩
   repeat(first|exact .nil|refine .aH ?_|refine .eq rfl ?_)
 .have h6:¬((lenOf (aa (o.data++List.replicate j zb)).length 0 none:Nat):Int)<IntKind.i64.wrap ((A:Int)+(b.length:Int)):=h6;rw[hlen,hwA]at h6;refine⟨_,out _ ?_,gu _ rfl (λh0=>om)⟩
  repeat(first|exact .nil|refine .aH ?_|refine .eq rfl ?_)
theorem Em(o:Obj)(hf:o.oi)(di:Int)(b:List (List Dt))(hb:b.length<=4194304){m:Mem}{K:CV->Mem->Prop}(h:K (.bG [LB (fo o di b).1,cK (fo o di b).2]) m):ap prog 67 [o.cv,al .i64 di,ta 1 b] m K:=
 aR (cE func67 l67 (Hb o hf di b hb)) (by simp[Obj.cv,Obj.enc,ta,al,CV.cW,CC.cW,RV.cW]) λr m1 hf=>⟨_,hf,h⟩
def lD(p Q k:Nat)(o:Obj):List CC:=[.ai (.val (.int .i64 o.ah)),.ai (.sl 1 o.data),(if k=p then .row Q 2 0 none else .ai (.sl 2 o.ag)),.ai (.val (.string o.target)),.ai (.val (.int .i64 o.aG)),
 .ai (.sl 4 (o.aj.map cy.enc)),.ai (.val (.int .i64 o.aQ)),.ai (.val (.int .i64 o.ak)),.ai (.val (.int .i64 o.up))]
def b7(p Q:Nat):Nat->List Obj->List (List CC)
 |_,[]=>[]
 |k,o::r=>lD p Q k o::b7 p Q (k+1) r
theorem tE(p Q:Nat):∀(a:List Obj)(k:Nat)(b:List Obj),b7 p Q k (a++b)=b7 p Q k a++b7 p Q (k+a.length) b
 | [],k,b=>rfl
 |o::r,k,b=>by simp[b7,tE p Q r (k+1) b,abX,Nat.add_comm 1]
theorem gA(p Q:Nat):∀(l:List Obj)(k:Nat),(b7 p Q k l).length=l.length
 | [],_=>rfl
 |o::r,k=>by simp[b7,gA p Q r (k+1)]
theorem yx(p Q:Nat):∀(l:List Obj)(k:Nat),(p<k\/k+l.length<=p)->b7 p Q k l=aa (l.map Obj.enc)
 | [],_,_=>rfl
 |o::r,k,h=>by simp only[aa2]at h;have hk:¬k=p:=om;simp only[b7,lD,if_neg hk,yx p Q r (k+1) om];rfl
theorem gB(p Q:Nat):∀(l:List Obj)(k i:Nat),(b7 p Q k l)[i]? =(l[i]?).map (lD p Q (k+i))
 | [],k,i=>by simp[b7]
 |o::r,k,0=>by simp[b7]
 |o::r,k,i+1=>by
  simp only[b7,acr,gB p Q r (k+1) i];rw[show k+1+i=k+(i+1) by omega]
theorem Ph{Y:Nat->Nat}{p Q k:Nat}(o:Obj):(lD p Q k o).map (CC.aN Y)=lD p (Y Q) k o:=by
 by_cases h:k=p<;>simp[lD,h,CC.aN]
theorem nV{Y:Nat->Nat}(p Q:Nat):∀(l:List Obj)(k:Nat),(b7 p Q k l).map (λcs=>cs.map (CC.aN Y))=b7 p (Y Q) k l
 | [],_=>rfl
 |o::r,k=>by simp only[b7,ab2,nV p Q r (k+1)];rw[Ph]
theorem Cu(d:List (List Dt))(hb:d.length<=4194304):body prog c138 [ta 2 d] [] (λr m=>∃r' m',View 0 ⟨[r],m⟩ ⟨[r'],m'⟩/\r'= .rv (.one (.row 0 2 0 none))/\m'=[.row 2 (aa d)]):=by
 have mU:((([]:List (List CC)).length+(d.map λds=>ds.map CC.ai).length)*24)<=140737488355328:=by simp;omega
 have gu:∃r' m',View 0 ⟨[CV.rv (.one (.row 1 2 0 none))],[.aE,.row 2 (bA ([]:List (List CC)) 0 none++d.map λds=>ds.map CC.ai)]⟩ ⟨[r'],m'⟩/\r'=CV.rv (.one (.row 0 2 0 none))/\m'=[Bk.row 2 (aa d)]:=
  ⟨_,_,View.o 2 [1] [] (.eq rfl .nil) (.pn rfl rfl rfl),rfl,rfl⟩
 refine aA (λh=>?_) (λh=>?_)
 .have hd:d=[]:=aaX (by simpa using aa1 h)
  refine⟨?_,mU,gu⟩;subst hd;exact⟨_,_,View.bt 0 2 0 rfl rfl rfl,rfl,rfl⟩
 .exact⟨mU,gu⟩
theorem Hc(d:List (List Dt))(hb:d.length<=4194304){m:Mem}{K:CV->Mem->Prop}(h:K (.rv (.one (.row m.length 2 0 none))) (m++ [.row 2 (aa d)])):ap prog 138 [ta 2 d] m K:=by
 refine be [] m.length rfl rfl rfl rfl (args0:=[ta 2 d]) rfl (λi b' hi=>by simp at hi) (K0:=λr m=>r= .rv (.one (.row 0 2 0 none))/\m=[.row 2 (aa d)]) (bK (aP func138 l138 (Cu d hb)) λr m1 h=>h) (λr m1 hr=>?_)
 obtain⟨rfl,rfl⟩:=hr;refine⟨WG _,?_⟩;show K (.rv (.one (.row (m.length+(0-0)) 2 0 none))) (fT m [.row 2 ((aa d).map (λcs=>cs.map (CC.aN (sg [] m.length))))])
 rw[iN,cf];exact h
def Cv(l:List Obj)(p k:Nat):Bk:=match Nat.blt p k with|true=>.row 2 (aa (match l[p]? with|some o=>o.ag|none=>[]))|false=>.aE
theorem wO{Y:Nat->Nat}(l:List Obj)(p k:Nat):(Cv l p k).aN Y=Cv l p k:=by
 unfold Cv;split
 .exact Bk.ei _ _
 .rfl
theorem yy{p Q:Nat}{l:List Obj}{k:Nat}{o:Obj}(h:l[k]? =some o):b7 p Q 0 (l.take (k+1))=b7 p Q 0 (l.take k)++ [lD p Q k o]:=by have hk:=(Lw.1 h).1;rw[nH h,tE,aa8,aef om,abV];rfl
theorem LD(l:List Obj)(hf:mF l)(p:Nat):body prog c108 [cJ l] [] (λr m=>r= .rv (.one (.row 0 9 0 none))/\m=[.row 9 (b7 p 1 0 l),Cv l p l.length]):=by
 obtain⟨hl,NC⟩:=hf;refine ar (λk=>k<=l.length) [0,9,10] (λk=>[(11,al .i64 (k:Nat)),(3,.rv (.one (.row 0 9 0 none)))]) (λk=>[.row 9 (b7 p 1 0 (l.take k)),Cv l p k]) (λk=>l.length-k) 0 (WG _) ?_ (λk hk=>?_)
 .refine View.trans (View.bt 2 4 0 rfl rfl rfl) (View.trans (View.bt 3 9 1 rfl rfl rfl) (View.o1 2 [1,0] [] ?_))
  .exact .put (by simp[bc]) rfl (.eq rfl aD) (.aE (.nil _))
 .refine am (λh=>?_) (λh=>?_)
  .have ax:k<l.length:=by have h:(k:Int)<((l.map Obj.enc).length:Int):=h;rw[O9]at h;omega
   have hi:=wy ax;have Ra:=NC _ (aaR ax);have hg:cm (l.map Obj.enc) (k:Nat)=some (l[k].enc):=by rw[aU,Qu,wy ax];rfl
   generalize l[k]=o at hi Ra hg;obtain⟨ah,data,ag,target,aG,aj,aQ,ak,up⟩:=o;obtain⟨Oi,Gt,Rb,MZ⟩:=Ra;have Oi:data.length<=4194304:=Oi;have Gt:ag.length<=4194304:=Gt;have Rb:aj.length<=4194304:=Rb;have MZ:∀q,q∈aj->q.data.length<=4194304:=MZ;have hg:cm (l.map Obj.enc) (k:Nat)=some [.val (.int .i64 ah),.sl 1 data,.sl 2 ag,.val (.string target),.val (.int .i64 aG),.sl 4 (aj.map cy.enc),.val (.int .i64 aQ),.val (.int .i64 ak),.val (.int .i64 up)]:=hg;refine af hg ?_;refine iS data Oi ?_;refine⟨⟨rfl,trivial⟩,?_⟩;by_cases VI:k=p
   .subst VI;refine Hc ag Gt ?_;refine⟨trivial,?_⟩;refine⟨trivial,?_⟩;refine⟨trivial,?_⟩;have hR:∀Q,b7 k Q 0 (l.take k)=aa ((l.take k).map Obj.enc):=λQ=>yx k Q _ 0 (.inr (by simp;omega))
    have hd:Cv l k k= .aE:=by
     have:Nat.blt k k=false:=Bool.eq_false_iff.2 λh=>by rw[aci]at h;omega
     simp only[Cv,this]
    rw[hd,hR];refine ar (λj=>j<=aj.length) [0,3,5,9,10,11,24,25] (λj=>[(26,al .i64 (j:Nat)),(6,.rv (.one (.row 4 4 0 none)))])
     (λj=>[.row 9 (aa ((l.take k).map Obj.enc)),.aE,.var [.ai (.val (.int .i64 ah)),.ai (.sl 1 data),.row 3 2 0 none,.ai (.val (.string target)),.ai (.val (.int .i64 aG)),.ai (.sl 4 (aj.map cy.enc)),.ai (.val (.int .i64 aQ)),.ai (.val (.int .i64 ak)),.ai (.val (.int .i64 up))],.row 2 (aa ag),.row 4 (aa ((aj.take j).map cy.enc))]) (λj=>aj.length-j) 0 (WG _) ?_ (λj hj=>?_)
    .refine View.trans (View.bt 6 4 4 rfl rfl rfl) (View.o1 5 [0,1,2,3,4] [] ?_)
     .exact .pr rfl rfl rfl (.aE (.pe rfl rfl rfl (.pr rfl rfl rfl (.pn rfl rfl rfl))))
    .have hj:j<=aj.length:=hj;refine am (λh=>?_) (λh=>?_)
     .have bQ:j<aj.length:=by have h:(j:Int)<((aj.map cy.enc).length:Int):=h;rw[O9]at h;omega
      have zM:=wy bQ;have K4:=MZ _ (aaR bQ);generalize aj[j]=q at zM K4;obtain⟨qd,qh,qo,qr⟩:=q;have pq:cm (aj.map cy.enc) (j:Nat)=some [.sl 1 qd,.val (.bool qh),.val (.int .i64 qo),.val (.int .i64 qr)]:=by rw[aU,Qu,zM];rfl
      refine af pq ?_;refine iS qd K4 ?_;refine⟨?_,?_⟩
      .show((aa ((aj.take j).map cy.enc)).length+1)*48<=_;simp[aa];omega
      refine⟨j+1,bQ,(show aj.length-(j+1)<aj.length-j by omega),View.o2 8 [0,1,2,3,7] [] ?_⟩
      .refine .pr rfl rfl rfl (.aE (.pe rfl rfl rfl (.pr rfl rfl rfl (.pt rfl rfl (.bn ?_) (.nil _)))));rw[nH zM,abM,bZ];rfl
     .have ef:¬(j:Int)<((aj.map cy.enc).length:Int):=h;rw[O9]at ef;have hq:aj.take j=aj:=ach om;refine⟨?_,?_⟩
      .show((aa ((l.take k).map Obj.enc)).length+1)*128<=_;simp[aa];omega
      have V2:Cv l k (k+1)= .row 2 (aa ag):=by
       have:Nat.blt k (k+1)=true:=by rw[aci];omega
       simp only[Cv,this,hi]
      refine⟨k+1,ax,(show l.length-(k+1)<l.length-k by omega),View.o2 7 [6,3] [4] ?_⟩
      .rw[yy hi,V2,hR];refine .pt rfl rfl (.uy (iN _ _) rfl ?_) (.pn rfl rfl rfl);intro j' c c' h1 h2;have e5:lD k 1 k ⟨ah,data,ag,target,aG,aj,aQ,ak,up⟩=[.ai (.val (.int .i64 ah)),.ai (.sl 1 data),.row 1 2 0 none,.ai (.val (.string target)),.ai (.val (.int .i64 aG)),.ai (.sl 4 ((aj.take j).map cy.enc)),.ai (.val (.int .i64 aQ)),.ai (.val (.int .i64 ak)),.ai (.val (.int .i64 up))]:=by simp[lD,hq]
       rw[e5]at h2
       match j',h1,h2 with
       |0,h1,h2=>cases h1;cases h2;exact .aN (.ai _)
       |1,h1,h2=>cases h1;cases h2;exact .aN (.ai _)
       |2,h1,h2=>cases h1;cases h2;exact .aN (.row 1 2 0 none)
       |3,h1,h2=>cases h1;cases h2;exact .aN (.ai _)
       |4,h1,h2=>cases h1;cases h2;exact .aN (.ai _)
       |5,h1,h2=>cases h1;cases h2;exact .dG (cS.da (Z:=λk=>bc [4] k=true) rfl (by rw[<-aW];rfl) 0 none)
       |6,h1,h2=>cases h1;cases h2;exact .aN (.ai _)
       |7,h1,h2=>cases h1;cases h2;exact .aN (.ai _)
       |8,h1,h2=>cases h1;cases h2;exact .aN (.ai _)
       |n+9,h1,h2=>simp at h1
   .refine uz ag Gt ?_;refine⟨trivial,?_⟩;refine⟨trivial,?_⟩;refine⟨trivial,?_⟩;refine ar (λj=>j<=aj.length) [0,3,5,9,10,11,24,25] (λj=>[(26,al .i64 (j:Nat)),(6,.rv (.one (.row 3 4 0 none)))])
     (λj=>[.row 9 (b7 p 1 0 (l.take k)),Cv l p k,.var ((⟨ah,data,ag,target,aG,aj,aQ,ak,up⟩:Obj).enc.map .ai),.row 4 (aa ((aj.take j).map cy.enc))]) (λj=>aj.length-j) 0 (WG _) ?_ (λj hj=>?_)
    .refine View.trans (View.bt 6 4 3 rfl rfl rfl) (View.o1 4 [0,1,2,3] [] ?_)
     .exact .pt rfl rfl (.eq (congrArg (Bk.row 9) (nV p 1 _ _)) aD) (.AN (fv rfl) rfl (wO l p k) (.pe rfl rfl rfl (.pn rfl rfl rfl)))
    .have hj:j<=aj.length:=hj;refine am (λh=>?_) (λh=>?_)
     .have bQ:j<aj.length:=by have h:(j:Int)<((aj.map cy.enc).length:Int):=h;rw[O9]at h;omega
      have zM:=wy bQ;have K4:=MZ _ (aaR bQ);generalize aj[j]=q at zM K4;obtain⟨qd,qh,qo,qr⟩:=q;have pq:cm (aj.map cy.enc) (j:Nat)=some [.sl 1 qd,.val (.bool qh),.val (.int .i64 qo),.val (.int .i64 qr)]:=by rw[aU,Qu,zM];rfl
      refine af pq ?_;refine iS qd K4 ?_;refine⟨?_,?_⟩
      .show((aa ((aj.take j).map cy.enc)).length+1)*48<=_;simp[aa];omega
      refine⟨j+1,bQ,(show aj.length-(j+1)<aj.length-j by omega),View.o2 7 [0,1,2,6] [] ?_⟩
      .refine .pt rfl rfl (.eq (congrArg (Bk.row 9) (nV p 1 _ _)) aD) (.AN (fv rfl) rfl (wO l p k) (.pe rfl rfl rfl (.pt rfl rfl (.bn ?_) (.nil _))));rw[nH zM,abM,bZ];rfl
     .have ef:¬(j:Int)<((aj.map cy.enc).length:Int):=h;rw[O9]at ef;have hq:aj.take j=aj:=ach om;refine⟨?_,?_⟩
      .show((b7 p 1 0 (l.take k)).length+1)*128<=_;rw[gA];simp;omega
      have V2:Cv l p (k+1)=Cv l p k:=by
       have:Nat.blt p (k+1)=Nat.blt p k:=by rw[afj,aci,aci];omega
       simp only[Cv,this]
      refine⟨k+1,ax,(show l.length-(k+1)<l.length-k by omega),View.o2 6 [5,1] [3] ?_⟩
      .rw[yy hi,V2];refine .pt rfl rfl (.uy (nV p 1 _ _) rfl ?_) (.AN (fv rfl) rfl (wO l p k) (.nil _));intro j' c c' h1 h2;have e5:lD p 1 k ⟨ah,data,ag,target,aG,aj,aQ,ak,up⟩=[.ai (.val (.int .i64 ah)),.ai (.sl 1 data),.ai (.sl 2 ag),.ai (.val (.string target)),.ai (.val (.int .i64 aG)),.ai (.sl 4 ((aj.take j).map cy.enc)),.ai (.val (.int .i64 aQ)),.ai (.val (.int .i64 ak)),.ai (.val (.int .i64 up))]:=by simp[lD,VI,hq]
       rw[e5]at h2
       match j',h1,h2 with
       |0,h1,h2=>cases h1;cases h2;exact .aN (.ai _)
       |1,h1,h2=>cases h1;cases h2;exact .aN (.ai _)
       |2,h1,h2=>cases h1;cases h2;exact .aN (.ai _)
       |3,h1,h2=>cases h1;cases h2;exact .aN (.ai _)
       |4,h1,h2=>cases h1;cases h2;exact .aN (.ai _)
       |5,h1,h2=>cases h1;cases h2;exact .dG (cS.da (Z:=λk=>bc [3] k=true) rfl (by rw[<-aW];rfl) 0 none)
       |6,h1,h2=>cases h1;cases h2;exact .aN (.ai _)
       |7,h1,h2=>cases h1;cases h2;exact .aN (.ai _)
       |8,h1,h2=>cases h1;cases h2;exact .aN (.ai _)
       |n+9,h1,h2=>simp at h1
  .have ef:¬(k:Int)<((l.map Obj.enc).length:Int):=h;rw[O9]at ef;have dK:k=l.length:=by have:k<=l.length:=hk;omega
   subst dK;rw[abD];exact⟨rfl,rfl⟩
theorem Cw(l:List Obj)(hf:mF l)(p:Nat){m:Mem}{K:CV->Mem->Prop}(h:K (.rv (.one (.row m.length 9 0 none))) (m++ [.row 9 (b7 p (m.length+1) 0 l),Cv l p l.length])):ap prog 108 [cJ l] m K:=by
 refine be [] m.length rfl rfl rfl rfl rfl (λi b' hi=>by simp at hi) (aP func108 l108 (LD l hf p)) (λr m1 hr=>?_)
 obtain⟨h1,h2⟩:=hr;subst h1;subst h2;refine⟨WG _,?_⟩;show K (.rv (.one (.row (m.length+(0-0)) 9 0 none))) (fT m [.row 9 ((b7 p 1 0 l).map (λcs=>cs.map (CC.aN (sg [] m.length)))),(Cv l p l.length).aN (sg [] m.length)])
 rw[nV,wO,cf];exact h
def c118:LF:=Cq prog f118 [] []
def c149:LF:=Cq prog f149 [] []
theorem l149:bs prog f149=some c149:=by kernel_rfl
theorem l118:bs prog f118=some c118:=by kernel_rfl
theorem En(e:ByteArray×Int)(s:ByteArray):body prog c149 [yq e,dM s] [] (λr m=>r=al .i64 (mc e.1 s)):=
 O7 e.1 s rfl
theorem Wy(e:ByteArray×Int)(s:ByteArray){m:Mem}{K:CV->Mem->Prop}(h:K (al .i64 (mc e.1 s)) m):ap prog 149 [yq e,dM s] m K:=
 bu func149 l149 rfl (aav rfl) (En e s) rfl rfl h
def yz(l:List Obj)(es:List (ByteArray×Int))(dir:Nat)(s:ByteArray):Int:=if Cm es s=true then(match es[rS es s]? with|some e=>e.2|none=>0)else -1
theorem Hd(l:List Obj)(dir:Nat)(hd:dir<l.length)(hk:l[dir].ah=2)(es:List (ByteArray×Int))(he:l[dir].ag=es.map dn)(hl:es.length<=2147483648)(s:ByteArray):body prog c118 [cJ l,al .i64 (dir:Nat),dM s] [] (λr m=>r=al .i64 (yz l es dir s)):=by
 have hg:cm (l.map Obj.enc) (dir:Nat)=some l[dir].enc:=by rw[aU,Qu,wy hd];rfl
 generalize l[dir]=o at hg hk he;obtain⟨ah,data,ag,target,aG,aj,aQ,ak,up⟩:=o;have hk:ah=2:=hk;have he:ag=es.map dn:=he;subst hk he;have hg:cm (l.map Obj.enc) (dir:Nat)=some [.val (.int .i64 2),.sl 1 data,.sl 2 (es.map dn),.val (.string target),.val (.int .i64 aG),.sl 4 (aj.map cy.enc),.val (.int .i64 aQ),.val (.int .i64 ak),.val (.int .i64 up)]:=hg;refine am (λh1=>?_) (λh1=>?_)
 .exfalso;have h1:(dir:Int)>=((l.map Obj.enc).length:Int):=h1;rw[O9]at h1;omega
 refine af hg ?_;refine af hg ?_;refine O8 es hl s 145 (λe m K h=>U1 e s h) ?_
 refine aA (λh2=>?_) (λh2=>?_)
 .have h2:Cm es s=false:=by simpa using h2
  show al _ _=al _ _;rw[yz,if_neg (by rw[h2];simp)]
 .have h2:Cm es s=true:=by simpa using h2
  refine af hg ?_;have ax:rS es s<es.length:=by
   unfold Cm at h2;split at h2
   .rename_i e he;exact(Lw.1 he).1
   .cases h2
  refine af (pT ax) ?_;show al _ _=al _ _;rw[yz,if_pos h2,wy ax]
theorem Eo(l:List Obj)(dir:Nat)(hd:dir<l.length)(hk:l[dir].ah=2)(es:List (ByteArray×Int))(he:l[dir].ag=es.map dn)(hl:es.length<=2147483648)(s:ByteArray){m:Mem}{K:CV->Mem->Prop}(h:K (al .i64 (yz l es dir s)) m):ap prog 118 [cJ l,al .i64 (dir:Nat),dM s] m K:=
 bu func118 l118 rfl (aav rfl) (Hd l dir hd hk es he hl s) (by simp[cJ,al,dM,CV.cW,CC.cW,RV.cW]) rfl h
theorem He(l:List Ob)(ok:oO l)(dir:Nat)(hd:dir<l.length)(hk:l[dir].ah=2)(w:bT.dP):body prog c118 [fX l,al .i64 (dir:Nat),bT.vT w] [] (λr m=>r=al .i64 (mG l dir w)):=by
 obtain⟨wu,D0,hlen,uf⟩:=ok.df dir;have uf:=uf hd;have hf:mG l dir w=(if Cm (jn (mf l dir)) (bT.cU w)=true then(match (jn (mf l dir))[rS (jn (mf l dir)) (bT.cU w)]? with|some e=>e.2|none=>0)else -1):=mX wu (gS _ _) (Jz wu _)
 rw[hf];have hg:=eZ hd;generalize jn (mf l dir)=es at*
 generalize l[dir]=o at hg hk uf;obtain⟨ah,data,ag,target,aG,aj,aQ,ak,up⟩:=o;have hk:ah=2:=hk;have he:ag=es.map dn:=uf;subst hk he;refine am (λh1=>?_) (λh1=>?_)
 .exfalso;have h1:(dir:Int)>=((l.map Ob.enc).length:Int):=h1;rw[O9]at h1;omega
 refine af hg ?_;refine af hg ?_;refine O8 es om (bT.cU w) 145 (λe m K h=>U1 e (bT.cU w) h) ?_
 refine aA (λh2=>?_) (λh2=>?_)
 .have h2:Cm es (bT.cU w)=false:=by simpa using h2
  show al _ _=al _ _;rw[if_neg (by rw[h2];simp)]
 .have h2:Cm es (bT.cU w)=true:=by simpa using h2
  refine af hg ?_;have ax:rS es (bT.cU w)<es.length:=by
   unfold Cm at h2;split at h2
   .rename_i e he;exact(Lw.1 he).1
   .cases h2
  refine af (pT ax) ?_;show al _ _=al _ _;rw[if_pos h2,wy ax]
theorem Pi(l:List Ob)(ok:oO l)(dir:Nat)(hd:dir<l.length)(hk:l[dir].ah=2)(w:bT.dP){m:Mem}{K:CV->Mem->Prop}(h:K (al .i64 (mG l dir w)) m):ap prog 118 [fX l,al .i64 (dir:Nat),bT.vT w] m K:=
 bu func118 l118 rfl (aav rfl) (He l ok dir hd hk w) rfl rfl h
def Yk(l:List Ob)(aB:Int):Nat->Int->Bool
 |0,_=>false
 |n+1,d=>if gw l d 2=false then false else if d=aB then true else if d=0 then false else Yk l aB n (mf l d.toNat).up
def SF:RV:= .one (.ai (.val (.bool true)))
def fE(n:Nat):ME:=⟨.int .i64 (n:Nat),SF⟩
def m4(L:List Nat)(z:Int):Bool:=L.any λn=>z==(n:Int)
theorem qI(z:Int):∀L:List Nat,sA (.int .i64 z) (L.map fE)=some (if m4 L z=true then some SF else none)
 | []=>rfl
 |n::r=>by
  have ih:=qI z r;simp only[ab2,sA,fE,ra,decide_true];simp only[m4,ad6]at ih|-;by_cases h:z=(n:Int)
  .subst h;simp
  .have h1:(z==(n:Int))=false:=by simpa using h
   simp only[h1,acz];exact ih
theorem Pj(z:Int):∀L:List Nat,m4 L z=false->By (.int .i64 z) SF (L.map fE)=some (L.map fE++ [⟨.int .i64 z,SF⟩])
 | [],_=>rfl
 |n::r,h=>by simp only[m4,ad6,aej]at h;obtain⟨h1,h2⟩:=h;have ih:=Pj z r h2;simp only[ab2,By,fE,ra,decide_true,h1];rw[ih];rfl
theorem dg{Y:Nat->Nat}(L:List Nat):(Bk.mp (L.map fE)).aN Y= .mp (L.map fE):=by simp[Bk.aN,RV.aN,CC.aN,fE,SF,ade]
theorem fx{L:List Nat}{n:Nat}:m4 L (n:Int)=true↔n∈L:=by
 rw[m4,abP];constructor
 .rintro⟨x,hx,h⟩;have:(n:Int)=x:=by simpa using h
  have:n=x:=om;rw[this];exact hx
 .intro h;exact⟨n,h,aD⟩
theorem yA{l:List Ob}{aB:Int}(V:List Nat)(h:∀x,x∈V->(x:Int)≠aB/\∃y,y∈V/\(mf l x).up=(y:Nat)):∀(n x:Nat),x∈V->Yk l aB n (x:Nat)=false
 |0,_,_=>rfl
 |n+1,x,hx=>by
  obtain⟨h1,y,hy,h2⟩:=h x hx;rw[Yk];by_cases hI:gw l x 2=false
  .rw[if_pos hI]
  rw[if_neg hI,if_neg h1];by_cases h0:(x:Int)=0
  .rw[if_pos h0]
  rw[if_neg h0,aal,h2];exact yA V h n y hy
theorem yB:∀{N:Nat}{V:List Nat},V.Nodup->(∀x,x∈V->x<N)->V.length<=N
 |0,V,_,h=>by
  cases V with
  |nil=>exact aai _
  |cons x r=>exact absurd (h x aD) (abE x)
 |N+1,V,hd,h=>by
  by_cases hm:N∈V
  .have h1:=List.length_erase_of_mem hm;have h2:=yB (N:=N) (hd.erase N) λx hx=>by rw[hd.mem_erase_iff]at hx;have:=h x hx.2;have:=hx.1;omega
   have:=List.length_pos_of_mem hm;omega
  .have:=yB (N:=N) hd λx hx=>by
    have h1:=h x hx;have:x≠N:=λe=>hm (e▸hx)
    omega
   omega
structure Wz where
 d:Int
 V:List Nat
structure SG(l:List Ob)(aB dir:Int)(a:Wz):Prop where
 nd:a.V.Nodup
 rg:∀x,x∈a.V->x<l.length
 cl:∀x,x∈a.V->(x:Int)≠aB/\((mf l x).up=a.d\/∃y,y∈a.V/\(mf l x).up=(y:Nat))
 eq:Yk l aB (l.length+1-a.V.length) a.d=Yk l aB (l.length+1) dir
theorem SG.le{l:List Ob}{aB dir:Int}{a:Wz}(h:SG l aB dir a):a.V.length<=l.length:=yB h.nd h.rg
theorem SG.wh{l:List Ob}{aB dir:Int}{a:Wz}(h:SG l aB dir a){n:Nat}(hn:a.d=n)(hm:n∈a.V):Yk l aB (l.length+1) dir=false:=by
 rw[<-h.eq,hn];refine yA a.V (λx hx=>?_) _ n hm
 obtain⟨h1,h2⟩:=h.cl x hx;refine⟨h1,?_⟩;rcases h2 with h2|h2
 .exact⟨n,hm,h2.trans hn⟩
 .exact h2
def c142:LF:=Cq prog f142 [] [[d9 15 0 .nil],[(d9 14 0 (.cons 14 (some []) .nil))]]
def c143:LF:=Cq prog Tryz.f143 [] [[(.cons 0 none (.cons 2 none (d9 4 4 (.cons 1 (some [7]) (.cons 3 (some [7]) (.cons 8 (some []) (.cons 9 none (.cons 10 none (.cons 11 (some []) .nil)))))))))]]
theorem l142:bs prog f142=some c142:=by kernel_rfl
theorem l143:bs prog Tryz.f143=some c143:=by kernel_rfl
def jB(l:List Ob)(aB:Nat)(aC:Bool)(h a:Nat)(t:List bT.dP):Bk:= .var [.ai (ia l),.ai (.val (.int .i64 (aB:Nat))),.ai (.val (.bool aC)),.ai (.val (.int .i64 (h:Nat))),.ai (.val (.int .i64 (a:Nat))),.ai (bT.txD t)]
theorem yC(l:List Ob)(aB:Nat)(aC:Bool)(h a:Nat)(t:List bT.dP):jB l aB aC h a t≠.aE:=by intro x;cases x
theorem Pk{f:Nat}{args:List CV}(ha:∀Y,args.map (CV.aN Y)=args){l:List Ob}{aB:Nat}{aC:Bool}{h a:Nat}{t:List bT.dP}{Q:CV->Nat->Nat->List bT.dP->Prop}(hr:∀r h a t,Q r h a t->∀Y,r.aN Y=r)(hc:ap prog f (.rv (.one (.ptr 0 0))::args) [jB l aB aC h a t] (λr m=>∃h' a' t',m=[jB l aB aC h' a' t']/\Q r h' a' t')){m:Mem}(id:Nat)(hb:dh m id=some (jB l aB aC h a t)){K:CV->Mem->Prop}(hK:∀r h' a' t',Q r h' a' t'->K r (aX m id (jB l aB aC h' a' t'))):ap prog f (.rv (.one (.ptr id 0))::args) m K:=by
 have hid:id<m.length:=by rw[aW]at hb;exact(Lw.1 hb).1
 refine be [id] m.length rfl rfl rfl (by simp[eh,hid]) (args0:= .rv (.one (.ptr 0 0))::args) (by rw[ab2,ha];rfl) (λi b' hi=>?_) hc (λr1 m1 C7=>?_)
 .cases i with
  |zero=>
   simp at hi;subst hi;refine .inr ⟨λh=>h,_,?_,.eq rfl (yC _ _ _ _ _ _)⟩
   rw[aW]at hb;exact hb
  |succ i=>simp at hi
 .obtain⟨h',a',t',rfl,hq⟩:=C7;refine⟨aai _,?_⟩;rw[hr _ _ _ _ hq];show K r1 (dt m [id] [jB l aB aC h' a' t']);rw[xW];exact hK _ _ _ _ hq
theorem LG{r:CV}{l:List Ob}{aB:Nat}{aC:Bool}{h a:Nat}{t:List bT.dP}{X:Mem}(hr:∀Y,r.aN Y=r):View 1 ⟨[r],jB l aB aC h a t::X⟩ ⟨[r],[jB l aB aC h a t]⟩:=
 View.of (X.length+1) [0] [] rfl rfl rfl rfl rfl (by simp[eh,Nat.blt]) (.eq (hr _) .nil) (.pt rfl rfl (.eq rfl (yC _ _ _ _ _ _)) (.nil _))
def upR(l:List Ob)(aB:Nat)(aC:Bool)(h a:Nat)(t:List bT.dP)(r:CV)(h' a':Nat)(t':List bT.dP):Prop:=
 h'=h/\t'=t/\((aC=true/\a=aB)/\r=aq false/\a'=a\/¬(aC=true/\a=aB)/\r=aq true/\a'=A3 l a)
theorem SH(l:List Ob)(ok:oO l)(aB:Nat)(aC:Bool)(h a:Nat)(ha:a<l.length)(t:List bT.dP):body prog c142 [.rv (.one (.ptr 0 0))] [jB l aB aC h a t] (λr m=>∃h' a' t',m=[jB l aB aC h' a' t']/\upR l aB aC h a t r h' a' t'):=by
 have hg:=eZ ha;have hu:=ok.Pc ha;refine ba (λh1=>?_) (λh1=>?_)
 .cases aC with
  |true=>exact⟨_,_,_,rfl,rfl,rfl,.inl ⟨⟨rfl,om⟩,rfl,rfl⟩⟩
  |false=>
   refine af hg ?_;refine⟨trivial,?_⟩;rw[hu];exact⟨_,_,_,rfl,rfl,rfl,.inr ⟨aD,rfl,rfl⟩⟩
 .refine af hg ?_;refine⟨trivial,?_⟩;rw[hu];exact⟨_,_,_,rfl,rfl,rfl,.inr ⟨λh=>h1 (by rw[h.2]),rfl,rfl⟩⟩
theorem aac(l:List Ob)(ok:oO l)(aB:Nat)(aC:Bool)(h a:Nat)(ha:a<l.length)(t:List bT.dP){m:Mem}(id:Nat)(hb:dh m id=some (jB l aB aC h a t)){K:CV->Mem->Prop}(Zh:(aC=true/\a=aB)->K (aq false) (aX m id (jB l aB aC h a t)))(hK2:¬(aC=true/\a=aB)->K (aq true) (aX m id (jB l aB aC h (A3 l a) t))):ap prog 142 [.rv (.one (.ptr id 0))] m K:=by
 refine Pk (args:=[]) (λ_=>rfl) (Q:=upR l aB aC h a t) (λr h a t hq Y=>?_) (aP func142 l142 (SH l ok aB aC h a ha t)) id hb (λr h' a' t' hq=>?_)
 .rcases hq.2.2 with⟨_,rfl,_⟩|⟨_,rfl,_⟩<;>rfl
 .obtain⟨rfl,rfl,hq⟩:=hq;rcases hq with⟨h1,rfl,rfl⟩|⟨h1,rfl,rfl⟩
  .exact Zh h1
  .exact hK2 h1
theorem rU(t:bT.dP):(bT.cX t).1.length<=61:=by
 unfold bT.cX;split
 .simp
 .split
  .simp
  .split
   .show(bT.Cr t).length<=61;have h1:=acn bT.tw (bT.it 47 t);have h2:=bT.yu 47 t;unfold bT.Cr;omega
   .simp
inductive Rf(p:List bT.dP×Bool×Int)(aC:Bool)(h a:Nat)(t:List bT.dP):CV->Nat->Nat->List bT.dP->Prop
 |loop (h' a':Nat) (t':List bT.dP) (h6:h=6):Rf p aC h a t (al .i64 13) h' a' t'
 |gz (h' a':Nat) (t':List bT.dP) (h6:h≠6) (he:p.2.2≠0):Rf p aC h a t (al .i64 p.2.2) h' a' t'
 |out (h' a':Nat) (t':List bT.dP) (h6:h≠6) (he:p.2.2=0) (hr:p.2.1=true) (hf:aC=true):Rf p aC h a t (al .i64 14) h' a' t'
 |ok (h6:h≠6) (he:p.2.2=0) (hr:¬(p.2.1=true/\aC=true)):Rf p aC h a t (al .i64 0) (h+1) (if p.2.1=true then 0 else a) (p.1++t)
theorem Rf.data{p:List bT.dP×Bool×Int}{aC:Bool}{h a:Nat}{t:List bT.dP}{r:CV}{h' a':Nat}{t':List bT.dP}(x:Rf p aC h a t r h' a' t')(Y:Nat->Nat):r.aN Y=r:=by cases x<;>rfl
def TV1(Q:CV->Mem->Prop)(r:CV)(m:Mem):Prop:=∃r' m',View 1 ⟨[r],m⟩ ⟨[r'],m'⟩/\Q r' m'
theorem SI(a b:List bT.dP):aa (a.map bT.tD)++aa (b.map bT.tD)=aa ((a++b).map bT.tD):=by rw[abM,bT.bZ]
theorem aad{m:Mem}{Z:Nat->Prop}{id:Nat}{p:Option Nat}{X:List (List CC)}{ds:List (List Dt)}(hz:Z id)(hm:m[id]? =some (.row 1 X))(hX:X=aa ds):cS m Z p (.row id 1 0 none) (.sl 1 ds):=by
 subst hX;refine cS.row id 1 0 none (aa ds) ds hz hm (by simp[aa]) (λi cs es h1 h2=>?_) (λi cs es j c d h1 h2 h3 h4=>?_)
 .simp only[aa,Qu,h2,aa3,abe]at h1;subst h1;simp
 .simp only[aa,Qu,h2,aa3,abe]at h1;subst h1;rw[Qu,h4]at h3;cases h3;exact .ai _
theorem aae{l:List Ob}{aB:Nat}{aC:Bool}{h a:Nat}{t parts:List bT.dP}{m:Mem}{Y:Nat->Nat}(hm:m[3]? =some (.row 1 ((([]:List (List CC))++aa (parts.map bT.tD))++aa (t.map bT.tD)))):
  oC Y m (λk=>bc [3] k=true) 0 (.var [.ai (ia l),.ai (.val (.int .i64 (aB:Nat))),.ai (.val (.bool aC)),.ai (.val (.int .i64 (h:Nat))),.ai (.val (.int .i64 (a:Nat))),.row 3 1 0 none]) (jB l aB aC h a (parts++t)):=
 dy.var (.cons (.aN (.ai _)) (.cons (.aN (.ai _)) (.cons (.aN (.ai _)) (.cons (.aN (.ai _)) (.cons (.aN (.ai _)) (.cons (.dG (aad rfl hm (by rw[aed];exact SI parts t))) .nil))))))
theorem LH(l:List Ob)(aB:Nat)(aC:Bool)(h a:Nat)(hh:h<=6)(t:List bT.dP)(ht:t.length<=1000)(s:bT.dP):
  body prog c143 [.rv (.one (.ptr 0 0)),bT.vT s] [jB l aB aC h a t] (TV1 λr m=>∃h' a' t',m=[jB l aB aC h' a' t']/\Rf (bT.cX s) aC h a t r h' a' t'):=by
 refine ba (λh1=>?_) (λh1=>?_)
 .exact⟨_,_,LG (X:=[]) (λ_=>rfl),_,_,_,rfl,.loop _ _ _ om⟩
 have h6:h≠6:=λe=>h1 (by rw[e];rfl)
 refine bT.yv s ?_;have hp:=rU s;generalize bT.cX s=p at hp|-;obtain⟨parts,ay,er⟩:=p;have hp:parts.length<=61:=hp;have e1:IntKind.i64.wrap ((h:Int)+1)=((h+1:Nat):Int):=by
  rw[show(h:Int)+1=((h+1:Nat):Int) by omega,lW om]
 rw[e1];refine bF (λh2=>?_) (λh2=>?_)
 .exact⟨_,_,LG (h:=h+1) (X:=[]) (λ_=>rfl),_,_,_,rfl,.gz _ _ _ h6 h2⟩
 have h2:er=0:=by simpa using h2
 subst h2;cases ay with
 |true=>
  cases aC with
  |true=>exact⟨_,_,LG (h:=h+1) (X:=[]) (λ_=>rfl),_,_,_,rfl,.out _ _ _ h6 rfl rfl rfl⟩
  |false=>
   refine⟨⟨rfl,trivial⟩,?_⟩;refine⟨?_,?_⟩
   .show(0+(aa (parts.map bT.tD)).length)*16<=_;rw[bT.aJ,O9];omega
   refine⟨⟨rfl,trivial⟩,?_⟩;refine⟨?_,?_⟩
   .show((([]:List (List CC))++aa (parts.map bT.tD)).length+(aa (t.map bT.tD)).length)*16<=_;rw[abT,bT.aJ,bT.aJ,O9,O9];show(0+parts.length+t.length)*16<=_;omega
   refine⟨trivial,?_⟩;refine⟨trivial,?_⟩;exact⟨_,_,View.o 4 [0] [3] (.eq rfl .nil) (.pt rfl rfl (aae (t:=t) (parts:=parts) rfl) (.nil _)),_,_,_,rfl,.ok h6 rfl aD⟩
 |false=>
  refine⟨⟨rfl,trivial⟩,?_⟩;refine⟨?_,?_⟩
  .show(0+(aa (parts.map bT.tD)).length)*16<=_;rw[bT.aJ,O9];omega
  refine⟨⟨rfl,trivial⟩,?_⟩;refine⟨?_,?_⟩
  .show((([]:List (List CC))++aa (parts.map bT.tD)).length+(aa (t.map bT.tD)).length)*16<=_;rw[abT,bT.aJ,bT.aJ,O9,O9];show(0+parts.length+t.length)*16<=_;omega
  refine⟨trivial,?_⟩;refine⟨trivial,?_⟩;exact⟨_,_,View.o 4 [0] [3] (.eq rfl .nil) (.pt rfl rfl (aae (t:=t) (parts:=parts) rfl) (.nil _)),_,_,_,rfl,.ok h6 rfl aD⟩
theorem JA(l:List Ob)(aB:Nat)(aC:Bool)(h a:Nat)(hh:h<=6)(t:List bT.dP)(ht:t.length<=1000)(s:bT.dP){m:Mem}(id:Nat)(hb:dh m id=some (jB l aB aC h a t)){K:CV->Mem->Prop}(hK:∀r h' a' t',Rf (bT.cX s) aC h a t r h' a' t'->K r (aX m id (jB l aB aC h' a' t'))):ap prog 143 [.rv (.one (.ptr id 0)),bT.vT s] m K:=
 Pk (args:=[bT.vT s]) (λ_=>rfl) (Q:=Rf (bT.cX s) aC h a t) (λr h a t hq Y=>hq.data Y)
  (bK (aP func143 l143 (LH l aB aC h a hh t ht s)) λr m1⟨r',m',hv,hq⟩=>⟨r',m',hv,hq⟩) id hb hK
def c117:LF:=Cq prog f117 [] [[d9 12 0 .nil],[(d9 9 0 (.cons 9 (some []) (.cons 10 none .nil)))]]
theorem l117:bs prog f117=some c117:=by kernel_rfl
def Pl(l:List Ob)(aB:Nat)(aC follow:Bool):Nat->Nat->List bT.dP->Nat->R4
 |0=>λ_ _ _=>R4.no 13
 |n+1=>SD l aC (C8 l aB aC follow n)
theorem WA(l:List Ob)(aB:Nat)(aC follow:Bool)(n:Nat):C8 l aB aC follow n=Jy l aB aC follow (Pl l aB aC follow n):=by
 cases n<;>rfl
def Yl(r:R4):List Dt:=[.val (.int .i64 r.obj),.val (.int .i64 r.dir),.val (.string (bT.cU r.name))]
def stV(r:R4)(ok:Bool):CV:= .bG [.agg ((Yl r).map .ai),.one (.ai (.val (.bool ok))),.one (.ai (.val (.int .i64 r.gz)))]
inductive U3(l:List Ob)(aB:Nat)(aC follow:Bool)(h a:Nat)(s:bT.dP)(t:List bT.dP):CV->Nat->Nat->List bT.dP->Prop
 |done (r:R4) (ok:Bool) (h' a':Nat) (t':List bT.dP) (hd:ok=true\/r.gz≠0) (he:C8 l aB aC follow (6-h) (s::t) a=r):U3 l aB aC follow h a s t (stV r ok) h' a' t'
 |go (h' a':Nat) (t':List bT.dP) (he:C8 l aB aC follow (6-h) (s::t) a=C8 l aB aC follow (6-h') t' a') (ha:a'<l.length) (hm:h'=h/\t'=t\/h'=h+1/\h<6/\t'.length<=61+t.length):U3 l aB aC follow h a s t (stV (R4.no 0) false) h' a' t'
theorem U3.data{l:List Ob}{aB:Nat}{aC follow:Bool}{h a:Nat}{s:bT.dP}{t:List bT.dP}{r:CV}{h' a':Nat}{t':List bT.dP}(x:U3 l aB aC follow h a s t r h' a' t')(Y:Nat->Nat):r.aN Y=r:=by cases x<;>rfl
theorem LI(t:List bT.dP):((t.map bT.tD).length:Int)=t.length:=by rw[O9]
theorem LJ(l:List Ob)(ok:oO l)(aB:Nat)(aC follow:Bool)(h a:Nat)(hh:h<=6)(ha:a<l.length)(s:bT.dP)(t:List bT.dP)(ht:t.length<=1000):
  body prog c117 [.rv (.one (.ptr 0 0)),aq follow] [jB l aB aC h a (s::t)] (TV1 λr m=>∃h' a' t',m=[jB l aB aC h' a' t']/\U3 l aB aC follow h a s t r h' a' t'):=by
 have hg:=eZ ha;have hw:=WA l aB aC follow (6-h);have hS:∀r,Jy l aB aC follow (Pl l aB aC follow (6-h)) (s::t) a=r->C8 l aB aC follow (6-h) (s::t) a=r:=λr e=>by rw[hw];exact e
 refine bV (by rw[aaL,abR,abR,O9,aa2];exact⟨Nat.succ_le_succ (WG _),aai _⟩) ?_
 rw[show List.drop 1 (List.take (List.map bT.tD (s::t)).length (List.map bT.tD (s::t)))=t.map bT.tD by rw[abD];rfl]
 refine af hg ?_;refine bF (λh1=>?_) (λh1=>?_)
 .exact⟨_,_,LG (λ_=>rfl),_,_,_,rfl,.done (R4.no 11) false _ _ _ (.inr (by simp[R4.no])) (hS _ (by rw[Jy,if_pos (by rw[uP ha];exact h1)]))⟩
 have h1:l[a].ah=2:=by simpa using h1
 have lS:¬(mf l a).ah≠2:=by rw[uP ha,h1];simp
 refine bT.me (b:=[46,46]) (λh2=>?_) (λh2=>?_)
 .subst h2;refine aac l ok aB aC h a ha t 0 rfl (λh3=>?_) (λh3=>?_)
  .exact⟨_,_,LG (λ_=>rfl),_,_,_,rfl,.done (R4.no 14) false _ _ _ (.inr (by simp[R4.no])) (hS _ (by rw[Jy,if_neg lS,if_pos rfl,if_pos h3]))⟩
  .exact⟨_,_,LG (λ_=>rfl),_,_,_,rfl,.go h (A3 l a) t (hS _ (by rw[Jy,if_neg lS,if_pos rfl,if_neg h3,hw])) (ok.Wt a) (.inl ⟨rfl,rfl⟩)⟩
 refine Pi l ok a ha h1 s ?_;refine⟨trivial,?_⟩;have hf:=ok.Wu a s;have Wq:mG l a s<0->mG l a s= -1:=λh=>by
  rcases gS (jn (mf l a)) (bT.cU s)with⟨e,he,_,h3⟩|⟨h3,_⟩
  .have:=(ok.df a).2.1 e he;rw[mG,h3]at h;omega
  .exact h3
 have hW:∀r,(if mG l a s<0 then(if t≠[]then R4.no 6 else⟨-1,a,s,0⟩)else if(mf l (mG l a s).toNat).ah=3/\(follow=true\/t≠[])then Pl l aB aC follow (6-h) a t (mG l a s).toNat
  else if t=[]then⟨mG l a s,a,s,0⟩else Jy l aB aC follow (Pl l aB aC follow (6-h)) t (mG l a s).toNat)=r->C8 l aB aC follow (6-h) (s::t) a=r:=λr e=>hS r (by rw[Jy,if_neg lS,if_neg h2];exact e)
 refine am (λh3=>?_) (λh3=>?_)
 .refine ba (λh4=>?_) (λh4=>?_)
  .rw[LI]at h4;have h4:t=[]:=aaX om;exact⟨_,_,LG (λ_=>rfl),_,_,_,rfl,.done ⟨-1,a,s,0⟩ true _ _ _ (.inl rfl) (hW _ (by rw[if_pos h3,if_neg (by simp[h4])]))⟩
  .rw[LI]at h4;have h4:t≠[]:=λe=>h4 (by rw[e];rfl)
   refine bV (decide_eq_true h3) ?_;exact⟨_,_,LG (λ_=>rfl),_,_,_,rfl,.done (R4.no 6) false _ _ _ (.inr (by simp[R4.no])) (hW _ (by rw[if_pos h3,if_pos h4]))⟩
 obtain⟨k,Zs,hk⟩:=hf h3;rw[if_neg h3]at hW;refine gG (decide_eq_false h3) ?_;rw[Zs,aal,uP hk]at hW;have WB:=eZ hk;have htg:l[k].target=bT.cU (Pb l k):=by obtain⟨tg,e⟩:=bT.Cp l[k].target;rw[Pb,uP hk,e];rfl
 rw[htg]at WB;rw[Zs];have x5:¬(l[k].ah=3/\(follow=true\/t≠[]))->∀r,(if t=[]then⟨(k:Int),a,s,0⟩else Jy l aB aC follow (Pl l aB aC follow (6-h)) t k)=r->C8 l aB aC follow (6-h) (s::t) a=r:=λhn r e=>hW r (by rw[if_neg hn];exact e)
 refine af WB ?_;refine ba (λh6=>?_) (λh6=>?_)
 .have h6:l[k].ah=3:=h6;have aaf:(follow=true\/t≠[])->∀r h' a' t',Rf (bT.cX (Pb l k)) aC h a t r h' a' t'->∃e,r=al .i64 e/\U3 l aB aC follow h a s t (stV (R4.no e) false) h' a' t':=by
   intro tY;rw[if_pos ⟨h6,tY⟩]at hW;intro r h' a' t' hq;cases hq with
   |loop _ _ _ e6=>exact⟨13,rfl,.done (R4.no 13) false _ _ _ (.inr (by simp[R4.no])) (hW _ (by rw[e6];rfl))⟩
   |gz _ _ _ e6 he=>exact⟨_,rfl,.done (R4.no _) false _ _ _ (.inr he) (hW _ (by rw[show 6-h=(5-h)+1 by omega];show SD _ _ _ _ _ _=_;rw[SD,if_pos he]))⟩
   |out _ _ _ e6 he hr hf'=>exact⟨14,rfl,.done (R4.no 14) false _ _ _ (.inr (by simp[R4.no])) (hW _ (by rw[show 6-h=(5-h)+1 by omega];show SD _ _ _ _ _ _=_;rw[SD,if_neg (by simp[he]),if_pos ⟨hr,hf'⟩]))⟩
   |ok e6 he hr=>exact⟨0,rfl,.go _ _ _ (hW _ (by rw[show 6-h=(5-h)+1 by omega];show SD _ _ _ _ _ _=_;rw[SD,if_neg (by simp[he]),if_neg hr,show 6-(h+1)=5-h by omega])) (by split;exact ok.pos;exact ha) (.inr ⟨rfl,om,by rw[abT];have:=rU (Pb l k);omega⟩)⟩
  refine aA (λh5=>?_) (λh5=>?_)
  .have h5:t≠[]:=λe=>by subst e;cases h5
   refine af WB ?_;refine JA l aB aC h a hh t ht (Pb l k) 0 rfl λr h' a' t' hq=>?_
   obtain⟨e,rfl,Re⟩:=aaf (.inr h5) _ _ _ _ hq;exact⟨_,_,LG (λ_=>rfl),_,_,_,rfl,Re⟩
  .have h5:t=[]:=by
    cases t with
    |nil=>rfl
    |cons x r=>cases h5
   cases follow with
   |true=>
    refine af WB ?_;refine JA l aB aC h a hh t ht (Pb l k) 0 rfl λr h' a' t' hq=>?_
    obtain⟨e,rfl,Re⟩:=aaf (.inl rfl) _ _ _ _ hq;exact⟨_,_,LG (λ_=>rfl),_,_,_,rfl,Re⟩
   |false=>
    have gu:=x5 (by rw[h5];simp)
    rw[if_pos h5]at gu;subst h5;exact⟨_,_,LG (λ_=>rfl),_,_,_,rfl,.done ⟨(k:Nat),a,s,0⟩ true _ _ _ (.inl rfl) (gu _ rfl)⟩
 .have h6:l[k].ah≠3:=h6;have gu:=x5 (λh=>h6 h.1)
  refine ba (λh7=>?_) (λh7=>?_)
  .rw[LI]at h7;have h7:t=[]:=aaX om;rw[if_pos h7]at gu;exact⟨_,_,LG (λ_=>rfl),_,_,_,rfl,.done ⟨(k:Nat),a,s,0⟩ true _ _ _ (.inl rfl) (gu _ rfl)⟩
  .rw[LI]at h7;have h7:t≠[]:=λe=>h7 (by rw[e];rfl)
   rw[if_neg h7,<-hw]at gu;exact⟨_,_,LG (λ_=>rfl),_,_,_,rfl,.go h k t (gu _ rfl) hk (.inl ⟨rfl,rfl⟩)⟩
theorem SJ(l:List Ob)(ok:oO l)(aB:Nat)(aC follow:Bool)(h a:Nat)(hh:h<=6)(ha:a<l.length)(s:bT.dP)(t:List bT.dP)(ht:t.length<=1000){m:Mem}(id:Nat)(hb:dh m id=some (jB l aB aC h a (s::t))){K:CV->Mem->Prop}(hK:∀r h' a' t',U3 l aB aC follow h a s t r h' a' t'->K r (aX m id (jB l aB aC h' a' t'))):ap prog 117 [.rv (.one (.ptr id 0)),aq follow] m K:=
 Pk (args:=[aq follow]) (λ_=>rfl) (Q:=U3 l aB aC follow h a s t) (λr h a t hq Y=>hq.data Y)
  (bK (aP func117 l117 (LJ l ok aB aC follow h a hh ha s t ht)) λr m1⟨r',m',hv,hq⟩=>⟨r',m',hv,hq⟩) id hb hK
def c76:LF:=Cq prog f76 [[7]] [[(d9 16 0 (.cons 16 (some []) (.cons 17 none .nil)))]]
theorem l76:bs prog f76=some c76.er:=by kernel_rfl
def Ym(r:R4):CV:= .bG [.agg ((Yl r).map .ai),.one (.ai (.val (.int .i64 r.gz)))]
theorem aag(r:R4):(Ym r).DN=true:=rfl
structure StP where
 h:Nat
 a:Nat
 t:List bT.dP
theorem SK(l:List Ob)(aB:Nat)(aC follow:Bool)(n a:Nat):C8 l aB aC follow n [] a=⟨a,A3 l a,[],0⟩:=by
 cases n<;>rfl
def G9:LC:=l5 (bi (bi (bi (bi (bi (bi (bi c76.code)))))))
def z3R:Bk:= .var ((Yl (R4.no 0)).map .ai)
theorem Ep(l:List Ob)(ok:oO l)(b:Nat)(aC follow:Bool)(a0:Nat)(SL:a0<l.length)(parts:List bT.dP)(hp:parts.length<=61):
  aw prog 0 G9 (nu prog c76.lM (λr m=>r=Ym (C8 l b aC follow 6 parts a0))) ⟨i5 102 [(0,fX l),(4,aq follow),(10,.rv (.one (.ptr 0 0))),(15,.rv (.one (.ptr 1 0)))],[z3R,jB l b aC 0 a0 parts]⟩:=by
 refine ar (λa:StP=>a.h<=6/\a.a<l.length/\a.t.length<=61*(a.h+1)/\C8 l b aC follow (6-a.h) a.t a.a=C8 l b aC follow 6 parts a0) [0,4,10,15] (λ_=>[]) (λa=>[z3R,jB l b aC a.h a.a a.t]) (λa=>(6-a.h)*1000+a.t.length) ⟨0,a0,parts⟩ ⟨WG _,SL,by simpa using hp,rfl⟩ ?_ (λa ha=>?_)
 .refine View.o1 2 [0,1] [] (.pt rfl rfl (.eq rfl (by intro x;cases x)) (.pt rfl rfl (.eq rfl (yC _ _ _ _ _ _)) (.nil _)))
 obtain⟨h,a,t⟩:=a;obtain⟨hh,ha,ht,he⟩:=ha;have hh:h<=6:=hh;have ha:a<l.length:=ha;have ht:t.length<=61*(h+1):=ht;have he:C8 l b aC follow (6-h) t a=C8 l b aC follow 6 parts a0:=he;refine am (λh1=>?_) (λh1=>?_)
 .have h1:((t.map bT.tD).length:Int)>0:=h1;rw[LI]at h1;obtain⟨s,t',rfl⟩:∃s t',t=s::t':=by
   cases t with
   |nil=>simp at h1
   |cons s t'=>exact⟨s,t',rfl⟩
  have ht:t'.length+1<=61*(h+1):=by simpa using ht
  refine SJ l ok b aC follow h a hh ha s t' om 1 rfl λr h' a' t'' hq=>?_
  cases hq with
  |done r okk h' a' t'' hd hr=>
   rw[<-he,hr];cases okk with
   |true=>exact rfl
   |false=>
    have hd:r.gz≠0:=by simpa using hd
    refine bF (λh2=>?_) (λh2=>?_)
    .exact rfl
    .exact absurd h2 hd
  |go h' a' t'' hr ha' hm=>
   refine⟨⟨h',a',t''⟩,⟨?_,ha',?_,hr.symm.trans he⟩,?_,View.o 3 [0,1] [] ?_ (.pt rfl rfl (.eq rfl (by intro x;cases x)) (.pt rfl rfl (.eq rfl (yC _ _ _ _ _ _)) (.nil _)))⟩
   .show h'<=6;omega
   .show t''.length<=61*(h'+1);rcases hm with⟨rfl,rfl⟩|⟨rfl,h6,hl⟩
    .omega
    .omega
   .show(6-h')*1000+t''.length<(6-h)*1000+(s::t').length;rw[aa2];rcases hm with⟨rfl,rfl⟩|⟨rfl,h6,hl⟩
    .omega
    .omega
   .repeat(first|exact .nil|refine .aH ?_|refine .eq rfl ?_)
 .have h1:¬((t.map bT.tD).length:Int)>0:=h1;rw[LI]at h1;have h1:t=[]:=aaX om;subst h1;rw[SK]at he;refine af (eZ ha) ?_;refine⟨trivial,?_⟩;rw[<-he,ok.Pc ha];exact rfl
theorem LK(l:List Ob)(ok:oO l)(aB:Int)(s:bT.dP)(aC follow:Bool):body prog c76 [fX l,al .i64 aB,bT.vT s,aq aC,aq follow] [] (λr m=>r=Ym (ri l aB s aC follow)):=by
 have kj:gw l aB 0=false->ri l aB s aC follow=R4.no 6:=λh=>by rw[ri,h];rfl
 refine am (λh1=>?_) (λh1=>?_)
 .rw[kj (by rw[gw,decide_eq_false om];rfl)];rfl
 obtain⟨b,rfl⟩:∃b:Nat,aB=b:=⟨aB.toNat,om⟩;refine am (λh2=>?_) (λh2=>?_)
 .have h2:(b:Int)>=((l.map Ob.enc).length:Int):=h2;rw[O9]at h2;rw[kj (by rw[gw,decide_eq_false (p:=(b:Int)<l.length) om];simp)];rfl
 have h2:¬(b:Int)>=((l.map Ob.enc).length:Int):=h2;rw[O9]at h2;have hb:b<l.length:=om;have hg:=eZ hb;refine af hg ?_;refine ba (λh3=>?_) (λh3=>?_)
 .have h3:l[b].ah=0:=h3;rw[kj (by unfold gw;rw[aal,wy hb];simp[h3])];rfl
 have h3:l[b].ah≠0:=h3;have hI:gw l b 0=true:=by unfold gw;rw[aal,wy hb];simp[h3,hb]
 have hL:∀r,(if l[b].ah≠2 then R4.no 11 else if(bT.cX s).2.2≠0 then R4.no (bT.cX s).2.2 else if(bT.cX s).2.1=true/\aC=true then R4.no 14
  else C8 l b aC follow 6 (bT.cX s).1 (if(bT.cX s).2.1=true then 0 else b))=r->ri l b s aC follow=r:=λr e=>by
  rw[ri,if_pos hI,aal,uP hb];exact e
 refine af hg ?_;refine bF (λh4=>?_) (λh4=>?_)
 .rw[hL _ (if_pos h4)];rfl
 have h4:l[b].ah=2:=by simpa using h4
 rw[if_neg (by rw[h4];simp)]at hL
 refine bT.yv s ?_;have hp:=rU s;generalize bT.cX s=p at hp hL|-;obtain⟨parts,ay,er⟩:=p;have hp:parts.length<=61:=hp;refine bF (λh5=>?_) (λh5=>?_)
 .rw[hL _ (if_pos h5)];rfl
 have h5:er=0:=by simpa using h5
 rw[if_neg (by simp[h5])]at hL
 have view:∀a0:Nat,∀e,iB (sg [0,1] 2) [z3R,jB l b aC 0 a0 parts] (λk=>bc [] k=true) e (i5 102 [(0,fX l),(4,aq follow),(10,.rv (.one (.ptr 0 0))),(15,.rv (.one (.ptr 1 0)))])->
   View 0 ⟨e,[z3R,jB l b aC 0 a0 parts]⟩ ⟨i5 102 [(0,fX l),(4,aq follow),(10,.rv (.one (.ptr 0 0))),(15,.rv (.one (.ptr 1 0)))],[z3R,jB l b aC 0 a0 parts]⟩:=λa0 e he=>
  View.o 2 [0,1] [] he (.pt rfl rfl (.eq rfl (by intro x;cases x)) (.pt rfl rfl (.eq rfl (yC _ _ _ _ _ _)) (.nil _)))
 cases ay with
 |true=>
  cases aC with
  |true=>
   rw[hL _ (if_pos ⟨rfl,rfl⟩)];rfl
  |false=>
   rw[hL _ (by rw[if_neg aD,if_pos rfl])]
   refine⟨_,view 0 _ ?_,Ep l ok b false follow 0 ok.pos parts hp⟩;repeat(first|exact .nil|refine .aH ?_|refine .eq rfl ?_)
 |false=>
  rw[hL _ (by rw[if_neg aD,if_neg aD])]
  refine⟨_,view b _ ?_,Ep l ok b aC follow b hb parts hp⟩;repeat(first|exact .nil|refine .aH ?_|refine .eq rfl ?_)
theorem SM(l:List Ob)(ok:oO l)(aB:Int)(s:bT.dP)(aC follow:Bool){m:Mem}{K:CV->Mem->Prop}(h:K (Ym (ri l aB s aC follow)) m):ap prog 76 [fX l,al .i64 aB,bT.vT s,aq aC,aq follow] m K:=by
 refine aR (K0:=λr _=>r=Ym (ri l aB s aC follow)) (cE func76 l76 (LK l ok aB s aC follow)) (by simp[fX,al,aq,bT.vT,dM,CV.cW,CC.cW]) λr m1 hr=>?_
 subst hr;exact⟨_,cH.self (aag _),h⟩
theorem WC{es:List NE}(hs:Gw es){s:ByteArray}(hf:Cm es s=false)(n:Int):fW (s,n) es=es.take (rS es s)++(s,n)::es.drop (rS es s):=by
 obtain⟨h0,h1,h2⟩:=pU hs s es.length 0 es.length om om om (λk e hk=>absurd hk (abE k)) (λk e hk he=>by have:=(Lw.1 he).1;omega)
 have hI:Lt es s es.length 0 es.length=rS es s:=rfl;rw[hI]at h0 h1 h2;have e1:∀e,e∈es.take (rS es s)->Fu e.1 s=false:=λe he=>by obtain⟨k,hk⟩:=aak he;have dK:=(Lw.1 hk).1;rw[aa8]at dK;rw[abK,if_pos om]at hk;have h3:=h1 k e om hk;unfold Fu;unfold B7 at h3;rw[h3];rfl
 have:=tk (x:=(s,n)) (a:=es.take (rS es s)) (b:=es.drop (rS es s)) e1;rw[ady]at this;rw[this];congr 1;cases hd:es.drop (rS es s)with
 |nil=>rfl
 |cons e r=>
  have ny:es[rS es s]? =some e:=by
   have:(es.drop (rS es s))[0]? =some e:=by rw[hd];rfl
   rw[ab5]at this;simpa using this
  refine I7 ?_;have h3:=h2 (rS es s) e (aai _) ny;unfold Cm at hf;rw[ny]at hf;have fG:¬mc e.1 s=0:=by simpa using hf
  have fG:e.1.toList≠s.toList:=λh=>fG (yw.2 h)
  show Fu e.1 s=true;unfold Fu;unfold B7 at h3;have h3:Op.bytesLess e.1.toList s.toList=false:=by simpa using h3
  rw[h3];simp[fG]
theorem A4{es:List NE}(hs:Gw es)(s:ByteArray):(if Cm es s=true then(match es[rS es s]? with|some e=>e.2|none=>0)else -1)=eY es s:=mX hs (Jz hs s) (gS es s)
def c74:LF:=Cq prog f74 [] []
def c122:LF:=Cq prog f122 [[7]] []
def c150:LF:=Cq prog f150 [] [[(d9 8 0 (.cons 8 (some []) .nil))],[(d9 8 0 (.cons 8 (some []) .nil))]]
theorem l74:bs prog f74=some c74:=by kernel_rfl
theorem l150:bs prog f150=some c150:=by kernel_rfl
theorem l122:bs prog f122=some c122.er:=by kernel_rfl
def nmW(e:ByteArray×Int):List Dt:=[.val (.string e.1)]
theorem Hf(o:Obj)(es:List (ByteArray×Int))(he:o.ag=es.map dn)(hl:es.length<=4194304):body prog c74 [o.cv] [] (λr m=>cH m r (ta 1 (es.map nmW))):=by
 obtain⟨ah,data,ag,target,aG,aj,aQ,ak,up⟩:=o;have he:ag=es.map dn:=he;subst he;refine ar (λk=>k<=es.length) [7,8] (λk=>[(9,al .i64 (k:Nat)),(3,.rv (.one (.row 0 1 0 none)))]) (λk=>[.row 1 (aa ((es.take k).map nmW))]) (λk=>es.length-k) 0 (WG _) ?_ (λk hk=>?_)
 .refine View.trans (View.bt 3 1 1 rfl rfl rfl) (View.o1 2 [1] [] ?_)
  .exact .au
 have hk:k<=es.length:=hk;refine am (λh=>?_) (λh=>?_)
 .have ax:k<es.length:=by have h:(k:Int)<((es.map dn).length:Int):=h;rw[O9]at h;omega
  refine af (pT ax) ?_;refine⟨by simp[bA,aa];omega,?_⟩
  refine⟨k+1,ax,(show es.length-(k+1)<es.length-k by omega),View.o2 4 [3] [] ?_⟩
  .refine .pt rfl rfl (.bn ?_) (.nil _);rw[nH (wy ax),abM,bZ];rfl
 .have nn:k=es.length:=by have h:¬(k:Int)<((es.map dn).length:Int):=h;rw[O9]at h;omega
  subst nn;rw[abD];exact .rv (.one (d7.da rfl 0 none))
theorem Pm(o:Obj)(es:List (ByteArray×Int))(he:o.ag=es.map dn)(hl:es.length<=4194304){m:Mem}{K:CV->Mem->Prop}(h:K (ta 1 (es.map nmW)) m):ap prog 74 [o.cv] m K:=
 aR (aP func74 l74 (Hf o es he hl)) (by simp[Obj.cv,Obj.enc,CV.cW,CC.cW,RV.cW]) λr m1 hf=>⟨_,hf,h⟩
theorem Pn(S:List (List Dt))(e:List Dt)(hl:S.length<=4194304):body prog c150 [.rv (.one (.row 0 2 0 none)),al .i64 (S.length:Nat),.rv (.one (.row 1 2 0 none))] [.row 2 (aa S),.row 2 (aa [e])]
  (λr m=>r= .rv (.one (.row 2 2 0 none))/\m=[.aE,.aE,.row 2 (aa (S++ [e]))]):=by
 have hlen:lenOf (aa S).length 0 none=S.length:=dW S;refine bV (by show(Nat.ble S.length (lenOf (aa S).length 0 none)&&Nat.ble (lenOf (aa S).length 0 none) ((aa S).length-0))=true;rw[hlen,dW];simp[abR]) ?_
 refine ba (λh=>?_) (λh=>?_)
 .refine⟨by simp[bA,aa];omega,rfl,?_⟩
  show [Bk.aE,.aE,.row 2 (bA (aa S) 0 none++bA (aa [e]) 0 none)]=_;simp[bA,aa]
 .exfalso;apply h;show((S.length:Nat):Int)=((lenOf (aa S).length 0 none:Nat):Int);rw[hlen]
theorem WD(S:List (List Dt))(e:List Dt)(hl:S.length<=4194304){m:Mem}{K:CV->Mem->Prop}(a b:Nat)(Fx:gR [a,b]=true)(ax:eh m.length [a,b]=true)(ha:dh m a=some (.row 2 (aa S)))(hb:dh m b=some (.row 2 (aa [e])))(h:K (.rv (.one (.row m.length 2 0 none))) (dt m [a,b] [.aE,.aE,.row 2 (aa (S++ [e]))])):ap prog 150 [.rv (.one (.row a 2 0 none)),al .i64 (S.length:Nat),.rv (.one (.row b 2 0 none))] m K:=by
 refine be [a,b] m.length rfl rfl Fx ax (args0:=[.rv (.one (.row 0 2 0 none)),al .i64 (S.length:Nat),.rv (.one (.row 1 2 0 none))]) rfl (m0:=[.row 2 (aa S),.row 2 (aa [e])]) (λi b' hi=>?_) (aP func150 l150 (Pn S e hl)) (λr1 m1 hr=>?_)
 .match i,hi with
  |0,hi=>cases hi;exact .inr ⟨λh=>h,_,by rw[aW]at ha;exact ha,.bn rfl⟩
  |1,hi=>cases hi;exact .inr ⟨λh=>h,_,by rw[aW]at hb;exact hb,.bn rfl⟩
  |n+2,hi=>simp at hi
 .obtain⟨rfl,rfl⟩:=hr;refine⟨aD,?_⟩;show K (.rv (.one (.row (m.length+(2-2)) 2 0 none))) (dt m [a,b] [.aE,.aE,.row 2 ((aa (S++ [e])).map (λcs=>cs.map (CC.aN (sg [a,b] m.length))))])
  rw[iN];exact h
def aes:LC:=unW (nU (nU (nU (nU (nU (nU (nU c122.code)))))))
end Go.Proofs.YtllkfpggoigbaaaGreatDoor
