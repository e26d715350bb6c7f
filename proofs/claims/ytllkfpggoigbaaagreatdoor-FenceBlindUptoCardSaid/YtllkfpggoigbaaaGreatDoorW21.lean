/- Part 21 of 23. -/
import Derived.Test.YtllkfpggoigbaaaGreatDoorW11
import Derived.Test.YtllkfpggoigbaaaGreatDoorW12
import Derived.Test.YtllkfpggoigbaaaGreatDoorW13
import Derived.Test.YtllkfpggoigbaaaGreatDoorW14
import Derived.Test.YtllkfpggoigbaaaGreatDoorW15
import Derived.Test.YtllkfpggoigbaaaGreatDoorW18
import Derived.Test.YtllkfpggoigbaaaGreatDoorW19
import Derived.Test.YtllkfpggoigbaaaGreatDoorW20
set_option linter.unusedVariables false
set_option linter.unusedSimpArgs false
set_option maxRecDepth 100000
set_option maxHeartbeats 0
namespace Go.Proofs.YtllkfpggoigbaaaGreatDoor
open Proofs.Tryz
open Go.AM Go.ChangeShapes Go.WideShapes Go.ChangeAt Go.RowKit
namespace Kn
def lfB(ps:List aM)(t:Nat):Bool:=match ps[t]? with
 |some x=>x.aF&&x.fenced
 |none=>false
def pT(ps:List aM)(i:Nat):List Nat:=(List.range i).filter (lfB ps)
theorem Ry{ps:List aM}{i:Nat}{x:aM}(h:ps[i]? =some x):pT ps (i+1)=pT ps i++(if(x.aF&&x.fenced)=true then [i]else []):=by
 have e:lfB ps i=(x.aF&&x.fenced):=by rw[lfB,h]
 rw[pT,ad8,adE,aef,e,List.filter_nil,pT]
theorem KN(ps:List aM)(i:Nat):(pT ps i).length<=i:=abK (adt _ _) aG
theorem xN{ops:List aV}{c:Nat}{o:aV}(h:ops[c]? =some o):Fe.ek ops (c:Nat)=o.obj:=by rw[Fe.ek,if_pos om,aam,h]
theorem KO{ops:List aV}{ps:List aM}{t:Nat}{y:aM}(h:ps[t]? =some y)(hl:y.aF=true){s:dX}(hs:s∈y.ap)(hh:s.has=true):Fe.ek ops s.ct∈Fe.gq ops ps (t:Nat):=by rw[Fe.gq,if_pos om,aam,h];simp only[hl,if_true];exact abm.2 ⟨s,adD.2 ⟨hs,hh⟩,rfl⟩
theorem YI{k:Kr}{pl:List Int}{L:List Nat}(h:Fe.AG k.l k.ops k.ps pl L):RC k (inL pl) (·∈L):=by
 have hc:=h.clo;have cap:∀z,(∀n,vO k.l (Fe.ek k.ops z) n->n∈L)->px k (·∈L) z:=λz hz c o e ho n hv=>by
  subst e;exact hz n (by rw[xN ho];exact hv)
 refine⟨λt y hr hy hl s hs hh=>cap _ λn hv=>?_,λi o hi ho h4 n hv=>hc.s i o hi ho o.aI (by unfold Fe.Q9;rw[if_pos h4];simp) n hv,λi o hi ho z n hz hv=>?_,λi o hi ho z hz=>?_⟩
 .rcases hr with hr|⟨i,o,hi,ho,h5,e⟩
  .exact hc.r _ (List.mem_flatMap.2 ⟨_,hr,KO hy hl hs hh⟩) n hv
  .refine hc.s i o hi ho _ ?_ n hv;unfold Fe.Q9;rw[if_pos h5,e];exact adU _ (ae1 _ (KO hy hl hs hh))
 .obtain⟨nm,hm⟩:=hz;refine hc.s i o hi ho z ?_ n hv;unfold Fe.Q9;exact adU _ (adU _ (ae1 _ (abm.2 ⟨_,abm.2 ⟨_,hm,rfl⟩,rfl⟩)))
 .obtain⟨q,hq,hh,rfl⟩:=hz;refine cap _ λn hv=>hc.s i o hi ho _ ?_ n hv
  unfold Fe.Q9;exact adU _ (adU _ (adU _ (abm.2 ⟨q,adD.2 ⟨hq,hh⟩,rfl⟩)))
theorem Rz{k:Kr}(hk:KI k)(hs:Su k){L:List Nat}(h:Fe.AG k.l k.ops k.ps (Fe.nZ (pT k.ps k.ps.length)) L):FS k (inL (Fe.nZ (pT k.ps k.ps.length))) (·∈L):=by
 refine⟨hk,hs,YI h,λt y ht hy _=>?_⟩
 obtain⟨n,hn,e⟩:=abm.1 (show(t:Int)∈Fe.nZ (pT k.ps k.ps.length)from ht);have e:n=t:=om;subst e;have hb:=(adD.1 hn).2;rw[lfB,hy]at hb;simp only[aaJ]at hb;exact hb.2
theorem KI.fsz{k:Kr}(h:KI k):Fe.FSz k.l k.ops k.ps:=
 ⟨by have:=h.ll;omega,λo ho=>⟨_,(h.en o ho).eq⟩,λo ho=>⟨by have:=(h.sm o ho).e;omega,by have:=(h.sm o ho).q;omega⟩,λp hp=>by have:=h.sl p hp;omega⟩
def xr:List Obj:=[⟨2,[],[bT (⟨#[100]⟩,1)],⟨#[]⟩,0,[],0,0,0⟩,⟨2,[],[bT (⟨#[102]⟩,2)],⟨#[]⟩,0,[],0,0,0⟩,⟨1,[],[],⟨#[]⟩,0,[],0,0,0⟩]
def oP:List aM:=[⟨true,true,0,[⟨true,0,0⟩]⟩,⟨true,false,0,[]⟩]
def oQ:List aV:=[⟨1,0⟩]
theorem KP:Fe.FSz xr oQ oP:=⟨by decide,λo ho=>by
 simp only[xr,abH,adA,or_false]at ho;rcases ho with rfl|rfl|rfl
 .exact⟨[_],rfl⟩
 .exact⟨[_],rfl⟩
 .exact⟨[],rfl⟩,by decide,by decide⟩
theorem ahg:Fe.AG xr oQ oP [0] [1,2]:=by
 refine⟨⟨by decide,λn hn=>?_,λS hS n hn=>?_⟩,⟨λz hz n hv=>?_,λi o hi ho z hz n hv=>?_⟩⟩
 .simp only[abH,adA,or_false]at hn;rcases hn with rfl|rfl
  .exact⟨rfl,_,rfl,by decide⟩
  .exact⟨rfl,_,rfl,by decide⟩
 .have h1:S 1:=hS.r 1 (by decide) 1 ⟨rfl,_,rfl,by decide⟩
  simp only[abH,adA,or_false]at hn;rcases hn with rfl|rfl
  .exact h1
  .exact hS.s 1 _ h1 rfl 2 (by show(2:Int)∈ [(2:Int)];simp) 2 ⟨rfl,_,rfl,by decide⟩
 .have hz:z∈ [(1:Int)]:=hz;have:=hv.1;simp at hz|-;omega
 .simp only[abH,adA,or_false]at hi;rcases hi with rfl|rfl
  .cases ho;have hz:z∈ [(2:Int)]:=hz;have:=hv.1;simp at hz|-;omega
  .cases ho;have hz:z∈([]:List Int):=hz;cases hz
theorem acR:Fe.AG xr oQ oP [1] []:=by
 refine⟨⟨by decide,λn hn=>(by cases hn),λS hS n hn=>(by cases hn)⟩,⟨λz hz n hv=>?_,λi o hi=>(by cases hi)⟩⟩
 have hz:z∈([]:List Int):=hz;cases hz
theorem UF{L:List Nat}(h:Fe.AG xr oQ oP [0] L):Fe.mX 3 L 3=[1,2]:=by
 have e:∀n,n∈L↔n∈ [1,2]:=h.cT ahg;show(List.range 3).filter _=_;have:(List.range 3).filter (λn=>decide (n∈L))=(List.range 3).filter (λn=>decide (n∈ [1,2])):=afz λn _=>decide_eq_decide.2 (e n)
 exact this.trans (by decide)
theorem UG{L:List Nat}(h:Fe.AG xr oQ oP [1] L):Fe.mX 3 L 3=[]:=by
 have e:∀n,n∈L↔n∈ []:=h.cT acR;have:(List.range 3).filter (λn=>decide (n∈L))=(List.range 3).filter (λn=>decide (n∈([]:List Nat))):=afz λn _=>decide_eq_decide.2 (e n)
 exact this.trans (by decide)
theorem acS:Fe.Yw xr oQ oP [0]:=by
 refine⟨λj pr hj hp hm=>?_,λL L' _ h' n hn _=>?_⟩
 .simp only[abH,adA,or_false]at hm;have:j=0:=om;subst this;cases hp;exact⟨rfl,rfl⟩
 .have:=(Fe.AG.cT h' acR n).1 hn;cases this
theorem acT:¬Fe.Yw xr oQ oP [1]:=λh=>by
 have:=h.1 1 _ (by decide) rfl aG
 cases this.2
end Kn
end Go.Proofs.YtllkfpggoigbaaaGreatDoor
namespace Go.AM
section
variable {P:Program}
theorem Nq{f:Nat}{args args0:List CV}{m:Mem}{K0 K:CV->Mem->Prop}(F:List Nat)(h:aq P f args0 [] K0)(ez:i4 (sg [] m.length) m (λk=>bh F k=true) args args0)(hK:∀r m1,K0 r m1->∃(id:Nat)(xs:List Value),r= .rv (.one (.row id 1 0 none))/\m1[id]? =some (.row 1 (xs.map λx=>[.ai (.val x)]))/\(∀x,x∈xs->x≠.slice none 0 0)/\K (.rv (.one (.ai (.sl 1 (xs.map λx=>[.val x]))))) m):aq P f args m K:=by
 refine⟨h.1,λρ w vs hM wv hvd=>?_⟩
 have ib:∀i,sg [] m.length i<m.length->i<0:=λi h=>by simp[sg,dp]at h;omega
 obtain⟨m5,hC0,_⟩:=xD (n0:=0) (Y:=sg [] m.length) (Z:=λk=>bh F k=true) (m':=[]) hM (λi h=>absurd h (abq i)) (λi j h _ _=>absurd h (abq i)) ib (λi b' h=>by simp at h)
 refine(h.2 _ w vs m5 (wv.trans ez.len.symm) λi c hi=>?_).mono λe w'⟨v,r,m1,ρ1,he,hk,yy,xA,hx⟩=>?_
 .obtain⟨c0,Jq,hv⟩:=ez.get i c hi;obtain⟨v,Al,hd⟩:=hvd i c0 Jq;exact⟨v,Al,hv.mB hM ib hd⟩
 .obtain⟨id,xs,rfl,hid,fb,Ju⟩:=hK r m1 hk;have lQ:∀k,¬Live (ρ.vw (sg [] m.length) (λk=>bh F k=true) m 0) [] k:=λk h=>by have:=h.it;simp at this
  have LN:fu w w':=⟨λb hb=>hx.frame b hb λk hk=>absurd hk (lQ k),hx.size,hx.os,hx.tape,hx.output⟩
  obtain⟨h1,h2⟩:=hM.JF LN;let ρ2:b9:={ρ with S:=λb=>ρ.S b\/(0<(ρ1.aW (.aA id)).cap/\(ρ1.aW (.aA id)).b=b)}
  have uZ:0<(ρ1.aW (.aA id)).cap->w.heap.size<=(ρ1.aW (.aA id)).b/\(ρ1.aW (.aA id)).b<w'.heap.size:=λhc=>by
   have hl:Live ρ1 m1 (.aA id):=⟨_,hid,aG,λ_=>hc⟩
   exact⟨(hx.aF _ hl).elim (λh=>h) λ⟨k0,h0,_⟩=>absurd h0 (lQ k0),(yy.aF _ hl).1⟩
  have g:j7 ρ w' ρ2 w':=⟨aah _,λ_ _=>rfl,λb hb=>.inl hb,λ_ _=>rfl⟩
  have bR:∀k,Live ρ2 m k↔Live ρ m k:=λk=>by cases k<;>rfl
  have El:aN ρ2 m w':=⟨h1.n,λb hb=>hb.elim (h1.S b) λ⟨hc,e⟩=>e▸(uZ hc).2,λk hk=>⟨(h1.aF k ((bR k).1 hk)).1,λhS=>hS.elim (h1.aF k ((bR k).1 hk)).2 λ⟨hc,e⟩=>by have a:=(hM.aF k ((bR k).1 hk)).1;have b:=(uZ hc).1;have e:(ρ1.aW (.aA id)).b=(ρ.aW k).b:=e;omega⟩,λk k' hk jd=>h1.inj k k' ((bR k).1 hk) ((bR k').1 jd),λi b hb=>(h1.bk i b hb).dg g (by rw[h1.n];exact(Mp.1 hb).1) (λ_ _=>rfl),λi a b s e ho hc=>(h1.jj i a b s e ho hc).dg g rfl⟩
  refine⟨v,_,m,ρ2,he,Ju,El,?_,⟨h2.n,h2.aW,λb hb=>.inl (h2.S b hb),λb hb=>hb.elim (h2.S' b) λ⟨hc,e⟩=>.inr (.inl (e▸(uZ hc).1)),λk hk=>h2.aF k ((bR k).1 hk),h2.frame,h2.size,h2.os,h2.tape,h2.output⟩⟩
  obtain⟨_,_,_,_,_,a,rfl,ha⟩:=xA;obtain⟨b1,b2,b3,_,b4⟩:=yy.bk id _ hid;simp only[P2]at b1;show dG ρ2.S w' (.sl 1 (xs.map λx=>[.val x])) _
  have e0:(Option.none.getD (ρ1.aW (.aA id)).len)-0=(xs.map λx=>[Dt.val x]).length:=by simp[b1]
  rw[e0,adW];cases Zl:xs with
  |nil=>exact .nil _ _ _ b3
  |cons x r=>
   have hc:0<(ρ1.aW (.aA id)).cap:=by rw[Zl]at b1;simp at b1;omega
   rw[ha hc,<-Zl];obtain⟨cur,c1,c2,c3⟩:=b4 hc;have cell:∀(i j:Nat)(cs:List Dt)d,(xs.map λx=>[Dt.val x])[i]? =some cs->cs[j]? =some d->∃x,xs[i]? =some x/\j=0/\d= .val x:=λi j cs d hi hj=>by
    rw[Rn]at hi;obtain⟨x,hx,rfl⟩:=aba.1 hi;cases j with
    |zero=>simp at hj;exact⟨x,hx,rfl,hj.symm⟩
    |succ n=>simp at hj
   refine .sl 1 _ (ρ1.aW (.aA id)).b _ _ (λi _=>xs.getD i .nilFunc) (.inr ⟨hc,rfl⟩) (by simp only[P2];omega) b3 (λcs fF=>by obtain⟨x,_,rfl⟩:=abm.1 fF;rfl) (λi cs j d hi hj=>?_) (λi cs j d hi hj=>?_)
   all_goals
    obtain⟨x,hx,rfl,rfl⟩:=cell i j cs d hi hj;obtain⟨u,hu,cP⟩:=c3 i [.ai (.val x)] 0 (.ai (.val x)) (by rw[Rn,hx];rfl) rfl
    have hpu:=cf (ρ:=ρ1) (w:=w') (v:=u) (x:=x) cP (fb x (Wm hx));have Jv:xs.getD i .nilFunc=x:=by rw[List.getD_eq_getElem?_getD,hx];rfl
   .rw[c1.cell,Jv,<-hpu.1];have e:(ρ1.aW (.aA id)).aB+0*1+i*1+0=(ρ1.aW (.aA id)).aB+i*1+0:=om;rw[e];exact hu
   .rw[Jv];exact .val x hpu.2
end
end Go.AM
namespace Go.Proofs.YtllkfpggoigbaaaGreatDoor
open Proofs.Tryz
open Go.AM Go.ChangeShapes Go.WideShapes Go.ChangeAt Go.RowKit
def c5:LF:=Cq prog Tryz.f5 [[2]] []
def c7:LF:=Cq prog Tryz.f7 [] []
namespace Kn
theorem l7N:bA prog Tryz.f7=some c7.er:=by kernel_rfl
theorem Nr:body prog c7 [] [] (λr m=>cM m r (gK Ux)):=by
 refine ax (λi=>i<=22) [] (λi=>[(2,am .i64 ((i:Nat)+1)),(1,.rv (.one (.row 0 2 0 none)))]) (λi=>[.row 2 (aa ((YE i).map dP.enc))]) (λi=>22-i) 0 (aad _) ?_ (λi hi=>?_)
 .refine View.trans (View.bv 1 2 0 rfl rfl rfl) (View.o1 1 [0] [] ?_)
  .exact .au
 have hi:i<=22:=hi;refine an (λh=>?_) (λh=>?_)
 .have ay:i<22:=by have h:((i:Int)+1)<=22:=h;omega
  refine⟨by simp only[bt,YE,aa,P2,List.length_range,aaY,acg];omega,?_⟩
  refine⟨i+1,ay,(show 22-(i+1)<22-i by omega),View.o 3 [2] [] ?_ ?_⟩
  .repeat(first|exact .nil|refine .aL ?_|refine .put (.aO (bC (k:=i+1) om).symm) ?_|refine .eq rfl ?_)
  .rw[show YE (i+1)=YE i++ [⟨(i:Int)+1,[]⟩] by simp[YE,ad8]]
   exact .pt rfl rfl (Uy (YE i) _ rfl) (.nil _)
 .have iD:i=22:=by have h:¬((i:Int)+1)<=22:=h;omega
  subst iD;exact cM.rv (.one (eF.db (ds:=(YE 22).map dP.enc) rfl 0 none))
theorem UH{m:Mem}{K:CV->Mem->Prop}(h:K (gK Ux) m):aq prog 7 [] m K:=
 aT (jJ func7 l7N rfl (aat rfl) Nr) aG λr m1 hf=>⟨_,hf,h⟩
theorem ahh{m:Mem}{K:CV->Mem->Prop}(pl:List Int)(fb:pl.length<=4194304)(z:Int)(hm:m[1]? =some (.row 1 (aa (pl.map Fe.iE))))(h:K (ar (decide (z∈pl))) m):aq prog 11 [.rv (.one (.row 1 1 0 none)),am .i64 z] m K:=
 yE (K0:=λr _=>r=ar (decide (z∈pl))) [1] (mF func11 Fe.l11 rfl (aat rfl) (Fe.FH pl fb z)) (.put (.rv (.one (.dO (cV.db (Z:=λk=>bh [1] k=true) (ds:=pl.map Fe.iE) rfl hm 0 none)))) (.eq rfl .nil)) λr m1 e=>⟨by rw[e];rfl,by rw[e];exact h⟩
theorem YJ{m:Mem}{K:CV->Mem->Prop}{k:Kr}(hk:KI k)(pl:List Int)(fb:pl.length<=4194304)(hm:m[1]? =some (.row 1 (aa (pl.map Fe.iE))))(h:∀L,Fe.AG k.l k.ops k.ps pl L->K (Fe.BT (Fe.mX k.l.length L k.l.length)) m):aq prog 10 [cA k.l k.ops k.ps,.rv (.one (.row 1 1 0 none))] m K:=
 Nq (K0:=λr m=>∃L,Fe.AG k.l k.ops k.ps pl L/\Fe.Yu m r (Fe.mX k.l.length L k.l.length)) [1] (mF func10 Fe.l10 rfl (aat rfl) (Fe.wV k.l k.ops k.ps pl hk.fsz.hl hk.fsz.mJ hk.fsz.eu fb hk.fsz.jB)) (.eq rfl (.put (.rv (.one (.dO (cV.db (Z:=λk=>bh [1] k=true) (ds:=pl.map Fe.iE) rfl hm 0 none)))) .nil)) λr m1⟨L,hL,id,e,hr⟩=>
  ⟨id,(Fe.mX k.l.length L k.l.length).map λn:Nat=>.int .i64 (n:Nat),e,by rw[hr];simp[aa,Fe.nI],λx hx=>by obtain⟨n,_,rfl⟩:=abm.1 hx;simp,by have:=h L hL;rw[adu];exact this⟩
theorem l5N:bA prog Tryz.f5=some c5.er:=by kernel_rfl
theorem FT:body prog c5 [] [] (λr m=>r=ar true):=by
 refine bW [] [(1,.rv (.one (.ptr 0 0)))] [.var [.ai (cX xr),.ai (de oQ),.ai (dM oP)]] (View.o1 7 [6] [0,1,2,3,4,5] ?_) ?_
 .refine .pt rfl rfl (dC.var (.cons (.dO (jQ.dO (Z:=λk=>bh [0,1,2,3,4,5] k=true) ?_ rfl rfl)) (.cons (.dO (jQ.dO (Z:=λk=>bh [0,1,2,3,4,5] k=true) ?_ rfl rfl)) (.cons (.dO (jQ.dO (Z:=λk=>bh [0,1,2,3,4,5] k=true) ?_ rfl rfl)) .nil)))) (.nil _)
  all_goals repeat(first|exact mN.nil|exact jQ.nil|refine jQ.cons ?_ ?_|refine mN.cons ?_ ?_|exact .ai _|exact .bv 1|exact .bv 2|exact .bv 3|exact .bv 4|exact cV.db (Z:=λk=>bh [0,1,2,3,4,5] k=true) (ds:=[bT (⟨#[100]⟩,1)]) rfl rfl 0 none|exact cV.db (Z:=λk=>bh [0,1,2,3,4,5] k=true) (ds:=[bT (⟨#[102]⟩,2)]) rfl rfl 0 none|exact cV.db (Z:=λk=>bh [0,1,2,3,4,5] k=true) (ds:=[dX.enc ⟨true,0,0⟩]) rfl rfl 0 none)
 have c4:([0]:List Int).length<=4194304:=by decide
 refine eR (jr:=[cA xr oQ oP,Fe.jz [0]]) (m':=[.var [.ai (cX xr),.ai (de oQ),.ai (dM oP)],.aE]) (View.o 2 [0,1] [1] (.eq rfl (.put (.rv (.one (.dO (cV.db (Z:=λk=>bh [1] k=true) (ds:=[Fe.iE 0]) rfl rfl 0 none)))) .nil)) (.pe rfl rfl rfl (.aE (.nil _)))) ?_
 refine Fe.rE xr oQ oP [0] KP c4 λL hL=>?_
 rw[show Fe.mX xr.length L xr.length=[1,2]from UF hL];refine eR (jr:=[cA xr oQ oP,Fe.jz [0]]) (m':=[.var [.ai (cX xr),.ai (de oQ),.ai (dM oP)],.aE,.aE]) (View.o 3 [0,1,2] [2] (.eq rfl (.put (.rv (.one (.dO (cV.db (Z:=λk=>bh [2] k=true) (ds:=[Fe.iE 0]) rfl rfl 0 none)))) .nil)) (.pe rfl rfl rfl (.aE (.aE (.nil _))))) ?_
 refine Fe.BU xr oQ oP [0] KP (by decide) c4 λb1 h1=>?_
 have h1:b1=true:=h1.2 acS;subst h1;refine eR (jr:=[cA xr oQ oP,Fe.jz [1]]) (m':=[.var [.ai (cX xr),.ai (de oQ),.ai (dM oP)],.aE,.aE,.aE]) (View.o 4 [0,1,2,3] [3] (.eq rfl (.put (.rv (.one (.dO (cV.db (Z:=λk=>bh [3] k=true) (ds:=[Fe.iE 1]) rfl rfl 0 none)))) .nil)) (.pe rfl rfl rfl (.aE (.aE (.aE (.nil _)))))) ?_
 refine Fe.BU xr oQ oP [1] KP (by decide) (by decide) λb2 h2=>?_
 have h2:b2=false:=by
  cases b2 with
  |false=>rfl
  |true=>exact absurd (h2.1 rfl) acT
 subst h2;refine eR (jr:=[cA xr oQ oP,Fe.jz [1]]) (m':=[.var [.ai (cX xr),.ai (de oQ),.ai (dM oP)],.aE,.aE,.aE,.aE]) (View.o 5 [0,1,2,3,4] [4] (.eq rfl (.put (.rv (.one (.dO (cV.db (Z:=λk=>bh [4] k=true) (ds:=[Fe.iE 1]) rfl rfl 0 none)))) .nil)) (.pe rfl rfl rfl (.aE (.aE (.aE (.aE (.nil _))))))) ?_
 refine Fe.rE xr oQ oP [1] KP (by decide) λL2 hL2=>?_
 rw[show Fe.mX xr.length L2 xr.length=[]from UG hL2];exact rfl
theorem Ns{m:Mem}{K:CV->Mem->Prop}(h:K (ar true) m):aq prog 5 [] m K:=
 qC func5 l5N rfl (aat rfl) FT rfl rfl h
end Kn
namespace Kn
def pO(U:Nat->Bool)(d:List (List Dt))(i:Nat)(o:Obj):Obj:=if U i=true then {o with data:=d}else o
def pL(U:Nat->Bool)(d:List (List Dt))(l:List Obj):List Obj:=l.mapIdx (pO U d)
def pK(U:Nat->Bool)(d:List (List Dt))(k:Kr):Kr:=⟨pL U d k.l,k.ops,k.ps⟩
def Uo(U:Nat->Bool)(l:List Obj):Prop:=∀i,U i=true->∃o,l[i]? =some o/\o.ah=1
section
variable {U:Nat->Bool} {d:List (List Dt)}
theorem jc(i:Nat)(o:Obj):pO U d i o=o\/pO U d i o={o with data:=d}:=by
 unfold pO;split
 .exact .inr rfl
 .exact .inl rfl
theorem pz{i:Nat}(h:U i=false)(o:Obj):pO U d i o=o:=by rw[pO,if_neg (by simp[h])]
theorem di(i:Nat)(o:Obj):(pO U d i o).ah=o.ah:=by rcases jc (U:=U) (d:=d) i o with h|h<;>rw[h]
theorem fB(i:Nat)(o:Obj):(pO U d i o).ag=o.ag:=by rcases jc (U:=U) (d:=d) i o with h|h<;>rw[h]
theorem Nt(i:Nat)(o:Obj):(pO U d i o).target=o.target:=by rcases jc (U:=U) (d:=d) i o with h|h<;>rw[h]
theorem uG(i:Nat)(o:Obj):(pO U d i o).aj=o.aj:=by rcases jc (U:=U) (d:=d) i o with h|h<;>rw[h]
theorem uH(i:Nat)(o:Obj):(pO U d i o).aI=o.aI:=by rcases jc (U:=U) (d:=d) i o with h|h<;>rw[h]
theorem KQ(i:Nat)(o:Obj):(pO U d i o).aQ=o.aQ:=by rcases jc (U:=U) (d:=d) i o with h|h<;>rw[h]
theorem FU(i:Nat)(o:Obj):(pO U d i o).ak=o.ak:=by rcases jc (U:=U) (d:=d) i o with h|h<;>rw[h]
theorem Wp(i:Nat)(o:Obj):(pO U d i o).up=o.up:=by rcases jc (U:=U) (d:=d) i o with h|h<;>rw[h]
theorem acU(i:Nat)(o:Obj)(x:List (List Dt)): {pO U d i o with ag:=x}=pO U d i {o with ag:=x}:=by unfold pO;split<;>rfl
theorem ahi(i:Nat)(o:Obj)(x:Int): {pO U d i o with aI:=x}=pO U d i {o with aI:=x}:=by unfold pO;split<;>rfl
theorem jn(l:List Obj):(pL U d l).length=l.length:=ado
theorem dk(l:List Obj)(i:Nat):(pL U d l)[i]? =(l[i]?).map (pO U d i):=acJ
theorem Dx(l:List Obj)(i:Nat)(o:Obj):(pL U d l).set i (pO U d i o)=pL U d (l.set i o):=by
 refine acq λj=>?_
 rw[dk,acy,acy,jn,dk];by_cases h:i=j
 .subst h;rw[if_pos rfl,if_pos rfl];split<;>rfl
 .rw[if_neg h,if_neg h]
theorem pA{l:List Obj}{i:Nat}{o o':Obj}(h:o'=pO U d i o):(pL U d l).set i o'=pL U d (l.set i o):=by rw[h,Dx]
theorem UI(l:List Obj)(o:Obj):pL U d (l++ [o])=pL U d l++ [pO U d l.length o]:=by unfold pL;rw[List.mapIdx_append];simp
theorem Uo.off{l:List Obj}(h:Uo U l){i:Nat}(hi:∀o,l[i]? =some o->o.ah≠1):U i=false:=by
 cases hu:U i with
 |false=>rfl
 |true=>
  obtain⟨o,h1,h2⟩:=h i hu;exact absurd h2 (hi o h1)
theorem KR{l:List Obj}(h:Uo U l)(o:Obj):aH (pL U d l) o=(pL U d (aH l o).1,(aH l o).2):=by
 have e:(pL U d l).findIdx? (λx=>x.ah==0)=l.findIdx? (λx=>x.ah==0):=by
  cases hf:l.findIdx? (λx=>x.ah==0)with
  |none=>
   refine ady.2 λx hx=>?_
   obtain⟨i,hi⟩:=aag hx;rw[dk]at hi;obtain⟨o,ho,rfl⟩:=aba.1 hi;rw[di];exact ady.1 hf o (Wm ho)
  |some j=>
   obtain⟨hj,h0,h1⟩:=abw.1 hf;refine abw.2 ⟨by rw[jn];exact hj,?_,λk hk=>?_⟩
   .simp only[pL,List.getElem_mapIdx,di];exact h0
   .simp only[pL,List.getElem_mapIdx,di];exact h1 k hk
 rw[aH,e,aH];cases hf:l.findIdx? (λx=>x.ah==0)with
 |some j=>
  obtain⟨hj,h0,_⟩:=abw.1 hf;have hu:U j=false:=h.off λx hx=>by
   rw[xm hj]at hx;cases hx;have h0:l[j].ah=0:=by simpa using h0
   omega
  simp only[];rw[<-Dx,pz hu]
 |none=>
  simp only[];rw[jn];split
  .rfl
  .rw[UI,pz (h.off λx hx=>by rw[abk (aah _)]at hx;cases hx)]
theorem KT(l:List Obj)(z c:Int):mQ (pL U d l) z c=mQ l z c:=by
 unfold mQ gx;rw[P2,P2,jn,Rn,Rn,dk];cases l[z.toNat]? with
 |none=>rfl
 |some o=>
  simp only[aaS];show(_&&(_&&((pO U d z.toNat o).ah !=0&&(c==0||(pO U d z.toNat o).ah==c))))=_
  rw[di];rfl
theorem ahj(l:List Obj)(n p:Nat)(name:ByteArray):iP (pL U d l) n p name=pL U d (iP l n p name):=by
 unfold iP;rw[dk];cases hn:l[n]? with
 |none=>rfl
 |some o=>
  simp only[aaS];rw[fB,acU,Dx,dk];cases hp:(l.set n {o with ag:=(gw (name,(p:Int)) (o.ag.map kN)).map bT})[p]? with
  |none=>rfl
  |some q=>
   simp only[aaS];exact pA (by unfold pO;split<;>rfl)
theorem YK(b:Bool)(l:List Obj)(dir:Int)(name:ByteArray)(obj:Int):cn b (pL U d l) dir name obj=(pL U d (cn b l dir name obj).1,(cn b l dir name obj).2):=by
 unfold cn;rw[KT,KT];split
 .split
  .rw[dk];cases l[dir.toNat]? with
   |none=>rfl
   |some o=>
    simp only[aaS];rw[ahj];unfold wP;rw[di,FU,fB];split
    .rfl
    .split
     .rfl
     .split
      .rfl
      .split
       .rfl
       .split<;>rfl
  .rfl
 .rfl
theorem ahk(l:List Obj)(n p:Nat)(name:ByteArray):kq (pL U d l) n p name=pL U d (kq l n p name):=by
 unfold kq;rw[dk];cases hn:l[n]? with
 |none=>rfl
 |some o=>
  simp only[aaS];rw[fB,acU,Dx,dk];cases hp:(l.set n {o with ag:=((o.ag.map kN).filter λe=>decide (e.1.toList≠name.toList)).map bT})[p]? with
  |none=>rfl
  |some q=>
   simp only[aaS];exact pA (by unfold pO;split<;>rfl)
theorem UJ(l:List Obj)(dir:Int)(name:ByteArray):cO (pL U d l) dir name=(pL U d (cO l dir name).1,(cO l dir name).2):=by
 unfold cO;rw[KT];split
 .rw[dk];cases l[dir.toNat]? with
  |none=>rfl
  |some o=>
   simp only[aaS];unfold wR;rw[di,fB];split
   .rfl
   .split
    .rfl
    .rw[dk];cases l[(fq (o.ag.map kN) name).toNat]? with
     |none=>rfl
     |some q=>
      simp only[aaS];rw[di,fB,ahk];split<;>rfl
 .rfl
end
end Kn
namespace Kn
structure Sk2(l' l:List Ob):Prop where
 k:∀n,(lB l' n).ah=(lB l n).ah
 f:∀n w,ml l' n w=ml l n w
 u:∀n,ze l' n=ze l n
 t:∀n,Ke l' n=Ke l n
theorem uI{l' l:List Ob}(h:Sk2 l' l)(b:Nat)(fe fo:Bool)(rec:Nat->List bY.eh->Nat->R4):∀t a,BD l' b fe fo rec t a=BD l b fe fo rec t a
 | [],a=>by rw[BD,BD,h.u]
 |w::r,a=>by rw[BD,BD,h.k,h.f,h.u,h.k,uI h b fe fo rec r,uI h b fe fo rec r]
theorem FV{l' l:List Ob}(h:Sk2 l' l)(b:Nat)(fe fo:Bool):∀n,xH l' b fe fo n=xH l b fe fo n
 |0=>by funext t a;rw[xH,xH,uI h]
 |n+1=>by
  have e:∀wk,NW l' fe wk=NW l fe wk:=λwk=>by funext a r k;unfold NW;rw[h.t]
  funext t a;rw[xH,xH,FV h b fe fo n,e,uI h]
theorem IZ{l' l:List Ob}(h:Sk2 l' l)(hi:∀z c,gx l' z c=gx l z c)(aB:Int)(s:bY.eh)(fe fo:Bool):oI l' aB s fe fo=oI l aB s fe fo:=by unfold oI;rw[hi,h.k,FV h]
section
variable {U:Nat->Bool} {d:List (List Dt)}
theorem ahl(l:List Obj):Sk2 ((pL U d l).map Obj.ob) (l.map Obj.ob):=by
 have e:∀n,∃x y:Ob,lB ((pL U d l).map Obj.ob) n=x/\lB (l.map Obj.ob) n=y/\x.ah=y.ah/\x.ag=y.ag/\x.target=y.target/\x.up=y.up:=λn=>by
  refine⟨_,_,rfl,rfl,?_⟩;unfold lB;rw[Rn,Rn,dk];cases l[n]? with
  |none=>exact⟨rfl,rfl,rfl,rfl⟩
  |some o=>exact⟨di n o,fB n o,Nt n o,Wp n o⟩
 refine⟨λn=>?_,λn w=>?_,λn=>?_,λn=>?_⟩
 all_goals obtain⟨x,y,e1,e2,h1,h2,h3,h4⟩:=e n
 .rw[e1,e2,h1]
 .unfold ml jv;rw[e1,e2,h2]
 .unfold ze;rw[e1,e2,h4]
 .unfold Ke;rw[e1,e2,h3]
theorem Wq(k:Kr)(aB:Int)(s:bY.eh)(fe fo:Bool):eA (pK U d k) aB s fe fo=eA k aB s fe fo:=
 IZ (ahl k.l) (KT k.l) aB s fe fo
theorem Dy{k:Kr}(h:Uo U k.l)(f:R4)(o:Obj):cz (pK U d k) f o=(pK U d (cz k f o).1,(cz k f o).2):=by
 unfold cz nU;rw[show(pK U d k).l=pL U d k.l from rfl,KR h,YK];simp only[];split
 .rfl
 .unfold cu;split<;>rfl
theorem xO(k:Kr)(n:Nat)(obj r:Int):aK (pK U d k) n obj r=(pK U d (aK k n obj r).1,(aK k n obj r).2):=by
 unfold aK;rw[show(pK U d k).ops=k.ops from rfl,show(pK U d k).ps=k.ps from rfl];split
 .rfl
 .split<;>rfl
theorem acV{l:List Obj}{z:Int}(hu:U z.toNat=false):(pL U d l)[z.toNat]? =l[z.toNat]? :=by
 rw[dk];cases l[z.toNat]? with
 |none=>rfl
 |some o=>rw[aaS,pz hu]
theorem YL{l:List Obj}{z:Int}(hu:U z.toNat=false):jV (pL U d l) z=pL U d (jV l z):=by
 unfold jV;rw[acV hu];cases l[z.toNat]? with
 |none=>rfl
 |some o=>exact pA (pz hu _).symm
theorem UK(l:List Obj)(z:Int):vG (pL U d l) z=vG l z:=by
 unfold vG;rw[dk];cases l[z.toNat]? with
 |none=>rfl
 |some o=>exact di _ o
theorem UL{k:Kr}(h:Uo U k.l)(c:Cl)(f:R4):cj (pK U d k) c f=(pK U d (cj k c f).1,(cj k c f).2):=by
 unfold cj;rw[Dy h,show(pK U d k).l=pL U d k.l from rfl,UK];split
 .rfl
 .split
  .split<;>rfl
  .split<;>rfl
theorem UM(p:Nat)(c:Cl)(x:Kr×Int×Int)(hu:x.2.2=0->U x.2.1.toNat=false):gR p c (pK U d x.1,x.2)=(pK U d (gR p c x).1,(gR p c x).2):=by
 unfold gR;simp only[xO];split
 .rfl
 .rename_i h0;split
  .rfl
  .split
   .show(Kr.mk (jV (pL U d _) _) _ _,_)=_;rw[YL (hu (XW h0))];rfl
   .rfl
theorem YM{k:Kr}(h:Uo U k.l)(p:Nat)(c:Cl)(aB:Int)(fe:Bool)(hu:(cj k c (eA k aB c.cE fe true)).2.2=0->U (cj k c (eA k aB c.cE fe true)).2.1.toNat=false):fA (pK U d k) p c aB fe=(pK U d (fA k p c aB fe).1,(fA k p c aB fe).2):=by unfold fA;rw[Wq,UL h];exact UM p c _ hu
theorem YN{l:List Obj}{z:Int}(hu:U z.toNat=false):ii (pL U d l) z=ii l z:=by unfold ii;rw[acV hu]
theorem YO{k:Kr}{c:Cl}{w:(Int×Int)×Int×Int}(hu:w.2.2=0->U w.2.1.toNat=false):iV (pK U d k) c w=(pK U d (iV k c w).1,(iV k c w).2):=by
 unfold iV;split
 .rfl
 .rename_i h0;have hu:=hu (XW h0);rw[show(pK U d k).l=pL U d k.l from rfl,YN hu,show(pK U d k).ops=k.ops from rfl];split
  .unfold pk;split<;>rfl
  .split
   .unfold mT;split
    .rfl
    .have e:∀o,setObj (pK U d k) w.2.1 o=pK U d (setObj k w.2.1 o):=λo=>by unfold setObj pK;rw[pA (pz hu o).symm]
     rw[e];rfl
   .unfold nY;split<;>rfl
theorem YP{k:Kr}{c:Cl}{w:(Int×Int)×Int×Int}(hu:w.2.2=0->U w.2.1.toNat=false):lI (pK U d k) c w=lI k c w:=by
 unfold lI;split
 .rfl
 .rename_i h0;rw[show(pK U d k).l=pL U d k.l from rfl,YN (hu (XW h0))];rfl
theorem acW{k:Kr}(h:Uo U k.l)(c:Cl)(f:R4):lw (pK U d k) c f=(pK U d (lw k c f).1,(lw k c f).2):=by
 unfold lw Dg;rw[Dy h,Dy h,show(pK U d k).l=pL U d k.l from rfl,UJ];split
 .rfl
 .split
  .rfl
  .split
   .split
    .rfl
    .unfold cu;split<;>rfl
   .split
    .rfl
    .split<;>rfl
theorem Uo.make{l:List Obj}(h:Uo U l){o:Obj}(he:(aH l o).2.2=0):Uo U (aH l o).1:=λi hi=>by
 obtain⟨x,h1,h2⟩:=h i hi;unfold aH at he|-;cases hf:l.findIdx? (λx=>x.ah==0)with
 |some j=>
  obtain⟨hj,h0,_⟩:=abw.1 hf;refine⟨x,?_,h2⟩;show(l.set j o)[i]? =some x;rw[aap λe=>?_]
  .exact h1
  .subst e;rw[xm hj]at h1;cases h1;have h0:l[j].ah=0:=by simpa using h0
   omega
 |none=>
  rw[hf]at he;simp only[]at he|-;split
  .rename_i Ya;rw[if_pos Ya]at he;cases he
  .refine⟨x,?_,h2⟩;show(l++ [o])[i]? =some x;rw[aaM (Mp.1 h1).1];exact h1
theorem acX(l:List Obj)(n:Nat)(b:Int):jg (pL U d l) n b=pL U d (jg l n b):=by
 unfold jg;rw[dk];cases l[n]? with
 |none=>rfl
 |some o=>exact pA (ahi n o b)
theorem YQ{l:List Obj}(h:Uo U l):dL (pL U d l)=(pL U d (dL l).1,(dL l).2):=by
 unfold dL;rw[KR h];simp only[];split
 .rfl
 .rename_i h0;have h2:=h.make (o:=bn (-1)) (XW h0);rw[KR h2];simp only[];split
  .rfl
  .rw[acX]
theorem acY{k:Kr}(h:Uo U k.l)(p:Nat):im (pK U d k) p=(pK U d (im k p).1,(im k p).2):=by
 unfold im ut;rw[show(pK U d k).l=pL U d k.l from rfl,YQ h];simp only[];split
 .rfl
 .have e:=xO (U:=U) (d:=d) ⟨(dL k.l).1,k.ops,k.ps⟩ p (dL k.l).2.1.1 896;rw[show(⟨pL U d (dL k.l).1,(pK U d k).ops,(pK U d k).ps⟩:Kr)=pK U d ⟨(dL k.l).1,k.ops,k.ps⟩from rfl,e];unfold qX;simp only[xO];split
  .rfl
  .split<;>rfl
theorem acZ(l:List Obj)(e:Int)(m:cJ):dS (pL U d l) e m=(pL U d (dS l e m).1,(dS l e m).2):=by
 unfold dS;rw[jn];split
 .rfl
 .rw[dk];cases l[e.toNat]? with
  |none=>rfl
  |some o=>
   simp only[aaS];rw[di,uH,dk];split
   .rfl
   .split
    .rfl
    .cases l[o.aI.toNat]? with
     |none=>rfl
     |some q=>
      simp only[aaS];rw[di,uG,pA (o:={q with aj:=q.aj++ [m]}) (by unfold pO;split<;>rfl)]
      split
      .rfl
      .split
       .rfl
       .split<;>rfl
theorem YR(k:Kr)(p:Nat)(c:Cl):ik (pK U d k) p c=(pK U d (ik k p c).1,(ik k p c).2):=by
 have e:∀m obj,i9 (pK U d k) c (dS (pK U d k).l obj m)=(pK U d (i9 k c (dS k.l obj m)).1,(i9 k c (dS k.l obj m)).2):=λm obj=>by
  rw[show(pK U d k).l=pL U d k.l from rfl,acZ];unfold i9 cu;simp only[];split<;>rfl
 unfold ik um;show(if(bm k p c.fd 256).2.2≠0 then _ else _)=_
 split
 .rfl
 .unfold rY;rw[e,e];show(if c.iQ>=0 then(if(lv (aP k.ps p) c.iQ).2≠0 then _ else _)else _)=_
  split
  .split<;>rfl
  .rfl
theorem ac0(l:List Obj)(e:Int):eS (pL U d l) e=(pL U d (eS l e).1,(eS l e).2):=by
 unfold eS;rw[jn];split
 .rfl
 .rw[dk];cases l[e.toNat]? with
  |none=>rfl
  |some o=>
   simp only[aaS];rw[di,uH,uG];split
   .rfl
   .cases o.aj with
    |nil=>
     simp only[];split
     .rfl
     .rw[dk];cases l[o.aI.toNat]? with
      |none=>rfl
      |some q=>
       simp only[aaS];rw[di];split<;>rfl
    |cons x r=>
     simp only[];rw[pA (o:={o with aj:=r}) (by unfold pO;split<;>rfl)]
theorem YS(k:Kr)(p:Nat)(c:Cl):il (pK U d k) p c=(pK U d (il k p c).1,(il k p c).2):=by
 unfold il uq;show(if(bm k p c.fd 512).2.2≠0 then _ else r8 _ _ (eS (pL U d k.l) (bm k p c.fd 512).2.1))=_
 rw[ac0];split
 .rfl
 .unfold r8;simp only[];split
  .rfl
  .split
   .show(if(gP (aP k.ps p) _ _).2.2≠0 then _ else _)=_
    split<;>rfl
   .rfl
theorem FW(l:List Obj)(p:Int):(pL U d l).any (cD p)=l.any (cD p):=by
 rw[aeX,acf,acf];have e:∀i o,cD p (pO U d i o)=cD p o:=λi o=>by unfold cD;rw[di,KQ]
 constructor
 .rintro⟨x,hx,h⟩;obtain⟨i,hi⟩:=aag hx;rw[dk]at hi;obtain⟨o,ho,rfl⟩:=aba.1 hi;rw[e]at h;exact⟨o,Wm ho,h⟩
 .rintro⟨o,ho,h⟩;obtain⟨i,hi⟩:=aag ho;exact⟨pO U d i o,Wm (by rw[dk,hi];rfl),by rw[e];exact h⟩
theorem ac1(l:List Obj)(ps:List aM):ec (pL U d l) ps=ec l ps:=by
 have e:∀p,pN (pL U d l) ps p=pN l ps p:=λp=>by unfold pN;rw[FW]
 have g:∀n p,lH (pL U d l) ps n p=lH l ps n p:=λn=>by
  induction n with
  |zero=>intro p;rfl
  |succ n ih=>intro p;rw[lH,lH,e,ih]
 exact g 8 0
theorem ac2{k:Kr}(h:Uo U k.l)(p:Int):iy (pK U d k) p=(pK U d (iy k p).1,(iy k p).2):=by
 unfold iy;rw[show(pK U d k).l=pL U d k.l from rfl,ac1];show(if eG k.ps p=false then _ else if ec k.l k.ps<0 then _ else ub (pL U d k.l) k.ops (gI k.ps p.toNat (ec k.l k.ps).toNat) p.toNat (ec k.l k.ps))=_
 split
 .rfl
 .split
  .rfl
  .unfold ub;rw[KR h];simp only[];split
   .rfl
   .have e:=xO (U:=U) (d:=d) ⟨(aH k.l (dE (ec k.l k.ps))).1,k.ops,gI k.ps p.toNat (ec k.l k.ps).toNat⟩ p.toNat (aH k.l (dE (ec k.l k.ps))).2.1 3200;have e2:(⟨pL U d (aH k.l (dE (ec k.l k.ps))).1,k.ops,gI k.ps p.toNat (ec k.l k.ps).toNat⟩:Kr)=pK U d ⟨(aH k.l (dE (ec k.l k.ps))).1,k.ops,gI k.ps p.toNat (ec k.l k.ps).toNat⟩:=rfl;rw[e2,e];simp only[];split<;>rfl
theorem Wr(k:Kr)(p code:Int):fK (pK U d k) (fJ (pK U d k) p code)=(pK U d (fK k (fJ k p code)).1,(fK k (fJ k p code)).2):=by
 unfold fJ;show fK _ (if eG k.ps p=false then _ else _)=_
 split
 .rfl
 .split
  .rfl
  .rfl
end
end Kn
namespace Kn
section
variable {U:Nat->Bool} {d:List (List Dt)}
theorem ZM(l:List Obj)(z:Int)(n:Nat):vO (pL U d l) z n↔vO l z n:=by
 unfold vO;rw[dk];constructor
 .rintro⟨e,o,ho,hk⟩;obtain⟨x,hx,rfl⟩:=aba.1 ho;exact⟨e,x,hx,by rw[<-di (U:=U) (d:=d) n x];exact hk⟩
 .rintro⟨e,o,ho,hk⟩;exact⟨e,pO U d n o,by rw[ho];rfl,by rw[di];exact hk⟩
theorem psE{i:Nat}{o:Obj}{z:Int}:sE (pO U d i o) z↔sE o z:=by unfold sE;rw[fB]
theorem psQ{i:Nat}{o:Obj}{z:Int}:sQ (pO U d i o) z↔sQ o z:=by unfold sQ;rw[uG]
theorem pB{l:List Obj}{i:Nat}{x:Obj}(h:(pL U d l)[i]? =some x):∃o,l[i]? =some o/\x=pO U d i o:=by rw[dk]at h;obtain⟨o,ho,e⟩:=aba.1 h;exact⟨o,ho,e.symm⟩
theorem zT{l:List Obj}{i:Nat}{o:Obj}(h:l[i]? =some o):(pL U d l)[i]? =some (pO U d i o):=by rw[dk,h];rfl
theorem pCl{l:List Obj}{ops:List aV}{RO RP:Nat->Prop}:_root_.Go.Proofs.YtllkfpggoigbaaaGreatDoor.Cl (pL U d l) ops RO RP↔_root_.Go.Proofs.YtllkfpggoigbaaaGreatDoor.Cl l ops RO RP:=by
 constructor
 .exact λh=>⟨λi o hi ho z n hz hv=>h.e i _ hi (zT ho) z n (psE.2 hz) ((ZM l z n).2 hv),λi o hi ho z c hz hc=>h.q i _ hi (zT ho) z c (psQ.2 hz) hc,λc o hc ho n hv=>h.p c o hc ho n ((ZM l _ n).2 hv)⟩
 .refine λh=>⟨λi o hi ho z n hz hv=>?_,λi o hi ho z c hz hc=>?_,λc o hc ho n hv=>h.p c o hc ho n ((ZM l _ n).1 hv)⟩
  .obtain⟨x,hx,rfl⟩:=pB ho;exact h.e i x hi hx z n (psE.1 hz) ((ZM l z n).1 hv)
  .obtain⟨x,hx,rfl⟩:=pB ho;exact h.q i x hi hx z c (psQ.1 hz) hc
theorem RA{l:List Obj}{ops:List aV}{ps:List aM}{RO RP:Nat->Prop}:tZ (pL U d l) ops ps RO RP↔tZ l ops ps RO RP:=
 ⟨λh=>⟨λn hv=>h.1 n ((ZM l 0 n).2 hv),h.2⟩,λh=>⟨λn hv=>h.1 n ((ZM l 0 n).1 hv),h.2⟩⟩
theorem ac3{l:List Obj}{ops:List aV}{ps:List aM}{b:Mk}(h:fZ l ops ps b):fZ (pL U d l) ops ps b:=
 ⟨⟨by rw[jn];exact h.len.1,h.len.2⟩,RA.2 h.nA,pCl.2 h.cl,λRO RP h1 h2=>h.iO RO RP (pCl.1 h1) (RA.1 h2)⟩
theorem RB(b:Mk)(l:List Obj)(j:Nat):dD b (pL U d l) j=dD b l j:=by
 unfold dD;rw[dk];cases l[j]? with
 |none=>rfl
 |some o=>simp only[aaS];rw[di]
theorem UN{b:Mk}{l:List Obj}{k j:Nat}{o:Obj}(hu:U j=true->(cg b l k j o).ah=1):cg b (pL U d l) k j (pO U d j o)=pO U d j (cg b l k j o):=by
 unfold cg lq at hu|-;rw[RB,RB,di,uH];split
 .rename_i h;rw[if_pos h]at hu;cases hj:U j with
  |false=>rw[pz hj]
  |true=>have:=hu hj;simp[dU]at this
 .split
  .exact(by unfold pO;split<;>rfl)
  .rfl
theorem Pt.uo{b:Mk}{l L:List Obj}{k:Nat}(h:Pt l L (cg b l k))(hU:Uo U L):Uo U l/\Pt (pL U d l) (pL U d L) (cg b (pL U d l) k):=by
 have hk:∀j o,l[j]? =some o->U j=true->(cg b l k j o).ah=1:=λj o ho hj=>by obtain⟨x,hx,hx1⟩:=hU j hj;rw[h.2 j o ho]at hx;cases hx;exact hx1
 refine⟨λj hj=>?_,by rw[jn,jn];exact h.1,λj x hx=>?_⟩
 .obtain⟨x,hx,hx1⟩:=hU j hj;have hl:j<l.length:=by rw[<-h.1];exact(Mp.1 hx).1
  refine⟨l[j],xm hl,?_⟩;have h1:=hk j l[j] (xm hl) hj;unfold cg at h1;split at h1
  .simp[dU]at h1
  .split at h1
   .exact h1
   .exact h1
 .obtain⟨o,ho,rfl⟩:=pB hx;rw[UN (hk j o ho)];exact zT (h.2 j o ho)
theorem ahm(L:List Obj)(k:Nat):vn (pL U d L) k=vn L k:=by funext t o;unfold vn jN;rw[FW]
theorem ac4(L:List Obj)(ps:List aM)(k:Nat):ix (pL U d L) ps k=ix L ps k:=by unfold ix jN;simp only[FW]
theorem Ws{l L:List Obj}{ops L2:List aV}{ps L3:List aM}{en:Bool}(h:cI l ops ps L L2 L3 en)(hU:Uo U L):Uo U l/\cI (pL U d l) ops ps (pL U d L) L2 L3 en:=by
 obtain⟨b,h1,h2,h3⟩:=h.ex;obtain⟨u,p⟩:=Pt.uo (d:=d) h2 hU;exact⟨u,⟨⟨b,ac3 h1,by rw[jn];exact p,h3⟩,by rw[ahm];exact h.pr,by rw[ac4];exact h.en⟩⟩
theorem pTo{k a:Kr}(h:ig k a):Uo U a.l->Uo U k.l/\ig (pK U d k) (pK U d a):=by
 induction h with
 |refl=>exact λhU=>⟨hU,.refl⟩
 | @step a b h s ih=>
  intro hU;obtain⟨u,o⟩:=Ws (d:=d) s hU;obtain⟨u2,t⟩:=ih u;exact⟨u2,.step t o⟩
theorem RD(l:List Obj)(n:Nat):(pL U d l).take n=pL U d (l.take n):=by
 refine acq λi=>?_
 rw[dk,abI,abI,dk];split<;>rfl
theorem ahn{c e:Kr}(h:gX c e)(hU:Uo U e.l):Uo U c.l/\gX (pK U d c) (pK U d e):=by
 obtain⟨n1,n2,n3,P,h1,h2,h3,h4,rfl⟩:=h.ex;have hU:Uo U (c.l.take n1):=hU;refine⟨λi hi=>?_,⟨n1,n2,n3,P,⟨⟨?_,?_,λt o ht ho=>?_⟩,?_⟩,h2,?_,?_,?_⟩⟩
 .obtain⟨o,ho,hk⟩:=hU i hi;exact⟨o,(uu ho).1,hk⟩
 .show n1<=(pL U d c.l).length;rw[jn];exact h1.t.le
 .show min 1 (pL U d c.l).length<=n1;rw[jn];exact h1.t.mn
 .obtain⟨x,hx,rfl⟩:=pB (show(pL U d c.l)[t]? =some o from ho);have:=h1.t.dr t x ht hx;unfold qO at this|-;rw[di];exact this
 .rcases h1.e with h|⟨o,ho,hq⟩
  .exact .inl h
  .refine .inr ⟨_,zT ho,?_⟩;unfold qO at hq|-;rw[di];exact hq
 .have e:gq ((pL U d c.l).take n1)=gq (c.l.take n1):=by funext k t o;unfold gq qZ;rw[RD,FW]
  show Pt c.ps P (gq ((pL U d c.l).take n1) c.ps.length);rw[e];exact h3
 .have e:qR ((pL U d c.l).take n1)=qR (c.l.take n1):=by funext t o;unfold qR;rw[RD,FW]
  show jO (qR ((pL U d c.l).take n1)) 1 P n3;rw[e];exact h4
 .show(⟨pL U d (c.l.take n1),c.ops.take n2,P.take n3⟩:Kr)=⟨(pL U d c.l).take n1,c.ops.take n2,P.take n3⟩;rw[RD]
theorem Wt{k:Kr}(h:dY k.l k.ops k.ps)(hd:∃b,d=dH b)(Wu:d.length<=64):dY (pL U d k.l) k.ops k.ps:=by
 refine⟨λo ho=>?_,by rw[jn];exact h.ll,h.lo,h.lp,h.sl,h.ne⟩
 obtain⟨i,hi⟩:=aag ho;obtain⟨x,hx,rfl⟩:=pB hi;have hs:=h.sm x (Wm hx);rcases jc (U:=U) (d:=d) i x with e|e
 .rw[e];exact hs
 .rw[e];exact⟨⟨hd,hs.t.2⟩,Wu,hs.e,hs.q,hs.qd⟩
theorem YT{k:Kr}(hk:dY k.l k.ops k.ps)(hd:∃b,d=dH b)(Wu:d.length<=64)(hU:Uo U (dZ k).l):dZ (pK U d k)=pK U d (dZ k):=by obtain⟨a,c,h1,h2,h3⟩:=(eT hk).ex;obtain⟨u1,f⟩:=ahn (d:=d) h3 hU;obtain⟨u2,o⟩:=Ws (d:=d) h2 u1;obtain⟨_,t⟩:=pTo (d:=d) h1 u2;exact(Bx (k:=pK U d k) (a:=pK U d a) (c:=pK U d c) (Wt hk hd Wu) t o f).symm
theorem aho{k:Kr}{In S:Nat->Prop}(hk:KI k)(hS:RC k In S){p:Nat}(hp:p<k.ps.length)(bR:k.ps[p].aF=true)(hI:In p){c:Cl}(h2:c.ah≠2)(hU:Uo U k.l)(ib:∀i,U i=true->¬S i):gT (pK U d k) p c=(pK U d (gT k p c).1,(gT k p c).2):=by
 have off:∀j:Nat,S j->U j=false:=λj hj=>by
  cases hu:U j with
  |false=>rfl
  |true=>exact absurd hj (ib j hu)
 have hw:∀fd need,(bm k p fd need).2.2=0->∃j:Nat,(bm k p fd need).2.1=j/\S j:=λfd need h=>by obtain⟨_,j,_,_,_,_,_,e,_,_,hj⟩:=py hk hS hp bR hI h;exact⟨j,e,hj⟩
 have hw2:∀fd need,(bm k p fd need).2.2=0->U (bm k p fd need).2.1.toNat=false:=λfd need h=>by obtain⟨j,e,hj⟩:=hw fd need h;rw[e,aam];exact off j hj
 have ew:∀fd need,bm (pK U d k) p fd need=bm k p fd need:=λ_ _=>rfl
 unfold gT;split
 .unfold gY;rw[ew];split
  .rfl
  .split
   .rfl
   .rename_i h0;have h0:(bm k p c.fd (mS c)).2.2=0:=XW h0;obtain⟨j,e,hj⟩:=hw _ _ h0;refine YM hU p c _ true λh1=>?_
    rw[e]at h1|-;have hl:=Dw hk hS hj c.cE true;generalize eA k (j:Nat) c.cE true true=f at h1 hl|-;unfold cj at h1|-;split at h1
    .rename_i hf;exact absurd h1 hf
    .rename_i hf;rw[if_neg hf];have hf:f.iq=0:=XW hf;split at h1
     .rename_i ho;rw[if_pos ho];split at h1
      .cases h1
      .rename_i hc;rw[if_neg hc];unfold cz at h1|-;split at h1
       .rename_i hm;exact absurd h1 hm
       .rename_i hm;rw[if_neg hm];obtain⟨n,e1,_,_,e2,_⟩:=gh (XW hm) hk.ll;show U ((aH k.l (iB pP)).2.1).toNat=false;rw[e1,aam];exact hU.off λx hx=>by have:=e2 x hx;omega
     .rename_i ho;rw[if_neg ho];have hm:∃m:Nat,f.obj=m/\S m:=by
       rcases(hl hf).1 with h|h
       .omega
       .exact h
      obtain⟨m,e1,hm⟩:=hm;split at h1
      .cases h1
      .rename_i hc;rw[if_neg hc];show U f.obj.toNat=false;rw[e1,aam];exact off m hm
 .split
  .unfold gS;rw[ew];exact YO (hw2 _ _)
  .split
   .unfold nH Fo gg;show(if(nG (aP k.ps p) c).2.2=0 then _ else _,_)=_
    split<;>rfl
   .split
    .unfold kV;rw[ew,YP (hw2 _ _)]
    .split
     .unfold jX i7 QH;rw[ew];simp only[Wq,acW hU];split
      .rfl
      .split<;>rfl
     .split
      .exact acY hU p
      .split
       .exact YR k p c
       .split
        .exact YS k p c
        .unfold eZ;rw[ac2 hU,Wr,ew];split
         .rfl
         .split
          .rfl
          .split
           .unfold pR;simp only[];split<;>rfl
           .split
            .rfl
            .generalize (if c.ah=20 then(2048:Int)else 1024)=need
             unfold kW;split
             .rfl
             .rename_i h0;rw[show(pK U d k).l=pL U d k.l from rfl,YN (hw2 _ _ (XW h0))];unfold po;rw[Wr];split
              .rfl
              .split
               .show(if eG k.ps _=true then _ else _)=_
                split<;>rfl
               .rfl
theorem pdo{prog:List eI}{k:Kr}{In S:Nat->Prop}(h:FS k In S){c:Cl}(hI:∀p:Nat,c.aQ=p->In p)(hd:∃b,d=dH b)(Wu:d.length<=64)(hU:∀i,U i=true->UO k S i/\∃o,k.l[i]? =some o/\o.ah=1):
  nL prog (pK U d k) c=(pK U d (nL prog k c).1,(nL prog k c).2):=by
 have hu:Uo U k.l:=λi hi=>(hU i hi).2
 have ho:=(h.do_ (prog:=prog) hI).2;have Gz:Uo U (nL prog k c).1.l:=λi hi=>by
  obtain⟨a,o,b1,b2⟩:=hU i hi;exact⟨o,by rw[ho.o i a];exact b1,b2⟩
 revert Gz;unfold nL;intro Gz;show(if eG k.ps c.aQ=false then _ else if c.ah<1\/c.ah>22 then _ else if iJ k.ps c.aQ.toNat=true/\((zH prog (nK c)).1≠1\/c.ah=2)then _ else _)=_
 split
 .rfl
 .rename_i h1;split
  .rfl
  .rename_i h3;split
   .rfl
   .rename_i h4;rw[if_neg h1,if_neg h3,if_neg h4]at Gz;obtain⟨p,hc,hp,bR⟩:=oG (by simpa using h1)
    have hIp:=hI p hc;rw[hc,aam]at Gz h4|-;have h2:c.ah≠2:=λe=>by
     have hf:=h.fe p _ hIp (xm hp) bR;exact h4 ⟨by rw[iJ,xm hp];exact hf,.inr e⟩
    rw[aho h.ki h.rc hp bR hIp h2 hu λi hi=>(hU i hi).1.2]
    unfold NZ at Gz|-;simp only[];split
    .rfl
    .rename_i h0;rw[if_neg h0]at Gz;have hx:=h.ki.op (xm hp) bR (XW h0);rw[YT hx.kr hd Wu Gz]
theorem Wv{prog:List eI}(hd:∃b,d=dH b)(Wu:d.length<=64):∀(cs:List Cl)(k:Kr)(In S:Nat->Prop),FS k In S->(∀i,U i=true->UO k S i/\∃o,k.l[i]? =some o/\o.ah=1)->(∀c,c∈cs->∀p:Nat,c.aQ=p->In p)->aS prog (pK U d k) cs=aS prog k cs
 | [],_,_,_,_,_,_=>rfl
 |c::r,k,In,S,h,hU,hI=>by
  have hc:=hI c aG;obtain⟨h1,ho⟩:=h.do_ (prog:=prog) hc;rw[aS,aS,pdo h hc hd Wu hU];refine congrArg _ (Wv hd Wu r _ _ _ h1 (λi hi=>?_) λx hx p hp=>.inl (hI x (by simp[hx]) p hp))
  obtain⟨a,o,b1,b2⟩:=hU i hi;have e:=ho.o i a;refine⟨⟨by rw[e];exact a.1,λq=>q.elim a.2 λq=>q a.1⟩,o,by rw[e];exact b1,b2⟩
end
end Kn
namespace Kn
section
variable {U:Nat->Bool} {d:List (List Dt)}
theorem YU{l:List Obj}{z:Int}(h:gJ l z):gJ (pL U d l) z:=by
 obtain⟨j,x,e,hx,hk⟩:=h;exact⟨j,_,e,zT hx,by rw[di];exact hk⟩
theorem pKI{k:Kr}(h:KI k)(hd:∃b,d=dH b)(vB:d.length<=60)(hU:Uo U k.l):KI (pK U d k):=by
 have mem:∀o,o∈pL U d k.l->∃i x,k.l[i]? =some x/\o=pO U d i x:=λo ho=>by obtain⟨i,hi⟩:=aag ho;obtain⟨x,hx,e⟩:=pB hi;exact⟨i,x,hx,e⟩
 have cap:∀z r,fU k z r->fU (pK U d k) z r:=λz r⟨h0,n,o,e,ho,hi⟩=>⟨h0,n,o,e,ho,YU hi⟩
 have hkr:=Wt (U:=U) h.kr hd om;refine⟨by show(pL U d k.l).length<=40;rw[jn];exact h.ll,h.lo,h.lp,hkr.sm,h.sl,h.ne,h.aE,λx hx s hs hh=>cap _ _ (h.cap x hx s hs hh),λo ho q hq hh=>?_,λo ho h5=>?_,λo ho=>?_,λo ho hz=>?_,λi o ho h4=>?_,h.dq,λo ho=>?_,?_⟩
 .obtain⟨i,x,hx,rfl⟩:=mem o ho;rw[uG]at hq;exact cap _ _ (h.qu x (Wm hx) q hq hh)
 .obtain⟨i,x,hx,rfl⟩:=mem o ho;rw[di]at h5;rw[KQ];exact h.pr x (Wm hx) h5
 .obtain⟨i,x,hx,rfl⟩:=mem o ho;have e:=h.en x (Wm hx);have ee:dh (pO U d i x)=dh x:=by unfold dh;rw[fB]
  refine⟨by rw[fB,ee];exact e.eq,by rw[ee];exact e.DO,λhk=>by rw[di]at hk;rw[fB];exact e.dir hk,λy hy=>?_⟩
  rw[ee]at hy;obtain⟨h1,j,w,h2,h3,h4⟩:=e.to y hy;exact⟨h1,j,_,h2,zT h3,by rw[di];exact h4⟩
 .obtain⟨i,x,hx,rfl⟩:=mem o ho;rw[di]at hz;rw[pz (hU.off λy hy=>by rw[hx]at hy;cases hy;omega)]
  exact h.z x (Wm hx) hz
 .obtain⟨x,hx,rfl⟩:=pB ho;rw[di]at h4;rw[uH];rcases h.pe i x hx h4 with e|⟨j,y,e1,e2,e3,e4⟩
  .exact .inl e
  .exact .inr ⟨j,_,e1,zT e2,by rw[di];exact e3,by rw[uH];exact e4⟩
 .obtain⟨i,x,hx,rfl⟩:=mem o ho;rcases jc (U:=U) (d:=d) i x with e|e
  .rw[e];exact h.N0 x (Wm hx)
  .rw[e];exact vB
 .have e:(pL U d k.l).map r9=k.l.map r9:=by
   refine acq λi=>?_
   rw[Rn,Rn,dk];cases k.l[i]? with
   |none=>rfl
   |some o=>
    simp only[aaS,abi];unfold r9 dh;rw[di,Wp,FU,fB]
  show Tree ((pL U d k.l).map r9);rw[e];exact h.p7
end
def bD(a:An):Prop:=∃b,a.data=dH b
theorem bD.no(e:Int):bD (An.no e):=⟨[],rfl⟩
theorem bD.nil{a:An}(h:a.data=[]):bD a:=⟨[],h⟩
theorem UP{k:Kr}(h:KI k)(z:Int):∃b,(ii k.l z).data=dH b:=by
 unfold ii;cases ho:k.l[z.toNat]? with
 |none=>exact⟨[],rfl⟩
 |some o=>exact(h.sm o (Wm ho)).t.1
theorem UQ{x:List (List Dt)}(h:∃b,x=dH b)(a n:Nat):∃b,E0 x a n=dH b:=by obtain⟨b,rfl⟩:=h;refine⟨(b.take (fz a (dH b).length+fz n ((dH b).length-fz a (dH b).length))).drop (fz a (dH b).length),?_⟩;unfold E0 dH;rw[aeh,adQ]
theorem RE{k:Kr}(h:KI k)(p:Nat)(c:Cl):bD (gT k p c).2:=by
 unfold gT;split
 .unfold gY fA gR;repeat' split
  all_goals exact .nil rfl
 .split
  .unfold gS iV;split
   .exact .no _
   .split
    .unfold pk kp;repeat' split
     all_goals first|exact .no _|exact .nil rfl|exact UQ (UP h _) _ _
    .split
     .unfold mT;split<;>exact .nil rfl
     .unfold nY;split<;>exact .nil rfl
  .split
   .exact .nil rfl
   .split
    .unfold kV lI zA;repeat' split
     all_goals first|exact .no _|exact .nil rfl|exact⟨_,rfl⟩
    .split
     .exact .no _
     .split
      .unfold im ut qX;repeat' split
       all_goals exact .nil rfl
      .split
       .unfold ik um rY i9;repeat' split
        all_goals exact .nil rfl
       .split
        .unfold il uq;split
         .exact .no _
         .unfold r8;split
          .exact .no _
          .rename_i h0;obtain⟨n,o,x,r,_,ho,_,hq,_,e⟩:=pu (XW h0);have ht:∃b,(eS k.l (bm k p c.fd 512).2.1).2.1.data=dH b:=by
            rw[e];exact(h.sm o (Wm ho)).t.2.2 x (by rw[hq];simp)
           split
           .split
            .exact .no _
            .exact ht
           .exact ht
        .unfold eZ pR fK;split
         .exact .nil rfl
         .split
          .exact .nil rfl
          .split
           .split<;>exact .nil rfl
           .split
            .exact .no _
            .unfold kW po fK;repeat' split
             all_goals exact .nil rfl
theorem RF{prog:List eI}{k:Kr}(h:KI k)(c:Cl):bD (nL prog k c).2:=by
 unfold nL NZ;repeat' split
 all_goals first|exact .no _|exact RE h _ c
theorem FX{prog:List eI}:∀(cs:List Cl)(k:Kr),KI k->∀a,a∈aS prog k cs->bD a
 | [],_,_,a,ha=>by cases ha
 |c::r,k,h,a,ha=>by
  rw[aS]at ha;rcases abH.1 ha with rfl|ha
  .exact RF h c
  .exact FX r _ (h.do_ prog c) a ha
end Kn
def PrK(m:Nat)(x:aM):Prop:=FB m x.ap/\(x.aF=false->x.ap=[])
theorem B0(z:Nat)(h:z<6):∃v:Int,(0<=v/\v<=4095)/\dp [[CC.ai (.val (.int .i64 4095))],[.ai (.val (.int .i64 255))],[.ai (.val (.int .i64 1))],[.ai (.val (.int .i64 768))],[.ai (.val (.int .i64 3072))],[.ai (.val (.int .i64 9))]] z=some [.ai (.val (.int .i64 v))]:=by
 match z,h with
 |0,_=>exact⟨_,by decide,rfl⟩
 |1,_=>exact⟨_,by decide,rfl⟩
 |2,_=>exact⟨_,by decide,rfl⟩
 |3,_=>exact⟨_,by decide,rfl⟩
 |4,_=>exact⟨_,by decide,rfl⟩
 |5,_=>exact⟨_,by decide,rfl⟩
theorem UR{ops:List aV}{w:Nat}(hn:((ops.map aV.enc).length:Int)>0)(h:(1:Int)<=((ops.map aV.enc).length:Int)->(w:Int)<((ops.map aV.enc).length:Int)):w<ops.length:=by rw[P2]at hn h;have:=h om;omega
theorem KU(b:List Int)(hb:uN b)(n:Nat)(l:List Obj)(g:GB n l)(ops:List aV)(Q8:Uc l.length ops)(qj:1<=n)(Sp:n<=3):
  aw prog 0 (mK (pb Xr)) (oX (aw prog 0 Xs) EKN) ⟨jD 299 [(2,.rv (.one (.ptr 0 0))),(3,.rv (.one (.ptr 1 0))),(19,.rv (.one (.ptr 2 0))),(20,am .i64 (n:Nat))],[.var z3,ru b,.var [.ai (iH (bN l)),.ai (de ops),.bv]]⟩:=by
 have I0:∀(ps:List aM)(sl:List dX),FB ops.length sl->∀(L F:Bool)(c:Int),(L=false->sl=[])->(∀x,x∈ps->PrK ops.length x)->∀x,x∈ps++ [⟨L,F,c,sl⟩]->PrK ops.length x:=by
  intro ps sl h L F c h1 h2 x hx;rcases abJ.1 hx with hx|hx
  .exact h2 x hx
  .rw[acn.1 hx];exact⟨h,h1⟩
 refine ax (λ(a:afB)=>a.p<=n/\uN a.b/\a.ps.length=a.p/\(∀x,x∈a.ps->PrK ops.length x)/\(0<a.p->∃q,a.ps[0]? =some q/\q.aF=true)) [2,3,19,20,184] (λa=>[(185,am .i64 (a.p:Nat))])
  (λa=>match a.ps with
   | []=>[.var z3,ru a.b,.var [.ai (iH (bN l)),.ai (de ops),.bv]]
   |x::r=>[.var z3,ru a.b,.var [.ai (iH (bN l)),.ai (de ops),.row 3 4 0 none],.row 4 (aa ((x::r).map aM.enc))]) (λa=>n-a.p) ⟨0,b,[]⟩ ⟨aad _,hb,rfl,aG,λh=>absurd h (aez 0)⟩ ?_ (λa ha=>?_)
 .refine View.o1 3 [0,1,2] [] ?_
  .exact .au
 obtain⟨p,b1,ps⟩:=a;obtain⟨hp,wt,fb,jB,Em⟩:=ha;have hp:p<=n:=hp;have wt:uN b1:=wt;have fb:ps.length=p:=fb;have jB:∀x,x∈ps->PrK ops.length x:=jB;have Em:0<p->∃q,ps[0]? =some q/\q.aF=true:=Em;cases ps with
 |nil=>
  have yU:p=0:=by simpa using fb.symm
  subst yU;refine bS (decide_eq_true (show((0:Nat):Int)<(n:Int) by omega)) ?_
  have gA:0<n:=om;refine b7 b1 wt 2 1 rfl λfy b2 lY _ _ _=>?_
  refine b7 b2 lY 5 1 rfl λq b3 Qg _ _ _=>?_
  refine ax (λ(a:abd)=>a.j<=q/\uN a.b/\FB ops.length a.sl) [2,3,19,20,26,27,184,185,200] (λa=>[(201,am .i64 (a.j:Nat))]) (λa=>[.var z3,ru a.b,.var [.ai (iH (bN l)),.ai (de ops),.bv],.var [.ai (.val (.bool true)),.ai (.val (.bool ((((fy:Nat):Int))==1))),.ai (.val (.int .i64 0)),.ai (ip a.sl)]]) (λa=>q-a.j) ⟨0,b3,[]⟩ ⟨aad _,by assumption,(FB.nil _)⟩ ?_ (λa ha=>?_)
  .refine View.o1 4 [0,1,2,3] [] ?_
   .exact .pe rfl rfl rfl (.pt rfl rfl (.eq rfl (gz _)) (.pe rfl rfl rfl (.pt rfl rfl (dC.var (.cons (.aO (.ai _)) (.cons (.aO (.ai _)) (.cons (.aO (.ai _)) (.cons (.dO (.bv 3)) .nil))))) (.nil _))))
  obtain⟨j,bj,sl⟩:=a;obtain⟨hj,xP,nT⟩:=ha;have hj:j<=q:=hj;have xP:uN bj:=xP;have nT:FB ops.length sl:=nT;refine an (λgH=>?_) (λgH=>?_)
  .have bV:j<q:=by have h:(j:Int)<(q:Int):=gH;omega
   refine an (λhn=>?_) (λhn=>?_)
   .skip
    refine⟨?_,?_⟩
    .refine b7 bj xP _ 1 rfl λw bw Qh Ae _ _=>?_
     have Ae:=UR hn Ae;refine⟨⟨rfl,trivial⟩,?_⟩;refine⟨?_,?_⟩
     .refine⟨⟨rfl,rfl,rfl,trivial⟩,?_⟩;refine b7 bw Qh 6 1 rfl λz bz Nu hz _ _=>?_
      have hz:=hz om;refine⟨⟨rfl,trivial⟩,?_⟩;refine af (bL (k:=z) (by simp[lenOf];omega)) ?_
      obtain⟨v,DK,hv⟩:=B0 z om;refine af hv ?_;refine oO sl nT _ v ⟨DK,w,rfl,Ae⟩ λy fd e hy=>?_
      refine⟨trivial,?_⟩;refine bc (λhe=>?_) (λhe=>?_)
      .subst he;refine⟨⟨j+1,bz,y⟩,⟨bV,by assumption,by first|assumption|exact hy rfl|omega⟩,(show q-(j+1)<q-j by omega),View.o2 5 [0,1,2,3] [] ?_⟩
       .exact .au
      .skip
       refine⟨⟨j+1,bz,sl⟩,⟨bV,by assumption,by first|assumption|exact hy rfl|omega⟩,(show q-(j+1)<q-j by omega),View.o2 5 [0,1,2,3] [] ?_⟩
       .exact .au
     .skip
      refine b7 bw Qh 6 1 rfl λz bz Nu hz _ _=>?_
      have hz:=hz om;refine⟨⟨rfl,trivial⟩,?_⟩;refine⟨⟨rfl,rfl,rfl,trivial⟩,?_⟩;refine af (bL (k:=z) (by simp[lenOf];omega)) ?_
      obtain⟨v,DK,hv⟩:=B0 z om;refine af hv ?_;refine oO sl nT _ v ⟨DK,w,rfl,Ae⟩ λy fd e hy=>?_
      refine⟨trivial,?_⟩;refine bc (λhe=>?_) (λhe=>?_)
      .subst he;refine⟨⟨j+1,bz,y⟩,⟨bV,by assumption,by first|assumption|exact hy rfl|omega⟩,(show q-(j+1)<q-j by omega),View.o2 5 [0,1,2,3] [] ?_⟩
       .exact .au
      .skip
       refine⟨⟨j+1,bz,sl⟩,⟨bV,by assumption,by first|assumption|exact hy rfl|omega⟩,(show q-(j+1)<q-j by omega),View.o2 5 [0,1,2,3] [] ?_⟩
       .exact .au
    .refine⟨⟨rfl,rfl,rfl,trivial⟩,?_⟩;refine b7 bj xP _ 1 rfl λw bw Qh Ae _ _=>?_
     have Ae:=UR hn Ae;refine⟨⟨rfl,trivial⟩,?_⟩;refine b7 bw Qh 6 1 rfl λz bz Nu hz _ _=>?_
     have hz:=hz om;refine⟨⟨rfl,trivial⟩,?_⟩;refine af (bL (k:=z) (by simp[lenOf];omega)) ?_
     obtain⟨v,DK,hv⟩:=B0 z om;refine af hv ?_;refine oO sl nT _ v ⟨DK,w,rfl,Ae⟩ λy fd e hy=>?_
     refine⟨trivial,?_⟩;refine bc (λhe=>?_) (λhe=>?_)
     .subst he;refine⟨⟨j+1,bz,y⟩,⟨bV,by assumption,by first|assumption|exact hy rfl|omega⟩,(show q-(j+1)<q-j by omega),View.o2 5 [0,1,2,3] [] ?_⟩
      .exact .au
     .skip
      refine⟨⟨j+1,bz,sl⟩,⟨bV,by assumption,by first|assumption|exact hy rfl|omega⟩,(show q-(j+1)<q-j by omega),View.o2 5 [0,1,2,3] [] ?_⟩
      .exact .au
   .skip
    refine⟨⟨j+1,bj,sl⟩,⟨bV,by assumption,by first|assumption|exact hy rfl|omega⟩,(show q-(j+1)<q-j by omega),View.o2 4 [0,1,2,3] [] ?_⟩
    .exact .au
  .skip
   refine⟨by simp[bt]<;>omega,?_⟩
   refine⟨⟨0+1,bj,([⟨true,((((fy:Nat):Int))==1),0,sl⟩])⟩,⟨gA,by assumption,by simp at fb|-<;>omega,I0 [] sl nT _ _ _ (λh=>by cases h) jB,λ_=>⟨_,rfl,rfl⟩⟩,(show n-(0+1)<n-0 by omega),View.o2 6 [0,1,2,5] [] ?_⟩
   .exact .pe rfl rfl rfl (.pt rfl rfl (.eq rfl (gz _)) (.pe rfl rfl rfl (.pt rfl rfl (JR [] ⟨true,((((fy:Nat):Int))==1),0,sl⟩ (.aO (.ai _)) (by simp[bt,aa,CC.aO])) (.nil _))))
 |cons x r=>
  refine an (λh=>?_) (λh=>?_)
  .have gA:p<n:=by have h:(p:Int)<(n:Int):=h;omega
   have JQ:0<p:=by simp at fb;omega
   have Zt:∀y:aM,(0<p+1->∃q,(x::r++ [y])[0]? =some q/\q.aF=true):=λy _=>by
    obtain⟨q,h1,h2⟩:=Em JQ;exact⟨q,by simpa using h1,h2⟩
   refine yx (t:=(((p:Nat):Int)==0)) (by rw[beq_eq_false_iff_ne];omega) ?_
   refine b7 b1 wt 5 1 rfl λlx b2 lY _ _ _=>?_
   refine b7 b2 lY 2 1 rfl λfy b3 Qg _ _ _=>?_
   refine b7 b3 Qg 5 1 rfl λq b4 XY _ _ _=>?_
   refine ax (λ(a:abd)=>a.j<=q/\uN a.b/\FB ops.length a.sl) [2,3,19,20,26,27,184,185,200] (λa=>[(201,am .i64 (a.j:Nat))]) (λa=>[.var z3,ru a.b,.var [.ai (iH (bN l)),.ai (de ops),.row 3 4 0 none],.row 4 (aa ((x::r).map aM.enc)),.var [.ai (.val (.bool (decide ((((lx:Nat):Int))>0)))),.ai (.val (.bool ((((fy:Nat):Int))==1))),.ai (.val (.int .i64 0)),.ai (ip a.sl)]]) (λa=>q-a.j) ⟨0,b4,[]⟩ ⟨aad _,by assumption,(FB.nil _)⟩ ?_ (λa ha=>?_)
   .refine View.o1 5 [0,1,2,3,4] [] ?_
    .exact .pe rfl rfl rfl (.pt rfl rfl (.eq rfl (gz _)) (.pe rfl rfl rfl (.pr rfl rfl rfl (.pt rfl rfl (dC.var (.cons (.aO (.ai _)) (.cons (.aO (.ai _)) (.cons (.aO (.ai _)) (.cons (.dO (.bv 3)) .nil))))) (.nil _)))))
   obtain⟨j,bj,sl⟩:=a;obtain⟨hj,xP,nT⟩:=ha;have hj:j<=q:=hj;have xP:uN bj:=xP;have nT:FB ops.length sl:=nT;refine an (λgH=>?_) (λgH=>?_)
   .have bV:j<q:=by have h:(j:Int)<(q:Int):=gH;omega
    refine an (λhn=>?_) (λhn=>?_)
    .skip
     refine aC (λ_=>?_) (λ_=>?_)
     .skip
      refine⟨?_,?_⟩
      .refine b7 bj xP _ 1 rfl λw bw Qh Ae _ _=>?_
       have Ae:=UR hn Ae;refine⟨⟨rfl,trivial⟩,?_⟩;refine⟨?_,?_⟩
       .refine⟨⟨rfl,rfl,rfl,trivial⟩,?_⟩;refine b7 bw Qh 6 1 rfl λz bz Nu hz _ _=>?_
        have hz:=hz om;refine⟨⟨rfl,trivial⟩,?_⟩;refine af (bL (k:=z) (by simp[lenOf];omega)) ?_
        obtain⟨v,DK,hv⟩:=B0 z om;refine af hv ?_;refine oO sl nT _ v ⟨DK,w,rfl,Ae⟩ λy fd e hy=>?_
        refine⟨trivial,?_⟩;refine bc (λhe=>?_) (λhe=>?_)
        .subst he;refine⟨⟨j+1,bz,y⟩,⟨bV,by assumption,by first|assumption|exact hy rfl|omega⟩,(show q-(j+1)<q-j by omega),View.o2 6 [0,1,2,3,4] [] ?_⟩
         .exact .au
        .skip
         refine⟨⟨j+1,bz,sl⟩,⟨bV,by assumption,by first|assumption|exact hy rfl|omega⟩,(show q-(j+1)<q-j by omega),View.o2 6 [0,1,2,3,4] [] ?_⟩
         .exact .au
       .skip
        refine b7 bw Qh 6 1 rfl λz bz Nu hz _ _=>?_
        have hz:=hz om;refine⟨⟨rfl,trivial⟩,?_⟩;refine⟨⟨rfl,rfl,rfl,trivial⟩,?_⟩;refine af (bL (k:=z) (by simp[lenOf];omega)) ?_
        obtain⟨v,DK,hv⟩:=B0 z om;refine af hv ?_;refine oO sl nT _ v ⟨DK,w,rfl,Ae⟩ λy fd e hy=>?_
        refine⟨trivial,?_⟩;refine bc (λhe=>?_) (λhe=>?_)
        .subst he;refine⟨⟨j+1,bz,y⟩,⟨bV,by assumption,by first|assumption|exact hy rfl|omega⟩,(show q-(j+1)<q-j by omega),View.o2 6 [0,1,2,3,4] [] ?_⟩
         .exact .au
        .skip
         refine⟨⟨j+1,bz,sl⟩,⟨bV,by assumption,by first|assumption|exact hy rfl|omega⟩,(show q-(j+1)<q-j by omega),View.o2 6 [0,1,2,3,4] [] ?_⟩
         .exact .au
      .refine⟨⟨rfl,rfl,rfl,trivial⟩,?_⟩;refine b7 bj xP _ 1 rfl λw bw Qh Ae _ _=>?_
       have Ae:=UR hn Ae;refine⟨⟨rfl,trivial⟩,?_⟩;refine b7 bw Qh 6 1 rfl λz bz Nu hz _ _=>?_
       have hz:=hz om;refine⟨⟨rfl,trivial⟩,?_⟩;refine af (bL (k:=z) (by simp[lenOf];omega)) ?_
       obtain⟨v,DK,hv⟩:=B0 z om;refine af hv ?_;refine oO sl nT _ v ⟨DK,w,rfl,Ae⟩ λy fd e hy=>?_
       refine⟨trivial,?_⟩;refine bc (λhe=>?_) (λhe=>?_)
       .subst he;refine⟨⟨j+1,bz,y⟩,⟨bV,by assumption,by first|assumption|exact hy rfl|omega⟩,(show q-(j+1)<q-j by omega),View.o2 6 [0,1,2,3,4] [] ?_⟩
        .exact .au
       .skip
        refine⟨⟨j+1,bz,sl⟩,⟨bV,by assumption,by first|assumption|exact hy rfl|omega⟩,(show q-(j+1)<q-j by omega),View.o2 6 [0,1,2,3,4] [] ?_⟩
        .exact .au
     .skip
      refine⟨⟨j+1,bj,sl⟩,⟨bV,by assumption,by first|assumption|exact hy rfl|omega⟩,(show q-(j+1)<q-j by omega),View.o2 5 [0,1,2,3,4] [] ?_⟩
      .exact .au
    .skip
     refine⟨⟨j+1,bj,sl⟩,⟨bV,by assumption,by first|assumption|exact hy rfl|omega⟩,(show q-(j+1)<q-j by omega),View.o2 5 [0,1,2,3,4] [] ?_⟩
     .exact .au
   .skip
    refine aC (λ_=>?_) (λdj=>?_)
    .refine b7 bj xP 9 1 rfl λcd b5 hb5 _ _ _=>?_
     refine⟨by have e:=aJ ((x::r).map aM.enc);simp only[P2,aaY]at e fb;simp only[bt,aaY,acg];omega,?_⟩
     refine⟨⟨p+1,b5,((x::r)++ [⟨false,false,(cd:Nat),[]⟩])⟩,⟨gA,by assumption,by simp at fb|-<;>omega,I0 (x::r) [] (FB.nil _) _ _ _ (λ_=>rfl) jB,Zt _⟩,(show n-(p+1)<n-p by omega),View.o2 7 [0,1,2,6] [] ?_⟩
     .exact .pe rfl rfl rfl (.pt rfl rfl (.eq rfl (gz _)) (.pe rfl rfl rfl (.pt rfl rfl (JR (x::r) ⟨false,false,(cd:Nat),[]⟩ (.dO (.bv 3)) (by simp[bt,aa,CC.aO])) (.nil _))))
    .skip
     refine⟨by have e:=aJ ((x::r).map aM.enc);simp only[P2,aaY]at e fb;simp only[bt,aaY,acg];omega,?_⟩
     refine⟨⟨p+1,bj,((x::r)++ [⟨(decide ((((lx:Nat):Int))>0)),((((fy:Nat):Int))==1),0,sl⟩])⟩,⟨gA,by assumption,by simp at fb|-<;>omega,I0 (x::r) sl nT _ _ _ (λh=>by rw[h]at dj;exact absurd dj (by decide)) jB,Zt _⟩,(show n-(p+1)<n-p by omega),View.o2 7 [0,1,2,6] [] ?_⟩
     .exact .pe rfl rfl rfl (.pt rfl rfl (.eq rfl (gz _)) (.pe rfl rfl rfl (.pt rfl rfl (JR (x::r) ⟨(decide ((((lx:Nat):Int))>0)),((((fy:Nat):Int))==1),0,sl⟩ (.aO (.ai _)) (by simp[bt,aa,CC.aO])) (.nil _))))
  .have wu:p=n:=by have h:¬(p:Int)<(n:Int):=h;omega
   refine bW [2,3,19] [] [.var z3,ru b1,.var [.ai (iH (bN l)),.ai (de ops),.ai (dM (x::r))]] (View.o1 4 [0,1,2] [3] ?_) ?_
   .exact .pe rfl rfl rfl (.pt rfl rfl (.eq rfl (gz _)) (.pt rfl rfl (dC.var (.cons (.aO (.ai _)) (.cons (.aO (.ai _)) (.cons (.dO (cV.db (Z:=λk=>bh [3] k=true) rfl rfl 0 none)) .nil)))) (.nil _)))
   exact Ug b1 wt l g ops (x::r) Q8 ⟨om,qj,Sp,λy hy=>(jB y hy).1.1,λy hy=>(jB y hy).2,λy hy s hs=>((jB y hy).1.2 s hs).2⟩
def Sw(n:Nat)(o:aV):Prop:=(∃j:Nat,o.obj=j/\j<n)/\0<=o.dq/\o.dq<=64
theorem US{n p:Nat}(h:p<n)(h3:n<=3):M7 n (N1 (p:Nat)):=
 ⟨λl=>⟨⟨⟨⟨[],rfl⟩,⟨[],rfl⟩,by simp[N1]⟩,by simp[N1],by simp[N1],by simp[N1],by simp[N1]⟩,by simp[N1],rfl,rfl,by simp[N1],rfl,rfl,λ_=>rfl,λ_=>⟨p,rfl,by show p<3;omega⟩⟩,λ_=>by show(p:Int)<n;omega⟩
structure YV where
 i:Nat
 b:List Int
 ops:List aV
theorem UT(b:List Int)(hb:uN b)(n:Nat)(l:List Obj)(g:GB n l)(h15:l.length<=15)(qj:1<=n)(Sp:n<=3):
  aw prog 0 (mK (pb abc)) (oX (aw prog 0 Xr) EKN) ⟨jD 299 [(2,.rv (.one (.ptr 0 0))),(3,.rv (.one (.ptr 1 0))),(19,.rv (.one (.ptr 2 0))),(20,am .i64 (n:Nat))],[.var z3,ru b,.var [.ai (iH (bN l)),.bv,.bv]]⟩:=by
 have CW:=g.len;refine ax (λ(a:YV)=>a.i<=l.length/\uN a.b/\a.ops.length<=2*a.i/\∀o,o∈a.ops->Sw l.length o) [2,3,19,20,165] (λa=>[(166,am .i64 (a.i:Nat))])
  (λa=>match a.ops with
   | []=>[.var z3,ru a.b,.var [.ai (iH (bN l)),.bv,.bv]]
   |x::r=>[.var z3,ru a.b,.var [.ai (iH (bN l)),.row 3 2 0 none,.bv],.row 2 (aa ((x::r).map aV.enc))]) (λa=>l.length-a.i) ⟨0,b,[]⟩ ⟨aad _,hb,aG,aG⟩ ?_ (λa ha=>?_)
 .refine View.o1 3 [0,1,2] [] ?_
  .exact .au
 obtain⟨i,b1,ops⟩:=a;obtain⟨hi,wt,jE,uL⟩:=ha;have hi:i<=l.length:=hi;have wt:uN b1:=wt;have jE:ops.length<=2*i:=jE;have uL:∀o,o∈ops->Sw l.length o:=uL;cases ops with
 |nil=>
  refine an (λh=>?_) (λh=>?_)
  .have ay:i<l.length:=by have h:(i:Int)<(((bN l).map Ob.enc).length:Int):=h;rw[P2,fN]at h;omega
   have EE:∀(z:Nat),z<4->∀{os:List aV},(∀o,o∈os->Sw l.length o)->∀o,o∈os++ [⟨(i:Nat),(z:Nat)⟩]->Sw l.length o:=λz hz os h o ho=>by
    rcases abJ.1 ho with ho|ho
    .exact h o ho
    .rw[acn.1 ho];exact⟨⟨i,rfl,ay⟩,(show(0:Int)<=(z:Nat) by omega),(show((z:Nat):Int)<=64 by omega)⟩
   refine b7 b1 wt 3 1 rfl λq b2 lY hq _ _=>?_
   have hq:=hq om;refine ax (λ(a:YV)=>a.i<=q/\uN a.b/\a.ops.length<=2*i+a.i/\∀o,o∈a.ops->Sw l.length o) [2,3,19,20,25,165,166,170] (λa=>[(171,am .i64 (a.i:Nat))]) (λa=>match a.ops with
      | []=>[.var z3,ru a.b,.var [.ai (iH (bN l)),.bv,.bv]]
      |x::r=>[.var z3,ru a.b,.var [.ai (iH (bN l)),.row 3 2 0 none,.bv],.row 2 (aa ((x::r).map aV.enc))]) (λa=>q-a.i) ⟨0,b2,[]⟩ ⟨aad _,lY,by simp at jE|-<;>omega,uL⟩ ?_ (λa ha=>?_)
   .refine View.o1 3 [0,1,2] [] ?_
    .exact .au
   clear jE uL;obtain⟨j,bj,ops⟩:=a;obtain⟨hj,xP,jE,uL⟩:=ha;have hj:j<=q:=hj;have xP:uN bj:=xP;have jE:ops.length<=2*i+j:=jE;have uL:∀o,o∈ops->Sw l.length o:=uL;cases ops with
   |nil=>
    refine an (λgH=>?_) (λgH=>?_)
    .have bV:j<q:=by have h:(j:Int)<(q:Int):=gH;omega
     refine b7 bj xP 4 1 rfl λz bz Nu hz _ _=>?_
     refine⟨⟨rfl,trivial⟩,⟨rfl,trivial⟩,?_⟩;refine⟨by simp[bt]<;>omega,trivial,trivial,?_⟩
     refine⟨⟨j+1,bz,[⟨(i:Nat),(z:Nat)⟩]⟩,⟨bV,Nu,by simp at jE|-<;>omega,EE z (by have:=hz (by omega);omega) uL⟩,(show q-(j+1)<q-j by omega),View.o2 5 [0,1,2,4] [] ?_⟩
     .exact .pe rfl rfl rfl (.pt rfl rfl (.eq rfl (gz _)) (.pe rfl rfl rfl (.pt rfl rfl (.bg (by simp[bt,aa,aV.enc])) (.nil _))))
    .have sB:j=q:=by have h:¬(j:Int)<(q:Int):=gH;omega
     refine⟨⟨i+1,bj,[]⟩,⟨ay,xP,by simp at jE|-<;>omega,uL⟩,(show l.length-(i+1)<l.length-i by omega),View.o2 3 [0,1,2] [] ?_⟩
     .exact .au
   |cons y t=>
    have JW:t.length<=100:=by simp at jE;omega
    refine an (λgH=>?_) (λgH=>?_)
    .have bV:j<q:=by have h:(j:Int)<(q:Int):=gH;omega
     refine b7 bj xP 4 1 rfl λz bz Nu hz _ _=>?_
     refine⟨⟨rfl,trivial⟩,⟨rfl,trivial⟩,?_⟩;refine⟨by simp[bt,aJ]at jE|-<;>omega,trivial,trivial,?_⟩
     refine⟨⟨j+1,bz,(y::t)++ [⟨(i:Nat),(z:Nat)⟩]⟩,⟨bV,Nu,by simp at jE|-<;>omega,EE z (by have:=hz (by omega);omega) uL⟩,(show q-(j+1)<q-j by omega),View.o2 6 [0,1,2,5] [] ?_⟩
     .exact .pe rfl rfl rfl (.pt rfl rfl (.eq rfl (gz _)) (.pe rfl rfl rfl (.pt rfl rfl (.bg (by simp[bt,aa,aV.enc])) (.nil _))))
    .have sB:j=q:=by have h:¬(j:Int)<(q:Int):=gH;omega
     refine⟨⟨i+1,bj,(y::t)⟩,⟨ay,xP,by simp at jE|-<;>omega,uL⟩,(show l.length-(i+1)<l.length-i by omega),View.o2 4 [0,1,2,3] [] ?_⟩
     .exact .au
  .refine bW [2,3,19,20] [] [.var z3,ru b1,.var [.ai (iH (bN l)),.ai (de []),.bv]] (View.o1 3 [0,1,2] [] ?_) ?_
   .exact .pe rfl rfl rfl (.pt rfl rfl (.eq rfl (gz _)) (.pt rfl rfl (dC.var (.cons (.aO (.ai _)) (.cons (.dO (.bv 2)) (.cons (.aO .bv) .nil)))) (.nil _)))
   exact KU b1 wt n l g [] ⟨aG,uL⟩ qj Sp
 |cons x r=>
  have hrl:r.length<=100:=by simp at jE;omega
  refine an (λh=>?_) (λh=>?_)
  .have ay:i<l.length:=by have h:(i:Int)<(((bN l).map Ob.enc).length:Int):=h;rw[P2,fN]at h;omega
   have EE:∀(z:Nat),z<4->∀{os:List aV},(∀o,o∈os->Sw l.length o)->∀o,o∈os++ [⟨(i:Nat),(z:Nat)⟩]->Sw l.length o:=λz hz os h o ho=>by
    rcases abJ.1 ho with ho|ho
    .exact h o ho
    .rw[acn.1 ho];exact⟨⟨i,rfl,ay⟩,(show(0:Int)<=(z:Nat) by omega),(show((z:Nat):Int)<=64 by omega)⟩
   refine b7 b1 wt 3 1 rfl λq b2 lY hq _ _=>?_
   have hq:=hq om;refine ax (λ(a:YV)=>a.i<=q/\uN a.b/\a.ops.length<=2*i+a.i/\∀o,o∈a.ops->Sw l.length o) [2,3,19,20,25,165,166,170] (λa=>[(171,am .i64 (a.i:Nat))]) (λa=>match a.ops with
      | []=>[.var z3,ru a.b,.var [.ai (iH (bN l)),.bv,.bv]]
      |x::r=>[.var z3,ru a.b,.var [.ai (iH (bN l)),.row 3 2 0 none,.bv],.row 2 (aa ((x::r).map aV.enc))]) (λa=>q-a.i) ⟨0,b2,(x::r)⟩ ⟨aad _,lY,by simp at jE|-<;>omega,uL⟩ ?_ (λa ha=>?_)
   .refine View.o1 4 [0,1,2,3] [] ?_
    .exact .au
   clear jE uL;obtain⟨j,bj,ops⟩:=a;obtain⟨hj,xP,jE,uL⟩:=ha;have hj:j<=q:=hj;have xP:uN bj:=xP;have jE:ops.length<=2*i+j:=jE;have uL:∀o,o∈ops->Sw l.length o:=uL;cases ops with
   |nil=>
    refine an (λgH=>?_) (λgH=>?_)
    .have bV:j<q:=by have h:(j:Int)<(q:Int):=gH;omega
     refine b7 bj xP 4 1 rfl λz bz Nu hz _ _=>?_
     refine⟨⟨rfl,trivial⟩,⟨rfl,trivial⟩,?_⟩;refine⟨by simp[bt]<;>omega,trivial,trivial,?_⟩
     refine⟨⟨j+1,bz,[⟨(i:Nat),(z:Nat)⟩]⟩,⟨bV,Nu,by simp at jE|-<;>omega,EE z (by have:=hz (by omega);omega) uL⟩,(show q-(j+1)<q-j by omega),View.o2 5 [0,1,2,4] [] ?_⟩
     .exact .pe rfl rfl rfl (.pt rfl rfl (.eq rfl (gz _)) (.pe rfl rfl rfl (.pt rfl rfl (.bg (by simp[bt,aa,aV.enc])) (.nil _))))
    .have sB:j=q:=by have h:¬(j:Int)<(q:Int):=gH;omega
     refine⟨⟨i+1,bj,[]⟩,⟨ay,xP,by simp at jE|-<;>omega,uL⟩,(show l.length-(i+1)<l.length-i by omega),View.o2 3 [0,1,2] [] ?_⟩
     .exact .au
   |cons y t=>
    have JW:t.length<=100:=by simp at jE;omega
    refine an (λgH=>?_) (λgH=>?_)
    .have bV:j<q:=by have h:(j:Int)<(q:Int):=gH;omega
     refine b7 bj xP 4 1 rfl λz bz Nu hz _ _=>?_
     refine⟨⟨rfl,trivial⟩,⟨rfl,trivial⟩,?_⟩;refine⟨by simp[bt,aJ]at jE|-<;>omega,trivial,trivial,?_⟩
     refine⟨⟨j+1,bz,(y::t)++ [⟨(i:Nat),(z:Nat)⟩]⟩,⟨bV,Nu,by simp at jE|-<;>omega,EE z (by have:=hz (by omega);omega) uL⟩,(show q-(j+1)<q-j by omega),View.o2 6 [0,1,2,5] [] ?_⟩
     .exact .pe rfl rfl rfl (.pt rfl rfl (.eq rfl (gz _)) (.pe rfl rfl rfl (.pt rfl rfl (.bg (by simp[bt,aa,aV.enc])) (.nil _))))
    .have sB:j=q:=by have h:¬(j:Int)<(q:Int):=gH;omega
     refine⟨⟨i+1,bj,(y::t)⟩,⟨ay,xP,by simp at jE|-<;>omega,uL⟩,(show l.length-(i+1)<l.length-i by omega),View.o2 4 [0,1,2,3] [] ?_⟩
     .exact .au
  .refine bW [2,3,19,20] [] [.var z3,ru b1,.var [.ai (iH (bN l)),.ai (de (x::r)),.bv]] (View.o1 4 [0,1,2] [3] ?_) ?_
   .exact .pe rfl rfl rfl (.pt rfl rfl (.eq rfl (gz _)) (.pt rfl rfl (dC.var (.cons (.aO (.ai _)) (.cons (.dO (cV.db (Z:=λk=>bh [3] k=true) rfl rfl 0 none)) (.cons (.aO .bv) .nil)))) (.nil _)))
   exact KU b1 wt n l g (x::r) ⟨by simp at jE|-<;>omega,uL⟩ qj Sp
structure Ww where
 i:Nat
 l:List Obj
theorem UU(b:List Int)(hb:uN b)(l:List Obj)(g:GB 0 l)(Ga:l.length<=12):
  aw prog 0 abb EKN ⟨jD 299 [(2,.rv (.one (.ptr 0 0))),(3,.rv (.one (.ptr 1 0))),(19,.rv (.one (.ptr 2 0)))],[.var z3,ru b,.var [.ai (iH (bN l)),.bv,.bv]]⟩:=by
 refine b7 b hb 3 1 rfl λx b1 wt hx _ _=>?_
 have hx:=hx om;have hw:IntKind.i64.wrap (1+(x:Int))=((1+x:Nat):Int):=by
  rw[show(1+(x:Int))=((1+x:Nat):Int) by omega,mG om]
 refine ax (λ(a:Ww)=>a.i<=1+x/\GB (1+x) a.l/\a.l.length<=12+a.i) [2,3,19] (λa=>[(146,am .i64 (a.i:Nat)),(145,am .i64 (1+x:Nat)),(20,am .i64 (1+x:Nat))]) (λa=>[.var z3,ru b1,.var [.ai (iH (bN a.l)),.bv,.bv]]) (λa=>1+x-a.i) ⟨0,l⟩ ⟨aad _,g.mono om,by simpa using Ga⟩ ?_ (λa ha=>?_)
 .refine View.o 3 [0,1,2] [] ?_ ?_
  .repeat(first|exact .nil|refine .aL ?_|refine .eq (congrArg (λx=>am .i64 x) hw.symm) ?_|refine .eq rfl ?_)
  .exact .au
 obtain⟨p,l1⟩:=a;obtain⟨hp,g1,sx⟩:=ha;have hp:p<=1+x:=hp;have g1:GB (1+x) l1:=g1;have sx:l1.length<=12+p:=sx;refine an (λh=>?_) (λh=>?_)
 .have ay:p<1+x:=by have h:(p:Int)<((1+x:Nat):Int):=h;omega
  refine an (λh=>?_) (λh=>?_)
  .refine jK (Uf _ _) (Dk g1.nz om (N1 (p:Nat)) ?_);refine⟨⟨p+1,l1++ [N1 (p:Nat)]⟩,⟨ay,g1.ve om (US om om),(show(l1++ [N1 (p:Nat)]).length<=12+(p+1) by simp;omega)⟩,(show 1+x-(p+1)<1+x-p by omega),View.o2 3 [0,1,2] [] ?_⟩
   .exact .au
  .refine⟨⟨p+1,l1⟩,⟨ay,g1,(show l1.length<=12+(p+1) by omega)⟩,(show 1+x-(p+1)<1+x-p by omega),View.o2 3 [0,1,2] [] ?_⟩
   .exact .au
 .refine bW [2,3,19,20] [] [.var z3,ru b1,.var [.ai (iH (bN l1)),.bv,.bv]] (View.o1 3 [0,1,2] [] ?_) ?_
  .exact .au
  exact UT b1 wt (1+x) l1 g1 om om om
theorem UW(b:List Int)(hb:uN b)(l:List Obj)(g:GB 0 l)(h8:l.length<=8):
  aw prog 0 (mK (pb Xq)) (oX (aw prog 0 (bs Xq)) EKN) ⟨jD 299 [(2,.rv (.one (.ptr 0 0))),(3,.rv (.one (.ptr 1 0))),(4,gE (bN l))],[.var z3,ru b]⟩:=by
 refine b7 b hb 3 1 rfl λx b1 wt hx _ _=>?_
 have hx:=hx om;refine ax (λ(a:Ww)=>a.i<=x/\GB 0 a.l/\a.l.length<=8+2*a.i) [2,3,127] (λa=>[(128,am .i64 (a.i:Nat)),(4,gE (bN a.l))]) (λa=>[.var z3,ru b1]) (λa=>x-a.i) ⟨0,l⟩ ⟨aad _,g,by simpa using h8⟩ ?_ (λa ha=>?_)
 .refine View.o1 2 [0,1] [] ?_
  .exact .au
 obtain⟨i,l1⟩:=a;obtain⟨hi,g1,sx⟩:=ha;have hi:i<=x:=hi;have g1:GB 0 l1:=g1;have sx:l1.length<=8+2*i:=sx;refine an (λh=>?_) (λh=>?_)
 .have ay:i<x:=by have h:(i:Int)<(x:Int):=h;omega
  refine Q7 g1.nz om ?_;refine⟨⟨i+1,l1++ [bn ((l1.length+1:Nat):Int),bn (l1.length:Int)]⟩,⟨ay,g1.Fz om,(show(l1++ [bn ((l1.length+1:Nat):Int),bn (l1.length:Int)]).length<=8+2*(i+1) by simp;omega)⟩,(show x-(i+1)<x-i by omega),View.o2 3 [0,1] [] ?_⟩
  .exact .au
 .refine bW [2,3,19] [] [.var z3,ru b1,.var [.ai (iH (bN l1)),.bv,.bv]] (View.o1 3 [0,1,2] [] ?_) ?_
  .exact .au
  exact UU b1 wt l1 g1 om
def jA:Obj:=⟨2,[],[],⟨#[]⟩,-1,[],-1,1,0⟩
theorem UX:GB 0 [jA]:=by
 have hm:∀o,o∈ [jA]->o=jA:=λo ho=>acn.1 ho
 refine⟨⟨aG,aG,by simp[Ub],λo ho=>?_,λx hx=>?_,by simp[Ub],λx hx hl=>?_,λx hx s hs hh=>?_,λo ho q hq=>?_,λo ho h5=>?_,λo ho=>?_,λo ho hk=>?_,λi o ho hk=>?_,λo ho=>?_,λo ho=>?_,?_⟩,λo ho=>?_,λo ho=>?_,λo ho h5=>?_⟩
 .rw[hm o ho];exact⟨⟨⟨[],rfl⟩,⟨[],rfl⟩,by simp[jA]⟩,by simp[jA],by simp[jA],by simp[jA],by simp[jA]⟩
 .simp[Ub]at hx;subst hx;simp
 .simp[Ub]at hx;subst hx;cases hl
 .simp[Ub]at hx;subst hx;cases hs
 .rw[hm o ho]at hq;cases hq
 .rw[hm o ho]at h5;simp[jA]at h5
 .rw[hm o ho];exact⟨rfl,List.Pairwise.nil,λ_=>rfl,λe he=>by cases he⟩
 .rw[hm o ho]at hk;simp[jA]at hk
 .rw[hm o (Wm ho)]at hk;simp[jA]at hk
 .cases ho
 .rw[hm o ho];simp[jA]
 .have one:∀(i:Nat)d,([jA].map Kn.r9)[i]? =some d->i=0/\d=Kn.r9 jA:=λi d hd=>by
   match i,hd with
   |0,hd=>cases hd;exact⟨rfl,rfl⟩
   |n+1,hd=>simp at hd
  refine⟨λi d hd hz=>?_,⟨Kn.r9 jA,rfl,rfl,rfl,rfl⟩,λi d e hd he=>?_,λi i' d d' e e' hd Cp he=>?_,λi d hd _=>?_,λi d hd hz=>?_,λi d hd=>?_,λi d hd=>?_⟩
  .rw[(one i d hd).2]at hz;simp[Kn.r9,jA]at hz
  .rw[(one i d hd).2]at he;cases he
  .rw[(one i d hd).2]at he;cases he
  .rw[(one i d hd).1];exact .aA
  .rw[(one i d hd).2]at hz;simp[Kn.r9,jA]at hz
  .rw[(one i d hd).2];exact .inr rfl
  .rw[(one i d hd).2,(one i d hd).1];exact .inl rfl
 .rw[hm o ho];simp[jA]
 .rw[hm o ho];rfl
 .rw[hm o ho]at h5;simp[jA]at h5
theorem ac5{α β:Type}{P G:α->β->Prop}{g:Prop}(h:(∀a b,P a b->G a b)->g)(t:∀a b,P a b->G a b):g:=h t
theorem YW{x:Nat}(hx:(x:Int)<3){data:List (List Dt)}{s:ByteArray}(hd:∃b,data=dH b)(hl:data.length<=60):M7 0 ⟨IntKind.i64.wrap (1+(x:Int)),data,[],s,-1,[],-1,0,0⟩:=by
 have e:IntKind.i64.wrap (1+(x:Int))=((1+x:Nat):Int):=by rw[show(1+(x:Int))=((1+x:Nat):Int) by omega,mG om]
 rw[e];exact⟨λl=>⟨⟨⟨hd,⟨[],rfl⟩,aG⟩,by show data.length<=64;omega,aG,aG,aG⟩,by show((1+x:Nat):Int)≠0;omega,rfl,rfl,hl,rfl,rfl,λ_=>rfl,λh=>by have h:((1+x:Nat):Int)=5:=h;omega⟩,λh=>by have h:((1+x:Nat):Int)=5:=h;omega⟩
theorem Nv{n:Nat}{l:List Obj}(g:GB n l)(dir:Int)(name:ByteArray)(hs:name.size<=12)(p:Nat)(uM:∀q,l[p]? =some q->q.ak=0){m:Mem}{K:CV->Mem->Prop}(h:∀y e,(e=0->∃y',y=bN y'/\GB n y'/\y'.length=l.length)->K (Po y e) m):
  aq prog 28 [gE (bN l),am .i64 dir,ei name,am .i64 (p:Nat)] m K:=by
 refine aT (K0:=λr m=>∃y e,(∃b',True/\jL b' (bN l) dir name (p:Nat)=(y,e))/\cM m r (Po y e)) (aR func28 l28 (ED (bN l) g.toE dir name (λ_=>True) true trivial (λh=>tT name om λb=>h b trivial) (p:Nat))) (by simp[ei,am,gE,CV.cY,CC.cY,RV.cY]) λr m1 hr=>?_
 obtain⟨y,e,⟨b',_,hy⟩,hf⟩:=hr;refine⟨_,hf,h y e λhe=>?_⟩
 rw[Iz]at hy;have e1:=congrArg Prod.fst hy;have e2:=congrArg Prod.snd hy;obtain⟨a1,a2⟩:=g.enter (b:=b') (dir:=dir) (obj:=(p:Nat)) hs (λq x hq=>(show p=q by omega)▸uM x) (by rw[<-he];exact e2)
 exact⟨_,e1.symm,a1,a2⟩
theorem RG{l:List Obj}{o o':Obj}:fY (bN (l++ [o])) (l.length:Nat) o'.AF=bN (l++ [o']):=by
 rw[fY,if_neg (by rw[fN];simp;omega),aam,bN,<-List.map_set,adT _ _ (aah _)]
 simp[bN]
def Wx:Ob:=⟨2,[],[],⟨#[]⟩,-1,noD,-1,1,0⟩
theorem UY{m:Mem}{Z:Nat->Prop}{p:Option Nat}(hz:Z 2)(h:m[2]? =some (.row 9 [[.ai (.val (.int .i64 2)),.bv,.bv,.ai (.val (.string ⟨#[]⟩)),.ai (.val (.int .i64 (-1))),.bv,.ai (.val (.int .i64 (-1))),.ai (.val (.int .i64 1)),.ai (.val (.int .i64 0))]])):
  cV m Z p (.row 2 9 0 none) (iH [Wx]):=by
 refine cV.row 2 9 0 none _ [Wx.enc] hz h rfl (λi cs es h1 h2=>?_) (λi cs es j c d h1 h2 h3 h4=>?_)
 .match i,h1,h2 with
  |0,h1,h2=>cases h1;cases h2;rfl
  |n+1,h1,h2=>simp at h1
 .match i,h1,h2 with
  |0,h1,h2=>
   cases h1;cases h2
   match j,h3,h4 with
   |0,h3,h4=>cases h3;cases h4;exact .ai _
   |1,h3,h4=>cases h3;cases h4;exact .bv 1
   |2,h3,h4=>cases h3;cases h4;exact .bv 2
   |3,h3,h4=>cases h3;cases h4;exact .ai _
   |4,h3,h4=>cases h3;cases h4;exact .ai _
   |5,h3,h4=>cases h3;cases h4;exact .no
   |6,h3,h4=>cases h3;cases h4;exact .ai _
   |7,h3,h4=>cases h3;cases h4;exact .ai _
   |8,h3,h4=>cases h3;cases h4;exact .ai _
   |n+9,h3,h4=>simp at h3
  |n+1,h1,h2=>simp at h1
def I1:List (List Dt):=[[.val (.string ⟨#[97]⟩)],[.val (.string ⟨#[98]⟩)],[.val (.string ⟨#[99]⟩)],[.val (.string ⟨#[100]⟩)]]
theorem YX(z:Nat)(h:z<4):∃s:ByteArray,cH I1 (z:Nat)=some [.val (.string s)]/\s.size<=1:=by
 match z,h with
 |0,_=>exact⟨_,rfl,by decide⟩
 |1,_=>exact⟨_,rfl,by decide⟩
 |2,_=>exact⟨_,rfl,by decide⟩
 |3,_=>exact⟨_,rfl,by decide⟩
theorem YY(z:Nat)(h:z<6):∃s:ByteArray,dp [[CC.ai (.val (.string ⟨#[97]⟩))],[.ai (.val (.string ⟨#[98,47,99]⟩))],[.ai (.val (.string ⟨#[46,46]⟩))],[.ai (.val (.string ⟨#[47,97]⟩))],[.ai (.val (.string ⟨#[46,46,47,98]⟩))],[.ai (.val (.string ⟨#[]⟩))]] z=some [.ai (.val (.string s))]:=by
 match z,h with
 |0,_=>exact⟨_,rfl⟩
 |1,_=>exact⟨_,rfl⟩
 |2,_=>exact⟨_,rfl⟩
 |3,_=>exact⟨_,rfl⟩
 |4,_=>exact⟨_,rfl⟩
 |5,_=>exact⟨_,rfl⟩
structure YZ where
 k:Nat
 ds:List Int
structure ahp where
 i:Nat
 b:List Int
 l:List Obj
theorem FY(b:List Int)(hb:uN b):body prog c9 [.rv (.one (.ai (.sl 1 (dH b))))] [] KPN:=by
 refine b7 b hb 8 1 rfl λq b1 wt hq _ _=>?_
 have hq:=hq om;refine ax (λ(a:ahp)=>a.i<=q/\uN a.b/\GB 0 a.l/\a.l.length<=1+a.i) [2,3,41] (λa=>[(42,am .i64 (a.i:Nat)),(4,gE (bN a.l)),(5,.rv (.one (.ai (.sl 1 I1))))]) (λa=>[.var z3,ru a.b]) (λa=>q-a.i) ⟨0,b1,[jA]⟩ ⟨aad _,wt,UX,aG⟩ ?_ (λa ha=>?_)
 .refine View.o 4 [0,1] [2,3] ?_ ?_
  .repeat(first|exact .nil|refine .aL ?_|refine .eq rfl ?_|refine .put (.rv (.one (.dO (UY (Z:=λk=>bh [2,3] k=true) rfl rfl)))) ?_|refine .put (.rv (.one (.dO (cV.db (Z:=λk=>bh [2,3] k=true) (ds:=I1) rfl rfl 0 none)))) ?_)
  .exact .au
 obtain⟨i,b2,l⟩:=a;obtain⟨hi,lY,g,hl⟩:=ha;have hi:i<=q:=hi;have lY:uN b2:=lY;have g:GB 0 l:=g;have hl:l.length<=1+i:=hl;refine an (λh=>?_) (λh=>?_)
 .have ay:i<q:=by have h:(i:Int)<(q:Int):=h;omega
  refine b7 b2 lY 3 1 rfl λx b3 Qg hx _ _=>?_
  apply ac5 (P:=λbx o=>uN bx/\M7 0 o)
  .intro tail;refine bc (λh1=>?_) (λh1=>?_)
   .refine b7 b3 Qg 5 1 rfl λy b4 XY hy _ _=>?_
    have hy:=hy om;refine bS (by simp[ack];omega) ?_
    obtain⟨o,ho⟩:∃o:Obj,o=⟨IntKind.i64.wrap (1+(x:Int)),bt (dH [100,97,116,97]) 0 (some y),[],⟨#[]⟩,-1,[],-1,0,0⟩:=⟨_,rfl⟩;refine bW [2,3,4,5,6,41,42] [] [.var z3,ru b4,.var (o.AF.enc.map .ai)] (View.o1 4 [0,1,2] [3] ?_) ?_
    .subst ho;exact .pe rfl rfl rfl (.pt rfl rfl (.eq rfl (gz _)) (.pt rfl rfl (dC.var (.cons (.aO (.ai _)) (.cons (.dO (cV.db (Z:=λk=>bh [3] k=true) rfl rfl 0 (some y))) (.cons (.dO (.bv 2)) (.cons (.aO (.ai _)) (.cons (.aO (.ai _)) (.cons (.dO .no) (.cons (.aO (.ai _)) (.cons (.aO (.ai _)) (.cons (.aO (.ai _)) .nil)))))))))) (.nil _)))
    exact tail b4 o ⟨XY,by subst ho;exact YW (hx om) ⟨[100,97,116,97].take y,by simp[bt,dH,adQ]⟩ (by simp[bt,dH];omega)⟩
   refine bc (λh3=>?_) (λh3=>?_)
   .refine b7 b3 Qg 6 1 rfl λz b4 XY hz _ _=>?_
    have hz:=hz om;refine af (bL (k:=z) (by simp[lenOf];omega)) ?_
    obtain⟨s,hs⟩:=YY z om;refine af hs ?_;obtain⟨o,ho⟩:∃o:Obj,o=⟨IntKind.i64.wrap (1+(x:Int)),[],[],s,-1,[],-1,0,0⟩:=⟨_,rfl⟩;refine bW [2,3,4,5,6,41,42] [] [.var z3,ru b4,.var (o.AF.enc.map .ai)] (View.o1 4 [0,1,2] [] ?_) ?_
    .subst ho;exact .pe rfl rfl rfl (.pt rfl rfl (.eq rfl (gz _)) (.pt rfl rfl (dC.var (.cons (.aO (.ai _)) (.cons (.dO (.bv 1)) (.cons (.dO (.bv 2)) (.cons (.aO (.ai _)) (.cons (.aO (.ai _)) (.cons (.dO .no) (.cons (.aO (.ai _)) (.cons (.aO (.ai _)) (.cons (.aO (.ai _)) .nil)))))))))) (.nil _)))
    exact tail b4 o ⟨XY,by subst ho;exact YW (hx om) ⟨[],rfl⟩ aG⟩
   .obtain⟨o,ho⟩:∃o:Obj,o=⟨IntKind.i64.wrap (1+(x:Int)),[],[],⟨#[]⟩,-1,[],-1,0,0⟩:=⟨_,rfl⟩;refine bW [2,3,4,5,6,41,42] [] [.var z3,ru b3,.var (o.AF.enc.map .ai)] (View.o1 3 [0,1,2] [] ?_) ?_
    .subst ho;exact .pe rfl rfl rfl (.pt rfl rfl (.eq rfl (gz _)) (.pt rfl rfl (dC.var (.cons (.aO (.ai _)) (.cons (.dO (.bv 1)) (.cons (.dO (.bv 2)) (.cons (.aO (.ai _)) (.cons (.aO (.ai _)) (.cons (.dO .no) (.cons (.aO (.ai _)) (.cons (.aO (.ai _)) (.cons (.aO (.ai _)) .nil)))))))))) (.nil _)))
    exact tail b3 o ⟨Qg,by subst ho;exact YW (hx om) ⟨[],rfl⟩ aG⟩
  intro bx o hbo;obtain⟨hbx,hN⟩:=hbo;have lQ:(l++ [o]).length=l.length+1:=aG;refine Dk g.nz om o ?_;have g':=g.ve om hN;refine ax (λ(a:YZ)=>a.k<=l.length/\a.ds.length<=a.k/\(0<a.k->a.ds≠[])) [2,3,4,5,6,7,8,41,42,75,76] (λa=>[(77,am .i64 (a.k:Nat)),(10,.rv (.one (.row 3 1 0 none)))]) (λa=>[.var z3,ru bx,.var (o.AF.enc.map .ai),.row 1 (aa (a.ds.map λd:Int=>[Dt.val (.int .i64 d)]))]) (λa=>l.length-a.k) ⟨0,[]⟩ ⟨aad _,aad _,λh=>absurd h (aez 0)⟩ ?_ (λa ha=>?_)
  .refine View.trans (View.bv 10 1 3 rfl rfl rfl) (View.o1 4 [0,1,2,3] [] ?_)
   .exact .au
  obtain⟨j,ds⟩:=a;obtain⟨hj,lF,Ks⟩:=ha;have hj:j<=l.length:=hj;have lF:ds.length<=j:=lF;have Ks:0<j->ds≠[]:=Ks;refine an (λh=>?_) (λh=>?_)
  .have bV:j<l.length:=by have h:(j:Int)<(((bN l).map Ob.enc).length:Int):=h;rw[P2,fN]at h;omega
   have mC:j=0->l[j].ah=2:=by intro h0;subst h0;obtain⟨r,hr,wQ⟩:=g.ki.aA;have hr:l[0]? =some r:=hr;rw[xm bV]at hr;cases hr;exact wQ
   have rV:=fw (l:=bN l) (k:=j) (by rw[fN];exact bV)
   rw[Kz bV]at rV;refine af rV ?_;refine bc (λh2=>?_) (λh2=>?_)
   .refine⟨by have e:=aJ (ds.map λd:Int=>[Dt.val (.int .i64 d)]);simp only[P2]at e;simp only[bt,aaY,acg];omega,?_⟩
    refine⟨⟨j+1,ds++ [(j:Int)]⟩,⟨bV,by simp;omega,λ_=>aG⟩,(show l.length-(j+1)<l.length-j by omega),View.o2 7 [0,1,2,6] [] ?_⟩
    .exact .pe rfl rfl rfl (.pt rfl rfl (.eq rfl (gz _)) (.pe rfl rfl rfl (.pt rfl rfl (.bg (by simp[bt,aa])) (.nil _))))
   .refine⟨⟨j+1,ds⟩,⟨bV,Nat.le_succ_of_le lF,λ_=>Ks (Nat.pos_of_ne_zero λh0=>h2 (mC h0))⟩,(show l.length-(j+1)<l.length-j by omega),View.o2 5 [0,1,2,3] [] ?_⟩
    .exact .au
  .have sB:j=l.length:=by have h:¬(j:Int)<(((bN l).map Ob.enc).length:Int):=h;rw[P2,fN]at h;omega
   have NM:0<l.length:=by obtain⟨r,hr,_⟩:=g.ki.aA;exact(Mp.1 hr).1
   have Vs:0<ds.length:=by
    have:=Ks om;cases ds with
    |nil=>exact absurd rfl this
    |cons=>simp
   refine b7 bx hbx _ 1 rfl λz1 b5 hb5 Li _ _=>?_
   have Li:z1<ds.length:=by
    have e:=aJ (ds.map λd:Int=>[Dt.val (.int .i64 d)])
    simp only[P2]at e;have Li:(1:Int)<=(((aa (ds.map λd:Int=>[Dt.val (.int .i64 d)])).length:Nat):Int)->(z1:Int)<(((aa (ds.map λd:Int=>[Dt.val (.int .i64 d)])).length:Nat):Int):=Li
    rw[e]at Li;have:=Li om;omega
   refine⟨trivial,?_⟩;have m9:dW (z1:Int) (lenOf (aa (ds.map λd:Int=>[Dt.val (.int .i64 d)])).length 0 none)=some z1:=bL (by show z1<(aa (ds.map λd:Int=>[Dt.val (.int .i64 d)])).length;rw[aJ,P2];exact Li)
   have RH:dp (aa (ds.map λd:Int=>[Dt.val (.int .i64 d)])) z1=some [.ai (.val (.int .i64 ds[z1]))]:=bq (λd:Int=>[Dt.val (.int .i64 d)]) ds Li
   refine af m9 ?_;refine af RH ?_;refine b7 b5 hb5 4 1 rfl λz2 b6 hb6 Vw _ _=>?_
   have Vw:=Vw om;refine⟨⟨af RH rfl,af m9 rfl,trivial⟩,?_⟩;obtain⟨s,hs,hss⟩:=YX z2 om;refine af hs ?_;refine Nv g' _ s om l.length (λq hq=>by simp at hq;subst hq;exact(hN.nw l).l) λy e hy=>?_
   refine⟨trivial,?_⟩;refine bc (λhe=>?_) (λhe=>?_)
   .obtain⟨y',rfl,gy,hyl⟩:=hy he;refine⟨⟨i+1,b6,y'⟩,⟨ay,hb6,gy,(show y'.length<=1+(i+1) by omega)⟩,(show q-(i+1)<q-i by omega),View.o2 4 [0,1] [] ?_⟩
    .exact .au
   .refine bc (λrK=>?_) (λrK=>?_)
    .have rV:=fw (l:=bN (l++ [o])) (k:=l.length) (by rw[fN];omega)
     rw[Kz om,List.getElem_append_right (aah _)]at rV;simp only[aea,List.getElem_cons_zero]at rV;refine af rV ?_;refine fS (bN (l++ [o])) (by rw[fN];omega) l.length (by rw[fN];omega) (Obj.AF {o with up:=(l.length:Int)}) ?_
     rw[RG];refine⟨⟨i+1,b6,l++ [{o with up:=(l.length:Int)}]⟩,⟨ay,hb6,g.self om hN,(show(l++ [{o with up:=(l.length:Int)}]).length<=1+(i+1) by simp;omega)⟩,(show q-(i+1)<q-i by omega),View.o2 5 [0,1] [] ?_⟩
     .exact .au
    .refine⟨⟨i+1,b6,l++ [o]⟩,⟨ay,hb6,g',(show(l++ [o]).length<=1+(i+1) by omega)⟩,(show q-(i+1)<q-i by omega),View.o2 4 [0,1] [] ?_⟩
     .exact .au
 .refine bW [2,3,4] [] [.var z3,ru b2] (View.o1 2 [0,1] [] ?_) ?_
  .exact .au
  exact UW b2 lY l g om
theorem Nw(b:List Int)(hb:uN b){m:Mem}{K:CV->Mem->Prop}(h:∀k:Kr,Kn.KI k->K (cA k.l k.ops k.ps) m):aq prog 9 [.rv (.one (.ai (.sl 1 (dH b))))] m K:=by
 refine aT (K0:=λr m=>(∃k:Kr,Kn.KI k/\r=cA k.l k.ops k.ps)/\m=[]) (bP (cN func9 l9 (FY b hb)) λr m1⟨r',m',hv,hp,hm⟩=>⟨r',m',hv,hp,hm⟩) (by simp[CV.cY,CC.cY,RV.cY]) λr m1 hr=>?_
 obtain⟨⟨k,hk,rfl⟩,rfl⟩:=hr;exact⟨_,cM.self rfl,h k hk⟩
def c57:LF:=Cq prog Tryz.f57 [] []
def c59:LF:=Cq prog f59 [] [[(eL 8 0 (.cons 8 (some []) .nil))]]
theorem l57:bA prog Tryz.f57=some c57:=by kernel_rfl
theorem l59:bA prog f59=some c59:=by kernel_rfl
def cW(l:List Obj)(z:Int)(L:List Nat):List Nat:=if(oS l z 0&& !nD L z)=true then L++ [z.toNat]else L
def io(l:List Obj)(z:Int)(L:List Nat)(bX:Bool):Bool:=if(oS l z 0&& !nD L z)=true then true else bX
theorem Dm{l:List Obj}{z:Int}:oS l z 0=true↔∃n,vO l z n:=by
 unfold oS vO;constructor
 .intro h;by_cases h0:z>=0
  .obtain⟨n,rfl⟩:∃n:Nat,z=n:=⟨z.toNat,om⟩;by_cases hn:n<l.length
   .simp[hn]at h;exact⟨n,rfl,l[n],xm hn,h⟩
   .simp[hn]at h
  .simp[h0]at h
 .rintro⟨n,rfl,o,ho,hk⟩;obtain⟨hn,rfl⟩:=Mp.1 ho;simp[hn,hk]
def kB(l:List Obj)(ops:List aV)(ps:List aM):Bk:= .var [.ai (cX l),.ai (de ops),.ai (dM ps)]
def iC:Bk:= .var [.map 1]
def gk(b:Bool):Bk:= .var [.ai (.val (.bool b))]
theorem I2(l:List Obj)(ops:List aV)(ps:List aM)(z:Int)(L:List Nat)(bX:Bool):
  body prog c57 [am .i64 z,.rv (.one (.ptr 0 0)),.rv (.one (.ptr 2 0)),.rv (.one (.ptr 3 0))] [kB l ops ps,.mp (L.map gd),iC,gk bX]
   (λr m=>r= .bI []/\m=[kB l ops ps,.mp ((cW l z L).map gd),iC,gk (io l z L bX)]):=by
 refine aa7 l z 0 ?_;cases hI:oS l z 0 with
 |false=>
  have e1:cW l z L=L:=by rw[cW,hI];rfl
  have e2:io l z L bX=bX:=by rw[io,hI];rfl
  rw[e1,e2];exact⟨rfl,rfl⟩
 |true=>
  refine af (rB z L) ?_;cases hN:nD L z with
  |true=>
   have e1:cW l z L=L:=by rw[cW,hI,hN];rfl
   have e2:io l z L bX=bX:=by rw[io,hI,hN];rfl
   rw[e1,e2];exact⟨rfl,rfl⟩
  |false=>
   have e1:cW l z L=L++ [z.toNat]:=by rw[cW,hI,hN];rfl
   have e2:io l z L bX=true:=by rw[io,hI,hN];rfl
   rw[e1,e2];refine af (Qb z L hN) ?_;obtain⟨n,rfl,_⟩:=Dm.1 hI;refine⟨rfl,?_⟩;rw[abT];rfl
theorem FZ(l:List Obj)(ops:List aV)(ps:List aM)(z:Int)(L:List Nat)(bX:Bool)(R:Mem){K:CV->Mem->Prop}(h:K (.bI []) (kB l ops ps:: .mp ((cW l z L).map gd)::iC::gk (io l z L bX)::R)):
  aq prog 57 [am .i64 z,.rv (.one (.ptr 0 0)),.rv (.one (.ptr 2 0)),.rv (.one (.ptr 3 0))] (kB l ops ps:: .mp (L.map gd)::iC::gk bX::R) K:=by
 refine bi [0,1,2,3] (R.length+4) rfl rfl rfl (by simp[eP,Nat.blt]) (args0:=[am .i64 z,.rv (.one (.ptr 0 0)),.rv (.one (.ptr 2 0)),.rv (.one (.ptr 3 0))]) rfl (m0:=[kB l ops ps,.mp (L.map gd),iC,gk bX]) (λi b' hi=>?_)
  (aR func57 l57 (I2 l ops ps z L bX)) (λr m1 hr=>?_)
 .match i,hi with
  |0,hi=>cases hi;exact .inr ⟨λh=>h,_,rfl,.eq rfl (by simp[kB])⟩
  |1,hi=>cases hi;exact .inr ⟨λh=>h,_,rfl,.eq (dn L) aG⟩
  |2,hi=>cases hi;exact .inr ⟨λh=>h,_,rfl,.eq rfl (by simp[iC])⟩
  |3,hi=>cases hi;exact .inr ⟨λh=>h,_,rfl,.eq rfl (by simp[gk])⟩
  |n+4,hi=>simp at hi
 .obtain⟨rfl,rfl⟩:=hr;refine⟨aah _,?_⟩;show K (.bI []) (kB l ops ps::(Bk.mp ((cW l z L).map gd)).aO (sg [0,1,2,3] (R.length+4))::iC::gk (io l z L bX)::gC R []);rw[dn,cw,adn];exact h
def ek(ops:List aV)(z:Int):Int:=if 0<=z then(match ops[z.toNat]? with|some o=>o.obj|none=>-1)else -1
theorem Nx(l:List Obj)(L:List Nat)(bX:Bool):cW l (-1) L=L/\io l (-1) L bX=bX:=by
 have:oS l (-1) 0=false:=by simp[oS]
 constructor
 .rw[cW,this];rfl
 .rw[io,this];rfl
def B2:Bk:= .var [.fn 57 [0,2,3]]
theorem Ny(l:List Obj)(ops:List aV)(ps:List aM)(z rts:Int)(L:List Nat)(bX:Bool):
  body prog c59 [.rv (.agg [.ai (.val (.int .i64 z)),.ai (.val (.int .i64 rts))]),.rv (.one (.ptr 0 0)),.rv (.one (.ptr 4 0))] [kB l ops ps,.mp (L.map gd),iC,gk bX,B2]
   (λr m=>r= .bI []/\∃x,m=[kB l ops ps,.mp ((cW l (ek ops z) L).map gd),iC,gk (io l (ek ops z) L bX),B2,x]):=by
 obtain⟨n1,n2⟩:=Nx l L bX;refine an (λh0=>?_) (λh0=>?_)
 .obtain⟨n,rfl⟩:∃n:Nat,z=n:=⟨z.toNat,om⟩;refine an (λh=>?_) (λh=>?_)
  .have ay:n<ops.length:=by have h:(n:Int)<((ops.map aV.enc).length:Int):=h;rw[P2]at h;omega
   have hz:ek ops (n:Int)=ops[n].obj:=by rw[ek,if_pos om,aam,xm ay]
   rw[hz];refine af (nC ay) ?_;refine FZ l ops ps ops[n].obj L bX [B2,.var [.ai (.val (.int .i64 (n:Nat))),.ai (.val (.int .i64 rts))]] ?_;exact⟨trivial,rfl,_,rfl⟩
  .have eO:ops.length<=n:=by have h:¬(n:Int)<((ops.map aV.enc).length:Int):=h;rw[P2]at h;omega
   have hz:ek ops (n:Int)= -1:=by rw[ek,if_pos om,aam,abk eO]
   rw[hz,n1,n2];exact⟨rfl,_,rfl⟩
 .have hz:ek ops z= -1:=by rw[ek,if_neg om]
  rw[hz,n1,n2];exact⟨rfl,_,rfl⟩
theorem KV(l:List Obj)(ops:List aV)(ps:List aM)(z rts:Int)(L:List Nat)(bX:Bool)(R:Mem){K:CV->Mem->Prop}(h:K (.bI []) (kB l ops ps:: .mp ((cW l (ek ops z) L).map gd)::iC::gk (io l (ek ops z) L bX)::B2::R)):
  aq prog 59 [.rv (.agg [.ai (.val (.int .i64 z)),.ai (.val (.int .i64 rts))]),.rv (.one (.ptr 0 0)),.rv (.one (.ptr 4 0))] (kB l ops ps:: .mp (L.map gd)::iC::gk bX::B2::R) K:=by
 refine bi [0,1,2,3,4] (R.length+5) rfl rfl rfl (by simp[eP,Nat.blt]) (args0:=[.rv (.agg [.ai (.val (.int .i64 z)),.ai (.val (.int .i64 rts))]),.rv (.one (.ptr 0 0)),.rv (.one (.ptr 4 0))]) rfl (m0:=[kB l ops ps,.mp (L.map gd),iC,gk bX,B2]) (λi b' hi=>?_)
  (K0:=λr m=>r= .bI []/\m=[kB l ops ps,.mp ((cW l (ek ops z) L).map gd),iC,gk (io l (ek ops z) L bX),B2])
  (bP (aR func59 l59 (Ny l ops ps z rts L bX)) (λr m1 hr=>?_)) (λr m1 hr=>?_)
 .match i,hi with
  |0,hi=>cases hi;exact .inr ⟨λh=>h,_,rfl,.eq rfl (by simp[kB])⟩
  |1,hi=>cases hi;exact .inr ⟨λh=>h,_,rfl,.eq (dn L) aG⟩
  |2,hi=>cases hi;exact .inr ⟨λh=>h,_,rfl,.eq rfl (by simp[iC])⟩
  |3,hi=>cases hi;exact .inr ⟨λh=>h,_,rfl,.eq rfl (by simp[gk])⟩
  |4,hi=>cases hi;exact .inr ⟨λh=>h,_,rfl,.eq rfl (by simp[B2])⟩
  |n+5,hi=>simp at hi
 .obtain⟨rfl,x,rfl⟩:=hr;refine⟨.bI [],[kB l ops ps,.mp ((cW l (ek ops z) L).map gd),iC,gk (io l (ek ops z) L bX),B2],View.o 6 [0,1,2,3,4] [] (.eq rfl .nil) ?_,rfl,rfl⟩;exact .pt rfl rfl (.eq rfl (by simp[kB])) (.pt rfl rfl (.eq (dn _) aG) (.pt rfl rfl (.eq rfl (by simp[iC])) (.pt rfl rfl (.eq rfl (by simp[gk])) (.pt rfl rfl (.eq rfl (by simp[B2])) (.nil _)))))
 .obtain⟨rfl,rfl⟩:=hr;refine⟨aah _,?_⟩;show K (.bI []) (kB l ops ps::(Bk.mp ((cW l (ek ops z) L).map gd)).aO (sg [0,1,2,3,4] (R.length+5))::iC::gk (io l (ek ops z) L bX)::B2::gC R []);rw[dn,cw,adn];exact h
structure I3(l:List Obj)(ops:List aV)(ps:List aM)(L:List Nat):Prop where
 nd:L.Nodup
 val:∀n,n∈L->vO l (n:Int) n
 aA:∀n,vO l 0 n->n∈L
 iO:∀RO RP,Cl l ops RO RP->tZ l ops ps RO RP->∀n,n∈L->RO n
structure iM(l:List Obj)(ops:List aV)(ps:List aM)(L:List Nat):Prop where
 IJ:I3 l ops ps L
 cp:∀(p:Nat)pr,ps[p]? =some pr->pr.aF=true->∀s,s∈pr.ap->s.has=true->∀n,vO l (ek ops s.ct) n->n∈L
 ce:∀(i:Nat)o,i∈L->l[i]? =some o->∀z,sE o z->∀n,vO l z n->n∈L
 cq:∀(i:Nat)o,i∈L->l[i]? =some o->∀q,q∈o.aj->q.has=true->∀n,vO l (ek ops q.ct) n->n∈L
def RI(N:Nat)(L:List Nat):Nat:=((List.range N).filter λi=>decide (i∉L)).length
theorem RJ{N n:Nat}{L:List Nat}(hn:n<N)(h:n∉L):RI N (L++ [n])<RI N L:=by
 have e:((List.range N).filter λi=>decide (i∉L++ [n]))=((List.range N).filter λi=>decide (i∉L)).filter λi=>decide (i≠n):=by rw[List.filter_filter];apply afz;intro x _;simp only[abJ,acn,not_or,Bool.decide_and,ne_eq];rw[Bool.and_comm]
 rw[RI,e,RI,List.length_filter_lt_length_iff_exists];exact⟨n,by simp[hn,h],aG⟩
structure vW(l:List Obj)(ops:List aV)(ps:List aM)(L0 L:List Nat)(bX:Bool):Prop where
 IJ:I3 l ops ps L
 sub:∀n,n∈L0->n∈L
 eq:bX=false->L=L0
 ns:bX=true->RI l.length L<RI l.length L0
theorem mq{l:List Obj}{z:Int}{L:List Nat}{n:Nat}(h:n∈L):n∈cW l z L:=by
 rw[cW];split
 .simp[h]
 .exact h
theorem zN{l:List Obj}{z:Int}{L:List Nat}{n:Nat}(h:vO l z n):n∈cW l z L:=by
 have hI:oS l z 0=true:=Dm.2 ⟨n,h⟩;have hz:=h.1;rw[cW,hI];cases hN:nD L z with
 |true=>
  rw[hz]at hN;exact fT.1 hN
 |false=>
  simp[hz]
theorem vW.mark{l:List Obj}{ops:List aV}{ps:List aM}{L0 L:List Nat}{bX:Bool}{z:Int}(h:vW l ops ps L0 L bX)(hz:∀RO RP,Cl l ops RO RP->tZ l ops ps RO RP->(∀m,m∈L->RO m)->∀n,vO l z n->RO n):vW l ops ps L0 (cW l z L) (io l z L bX):=by
 by_cases hc:(oS l z 0&& !nD L z)=true
 .have e1:cW l z L=L++ [z.toNat]:=if_pos hc;have e2:io l z L bX=true:=if_pos hc;have hc:oS l z 0=true/\nD L z=false:=by simpa using hc
  obtain⟨n,hn⟩:=Dm.1 hc.1;have Yp:z=n:=hn.1;have hnn:n<l.length:=by obtain⟨_,o,ho,_⟩:=hn;exact(Mp.1 ho).1
  have Bd:n∉L:=λhm=>by have:=fT.2 hm;rw[<-Yp,hc.2]at this;cases this
  have e3:z.toNat=n:=om;rw[e1,e2,e3];have XZ:RI l.length (L++ [n])<RI l.length L:=RJ hnn Bd;refine⟨⟨?_,λm hm=>?_,λm hm=>by simp[h.IJ.aA m hm],λRO RP ia hr m hm=>?_⟩,λm hm=>by simp[h.sub m hm],(λh=>by cases h),λ_=>?_⟩
  .rw[afv];refine⟨h.IJ.nd,aG,λa ha b hb=>?_⟩
   have:b=n:=by simpa using hb
   intro e;rw[e,this]at ha;exact Bd ha
  .rcases abJ.1 hm with hm|hm
   .exact h.IJ.val m hm
   .have:m=n:=by simpa using hm
    subst this;rw[Yp]at hn;exact hn
  .rcases abJ.1 hm with hm|hm
   .exact h.IJ.iO RO RP ia hr m hm
   .have:m=n:=by simpa using hm
    subst this;exact hz RO RP ia hr (λx hx=>h.IJ.iO RO RP ia hr x hx) m hn
  .cases hmr:bX with
   |true=>have:=h.ns hmr;omega
   |false=>rw[<-h.eq hmr];exact XZ
 .have e1:cW l z L=L:=if_neg hc;have e2:io l z L bX=bX:=if_neg hc;rw[e1,e2];exact h
def p8(l:List Obj)(S:Int->Prop)(L:List Nat):Prop:=∀z,S z->∀n,vO l z n->n∈L
theorem p8.mark{l:List Obj}{S S':Int->Prop}{L:List Nat}{z:Int}(h:p8 l S L)(hS:∀y,S' y->S y\/y=z):p8 l S' (cW l z L):=λy hy n hn=>by
 rcases hS y hy with h1|rfl
 .exact mq (h y h1 n hn)
 .exact zN hn
theorem p8.mono{l:List Obj}{S S':Int->Prop}{L:List Nat}(h:p8 l S L)(hS:∀y,S' y->S y):p8 l S' L:=λy hy n hn=>h y (hS y hy) n hn
def S1(ops:List aV)(ps:List aM)(p j:Nat)(z:Int):Prop:=∃(i:Nat)(pr:aM)(k:Nat)(s:dX),ps[i]? =some pr/\pr.aF=true/\pr.ap[k]? =some s/\s.has=true/\(i<p\/i=p/\k<j)/\z=ek ops s.ct
def S2(l:List Obj)(ops:List aV)(ps:List aM)(L0:List Nat)(i je jq:Nat)(z:Int):Prop:=
 S1 ops ps ps.length 0 z\/∃(i':Nat)(o:Obj),i'∈L0/\l[i']? =some o/\
  ((∃(k:Nat)(nm:ByteArray),o.ag[k]? =some (bT (nm,z))/\(i'<i\/i'=i/\k<je))\/∃(k:Nat)(q:cJ),o.aj[k]? =some q/\q.has=true/\(i'<i\/i'=i/\k<jq)/\z=ek ops q.ct)
theorem zS{l:List Obj}{ops:List aV}{RO RP:Nat->Prop}{z:Int}(ia:Cl l ops RO RP)(h:∀c,vP ops z c->RP c):∀n,vO l (ek ops z) n->RO n:=by
 intro n hn;unfold ek at hn;split at hn
 .rename_i h0;cases ho:ops[z.toNat]? with
  |none=>
   rw[ho]at hn;have:(-1:Int)=n:=hn.1;omega
  |some o=>
   rw[ho]at hn;have ay:=(Mp.1 ho).1;exact ia.p z.toNat o (h z.toNat ⟨om,ay⟩) ho n hn
 .have:=hn.1;omega
theorem Uj(l:List Obj)(ops:List aV)(ps:List aM)(L:List Nat)(b:Bool)(n:Nat)(R:Mem):b8 (sg [0,1,2,3,4] n) (kB l ops ps:: .mp (L.map gd)::iC::gk b::B2::R) (λk=>bh [] k=true) 0 [kB l ops ps,.mp (L.map gd),iC,gk b,B2]:=
 .pt rfl rfl (.eq rfl (by simp[kB])) (.pt rfl rfl (.eq (dn _) aG) (.pt rfl rfl (.eq rfl (by simp[iC])) (.pt rfl rfl (.eq rfl (by simp[gk])) (.pt rfl rfl (.eq rfl (by simp[B2])) (.nil _)))))
theorem UZ(l:List Obj)(ops:List aV)(ps:List aM)(L:List Nat)(b:Bool)(ds:List Dt)(n:Nat)(R:Mem):b8 (sg [0,1,2,3,4,5] n) (kB l ops ps:: .mp (L.map gd)::iC::gk b::B2:: .var (ds.map .ai)::R) (λk=>bh [] k=true) 0 [kB l ops ps,.mp (L.map gd),iC,gk b,B2,.var (ds.map .ai)]:=
 .pt rfl rfl (.eq rfl (by simp[kB])) (.pt rfl rfl (.eq (dn _) aG) (.pt rfl rfl (.eq rfl (by simp[iC])) (.pt rfl rfl (.eq rfl (by simp[gk])) (.pt rfl rfl (.eq rfl (by simp[B2])) (.pt rfl rfl (.lR rfl) (.nil _))))))
structure I4 where
 i:Nat
 L:List Nat
 bX:Bool
def M5(l:List Obj)(ops:List aV)(ps:List aM)(a:I4):Mem:=[kB l ops ps,.mp (a.L.map gd),iC,gk a.bX,B2]
def M6(l:List Obj)(ops:List aV)(ps:List aM)(ds:List Dt)(a:I4):Mem:=[kB l ops ps,.mp (a.L.map gd),iC,gk a.bX,B2,.var (ds.map .ai)]
def I5(l:List Obj)(ops:List aV)(ps:List aM)(r:CV)(m:Mem):Prop:=∃L,iM l ops ps L/\r= .rv (.one (.map 0))/\m=[.mp (L.map gd)]
theorem U0{ops:List aV}{ps:List aM}{z:Int}:¬S1 ops ps 0 0 z:=by rintro⟨i,pr,k,s,_,_,_,_,h,_⟩;omega
theorem KX{ops:List aV}{ps:List aM}{p j:Nat}{pr:aM}{s:dX}(hp:ps[p]? =some pr)(hs:pr.ap[j]? =some s){y:Int}(h:S1 ops ps p (j+1) y):S1 ops ps p j y\/(pr.aF=true/\s.has=true/\y=ek ops s.ct):=by
 obtain⟨i,RK,k,s',h1,h2,h3,h4,h5,h6⟩:=h;by_cases hk:i=p/\k=j
 .obtain⟨rfl,rfl⟩:=hk;rw[hp]at h1;cases h1;rw[hs]at h3;cases h3;exact .inr ⟨h2,h4,h6⟩
 .exact .inl ⟨i,RK,k,s',h1,h2,h3,h4,om,h6⟩
theorem U1{ops:List aV}{ps:List aM}{p:Nat}{pr:aM}(hp:ps[p]? =some pr){y:Int}(h:S1 ops ps (p+1) 0 y):S1 ops ps p pr.ap.length y:=by
 obtain⟨i,RK,k,s',h1,h2,h3,h4,h5,h6⟩:=h;refine⟨i,RK,k,s',h1,h2,h3,h4,?_,h6⟩;by_cases hi:i=p
 .subst hi;rw[hp]at h1;cases h1;exact .inr ⟨rfl,(Mp.1 h3).1⟩
 .exact .inl om
theorem Nz{l:List Obj}{ops:List aV}{ps:List aM}{p j:Nat}{pr:aM}{s:dX}(hp:ps[p]? =some pr)(hs:pr.ap[j]? =some s)(hl:pr.aF=true)(hh:s.has=true)(L:List Nat):
  ∀RO RP,Cl l ops RO RP->tZ l ops ps RO RP->(∀m,m∈L->RO m)->∀n,vO l (ek ops s.ct) n->RO n:=
 λRO RP ia hr _ n hn=>zS ia (λc hc=>hr.2 p pr hp hl s (Wm hs) hh c hc) n hn
theorem U2{l:List Obj}{ops:List aV}{ps:List aM}{L0:List Nat}{z:Int}(h:S2 l ops ps L0 0 0 0 z):S1 ops ps ps.length 0 z:=by
 rcases h with h|⟨i,o,_,_,⟨k,nm,_,h⟩|⟨k,q,_,_,h,_⟩⟩
 .exact h
 .omega
 .omega
theorem U3{l:List Obj}{ops:List aV}{ps:List aM}{L0:List Nat}{i:Nat}(hi:i∉L0){z:Int}(h:S2 l ops ps L0 (i+1) 0 0 z):S2 l ops ps L0 i 0 0 z:=by
 rcases h with h|⟨i',o,h1,h2,⟨k,nm,h3,h4⟩|⟨k,q,h3,h4,h5,h6⟩⟩
 .exact .inl h
 .refine .inr ⟨i',o,h1,h2,.inl ⟨k,nm,h3,?_⟩⟩;have:i'≠i:=λe=>hi (e▸h1)
  omega
 .refine .inr ⟨i',o,h1,h2,.inr ⟨k,q,h3,h4,?_,h6⟩⟩;have:i'≠i:=λe=>hi (e▸h1)
  omega
theorem Y0{l:List Obj}{ops:List aV}{ps:List aM}{L0:List Nat}{i k:Nat}{o:Obj}{nm:ByteArray}{y:Int}(ho:l[i]? =some o)(he:o.ag[k]? =some (bT (nm,y))){z:Int}(h:S2 l ops ps L0 i (k+1) 0 z):S2 l ops ps L0 i k 0 z\/z=y:=by
 rcases h with h|⟨i',o',h1,h2,⟨k',nm',h3,h4⟩|⟨k',q,h3,h4,h5,h6⟩⟩
 .exact .inl (.inl h)
 .by_cases hk:i'=i/\k'=k
  .obtain⟨rfl,rfl⟩:=hk;rw[ho]at h2;cases h2;rw[he]at h3;simp only[bT,abi,aek,Dt.val.injEq,Value.string.injEq,Value.int.injEq]at h3;exact .inr h3.2.1.2.symm
  .exact .inl (.inr ⟨i',o',h1,h2,.inl ⟨k',nm',h3,om⟩⟩)
 .exact .inl (.inr ⟨i',o',h1,h2,.inr ⟨k',q,h3,h4,h5,h6⟩⟩)
theorem RL{l:List Obj}{ops:List aV}{ps:List aM}{L0:List Nat}{i k e:Nat}{o:Obj}{q:cJ}(ho:l[i]? =some o)(he:o.aj[k]? =some q){z:Int}(h:S2 l ops ps L0 i e (k+1) z):S2 l ops ps L0 i e k z\/(q.has=true/\z=ek ops q.ct):=by
 rcases h with h|⟨i',o',h1,h2,⟨k',nm',h3,h4⟩|⟨k',q',h3,h4,h5,h6⟩⟩
 .exact .inl (.inl h)
 .exact .inl (.inr ⟨i',o',h1,h2,.inl ⟨k',nm',h3,h4⟩⟩)
 .by_cases hk:i'=i/\k'=k
  .obtain⟨rfl,rfl⟩:=hk;rw[ho]at h2;cases h2;rw[he]at h3;cases h3;exact .inr ⟨h4,h6⟩
  .exact .inl (.inr ⟨i',o',h1,h2,.inr ⟨k',q',h3,h4,om,h6⟩⟩)
theorem U4{l:List Obj}{ops:List aV}{ps:List aM}{L0:List Nat}{i:Nat}{o:Obj}(ho:l[i]? =some o){z:Int}(h:S2 l ops ps L0 (i+1) 0 0 z):S2 l ops ps L0 i o.ag.length o.aj.length z:=by
 rcases h with h|⟨i',o',h1,h2,⟨k',nm',h3,h4⟩|⟨k',q',h3,h4,h5,h6⟩⟩
 .exact .inl h
 .refine .inr ⟨i',o',h1,h2,.inl ⟨k',nm',h3,?_⟩⟩;by_cases hi:i'=i
  .subst hi;rw[ho]at h2;cases h2;exact .inr ⟨rfl,(Mp.1 h3).1⟩
  .omega
 .refine .inr ⟨i',o',h1,h2,.inr ⟨k',q',h3,h4,?_,h6⟩⟩;by_cases hi:i'=i
  .subst hi;rw[ho]at h2;cases h2;exact .inr ⟨rfl,(Mp.1 h3).1⟩
  .omega
theorem RM{l:List Obj}{ops:List aV}{ps:List aM}{L:List Nat}(h:I3 l ops ps L)(hd:p8 l (S2 l ops ps L l.length 0 0) L):iM l ops ps L:=by
 refine⟨h,λp pr hp hl s hs hh n hn=>?_,λi o hi ho z hz n hn=>?_,λi o hi ho q hq hh n hn=>?_⟩
 .obtain⟨k,hk⟩:=aag hs;exact hd _ (.inl ⟨p,pr,k,s,hp,hl,hk,hh,.inl (Mp.1 hp).1,rfl⟩) n hn
 .obtain⟨nm,hm⟩:=hz;obtain⟨k,hk⟩:=aag hm;exact hd _ (.inr ⟨i,o,hi,ho,.inl ⟨k,nm,hk,.inl (Mp.1 ho).1⟩⟩) n hn
 .obtain⟨k,hk⟩:=aag hq;exact hd _ (.inr ⟨i,o,hi,ho,.inr ⟨k,q,hk,hh,.inl (Mp.1 ho).1,rfl⟩⟩) n hn
end Go.Proofs.YtllkfpggoigbaaaGreatDoor
