/- Part 17 of 23. -/
import Derived.Test.YtllkfpggoigbaaaGreatDoorW11
import Derived.Test.YtllkfpggoigbaaaGreatDoorW12
import Derived.Test.YtllkfpggoigbaaaGreatDoorW16
set_option linter.unusedVariables false
set_option linter.unusedSimpArgs false
set_option maxRecDepth 100000
set_option maxHeartbeats 0
namespace Go.Proofs.YtllkfpggoigbaaaGreatDoor
open Proofs.Tryz
open Go.AM Go.ChangeShapes Go.WideShapes Go.ChangeAt Go.RowKit
namespace Kn
def Qx(k:Kr)(n:Nat)(obj rts:Int)(r:CV)(m:Mem):Prop:=∃r' m',View 0 ⟨[r],m⟩ ⟨[r'],m'⟩/\
 (((aK k n obj rts).2.2≠0/\r'= .bI [kn ua,cR 0,cR (aK k n obj rts).2.2]/\m'=[])\/
 ((aK k n obj rts).2.2=0/\r'= .bI [.agg [.row 0 9 0 none,.ai (de (aK k n obj rts).1.ops),.ai (dM (aK k n obj rts).1.ps)],cR (aK k n obj rts).2.1,cR 0]/\m'=[.row 9 (aa ((aK k n obj rts).1.l.map Obj.enc))]))
theorem t3V{Y:Nat->Nat}{m:Mem}{Z:Nat->Prop}{a a' b b' c c':RV}(h1:Ac Y m Z a a')(h2:Ac Y m Z b b')(h0:Ac Y m Z c c'):ta Y m Z (.bI [a,b,c]) (.bI [a',b',c']):=
 .bI rfl λi r r' e1 e2=>by
  match i,e1,e2 with
  |0,e1,e2=>cases e1;cases e2;exact h1
  |1,e1,e2=>cases e1;cases e2;exact h2
  |2,e1,e2=>cases e1;cases e2;exact h0
  |n+3,e1,e2=>simp at e1
theorem agv{Y:Nat->Nat}{m:Mem}{Z:Nat->Prop}{x y:Int}:ta Y m Z (.bI [.agg [.bv,.bv,.bv],cR x,cR y]) (.bI [kn ua,cR x,cR y]):=
 t3V (.agg rfl λi c c' h1 h2=>by
  match i,h1,h2 with
  |0,h1,h2=>cases h1;cases h2;exact .dO (.bv 9)
  |1,h1,h2=>cases h1;cases h2;exact .dO (.bv 2)
  |2,h1,h2=>cases h1;cases h2;exact .dO (.bv 4)
  |n+3,h1,h2=>simp at h1) (.one (.aO (.ai _))) (.one (.aO (.ai _)))
def Q18(k:Kr)(n:Nat)(obj rts:Int):Ex->St->Prop:=oi prog c81.mr (Qx k n obj rts)
theorem Fk{k:Kr}{n:Nat}{obj rts e:Int}{m:Mem}(h:aK k n obj rts=(ua,0,e))(he:e≠0):Qx k n obj rts (.bI [.agg [.bv,.bv,.bv],cR 0,cR e]) m:=by refine⟨_,[],View.of m.length [] [] rfl rfl rfl rfl rfl rfl (.put agv .nil) (.nil _),.inl ?_⟩;rw[h];exact⟨he,rfl,rfl⟩
theorem Qy(k:Kr)(l:List Obj)(O:List aV)(ps:List aM)(n i:Nat)(hn:n<ps.length)(hi:i<O.length)(obj fd rts:Int)(y:List dX)(h:aK k n obj rts=(⟨l,O.set i ⟨obj,0⟩,dV ps n y⟩,fd,0)):
  aw prog 0 G60 (Q18 k n obj rts)
   ⟨jD 74 [(1,am .i64 (n:Nat)),(2,am .i64 obj),(8,.rv (.one (.ptr 0 0))),(11,am .i64 (i:Nat)),(12,mI y),(13,am .i64 fd),(15,.rv (.one (.ptr 4 0)))],M60 l O ps⟩:=by
 refine af (CK hi) ?_;have ho:=bq aV.enc O hi;generalize O[i]=x at ho;obtain⟨xo,xa⟩:=x;refine af ho ?_;refine af (nV hn) ?_;have hp:=bq aM.enc ps hn;have jB:dV ps n y=ps.set n {ps[n]with ap:=y}:=by rw[dV,xm hn]
 rw[jB]at h;generalize ps[n]=z at hp h;obtain⟨aF,fenced,cd,ap⟩:=z;refine af hp ?_;refine⟨.bI [.agg [.row 0 9 0 none,.ai (de (O.set i ⟨obj,0⟩)),.ai (dM (ps.set n ⟨aF,fenced,cd,y⟩))],cR fd,cR 0],[.row 9 (aa (l.map Obj.enc))],
  View.o 5 [1] [2,3] (.put (t3V (.agg rfl λj c c' h1 h2=>?_) (.one (.aO (.ai _))) (.one (.aO (.ai _)))) .nil) (.pn rfl rfl rfl),.inr ⟨by rw[h],by rw[h],by rw[h]⟩⟩
 match j,h1,h2 with
 |0,h1,h2=>cases h1;cases h2;exact .aO (Y:=sg [1] 5) (.row 0 9 0 none)
 |1,h1,h2=>
  cases h1;cases h2;refine .dO (jy rfl (congrArg (λx=>some (Bk.row 2 x)) ?_))
  show aZ (aa (O.map aV.enc)) i ((aV.enc ⟨obj,0⟩).map .ai)=_;rw[br,aa,aa,acF,acF]
 |2,h1,h2=>
  cases h1;cases h2;refine .dO (jy rfl (congrArg (λx=>some (Bk.row 4 x)) ?_))
  show aZ (aa (ps.map aM.enc)) n ((aM.enc ⟨aF,fenced,cd,y⟩).map .ai)=_;rw[br,aa,aa,acF,acF]
 |n+3,h1,h2=>simp at h1
theorem Qz(k:Kr)(hk:dY k.l k.ops k.ps)(n:Nat)(hn:n<k.ps.length)(obj rts:Int)(i:Nat)(hi:i=dx k.ops)(NL:i<=k.ops.length)(k6:¬(Gj k.ops=none/\k.ops.length>=60)):
  aw prog 0 G30 (Q18 k n obj rts)
   ⟨jD 74 [(1,am .i64 (n:Nat)),(2,am .i64 obj),(3,am .i64 rts),(4,.rv (.one (.ptr 0 0))),(8,.rv (.one (.ptr 1 0))),(11,am .i64 (i:Nat))],[.var ((kC k.l k.ops k.ps).map .ai),.var [.bv,.bv,.bv]]⟩:=by
 have Gk:aP k.ps n=k.ps[n].ap:=by rw[aP,xm hn]
 have nT:=hk.sl _ (aaP hn);have XF:k.ops.length<=4194304:=hk.lo;have hS:aK k n obj rts=if(gP k.ps[n].ap (i:Nat) rts).2.2≠0 then(ua,0,(gP k.ps[n].ap (i:Nat) rts).2.2)
   else(⟨k.l,ko k.ops i ⟨obj,0⟩,dV k.ps n (gP k.ps[n].ap (i:Nat) rts).1⟩,(gP k.ps[n].ap (i:Nat) rts).2.1,0):=by
  rw[aK,if_neg k6,Gk,<-hi]
 refine af (fk hn) ?_;generalize k.ps[n].ap=S at nT hS;refine CT S om (i:Nat) rts ?_;generalize gP S (i:Nat) rts=A at hS;obtain⟨y,fd,e⟩:=A;refine bO (λhe=>?_) (λhe=>?_)
 .rw[if_pos he]at hS;exact Fk hS he
 have he:e=0:=he;subst he;rw[if_neg aG]at hS;refine jM k.l k.ops k.ps ⟨hk.ll,λo ho=>(hk.sm o ho).pZ⟩ hk.lo hk.lp hk.sl hk.ne ?_
 refine bc (λiD=>?_) (λiD=>?_)
 .have iD:i=k.ops.length:=by have iD:(i:Int)=((aa (k.ops.map aV.enc)).length:Int):=iD;rw[aJ,P2]at iD;omega
  have j9:ko k.ops i ⟨obj,0⟩=(k.ops++ [aV.mk 0 0]).set i ⟨obj,0⟩:=by rw[ko,if_pos iD,iD];simp
  rw[j9]at hS;refine⟨by simp only[bt,aJ,P2,aaY,acg];omega,?_⟩
  refine⟨_,View.o1 8 [1,2,7,4,5] [] ?_,Qy k k.l (k.ops++ [aV.mk 0 0]) k.ps n i hn (by simp;omega) obj fd rts y hS⟩
  .exact .pe rfl rfl rfl (.pr rfl rfl rfl (.pt rfl rfl (.bg (by simp[bt,aa,aV.enc])) (.pr rfl rfl rfl (.pm rfl rfl rfl))))
 .have ay:i<k.ops.length:=by have iD:¬(i:Int)=((aa (k.ops.map aV.enc)).length:Int):=iD;rw[aJ,P2]at iD;omega
  have j9:ko k.ops i ⟨obj,0⟩=k.ops.set i ⟨obj,0⟩:=by rw[ko,if_neg om]
  rw[j9]at hS;refine⟨_,View.o1 6 [1,2,3,4,5] [] ?_,Qy k k.l k.ops k.ps n i hn ay obj fd rts y hS⟩
  .exact .au
theorem Dc(k:Kr)(hk:dY k.l k.ops k.ps)(n:Nat)(hn:n<k.ps.length)(obj rts:Int):body prog c81 [cA k.l k.ops k.ps,am .i64 (n:Nat),am .i64 obj,am .i64 rts] [] (Qx k n obj rts):=by
 refine J7 k.ops hk.lo ?_;have XF:k.ops.length<=4194304:=hk.lo;cases ho:Gj k.ops with
 |none=>
  have XG:NU k.ops= -1:=by rw[NU,ho]
  have PT:dx k.ops=k.ops.length:=by rw[dx,ho];rfl
  rw[XG];refine an (λvB=>?_) (λvB=>?_)
  .have vB:k.ops.length>=60:=by have vB:((k.ops.map aV.enc).length:Int)>=60:=vB;rw[P2]at vB;omega
   exact Fk (by rw[aK,if_pos ⟨ho,vB⟩]) (by decide)
  .have vB:¬k.ops.length>=60:=by have vB:¬((k.ops.map aV.enc).length:Int)>=60:=vB;rw[P2]at vB;omega
   refine⟨_,View.o 2 [0,1] [] ?_ ?_,Qz k hk n hn obj rts k.ops.length PT.symm (aah _) (λh=>vB h.2)⟩
   .have hlen:am .i64 (((k.ops.map aV.enc).length:Nat):Int)=am .i64 ((k.ops.length:Nat):Int):=by rw[P2]
    repeat(first|exact .nil|refine .aL ?_|refine .eq rfl ?_)
    refine .eq hlen.symm ?_;repeat(first|exact .nil|refine .aL ?_|refine .eq rfl ?_)
   .exact .au
 |some i=>
  have XG:NU k.ops=(i:Nat):=by rw[NU,ho]
  have PT:dx k.ops=i:=by rw[dx,ho];rfl
  have NL:=CU ho;rw[XG];refine⟨_,View.o1 2 [0,1] [] ?_,Qz k hk n hn obj rts i PT.symm om (λh=>by rw[ho]at h;cases h.1)⟩
  .exact .au
theorem zw(k:Kr)(hk:dY k.l k.ops k.ps)(n:Nat)(hn:n<k.ps.length)(obj rts:Int){m:Mem}{K:CV->Mem->Prop}(h1:(aK k n obj rts).2.2≠0->K (.bI [kn ua,cR 0,cR (aK k n obj rts).2.2]) m)(h2:(aK k n obj rts).2.2=0->K (.bI [.agg [.row m.length 9 0 none,.ai (de (aK k n obj rts).1.ops),.ai (dM (aK k n obj rts).1.ps)],cR (aK k n obj rts).2.1,cR 0]) (m++ [.row 9 (aa ((aK k n obj rts).1.l.map Obj.enc))])):
  aq prog 81 [cA k.l k.ops k.ps,am .i64 (n:Nat),am .i64 obj,am .i64 rts] m K:=by
 refine bi [] m.length rfl rfl rfl rfl rfl (λi b' hi=>by simp at hi)
  (bP (cN func81 l81 (Dc k hk n hn obj rts)) λr m1⟨r',m',hv,hq⟩=>⟨r',m',hv,hq⟩) (λr m1 hp=>⟨aad _,?_⟩)
 rcases hp with⟨e1,rfl,rfl⟩|⟨e1,rfl,rfl⟩
 .have:=h1 e1;show K _ (gC m []);rw[cw,adn];exact this
 .have:=h2 e1;show K _ (gC m [Bk.aO _ _]);rw[cw,Bk.eQ];exact this
end Kn
def c79:LF:=Cq prog f79 [] [[(eL 6 0 (.cons 6 (some []) (eL 7 7 .nil)))]]
namespace Kn
def iB(o:Obj):Obj:={o with aI:= -1,aQ:= -1}
def H7(f:R4):CV:= .rv (.agg ((ZE f).map .ai))
def nU(l:List Obj)(f:R4)(n:Int):List Obj×Int:=cn (bY.gQ f.name) l f.dir (bY.cZ f.name) n
def cz(k:Kr)(f:R4)(o:Obj):Kr×Int×Int:=
 if(aH k.l (iB o)).2.2≠0 then(k,0,(aH k.l (iB o)).2.2)
 else(cu k (nU (aH k.l (iB o)).1 f (aH k.l (iB o)).2.1).1 (nU (aH k.l (iB o)).1 f (aH k.l (iB o)).2.1).2,(aH k.l (iB o)).2.1,(nU (aH k.l (iB o)).1 f (aH k.l (iB o)).2.1).2)
structure TT(o:Obj):Prop where
 sm:o.sm
 en:o.ag=[]
theorem TT.iB{o:Obj}(h:TT o):TT (iB o):=⟨⟨h.sm.t,h.sm.d,h.sm.e,h.sm.q,h.sm.qd⟩,h.en⟩
theorem zq.make{l:List Obj}(h:zq l){o:Obj}(ho:TT o):zq (aH l o).1:=by
 have key:∀l',(∀x,x∈l'->x∈l\/x=o)->l.length<=l'.length->l'.length<=4194304->zq l':=λl' hm hl D7=>by
  refine⟨⟨D7,λx hx=>?_⟩,λx hx=>?_⟩
  .rcases hm x hx with hx|rfl
   .exact h.pZ.2 x hx
   .exact ho.sm.pZ
  .rcases hm x hx with hx|rfl
   .obtain⟨es,h1,h2,h3,h4⟩:=h.en x hx;exact⟨es,h1,h2,h3,λe he=>⟨(h4 e he).1,by have:=(h4 e he).2;omega⟩⟩
   .exact⟨[],ho.en,List.Pairwise.nil,aG,aG⟩
 have hf:=h.pZ.1;unfold aH;split
 .rename_i k _;refine key _ (λx hx=>abF hx) aG (by simpa using hf)
 .split
  .exact⟨⟨aG,aG⟩,aG⟩
  .refine key _ (λx hx=>by simpa using hx) aG (by simp only[acs,aaY,acg];omega)
theorem l79:bA prog f79=some c79:=by kernel_rfl
def abX(a b:Int):CV:= .bI [cR a,cR b]
theorem Fl(k:Kr)(p:Nat)(hw:KW k p)(f:R4)(o:Obj)(ho:TT o):
  body prog c79 [.rv (.one (.ptr 0 0)),H7 f,o.cv] [xB k p] (TX λr m=>r=abX (cz k f o).2.1 (cz k f o).2.2/\m=[xB (cz k f o).1 p]):=by
 have hs:=zq.make hw.DO ho.iB;refine CG k.l hw.pZ (iB o) ?_;have hS:cz k f o=if(aH k.l (iB o)).2.2≠0 then(k,0,(aH k.l (iB o)).2.2)
  else(cu k (nU (aH k.l (iB o)).1 f (aH k.l (iB o)).2.1).1 (nU (aH k.l (iB o)).1 f (aH k.l (iB o)).2.1).2,(aH k.l (iB o)).2.1,(nU (aH k.l (iB o)).1 f (aH k.l (iB o)).2.1).2):=rfl
 rw[hS];clear hS;generalize aH k.l (iB o)=M at hs|-;obtain⟨l,n,e⟩:=M;refine⟨trivial,?_⟩;refine bO (λhe=>?_) (λhe=>?_)
 .rw[if_pos he];exact⟨_,_,View.o 3 [0] [] (.eq rfl .nil) (.pt rfl rfl (.eq rfl (oM _ _)) (.nil _)),rfl,rfl⟩
 .have he:e=0:=he;subst he;rw[if_neg aG];refine MC l hs f.dir n (bY.cZ f.name) (bY.gQ f.name) (λh=>bY.tT f.name h) ?_
  refine pj k p hw.kr _ _ 0 rfl ?_;exact⟨_,_,View.o 3 [0] [] (.eq rfl .nil) (.pt rfl rfl (.eq rfl (oM _ _)) (.nil _)),rfl,rfl⟩
theorem vF(k:Kr)(p:Nat)(hw:KW k p)(f:R4)(o:Obj)(ho:TT o){m:Mem}(id:Nat)(hb:dp m id=some (xB k p)){K:CV->Mem->Prop}(hK:K (abX (cz k f o).2.1 (cz k f o).2.2) (aZ m id (xB (cz k f o).1 p))):aq prog 79 [.rv (.one (.ptr id 0)),H7 f,o.cv] m K:=
 Kl (args:=[H7 f,o.cv]) (λ_=>rfl) (λ_=>rfl)
  (bP (aR func79 l79 (Fl k p hw f o ho)) λr m1⟨r',m',hv,hq⟩=>⟨r',m',hv,hq⟩) id hb hK
end Kn
def c64:LF:=Cq prog f64 [[2],[2,2],[2,2,2],[2,2,2,1]] [[(eL 11 0 (.z7 (.cons 11 (some []) (eL 3 12 (.cons 15 (some [9,4]) (.cons 16 (some []) (.cons 17 none .nil))))) (.cons 15 (some [9,4]) (.cons 11 (some []) (eL 3 12 (.cons 16 (some []) (.cons 17 none .nil)))))))],[(eL 13 0 (.z7 (.cons 13 (some []) (eL 4 14 (.cons 18 (some [12,7,3]) (.cons 19 (some []) (.cons 20 none (.cons 21 none .nil)))))) (.cons 18 (some [12,7,3]) (.cons 13 (some []) (eL 4 14 (.cons 19 (some []) (.cons 20 none (.cons 21 none .nil))))))))]]
namespace Kn
def pP:Obj:=⟨1,[],[],⟨#[]⟩,0,[],0,0,0⟩
theorem BH:TT pP:=⟨⟨⟨⟨[],rfl⟩,⟨[],rfl⟩,by simp[pP]⟩,by simp[pP],by simp[pP],by simp[pP],by simp[pP]⟩,rfl⟩
def eA(k:Kr)(aB:Int)(s:bY.eh)(aD follow:Bool):R4:=oI (k.l.map Obj.ob) aB s aD follow
theorem uj(k:Kr)(p:Nat)(hw:KW k p)(aB:Int)(s:bY.eh)(aD follow:Bool){m:Mem}{K:CV->Mem->Prop}(h:K (ZF (eA k aB s aD follow)) m):
  aq prog 76 [cQ k.l,am .i64 aB,bY.vT s,ar aD,ar follow] m K:=by
 rw[show cQ k.l=gE (k.l.map Obj.ob)from congrArg (λd=>CV.rv (.one (.ai d))) (X3 k.l)]
 exact TJ _ hw.lk aB s aD follow h
def vG(l:List Obj)(z:Int):Int:=match l[z.toNat]? with|some o=>o.ah|none=>0
def cj(k:Kr)(c:Cl)(f:R4):Kr×Int×Int:=
 if f.iq≠0 then(k,f.obj,f.iq)
 else if f.obj<0 then(if nc c.bQ 1=0 then(k,f.obj,6)else cz k f pP)
 else if nc c.bQ 2≠0/\vG k.l f.obj=2 then(k,f.obj,12)
 else(k,f.obj,0)
def jV(l:List Obj)(z:Int):List Obj:=match l[z.toNat]? with|some o=>l.set z.toNat {o with data:=[]}|none=>l
def gR(p:Nat)(c:Cl)(x:Kr×Int×Int):Kr×An:=
 if x.2.2≠0 then(x.1,An.no x.2.2)
 else if(aK x.1 p x.2.1 c.bb).2.2≠0 then(x.1,An.no (aK x.1 p x.2.1 c.bb).2.2)
 else(if nc c.bQ 2≠0 then⟨jV (aK x.1 p x.2.1 c.bb).1.l x.2.1,(aK x.1 p x.2.1 c.bb).1.ops,(aK x.1 p x.2.1 c.bb).1.ps⟩else(aK x.1 p x.2.1 c.bb).1,⟨0,(aK x.1 p x.2.1 c.bb).2.1,0,[]⟩)
def fA(k:Kr)(p:Nat)(c:Cl)(aB:Int)(aD:Bool):Kr×An:=gR p c (cj k c (eA k aB c.cE aD true))
theorem TU{m:Mem}{Z:Nat->Prop}{p:Option Nat}{id:Nat}{l:List Obj}{k:Nat}{c:List CC}{x:Obj}(hc:mN m Z (some id) c x.enc)(hz:Z id)(hm:m[id]? =some (.row 9 (aZ (aa (l.map Obj.enc)) k c))):
  cV m Z p (.row id 9 0 none) (cX (l.set k x)):=by
 rw[br]at hm;refine cV.row id 9 0 none _ _ hz hm (by simp[aa]) (λi cs es h1 h2=>?_) (λi cs es j c' d h1 h2 h3 h4=>?_)
 .rw[acy]at h1;rw[Rn,acy]at h2;by_cases e:k=i
  .subst e;rw[if_pos rfl]at h1 h2;split at h1
   .cases h1;split at h2
    .cases h2;exact hc.len
    .cases h2
   .cases h1
  .rw[if_neg e]at h1 h2;rw[aa,Rn,Rn]at h1;cases hx:l[i]? with
   |none=>rw[hx]at h2;cases h2
   |some y=>
    rw[hx]at h1 h2;cases h1;cases h2;simp
 .rw[acy]at h1;rw[Rn,acy]at h2;by_cases e:k=i
  .subst e;rw[if_pos rfl]at h1 h2;split at h1
   .cases h1;split at h2
    .cases h2;exact hc.get j c' d h3 h4
    .cases h2
   .cases h1
  .rw[if_neg e]at h1 h2;rw[aa,Rn,Rn]at h1;cases hx:l[i]? with
   |none=>rw[hx]at h2;cases h2
   |some y=>
    rw[hx]at h1 h2;cases h1;cases h2;rw[Rn,h4]at h3;cases h3;exact .ai _
theorem l64:bA prog f64=some c64.er:=by kernel_rfl
def C29:LC:=bs (bs c64.code)
def G29:LC:=mK C29
def C74:LC:=bs (bs G29)
def G74:LC:=mK C74
def C96:LC:=bs (bs G74)
def G96:LC:=mK C96
def agx:LC:=bs G96
def agy:LC:=mK agx
def jW:Bk:= .var [.ai (.val (.int .i64 0)),.ai (.val (.int .i64 0)),.ai (.val (.int .i64 0)),.bv]
def TC(k:Kr)(p:Nat)(c:Cl)(a:An)(r:CV)(m:Mem):Prop:=∃r' m',View 2 ⟨[r],m⟩ ⟨[r'],m'⟩/\r'=a.cv/\m'=[xB k p,cB c]
def QC(mr:List Rv)(k:Kr)(p:Nat)(c:Cl)(a:An):Ex->St->Prop:=oi prog mr (TC k p c a)
theorem QA{Y:Nat->Nat}{m:Mem}{Z:Nat->Prop}{e n x:Int}:ta Y m Z (.rv (.agg [.ai (.val (.int .i64 e)),.ai (.val (.int .i64 n)),.ai (.val (.int .i64 x)),.bv])) (An.cv ⟨e,n,x,[]⟩):=
 .rv (.agg rfl λi c c' h1 h2=>by
  match i,h1,h2 with
  |0,h1,h2=>cases h1;cases h2;exact .aO (.ai _)
  |1,h1,h2=>cases h1;cases h2;exact .aO (.ai _)
  |2,h1,h2=>cases h1;cases h2;exact .aO (.ai _)
  |3,h1,h2=>cases h1;cases h2;exact .dO (.bv 1)
  |n+4,h1,h2=>simp at h1)
theorem dz{k:Kr}{p:Nat}{c:Cl}{X:Mem}{e n x:Int}:TC k p c ⟨e,n,x,[]⟩ (.rv (.agg [.ai (.val (.int .i64 e)),.ai (.val (.int .i64 n)),.ai (.val (.int .i64 x)),.bv])) (xB k p::cB c::X):=
 ⟨_,_,View.of (X.length+2) [0,1] [] rfl rfl rfl rfl rfl (by simp[eP,Nat.blt]) (.put QA .nil) (.pt rfl rfl (.eq rfl (oM _ _)) (.pt rfl rfl (.eq rfl (qW _)) (.nil _))),rfl,rfl⟩
theorem QB{l:List Obj}{n:Nat}(h:n<l.length):dW (n:Int) (lenOf (aa (l.map Obj.enc)).length 0 none)=some n:=bL (by show n<(aa (l.map Obj.enc)).length;rw[aJ,P2];exact h)
theorem H8(k1:Kr)(p:Nat)(c:Cl)(O:Kr)(j:Nat)(hj:j<O.l.length)(fd:Int)(kf:Kr)(hk:kf=if nc c.bQ 2≠0 then⟨jV O.l j,O.ops,O.ps⟩else O):
  aw prog 2 agy (QC c64.mr kf p c ⟨0,fd,0,[]⟩)
   ⟨jD 117 [(0,.rv (.one (.ptr 0 0))),(1,.rv (.one (.ptr 1 0))),(8,.rv (.one (.ptr 2 0))),(11,am .i64 (j:Nat)),(12,.rv (.one (.ptr 3 0))),(13,am .i64 fd)],
    [xB k1 p,cB c,jW,.var [.row 4 9 0 none,.ai (de O.ops),.ai (dM O.ps)],.row 9 (aa (O.l.map Obj.enc))]⟩:=by
 refine bO (λh2=>?_) (λh2=>?_)
 .have h2:nc c.bQ 2≠0:=h2;rw[if_pos h2]at hk;subst hk;refine af (QB hj) ?_;have ho:=bq Obj.enc O.l hj;have ht:jV O.l (j:Nat)=O.l.set j {O.l[j]with data:=[]}:=by rw[jV,aam,xm hj]
  rw[ht];generalize O.l[j]=x at ho;obtain⟨ah,data,ag,target,aI,aj,aQ,ak,up⟩:=x;refine af ho ?_;refine⟨_,_,View.o 5 [0,1] [4] (.put QA .nil) (.pt rfl rfl (X7 (k:=⟨O.l.set j ⟨ah,[],ag,target,aI,aj,aQ,ak,up⟩,O.ops,O.ps⟩) (TU (.cons (.ai _) (.cons (.bv 1) (.cons (.ai _) (.cons (.ai _) (.cons (.ai _) (.cons (.ai _) (.cons (.ai _) (.cons (.ai _) (.cons (.ai _) .nil))))))))) rfl rfl) (.ai _) (.ai _)) (.pt rfl rfl (.eq rfl (qW _)) (.nil _))),rfl,rfl⟩
 .have h2:¬nc c.bQ 2≠0:=λh=>h h2
  rw[if_neg h2]at hk;subst hk;exact⟨_,_,View.o 5 [0,1] [4] (.put QA .nil) (.pt rfl rfl (X7 (jy rfl rfl) (.ai _) (.ai _)) (.pt rfl rfl (.eq rfl (qW _)) (.nil _))),rfl,rfl⟩
theorem MK{k:Kr}{n:Nat}{obj rts:Int}(h:(aK k n obj rts).2.2=0):(aK k n obj rts).1.l=k.l:=by
 unfold aK at h|-;split at h
 .simp at h
 .rename_i h1;rw[if_neg h1];split at h
  .rename_i h2;exact absurd h h2
  .rename_i h2;rw[if_neg h2]
theorem zx(k1:Kr)(p:Nat)(c:Cl)(e:Int)(he:e≠0):
  aw prog 2 G96 (QC c64.mr k1 p c (An.no e)) ⟨jD 117 [(0,.rv (.one (.ptr 0 0))),(1,.rv (.one (.ptr 1 0))),(8,.rv (.one (.ptr 2 0))),(10,am .i64 e)],[xB k1 p,cB c,jW]⟩:=by
 refine bO (λh2=>?_) (λh2=>absurd h2 he)
 exact dz (X:=[_])
theorem zy(k1:Kr)(p:Nat)(c:Cl)(O:Kr)(j:Nat)(hj:j<O.l.length)(fd:Int)(kf:Kr)(hk:kf=if nc c.bQ 2≠0 then⟨jV O.l j,O.ops,O.ps⟩else O):
  aw prog 2 G96 (QC c64.mr kf p c ⟨0,fd,0,[]⟩)
   ⟨jD 117 [(0,.rv (.one (.ptr 0 0))),(1,.rv (.one (.ptr 1 0))),(8,.rv (.one (.ptr 2 0))),(10,am .i64 0),(11,am .i64 (j:Nat)),(12,.rv (.one (.ptr 3 0))),(13,am .i64 fd)],
    [xB k1 p,cB c,jW,.var [.row 4 9 0 none,.ai (de O.ops),.ai (dM O.ps)],.row 9 (aa (O.l.map Obj.enc))]⟩:=by
 refine⟨_,View.o1 5 [0,1,2,3,4] [] ?_,H8 k1 p c O j hj fd kf hk⟩
 .exact .au
theorem ML(p:Nat)(c:Cl)(x:Kr×Int×Int)(hx:x.2.2=0->dY x.1.l x.1.ops x.1.ps/\p<x.1.ps.length/\∃j:Nat,x.2.1=j/\j<x.1.l.length):
  aw prog 2 G74 (QC c64.mr (gR p c x).1 p c (gR p c x).2)
   ⟨jD 117 [(0,.rv (.one (.ptr 0 0))),(1,.rv (.one (.ptr 1 0))),(8,.rv (.one (.ptr 2 0))),(10,am .i64 x.2.2),(11,am .i64 x.2.1)],[xB x.1 p,cB c,jW]⟩:=by
 obtain⟨k1,obj,e⟩:=x;refine bO (λh2=>?_) (λh2=>?_)
 .have h2:e≠0:=h2;have e1:gR p c (k1,obj,e)=(k1,An.no e):=by rw[gR,if_pos h2]
  rw[e1];exact dz (X:=[_])
 have h2:e=0:=h2;subst h2;obtain⟨hk,hp,j,hj,gH⟩:=hx rfl;have hj:obj=(j:Nat):=hj;subst hj;have hS:gR p c (k1,(j:Int),0)=if(aK k1 p j c.bb).2.2≠0 then(k1,An.no (aK k1 p j c.bb).2.2)
  else(if nc c.bQ 2≠0 then⟨jV (aK k1 p j c.bb).1.l j,(aK k1 p j c.bb).1.ops,(aK k1 p j c.bb).1.ps⟩else(aK k1 p j c.bb).1,⟨0,(aK k1 p j c.bb).2.1,0,[]⟩):=by
  rw[gR,if_neg aG]
 rw[hS];have jE:= @MK k1 p (j:Int) c.bb;refine⟨?_,?_⟩
 .refine zw k1 hk p hp (j:Int) c.bb (λhe=>?_) (λhe=>?_)
  .rw[if_pos he];refine⟨trivial,⟨rfl,rfl,rfl,trivial⟩,trivial,_,View.o1 4 [0,1,2] [] ?_,zx k1 p c _ he⟩
   .exact .au
  .rw[if_neg (by simp[he])]
   have hl:=jE he;refine⟨trivial,⟨rfl,rfl,rfl,trivial⟩,trivial,_,View.o1 5 [0,1,2,4,3] [] ?_,zy k1 p c (aK k1 p j c.bb).1 j (by rw[hl];exact gH) _ _ rfl⟩
   .exact .au
 .refine⟨⟨rfl,rfl,rfl,trivial⟩,?_⟩;refine zw k1 hk p hp (j:Int) c.bb (λhe=>?_) (λhe=>?_)
  .rw[if_pos he];refine⟨trivial,trivial,_,View.o1 4 [0,1,2] [] ?_,zx k1 p c _ he⟩
   .exact .au
  .rw[if_neg (by simp[he])]
   have hl:=jE he;refine⟨trivial,trivial,_,View.o1 5 [0,1,2,3,4] [] ?_,zy k1 p c (aK k1 p j c.bb).1 j (by rw[hl];exact gH) _ _ rfl⟩
   .exact .au
theorem Dd(a b:CV)(k:Int)(t:ByteArray):ln [a,b,.rv (.agg [.ai (.val (.int .i64 k)),.bv,.bv,.ai (.val (.string t)),.ai (.val (.int .i64 0)),.bv,.ai (.val (.int .i64 0)),.ai (.val (.int .i64 0)),.ai (.val (.int .i64 0))])] [a,b,Obj.cv ⟨k,[],[],t,0,[],0,0,0⟩]:=
 .cT _ (.cT _ (.agg (.cons (.cT _) (.cons (.bv 1) (.cons (.bv 2) (.cons (.cT _) (.cons (.cT _) (.cons (.bv 4) (.cons (.cT _) (.cons (.cT _) (.cons (.cT _) .nil))))))))) .nil))
structure H9(k:Kr)(p:Nat)(c:Cl)(f:R4):Prop where
 fi:f.iq=0->f.obj<(k.l.length:Int)
 x:(cj k c f).2.2=0->dY (cj k c f).1.l (cj k c f).1.ops (cj k c f).1.ps/\p<(cj k c f).1.ps.length/\∃j:Nat,(cj k c f).2.1=j/\j<(cj k c f).1.l.length
theorem MM(k:Kr)(p:Nat)(hw:KW k p)(c:Cl)(f:R4)(hf:H9 k p c f):
  aw prog 2 G29 (QC c64.mr (gR p c (cj k c f)).1 p c (gR p c (cj k c f)).2)
   ⟨jD 117 [(0,.rv (.one (.ptr 0 0))),(1,.rv (.one (.ptr 1 0))),(8,.rv (.one (.ptr 2 0))),(9,.rv (.one (.ptr 3 0))),(10,am .i64 f.iq)],[xB k p,cB c,jW,.var ((ZE f).map .ai)]⟩:=by
 have NX:=ML p c (cj k c f) hf.x;have Zn:=hf.fi;clear hf;obtain⟨obj,dir,name,iq⟩:=f;refine bO (λhe=>?_) (λhe=>?_)
 .have he:iq≠0:=he;have e1:cj k c ⟨obj,dir,name,iq⟩=(k,obj,iq):=by rw[cj,if_pos he]
  rw[e1]at NX|-;refine⟨_,View.o1 4 [0,1,2] [] ?_,NX⟩
  .exact .au
 have he:iq=0:=he;subst he;have Zn:obj<(k.l.length:Int):=Zn rfl;refine an (λh1=>?_) (λh1=>?_)
 .have h1:obj<0:=h1;refine bc (λh2=>?_) (λh2=>?_)
  .have h2:nc c.bQ 1=0:=h2;have e1:cj k c ⟨obj,dir,name,0⟩=(k,obj,6):=by rw[cj,if_neg aG,if_pos h1,if_pos h2]
   rw[e1]at NX|-;refine⟨_,View.o1 4 [0,1,2] [] ?_,NX⟩
   .exact .au
  .have h2:¬nc c.bQ 1=0:=h2;have e1:cj k c ⟨obj,dir,name,0⟩=cz k ⟨obj,dir,name,0⟩ pP:=by rw[cj,if_neg aG,if_pos h1,if_neg h2]
   rw[e1]at NX|-;refine bS (decide_eq_true h1) ?_;refine jK (Dd _ _ _ _) (vF k p hw ⟨obj,dir,name,0⟩ pP BH 0 rfl ?_);refine⟨_,View.o1 4 [0,1,2] [] ?_,NX⟩
   .exact .au
 .have h1:¬obj<0:=h1;obtain⟨j,rfl⟩:∃j:Nat,obj=j:=⟨obj.toNat,om⟩;have hj:j<k.l.length:=om;have Si:vG k.l (j:Int)=k.l[j].ah:=by rw[vG,aam,xm hj]
  refine bO (λh2=>?_) (λh2=>?_)
  .have h2:nc c.bQ 2≠0:=h2;refine af (jU hj) ?_;refine bc (λh3=>?_) (λh3=>?_)
   .have h3:k.l[j].ah=2:=h3;have e1:cj k c ⟨(j:Nat),dir,name,0⟩=(k,(j:Int),12):=by rw[cj,if_neg aG,if_neg h1,if_pos ⟨h2,by rw[<-h3,<-Si]⟩]
    rw[e1]at NX|-;refine⟨_,View.o1 4 [0,1,2] [] ?_,NX⟩
    .exact .au
   .have h3:¬k.l[j].ah=2:=h3;have e1:cj k c ⟨(j:Nat),dir,name,0⟩=(k,(j:Int),0):=by rw[cj,if_neg aG,if_neg h1,if_neg (by rw[Si];exact λh=>h3 h.2)]
    rw[e1]at NX|-;refine⟨_,View.o1 4 [0,1,2] [] ?_,NX⟩
    .exact .au
  .have h2:¬nc c.bQ 2≠0:=λh=>h h2
   have e1:cj k c ⟨(j:Nat),dir,name,0⟩=(k,(j:Int),0):=by rw[cj,if_neg aG,if_neg h1,if_neg (λh=>h2 h.1)]
   rw[e1]at NX|-;refine⟨_,View.o1 4 [0,1,2] [] ?_,NX⟩
   .exact .au
theorem Ia(k:Kr)(p:Nat)(hw:KW k p)(c:Cl)(aB:Int)(aD:Bool)(hf:H9 k p c (eA k aB c.cE aD true)):
  body prog c64 [.rv (.one (.ptr 0 0)),.rv (.one (.ptr 1 0)),am .i64 aB,ar aD] [xB k p,cB c] (TC (fA k p c aB aD).1 p c (fA k p c aB aD).2):=by
 have hs:=MM k p hw c _ hf;show body prog c64 _ _ (TC (gR p c (cj k c (eA k aB c.cE aD true))).1 p c (gR p c (cj k c (eA k aB c.cE aD true))).2);refine⟨?_,?_⟩
 .refine uj k p hw aB c.cE aD true ?_;refine⟨trivial,⟨rfl,rfl,trivial⟩,trivial,_,View.o1 4 [0,1,2,3] [] ?_,hs⟩
  .exact .au
 .refine⟨⟨rfl,rfl,trivial⟩,?_⟩;refine uj k p hw aB c.cE aD true ?_;refine⟨trivial,trivial,_,View.o1 4 [0,1,2,3] [] ?_,hs⟩
  .exact .au
theorem Fm(k:Kr)(p:Nat)(hw:KW k p)(c:Cl)(aB:Int)(aD:Bool)(hf:H9 k p c (eA k aB c.cE aD true)){m:Mem}(i j:Nat)(tw:iv [i,j]=true)(ay:eP m.length [i,j]=true)(hi:dp m i=some (xB k p))(hj:dp m j=some (cB c)){K:CV->Mem->Prop}(hK:K (fA k p c aB aD).2.cv (dA m [i,j] [xB (fA k p c aB aD).1 p,cB c])):
  aq prog 64 [.rv (.one (.ptr i 0)),.rv (.one (.ptr j 0)),am .i64 aB,ar aD] m K:=
 Wb (args:=[am .i64 aB,ar aD]) (λ_=>rfl) (λ_=>rfl)
  (bP (cN func64 l64 (Ia k p hw c aB aD hf)) λr m1⟨r',m',hv,hq⟩=>⟨r',m',hv,hq⟩) i j tw ay hi hj hK
end Kn
def c38:LF:=Cq prog f38 [[6]] []
namespace Kn
def mS(c:Cl):Int:=if nc c.bQ 2≠0 then X5 (if nc c.bQ 1≠0 then X5 (X5 8 c.bb) 16 else X5 8 c.bb) 2 else(if nc c.bQ 1≠0 then X5 (X5 8 c.bb) 16 else X5 8 c.bb)
def gY(k:Kr)(p:Nat)(c:Cl):Kr×An:=
 if Tb.fL c.bb=false\/c.bQ<0\/c.bQ>3 then(k,An.no 3)
 else if c.ah=2 then fA k p c 0 false
 else if(bm k p c.fd (mS c)).2.2≠0 then(k,An.no (bm k p c.fd (mS c)).2.2)
 else fA k p c (bm k p c.fd (mS c)).2.1 true
theorem Ib{k:Kr}{p:Nat}{c:Cl}{X:Mem}{a:An}:TC k p c a a.cv (xB k p::cB c::X):=
 ⟨_,_,View.of (X.length+2) [0,1] [] rfl rfl rfl rfl rfl (by simp[eP,Nat.blt]) (.eq rfl .nil) (.pt rfl rfl (.eq rfl (oM _ _)) (.pt rfl rfl (.eq rfl (qW _)) (.nil _))),rfl,rfl⟩
theorem l38:bA prog f38=some c38.er:=by kernel_rfl
def agz:LC:=bs (bs (bs (bs (bs (bs c38.code)))))
def abY:LC:=mK agz
theorem QE(k:Kr)(p:Nat)(hw:KW k p)(c:Cl)(need:Int)(hf:∀aB,H9 k p c (eA k aB c.cE true true))(R:Kr×An)(hR:R=if(bm k p c.fd need).2.2≠0 then(k,An.no (bm k p c.fd need).2.2)else fA k p c (bm k p c.fd need).2.1 true):
  aw prog 2 abY (QC c38.mr R.1 p c R.2) ⟨jD 78 [(0,.rv (.one (.ptr 0 0))),(1,.rv (.one (.ptr 1 0))),(4,.rv (.one (.ptr 2 0))),(5,am .i64 need)],[xB k p,cB c,jW]⟩:=by
 refine ma k p hw c.fd need 0 rfl ?_;generalize bm k p c.fd need=w at hR|-;obtain⟨⟨o,r⟩,b,e⟩:=w;refine bO (λhe=>?_) (λhe=>?_)
 .have he:e≠0:=he;rw[if_pos he]at hR;subst hR;exact dz (X:=[_,_])
 .have he:e=0:=he;subst he;rw[if_neg aG]at hR;subst hR;refine Fm k p hw c b true (hf b) 0 1 rfl rfl rfl rfl ?_;exact Ib (X:=[_,_])
theorem MN(k:Kr)(p:Nat)(hw:KW k p)(c:Cl)(hf:∀aB aD,H9 k p c (eA k aB c.cE aD true)):
  body prog c38 [.rv (.one (.ptr 0 0)),.rv (.one (.ptr 1 0))] [xB k p,cB c] (TC (gY k p c).1 p c (gY k p c).2):=by
 have hv:∀need R,R=(if(bm k p c.fd need).2.2≠0 then(k,An.no (bm k p c.fd need).2.2)else fA k p c (bm k p c.fd need).2.1 true)->
  aw prog 2 abY (QC c38.mr R.1 p c R.2) ⟨jD 78 [(0,.rv (.one (.ptr 0 0))),(1,.rv (.one (.ptr 1 0))),(4,.rv (.one (.ptr 2 0))),(5,am .i64 need)],[xB k p,cB c,jW]⟩:=λneed R hR=>QE k p hw c need (λb=>hf b true) R hR
 refine Tb.y6 c.bb ?_;cases hr:Tb.fL c.bb with
 |false=>
  have e1:gY k p c=(k,An.no 3):=by rw[gY,if_pos (.inl hr)]
  rw[e1];exact dz (X:=[_])
 |true=>
  refine an (λh1=>?_) (λh1=>?_)
  .have h1:c.bQ<0:=h1;have e1:gY k p c=(k,An.no 3):=by rw[gY,if_pos (.inr (.inl h1))]
   rw[e1];exact dz (X:=[_])
  have h1:¬c.bQ<0:=h1;refine an (λh2=>?_) (λh2=>?_)
  .have h2:c.bQ>3:=h2;have e1:gY k p c=(k,An.no 3):=by rw[gY,if_pos (.inr (.inr h2))]
   rw[e1];exact dz (X:=[_])
  have h2:¬c.bQ>3:=h2;have e0:gY k p c=if c.ah=2 then fA k p c 0 false
   else if(bm k p c.fd (mS c)).2.2≠0 then(k,An.no (bm k p c.fd (mS c)).2.2)
   else fA k p c (bm k p c.fd (mS c)).2.1 true:=by rw[gY,if_neg (by simp[hr,h1,h2])]
  rw[e0];refine bc (λh3=>?_) (λh3=>?_)
  .have h3:c.ah=2:=h3;rw[if_pos h3];refine Fm k p hw c 0 false (hf 0 false) 0 1 rfl rfl rfl rfl ?_;exact Ib (X:=[_])
  have h3:¬c.ah=2:=h3;rw[if_neg h3];refine bO (λh4=>?_) (λh4=>?_)
  .have h4:nc c.bQ 1≠0:=h4;refine bO (λh5=>?_) (λh5=>?_)
   .have h5:nc c.bQ 2≠0:=h5;refine⟨_,View.o 3 [0,1,2] [] ?_ ?_,hv (mS c) _ rfl⟩
    .rw[mS,if_pos h4,if_pos h5];repeat(first|exact .nil|refine .aL ?_|refine .eq rfl ?_)
    .exact .au
   .have h5:¬nc c.bQ 2≠0:=λh=>h h5
    refine⟨_,View.o 3 [0,1,2] [] ?_ ?_,hv (mS c) _ rfl⟩
    .rw[mS,if_pos h4,if_neg h5];repeat(first|exact .nil|refine .aL ?_|refine .eq rfl ?_)
    .exact .au
  .have h4:¬nc c.bQ 1≠0:=λh=>h h4
   refine bO (λh5=>?_) (λh5=>?_)
   .have h5:nc c.bQ 2≠0:=h5;refine⟨_,View.o 3 [0,1,2] [] ?_ ?_,hv (mS c) _ rfl⟩
    .rw[mS,if_neg h4,if_pos h5];repeat(first|exact .nil|refine .aL ?_|refine .eq rfl ?_)
    .exact .au
   .have h5:¬nc c.bQ 2≠0:=λh=>h h5
    refine⟨_,View.o 3 [0,1,2] [] ?_ ?_,hv (mS c) _ rfl⟩
    .rw[mS,if_neg h4,if_neg h5];repeat(first|exact .nil|refine .aL ?_|refine .eq rfl ?_)
    .exact .au
theorem eD{f:Nat}{k k':Kr}{p:Nat}{c:Cl}{a:An}(hc:aq prog f [.rv (.one (.ptr 0 0)),.rv (.one (.ptr 1 0))] [xB k p,cB c] (TC k' p c a)){m:Mem}(i j:Nat)(tw:iv [i,j]=true)(ay:eP m.length [i,j]=true)(hi:dp m i=some (xB k p))(hj:dp m j=some (cB c)){K:CV->Mem->Prop}(hK:K a.cv (dA m [i,j] [xB k' p,cB c])):aq prog f [.rv (.one (.ptr i 0)),.rv (.one (.ptr j 0))] m K:=
 Wb (args:=[]) (λ_=>rfl) (λ_=>rfl) (bP hc λr m1⟨r',m',hv,hq⟩=>⟨r',m',hv,hq⟩) i j tw ay hi hj hK
theorem BJ(k:Kr)(p:Nat)(hw:KW k p)(c:Cl)(hf:∀aB aD,H9 k p c (eA k aB c.cE aD true)):aq prog 38 [.rv (.one (.ptr 0 0)),.rv (.one (.ptr 1 0))] [xB k p,cB c] (TC (gY k p c).1 p c (gY k p c).2):=
 cN func38 l38 (MN k p hw c hf)
end Kn
def c39:LF:=Cq prog f39 [[2],[2,4,1,3,1],[2,5]] [[eL 11 0 .nil],[(eL 13 0 (.cons 13 (some []) (eL 5 14 .nil)))],[(eL 13 0 (.z7 (.cons 13 (some []) (eL 3 14 (.cons 17 (some [12,7,6,4]) (.cons 18 (some []) (.cons 19 none .nil))))) (.cons 17 (some [12,7,6,4]) (.cons 13 (some []) (eL 3 14 (.cons 18 (some []) (.cons 19 none .nil)))))))],[(eL 8 0 (.cons 8 (some []) .nil))],[(eL 10 0 (.cons 10 (some []) .nil))]]
namespace Kn
def ii(l:List Obj)(z:Int):Obj:=(l[z.toNat]?).getD dU
def rX(k:Kr)(z a:Int):Kr:=⟨k.l,(match k.ops[z.toNat]? with|some o=>k.ops.set z.toNat {o with dq:=a}|none=>k.ops),k.ps⟩
def setObj(k:Kr)(z:Int)(o:Obj):Kr:=⟨k.l.set z.toNat o,k.ops,k.ps⟩
def De(a b:Int):Int:=IntKind.i64.wrap (a+b)
def pQ(ah:Int):Int:=if ah=4 then 1 else if ah=5 then 2 else 4
def pk(k:Kr)(n:Int)(dq:Int)(r:List (List Dt)×Int):Kr×An:=
 if r.2≠0 then(k,An.no r.2)else(rX k n (De dq r.1.length),⟨0,r.1.length,0,r.1⟩)
def mT(k:Kr)(n:Int)(obj:Int)(dq:Int)(len:Nat)(r:Obj×Int):Kr×An:=
 if r.2≠0 then(k,An.no r.2)else(rX (setObj k obj r.1) n (De dq len),⟨0,len,0,[]⟩)
def nY(k:Kr)(n:Int)(dq:Int):Kr×An:=
 if dq<0\/dq>60 then(k,An.no 3)else(rX k n dq,⟨0,0,0,[]⟩)
def iV(k:Kr)(c:Cl)(w:(Int×Int)×Int×Int):Kr×An:=
 if w.2.2≠0 then(k,An.no w.2.2)
 else if c.ah=4 then pk k w.1.1 (qV k.ops w.1.1) (kp (ii k.l w.2.1).ah (ii k.l w.2.1).data (qV k.ops w.1.1) c.n)
 else if c.ah=5 then mT k w.1.1 w.2.1 (qV k.ops w.1.1) c.data.length (fM (ii k.l w.2.1) (qV k.ops w.1.1) (dH c.data))
 else nY k w.1.1 c.n
def gS(k:Kr)(p:Nat)(c:Cl):Kr×An:=iV k c (bm k p c.fd (pQ c.ah))
theorem vH{l:List Obj}{n:Nat}(h:n<l.length):ii l (n:Int)=l[n]:=by rw[ii,aam,xm h];rfl
def ZH(d:List Int)(A:Nat)(b:List Int):List Int:=if b.length=0 then d else dm (d++List.replicate (A+b.length-d.length) 0) A b
theorem Ic(d b:List Int)(A:Nat):rW (dH d) A (dH b)=dH (ZH d A b):=by
 have hl:∀x:List Int,(dH x).length=x.length:=λx=>by simp[dH]
 have hz:∀n,List.replicate n zb=dH (List.replicate n 0):=λn=>by simp[dH,zb]
 unfold rW ZH;rw[hl];split
 .rfl
 .unfold XN dm;rw[hl,hz,hl];simp only[dH,abT,adQ,aeh]
theorem Km(d b:List Int)(A:Nat)(hb:b.length<=60)(hA:A+b.length<=60):(ZH d A b).length<=60\/(ZH d A b).length<=d.length:=by
 unfold ZH;split
 .exact .inr (aah _)
 .unfold dm;simp only[acs,abg,acP,List.length_replicate];omega
theorem uk{o:Obj}(ho:o.sm){dq:Int}{b:List Int}(h:(fM o dq (dH b)).2=0):(fM o dq (dH b)).1.sm/\o.ah=1/\0<=dq/\dq<=60/\(b.length:Int)<=60-dq/\(fM o dq (dH b)).1={o with data:=rW o.data dq.toNat (dH b)}:=by
 have hl:(dH b).length=b.length:=by simp[dH]
 unfold fM at h|-;split at h
 .simp at h
 .rename_i h1;split at h
  .simp at h
  .rename_i h2;split at h
   .simp at h
   .rename_i h3;split at h
    .simp at h
    .rename_i h4;rw[if_neg h1,if_neg h2,if_neg h3,if_neg h4];rw[hl]at h4;obtain⟨⟨⟨d,hd⟩,yd,ht3⟩,lF,he,hq,hqd⟩:=ho;refine⟨⟨⟨⟨ZH d dq.toNat b,?_⟩,yd,ht3⟩,?_,he,hq,hqd⟩,om,om,om,om,rfl⟩
     .show rW o.data dq.toNat (dH b)=_;rw[hd,Ic]
     .show(rW o.data dq.toNat (dH b)).length<=64;rw[hd,Ic,show ∀x:List Int,(dH x).length=x.length from λx=>by simp[dH]]
      have alE:d.length<=64:=by rw[hd]at lF;simpa[dH]using lF
      have:=Km d b dq.toNat om om;omega
theorem dY.Ie{k:Kr}(h:dY k.l k.ops k.ps){z:Int}{o:Obj}(ho:o.sm):dY (setObj k z o).l (setObj k z o).ops (setObj k z o).ps:=by
 refine⟨λx hx=>?_,by simpa[setObj]using h.ll,h.lo,h.lp,h.sl,h.ne⟩
 rcases abF hx with hx|rfl
 .exact h.sm x hx
 .exact ho
theorem l39:bA prog f39=some c39.er:=by kernel_rfl
def agA:LC:=bs (bs c39.code)
def X8:LC:=mK agA
def abZ:LC:=bs (bs (bs (bs (bs X8))))
def agB:LC:=mK abZ
theorem sO(k:Kr)(hk:dY k.l k.ops k.ps)(p:Nat)(c:Cl)(n:Nat)(hn:n<k.ops.length)(r dq:Int)(a:An):
  aw prog 2 agB (QC c39.mr (rX k n dq) p c a)
   ⟨jD 172 [(0,.rv (.one (.ptr 0 0))),(1,.rv (.one (.ptr 1 0))),(4,.rv (.one (.ptr 2 0))),(6,.rv (.one (.ptr 3 0))),(9,am .i64 dq),(10,.rv (.one (.ptr 4 0)))],
    [xB k p,cB c,jW,.var [.ai (.val (.int .i64 (n:Nat))),.ai (.val (.int .i64 r))],.var (a.enc.map .ai)]⟩:=by
 refine jM k.l k.ops k.ps ⟨hk.ll,λo ho=>(hk.sm o ho).pZ⟩ hk.lo hk.lp hk.sl hk.ne ?_
 refine af (CK hn) ?_;have ho:=bq aV.enc k.ops hn;have hs:rX k n dq=⟨k.l,k.ops.set n {k.ops[n]with dq:=dq},k.ps⟩:=by rw[rX,aam,xm hn]
 rw[hs];generalize k.ops[n]=x at ho;obtain⟨xo,xa⟩:=x;refine af ho ?_;refine⟨trivial,_,_,View.o 8 [0,1] [5,6,7] (.eq rfl .nil) (.pt rfl rfl (X7 (k:=⟨k.l,k.ops.set n ⟨xo,dq⟩,k.ps⟩) (jy rfl rfl) (jy rfl (congrArg (λx=>some (Bk.row 2 x)) ?_)) (jy rfl rfl)) (.pt rfl rfl (.eq rfl (qW _)) (.nil _))),rfl,rfl⟩
 show aZ (aa (k.ops.map aV.enc)) n ((aV.enc ⟨xo,dq⟩).map .ai)=_;rw[br,aa,aa,acF,acF]
def unB:LC->LC
 | .block _ b=>b
 |x=>x
def agC:LC:=match unB (bs (pb (bs (bs (bs (bs X8))))))with
 | .seq _ (.cond _ _ (.seq _ (.cond _ (.seq _ g) _)))=>g
 |x=>x
def agD:LC:=mK agC
def Ig(a b d:Int)(x:Int):Prop:=x=a\/x=b\/x=d
theorem Wc{Y:Nat->Nat}{m:Mem}{Z:Nat->Prop}{id:Nat}{e n x:Int}:o6 Y m Z id (.var [.ai (.val (.int .i64 e)),.ai (.val (.int .i64 n)),.ai (.val (.int .i64 x)),.bv]) (.var ((An.enc ⟨e,n,x,[]⟩).map .ai)):=
 dC.var (.cons (.aO (.ai _)) (.cons (.aO (.ai _)) (.cons (.aO (.ai _)) (.cons (.dO (.bv 1)) .nil))))
theorem Ih(k:Kr)(p:Nat)(hw:KW k p)(c:Cl)(n j:Nat)(hn:n<k.ops.length)(hj:j<k.l.length)(r dq:Int)(o':Obj)(e:Int)(ho:e=0->o'.sm):
  aw prog 2 agD (Gx 0 (oX (aw prog 2 abZ) (QC c39.mr (mT k n j dq c.data.length (o',e)).1 p c (mT k n j dq c.data.length (o',e)).2)))
   ⟨jD 172 [(0,.rv (.one (.ptr 0 0))),(1,.rv (.one (.ptr 1 0))),(4,.rv (.one (.ptr 2 0))),(6,.rv (.one (.ptr 3 0))),(7,am .i64 (j:Nat)),(9,am .i64 dq),(10,.rv (.one (.ptr 4 0))),(13,.rv (.one (.ptr 5 0))),(14,am .i64 e)],
    [xB k p,cB c,jW,.var [.ai (.val (.int .i64 (n:Nat))),.ai (.val (.int .i64 r))],.var [.ai (.val (.int .i64 0)),.ai (.val (.int .i64 0)),.ai (.val (.int .i64 0)),.bv],.var (o'.enc.map .ai)]⟩:=by
 refine bO (λhe=>?_) (λhe=>?_)
 .have he:e≠0:=he;rw[mT,if_pos he];exact dz (X:=[_,_,_,_])
 have he:e=0:=he;subst he;have ho:=ho rfl;rw[mT,if_neg aG];refine jM k.l k.ops k.ps hw.pZ hw.kr.lo hw.kr.lp hw.kr.sl hw.kr.ne ?_;refine af (QB hj) ?_;refine af (bq Obj.enc k.l hj) ?_;refine⟨trivial,?_⟩;have hx:aZ (aa (k.l.map Obj.enc)) j (o'.enc.map .ai)=aa ((setObj k j o').l.map Obj.enc):=kM Obj.enc k.l j o';refine⟨_,View.o 9 [0,1,2,3,4] [6,7,8] ?_ ?_,sO (setObj k j o') (dY.Ie hw.kr ho) p c n hn r (De dq c.data.length) ⟨0,c.data.length,0,[]⟩⟩
 .have hl:∀x:List Int,(dH x).length=x.length:=λx=>by simp[dH]
  have h9:am .i64 (IntKind.i64.wrap (dq+((dH c.data).length:Nat)))=am .i64 (De dq c.data.length):=by rw[hl];rfl
  repeat(first|exact .nil|refine .aL ?_|refine .eq rfl ?_|refine .eq h9.symm ?_)
 .have h9:((dH c.data).length:Int)=(c.data.length:Int):=by simp[dH]
  refine .pt rfl rfl (X7 (k:=setObj k j o') (jy rfl (congrArg (λx=>some (Bk.row 9 x)) hx)) (jy rfl rfl) (jy rfl rfl)) (.pt rfl rfl (.eq rfl (qW _)) (.pt rfl rfl (.eq rfl (by simp[jW])) (.pe rfl rfl rfl (.pt rfl rfl ?_ (.nil _)))))
  rw[<-h9];exact Wc
theorem TV{ops:List aV}{n:Nat}(h:n<ops.length):qV ops (n:Int)=ops[n].dq:=by rw[qV,aam,xm h]
theorem MO(k:Kr)(p:Nat)(hw:KW k p)(c:Cl)(need:Int)(Ge:Ig 4 5 6 c.ah)(hd:c.data.length<=4194304):
  aw prog 2 X8 (QC c39.mr (iV k c (bm k p c.fd need)).1 p c (iV k c (bm k p c.fd need)).2)
   ⟨jD 172 [(0,.rv (.one (.ptr 0 0))),(1,.rv (.one (.ptr 1 0))),(4,.rv (.one (.ptr 2 0))),(5,am .i64 need)],[xB k p,cB c,jW]⟩:=by
 refine ma k p hw c.fd need 0 rfl ?_;have hh:= @KW.held k p hw c.fd need;generalize bm k p c.fd need=w at hh|-;obtain⟨⟨o,r⟩,b,e⟩:=w;refine bO (λhe=>?_) (λhe=>?_)
 .have he:e≠0:=he;have e1:iV k c ((o,r),b,e)=(k,An.no e):=by rw[iV,if_pos he]
  rw[e1];exact dz (X:=[_,_])
 have he:e=0:=he;subst he;obtain⟨n,j,h1,h2,h3,h4,h5⟩:=hh rfl;have h1:o=n:=h1;have h3:b=j:=h3;subst h1 h3;have lX:=(hw.kr.sm _ (aaP h4)).pZ;have s8:=hw.kr.sm _ (aaP h4);have rV:=vH h4;refine af (nC h2) ?_;have hS:iV k c ((((n:Nat):Int),r),((j:Nat):Int),0)=if c.ah=4 then pk k n k.ops[n].dq (kp k.l[j].ah k.l[j].data k.ops[n].dq c.n)
  else if c.ah=5 then mT k n j k.ops[n].dq c.data.length (fM k.l[j] k.ops[n].dq (dH c.data))else nY k n c.n:=by
  rw[iV,if_neg aG,rV,TV h2]
 rw[hS];refine bc (λk4=>?_) (λk4=>?_)
 .have k4:c.ah=4:=k4;rw[if_pos k4];refine af (jU h4) ?_;refine Qu k.l[j] lX.1 k.ops[n].dq c.n ?_;generalize kp k.l[j].ah k.l[j].data k.ops[n].dq c.n=R;obtain⟨d,e⟩:=R;refine⟨trivial,?_⟩;refine bO (λhe=>?_) (λhe=>?_)
  .have he:e≠0:=he;rw[pk,if_pos he];exact dz (X:=[_,_,_])
  .have he:e=0:=he;subst he;rw[pk,if_neg aG];refine⟨_,View.o1 5 [0,1,2,3,4] [] ?_,sO k hw.kr p c n h2 r (De k.ops[n].dq d.length) ⟨0,d.length,0,d⟩⟩
   .exact .au
 have k4:¬c.ah=4:=k4;rw[if_neg k4];refine bc (λk5=>?_) (λk5=>?_)
 .have k5:c.ah=5:=k5;rw[if_pos k5];have hb:(dH c.data).length<=4194304:=by simpa[dH]using hd
  have DH:=λ(h:(fM k.l[j] k.ops[n].dq (dH c.data)).2=0)=>(uk s8 h).1
  have hg:=jU h4;have ab0:=λo' e(h:e=0->Obj.sm o')=>Ih k p hw c n j h2 h4 r k.ops[n].dq o' e h
  refine af hg ?_;refine⟨?_,?_⟩
  .refine E4 k.l[j] lX k.ops[n].dq (dH c.data) hb ?_;generalize fM k.l[j] k.ops[n].dq (dH c.data)=R at DH|-;obtain⟨o',e⟩:=R;refine⟨trivial,⟨rfl,rfl,af hg rfl,rfl,trivial⟩,trivial,_,View.o1 6 [0,1,2,3,4,5] [] ?_,ab0 o' e DH⟩
   .exact .au
  .refine⟨⟨rfl,rfl,af hg rfl,rfl,trivial⟩,?_⟩;refine E4 k.l[j] lX k.ops[n].dq (dH c.data) hb ?_;generalize fM k.l[j] k.ops[n].dq (dH c.data)=R at DH|-;obtain⟨o',e⟩:=R;refine⟨trivial,trivial,_,View.o1 6 [0,1,2,3,4,5] [] ?_,ab0 o' e DH⟩
   .exact .au
 .have k5:¬c.ah=5:=k5;rw[if_neg k5];refine an (λh6=>?_) (λh6=>?_)
  .have h6:c.n<0:=h6;rw[nY,if_pos (.inl h6)];exact dz (X:=[_,_,_])
  have h6:¬c.n<0:=h6;refine an (λh7=>?_) (λh7=>?_)
  .have h7:c.n>60:=h7;rw[nY,if_pos (.inr h7)];exact dz (X:=[_,_,_])
  have h7:¬c.n>60:=h7;rw[nY,if_neg om];refine⟨_,View.o1 5 [0,1,2,3,4] [] ?_,sO k hw.kr p c n h2 r c.n ⟨0,0,0,[]⟩⟩
  .exact .pt rfl rfl (.eq rfl (oM _ _)) (.pt rfl rfl (.eq rfl (qW _)) (.pt rfl rfl (.eq rfl (by simp[jW])) (.pe rfl rfl rfl (.pt rfl rfl Wc (.nil _)))))
theorem Ii(k:Kr)(p:Nat)(hw:KW k p)(c:Cl)(Ge:Ig 4 5 6 c.ah)(hd:c.data.length<=4194304):
  body prog c39 [.rv (.one (.ptr 0 0)),.rv (.one (.ptr 1 0))] [xB k p,cB c] (TC (gS k p c).1 p c (gS k p c).2):=by
 have hs:=λneed=>MO k p hw c need Ge hd
 have Wd:gS k p c=iV k c (bm k p c.fd (pQ c.ah)):=rfl;rw[Wd];clear Wd;obtain⟨aQ,ah,fd,iQ,n,bQ,bb,cE,data⟩:=c;rcases Ge with h|h|h
 .have h:ah=4:=h;subst h;refine⟨_,View.o1 4 [0,1,2] [] ?_,hs 1⟩
  .exact .au
 .have h:ah=5:=h;subst h;refine⟨_,View.o1 4 [0,1,2] [] ?_,hs 2⟩
  .exact .au
 .have h:ah=6:=h;subst h;refine⟨_,View.o1 4 [0,1,2] [] ?_,hs 4⟩
  .exact .au
theorem sP(k:Kr)(p:Nat)(hw:KW k p)(c:Cl)(Ge:Ig 4 5 6 c.ah)(hd:c.data.length<=4194304):aq prog 39 [.rv (.one (.ptr 0 0)),.rv (.one (.ptr 1 0))] [xB k p,cB c] (TC (gS k p c).1 p c (gS k p c).2):=
 cN func39 l39 (Ii k p hw c Ge hd)
end Kn
def c40:LF:=Cq prog f40 [[5]] [[eL 13 0 .nil],[(eL 9 0 (.cons 9 (some []) (eL 5 10 .nil)))]]
namespace Kn
def Fo(k:Kr)(p:Nat)(x:List dX×Int×Int):Kr×An:=(gg k p x.1 x.2.2,⟨x.2.2,x.2.1,0,[]⟩)
def nG(l:List dX)(c:Cl):List dX×Int×Int:=
 if c.ah=7 then((zr l c.fd).1,0,(zr l c.fd).2)else if c.ah=8 then Qv l c.fd else((Qw l c.fd c.bb).1,0,(Qw l c.fd c.bb).2)
def nH(k:Kr)(p:Nat)(c:Cl):Kr×An:=Fo k p (nG (aP k.ps p) c)
theorem l40:bA prog f40=some c40.er:=by kernel_rfl
def agE:LC:=bs (bs (bs (bs (bs c40.code))))
def agF:LC:=mK agE
theorem QF(k:Kr)(p:Nat)(hw:KW k p)(c:Cl)(x:List dX×Int×Int):
  aw prog 2 agF (QC c40.mr (Fo k p x).1 p c (Fo k p x).2)
   ⟨jD 66 [(0,.rv (.one (.ptr 0 0))),(1,.rv (.one (.ptr 1 0))),(4,.rv (.one (.ptr 2 0))),(5,mI x.1),(6,am .i64 x.2.1),(7,am .i64 x.2.2)],[xB k p,cB c,jW]⟩:=by
 refine Fj k p hw.kr hw.hp x.1 x.2.2 0 rfl ?_;exact dz (X:=[_])
theorem MP(k:Kr)(p:Nat)(hw:KW k p)(c:Cl):
  body prog c40 [.rv (.one (.ptr 0 0)),.rv (.one (.ptr 1 0))] [xB k p,cB c] (TC (nH k p c).1 p c (nH k p c).2):=by
 have hs:=QF k p hw c (nG (aP k.ps p) c);have hg:=fk hw.hp;rw[<-kU hw.hp]at hg;have hl:(aP k.ps p).length<=2097152:=by rw[kU hw.hp];have:=hw.kr.sl _ (aaP hw.hp);omega
 have hS:nH k p c=Fo k p (nG (aP k.ps p) c):=rfl;rw[hS];clear hS;refine af hg ?_;generalize aP k.ps p=S at hl hs|-;refine bc (λh7=>?_) (λh7=>?_)
 .have h7:c.ah=7:=h7;rw[nG,if_pos h7]at hs|-;refine MI S hl c.fd ?_;refine⟨_,View.o1 3 [0,1,2] [] ?_,hs⟩
  .exact .au
 have h7:¬c.ah=7:=h7;rw[nG,if_neg h7]at hs|-;refine bc (λh8=>?_) (λh8=>?_)
 .have h8:c.ah=8:=h8;rw[if_pos h8]at hs|-;refine TR S hl c.fd ?_;refine⟨_,View.o1 3 [0,1,2] [] ?_,hs⟩
  .exact .au
 have h8:¬c.ah=8:=h8;rw[if_neg h8]at hs|-;refine MJ S hl c.fd c.bb ?_;refine⟨trivial,_,View.o1 3 [0,1,2] [] ?_,hs⟩
 .exact .au
theorem vI(k:Kr)(p:Nat)(hw:KW k p)(c:Cl):aq prog 40 [.rv (.one (.ptr 0 0)),.rv (.one (.ptr 1 0))] [xB k p,cB c] (TC (nH k p c).1 p c (nH k p c).2):=
 cN func40 l40 (MP k p hw c)
end Kn
def c41:LF:=Cq prog f41 [[3]] [[(eL 10 0 (.cons 10 (some []) (.cons 11 none .nil)))]]
namespace bY
def mU(sep:eh)(l:List eh):eh:=Lib.join l sep
theorem Fp(l:List eh):(l.map cZ).map (·.data.toList)=l:=by rw[adu];exact List.map_id'' (λ_=>rfl) l
theorem TW(l:List eh)(sep:eh)(hN:l.length<=4194304)(hlen:(mU sep l).length<=140737488355328){m:Mem}{K:CV->Mem->Prop}(h:K (vT (mU sep l)) m):aq prog 73 [txV l,vT sep] m K:=by
 refine⟨⟨f73,func73,rfl,by decide⟩,λρ w vs hM hl hd=>?_⟩
 obtain⟨v0,h0,d0⟩:=hd 0 _ rfl;obtain⟨v1,h1,d1⟩:=hd 1 _ rfl;have D4:v1= .string (cZ sep):=(cf d1).1;have Gc:vs=[v0,v1]:=by
  match vs,hl with
  | [a,b],_=>simp at h0 h1;rw[h0,h1]
 have gU:∀(W':World)(v:Value),v= .string (cZ (mU sep l))->Below w.heap.size w W'->∃v_1 r m' U',Ending.returned v= .returned v_1/\K r m'/\aN U' m' W'/\cG U' W' r v_1/\Ext ρ m w U' m' W':=by
  rintro W' v rfl hb;refine⟨_,_,m,ρ,rfl,h,hM.xg ⟨hb.size,λb hS=>hb.block b (hM.S b hS),λk hk=>hb.block _ (hM.aF k hk).1⟩,dG.val _ rfl,?_⟩
  exact⟨aah _,λ_ _=>rfl,λ_ h=>h,λ_ h=>.inl h,λk h=>.inr ⟨k,h,rfl⟩,λb uY _=>hb.block b uY,hb.size,hb.os,hb.tape,hb.output⟩
 have hD:dG ρ.S w (.sl 1 (l.map tD)) v0:=d0;rw[Gc,D4];generalize LK:l.map tD=elems at hD;cases hD with
 |nil _ a cap hc=>
  have:l=[]:=by simpa using LK
  subst this;refine(Mo a cap (cZ sep) w).mono λe W'⟨he,hw⟩=>?_
  subst he;exact gU W' _ rfl (hw▸Below.refl _ _)
 |sl _ _ b off cap u hS uK bF eu hc cL=>
  have agG:elems.length=(l.map cZ).length:=by rw[<-LK];simp
  rw[agG]at uK|-;refine(Tx b off cap (l.map cZ) (cZ sep) w (λj x hj=>?_) (hM.S b hS) (by rw[P2];omega) uK (by rw[Fp];exact hlen)).mono λe W'⟨he,hw⟩=>?_
  .rw[Rn]at hj;cases hlj:l[j]? with
   |none=>rw[hlj]at hj;cases hj
   |some t=>
    rw[hlj]at hj;simp only[aaS,abi]at hj;subst hj;have e1:elems[j]? =some [.val (.string (cZ t))]:=by rw[<-LK,Rn,hlj];rfl
    have e2:=hc j _ 0 _ e1 rfl;have e3:=cL j _ 0 _ e1 rfl;have e4:u j 0= .string (cZ t):=by
     generalize u j 0=x at e3;cases e3 with
     |val _ _=>rfl
    rw[e4]at e2;simpa using e2
  .subst he;refine gU W' _ ?_ hw;rw[Fp];rfl
end bY
namespace Kn
def ul(e:NE):bY.eh:=e.1.data.toList
def tB(t:bY.eh):List (List Dt):=dH (t.map λb=>((b.toNat:Nat):Int))
def Ij(o:Obj):bY.eh:=bY.mU [10] ((o.ag.map kN).map ul)
def Ko(k:Kr)(o:Obj):Int:=if o.ah=5/\eG k.ps o.aQ=true then 1 else De (De o.data.length o.ag.length) o.aj.length
def zA(k:Kr)(c:Cl)(o:Obj):An:=
 if c.ah=11 then(if o.ah≠2 then An.no 11 else⟨0,o.ag.length,0,tB (Ij o)⟩)else⟨0,o.ah,Ko k o,[]⟩
def lI(k:Kr)(c:Cl)(w:(Int×Int)×Int×Int):An:=if w.2.2≠0 then An.no w.2.2 else zA k c (ii k.l w.2.1)
def QG(c:Cl):Int:=if c.ah=11 then 64 else 128
def kV(k:Kr)(p:Nat)(c:Cl):Kr×An:=(k,lI k c (bm k p c.fd (QG c)))
theorem ab1(es:List NE):es.map nmW=(es.map ul).map bY.tD:=by
 rw[adu];refine adO λe _=>?_
 obtain⟨t,ht⟩:=bY.C1 e.1;show [Dt.val (.string e.1)]=[Dt.val (.string (bY.cZ e.1.data.toList))];rw[ht];rfl
theorem Fq:∀(l:List bY.eh)(n:Nat),(∀t,t∈l->t.length<=n)->(bY.mU [10] l).length<=l.length*(n+1)
 | [],_,_=>by simp[bY.mU,Lib.join]
 | [t],n,h=>by have:=h t aG;simp[bY.mU,Lib.join];omega
 |t::u::r,n,h=>by
  have h1:=h t aG;have h2:=Fq (u::r) n λx hx=>h x (by simp[hx])
  have e:(bY.mU [10] (t::u::r)).length=t.length+1+(bY.mU [10] (u::r)).length:=by simp[bY.mU,Lib.join];omega
  rw[e];simp only[aaY]at h2|-;have e2:(r.length+1+1)*(n+1)=(r.length+1)*(n+1)+(n+1):=by rw[ade (r.length+1) 1 (n+1),adG]
  rw[e2];omega
theorem MQ(t:bY.eh):so (bY.cZ t)=aa (tB t):=by show t.map _=_;rw[aa,tB,dH,adu,adu];rfl
theorem l41:bA prog f41=some c41.er:=by kernel_rfl
def C18:LC:=bs (bs (bs c41.code))
def G18:LC:=mK C18
theorem agI{m:Mem}{e n x:Int}{id:Nat}{d:List (List Dt)}{Z:Nat->Prop}{Y:Nat->Nat}(hz:Z id)(hm:m[id]? =some (.row 1 (aa d))):
  ta Y m Z (.rv (.agg [.ai (.val (.int .i64 e)),.ai (.val (.int .i64 n)),.ai (.val (.int .i64 x)),.row id 1 0 none])) (An.cv ⟨e,n,x,d⟩):=
 .rv (.agg rfl λi c c' h1 h2=>by
  match i,h1,h2 with
  |0,h1,h2=>cases h1;cases h2;exact .aO (.ai _)
  |1,h1,h2=>cases h1;cases h2;exact .aO (.ai _)
  |2,h1,h2=>cases h1;cases h2;exact .aO (.ai _)
  |3,h1,h2=>cases h1;cases h2;exact .dO (jy hz hm)
  |n+4,h1,h2=>simp at h1)
theorem MR(k:Kr)(p:Nat)(hw:KW k p)(c:Cl)(need:Int):
  aw prog 2 G18 (QC c41.mr k p c (lI k c (bm k p c.fd need)))
   ⟨jD 85 [(0,.rv (.one (.ptr 0 0))),(1,.rv (.one (.ptr 1 0))),(4,.rv (.one (.ptr 2 0))),(5,am .i64 need)],[xB k p,cB c,jW]⟩:=by
 refine ma k p hw c.fd need 0 rfl ?_;have hh:= @KW.held k p hw c.fd need;generalize bm k p c.fd need=w at hh|-;obtain⟨⟨o,r⟩,b,e⟩:=w;refine bO (λhe=>?_) (λhe=>?_)
 .have he:e≠0:=he;have e1:lI k c ((o,r),b,e)=An.no e:=by rw[lI,if_pos he]
  rw[e1];exact dz (X:=[_,_])
 have he:e=0:=he;subst he;obtain⟨n,j,h1,h2,h3,h4,h5⟩:=hh rfl;have h3:b=j:=h3;subst h3;have s8:=hw.kr.sm _ (aaP h4);have SO:=hw.nm _ (aaP h4);have e1:lI k c ((o,r),((j:Nat):Int),0)=zA k c k.l[j]:=by rw[lI,if_neg aG,vH h4]
 rw[e1];refine af (jU h4) ?_;generalize k.l[j]=ob at s8 SO|-;refine bc (λNY=>?_) (λNY=>?_)
 .have NY:c.ah=11:=NY;rw[zA,if_pos NY];refine bO (λGa=>?_) (λGa=>?_)
  .have Ga:ob.ah≠2:=Ga;rw[if_pos Ga];exact dz (X:=[_,_,_])
  have Ga:¬ob.ah≠2:=λh=>h Ga
  rw[if_neg Ga];obtain⟨es,oR⟩:=s8.t.2.1;have LK:es.length<=8:=by have:=s8.e;rw[oR]at this;simpa using this
  have V9:ob.ag.map kN=es:=by rw[oR,iI]
  rw[V9]at SO;have hN:Ij ob=bY.mU [10] (es.map ul):=by rw[Ij,V9]
  rw[hN];have hJ:(bY.mU [10] (es.map ul)).length<=200:=by
   have:=Fq (es.map ul) 12 λt ht=>by obtain⟨e,he,rfl⟩:=abm.1 ht;have:=SO e he;show e.1.data.toList.length<=12;rwa [adP]
   rw[P2]at this;omega
  refine Qe ob es oR om ?_;rw[ab1];refine bY.TW (es.map ul) [10] (by rw[P2];omega) om ?_
  have eu:(bY.cZ (bY.mU [10] (es.map ul))).size<=140737488355328:=by rw[bY.oH];omega
  have hR:=MQ (bY.mU [10] (es.map ul));generalize bY.mU [10] (es.map ul)=T at eu hR;refine⟨eu,?_⟩;refine⟨_,_,View.o 6 [0,1] [5] (.put (agI rfl (congrArg (λx=>some (Bk.row 1 x)) hR)) .nil) (.pt rfl rfl (.eq rfl (oM _ _)) (.pt rfl rfl (.eq rfl (qW _)) (.nil _))),rfl,rfl⟩
 have NY:¬c.ah=11:=NY;rw[zA,if_neg NY];have hq:(ob.aj.length:Int)=((ob.aj.map cJ.enc).length:Int):=by rw[P2]
 refine bc (λh5=>?_) (λh5=>?_)
 .have h5:ob.ah=5:=h5;refine qM k.l k.ops k.ps ob.aQ ?_;refine⟨trivial,?_⟩;cases hl:eG k.ps ob.aQ with
  |true=>
   rw[Ko,if_pos ⟨h5,hl⟩];exact dz (X:=[_,_,_])
  |false=>
   rw[Ko,if_neg (by simp[hl]),hq]
   exact dz (X:=[_,_,_])
 .have h5:¬ob.ah=5:=h5;rw[Ko,if_neg (λh=>h5 h.1),hq]
  refine⟨trivial,?_⟩;exact dz (X:=[_,_,_])
theorem Ik(k:Kr)(p:Nat)(hw:KW k p)(c:Cl):
  body prog c41 [.rv (.one (.ptr 0 0)),.rv (.one (.ptr 1 0))] [xB k p,cB c] (TC (kV k p c).1 p c (kV k p c).2):=by
 have hs:=λneed=>MR k p hw c need
 refine bc (λh=>?_) (λh=>?_)
 .have h:c.ah=11:=h;have e:kV k p c=(k,lI k c (bm k p c.fd 64)):=by rw[kV,QG,if_pos h]
  rw[e];refine⟨_,View.o1 3 [0,1,2] [] ?_,hs 64⟩
  .exact .au
 .have h:¬c.ah=11:=h;have e:kV k p c=(k,lI k c (bm k p c.fd 128)):=by rw[kV,QG,if_neg h]
  rw[e];refine⟨_,View.o1 3 [0,1,2] [] ?_,hs 128⟩
  .exact .au
theorem zB(k:Kr)(p:Nat)(hw:KW k p)(c:Cl):aq prog 41 [.rv (.one (.ptr 0 0)),.rv (.one (.ptr 1 0))] [xB k p,cB c] (TC (kV k p c).1 p c (kV k p c).2):=
 cN func41 l41 (Ik k p hw c)
end Kn
def c42:LF:=Cq prog f42 [[3],[3,3],[3,3,1],[3,3,1,1]] [[(eL 10 0 (.z7 (.cons 10 (some []) (eL 3 11 (.cons 14 (some [9,4]) (.cons 15 (some []) (.cons 16 none .nil))))) (.cons 14 (some [9,4]) (.cons 10 (some []) (eL 3 11 (.cons 15 (some []) (.cons 16 none .nil)))))))],[(eL 9 0 (.cons 9 (some []) (eL 7 10 .nil)))],[(eL 6 0 (.cons 6 (some [1]) (.cons 7 none (.cons 8 (some []) (eL 4 9 .nil)))))]]
namespace Kn
def zC(d:List Int):bY.eh:=d.map λn=>UInt8.ofNat n.toNat
def zD(d:List Int):Obj:=⟨3,[],[],bY.cZ (zC d),0,[],0,0,0⟩
def Il:Obj:=⟨2,[],[],⟨#[]⟩,0,[],0,0,0⟩
theorem Df(k:Int)(t:ByteArray):TT ⟨k,[],[],t,0,[],0,0,0⟩:=⟨⟨⟨⟨[],rfl⟩,⟨[],rfl⟩,aG⟩,aG,aG,aG,aG⟩,rfl⟩
def Dg(k:Kr)(f:R4):List Obj×Int×Int:=cO k.l f.dir (bY.cZ f.name)
def lw(k:Kr)(c:Cl)(f:R4):Kr×Int:=
 if f.iq≠0 then(k,f.iq)
 else if f.name=[]then(k,8)
 else if c.ah=14 then(if f.obj<0 then(k,6)else(cu k (Dg k f).1 (Dg k f).2.2,(Dg k f).2.2))
 else if f.obj>=0 then(k,7)
 else if c.ah=13 then((cz k f (zD c.data)).1,(cz k f (zD c.data)).2.2)
 else((cz k f Il).1,(cz k f Il).2.2)
def wS(c:Cl):Int:=if c.ah=14 then 40 else 24
def i7(k:Kr)(c:Cl)(w:(Int×Int)×Int×Int):Kr×Int:=
 if w.2.2≠0 then(k,w.2.2)
 else if c.ah=13/\(bY.df (zC c.data)).2.2≠0 then(k,(bY.df (zC c.data)).2.2)
 else lw k c (eA k w.2.1 c.cE true false)
def QH(x:Kr×Int):Kr×An:=(x.1,An.no x.2)
def jX(k:Kr)(p:Nat)(c:Cl):Kr×An:=QH (i7 k c (bm k p c.fd (wS c)))
theorem l42:bA prog f42=some c42.er:=by kernel_rfl
def agJ:LC:=bs (bs (bs c42.code))
def ab2:LC:=mK agJ
def agK:LC:=bs (bs (bs ab2))
def ab3:LC:=mK agK
def agL:LC:=bs ab3
def ab4:LC:=mK agL
def ab5:LC:=bs ab4
def ab6:LC:=mK ab5
theorem MS(k:Kr)(p:Nat)(c:Cl)(e:Int):
  aw prog 2 ab6 (QC c42.mr k p c (An.no e)) ⟨jD 142 [(0,.rv (.one (.ptr 0 0))),(1,.rv (.one (.ptr 1 0))),(4,.rv (.one (.ptr 2 0))),(8,am .i64 e)],[xB k p,cB c,jW]⟩:=dz (X:=[_])
theorem agM(t:bY.eh){A B:Prop}(ha:t=[]->A)(hb:t≠[]->B): @Bool.rec (λ_=>Prop) B A ((bY.cZ t).toList==(⟨#[]⟩:ByteArray).toList):=bY.mP (b:=[]) ha hb
theorem m3{Y:Nat->Nat}(hσ:Y 0=0/\Y 1=1/\Y 2=2){Z:Nat->Prop}(hZ:¬Z 0/\¬Z 1/\¬Z 2){k:Kr}{p:Nat}{c:Cl}{X:Mem}:b8 Y (xB k p::cB c::jW::X) Z 0 [xB k p,cB c,jW]:=by
 obtain⟨h0,h1,h2⟩:=hσ;obtain⟨z0,z1,z2⟩:=hZ;exact .put (by rw[h0];exact z0) (by rw[h0];rfl) (.eq rfl (oM _ _)) (.put (by rw[h1];exact z1) (by rw[h1];rfl) (.eq rfl (qW _)) (.put (by rw[h2];exact z2) (by rw[h2];rfl) (.eq rfl (by simp[jW])) (.nil _)))
theorem QJ(k:Kr)(p:Nat)(hw:KW k p)(c:Cl)(f:R4):
  aw prog 2 ab4 (QC c42.mr (QH (lw k c f)).1 p c (QH (lw k c f)).2)
   ⟨jD 142 [(0,.rv (.one (.ptr 0 0))),(1,.rv (.one (.ptr 1 0))),(4,.rv (.one (.ptr 2 0))),(8,am .i64 f.iq),(12,.rv (.one (.ptr 3 0)))],[xB k p,cB c,jW,.var ((ZE f).map .ai)]⟩:=by
 have Im:=λk e=>MS k p c e
 obtain⟨obj,dir,name,iq⟩:=f;refine bO (λhe=>?_) (λhe=>?_)
 .have he:iq≠0:=he;have e1:lw k c ⟨obj,dir,name,iq⟩=(k,iq):=by rw[lw,if_pos he]
  rw[e1];refine⟨_,View.o1 4 [0,1,2] [] (m3 ⟨rfl,rfl,rfl⟩ ⟨fR rfl,fR rfl,fR rfl⟩),Im k iq⟩
 have he:iq=0:=he;subst he;refine agM name (λh1=>?_) (λh1=>?_)
 .have e1:lw k c ⟨obj,dir,name,0⟩=(k,8):=by rw[lw,if_neg aG,if_pos h1]
  rw[e1];refine⟨_,View.o1 4 [0,1,2] [] (m3 ⟨rfl,rfl,rfl⟩ ⟨fR rfl,fR rfl,fR rfl⟩),Im k 8⟩
 have e0:lw k c ⟨obj,dir,name,0⟩=if c.ah=14 then(if obj<0 then(k,6)else(cu k (Dg k ⟨obj,dir,name,0⟩).1 (Dg k ⟨obj,dir,name,0⟩).2.2,(Dg k ⟨obj,dir,name,0⟩).2.2))
   else if obj>=0 then(k,7)
   else if c.ah=13 then((cz k ⟨obj,dir,name,0⟩ (zD c.data)).1,(cz k ⟨obj,dir,name,0⟩ (zD c.data)).2.2)
   else((cz k ⟨obj,dir,name,0⟩ Il).1,(cz k ⟨obj,dir,name,0⟩ Il).2.2):=by rw[lw,if_neg aG,if_neg h1]
 rw[e0];refine bc (λQK=>?_) (λQK=>?_)
 .have QK:c.ah=14:=QK;rw[if_pos QK];refine an (λho=>?_) (λho=>?_)
  .have ho:obj<0:=ho;rw[if_pos ho];refine⟨_,View.o1 4 [0,1,2] [] (m3 ⟨rfl,rfl,rfl⟩ ⟨fR rfl,fR rfl,fR rfl⟩),Im k 6⟩
  have ho:¬obj<0:=ho;rw[if_neg ho];refine bS (beq_iff_eq.2 QK) ?_;refine H3 k.l hw.DO dir (bY.cZ name) ?_;refine⟨trivial,?_⟩;refine pj k p hw.kr _ _ 0 rfl ?_;refine⟨_,View.o1 4 [0,1,2] [] (m3 ⟨rfl,rfl,rfl⟩ ⟨fR rfl,fR rfl,fR rfl⟩),Im _ _⟩
 have QK:¬c.ah=14:=QK;rw[if_neg QK];refine yx (beq_eq_false_iff_ne.2 QK) ?_;refine an (λho=>?_) (λho=>?_)
 .have ho:obj>=0:=ho;rw[if_pos ho];refine⟨_,View.o1 4 [0,1,2] [] (m3 ⟨rfl,rfl,rfl⟩ ⟨fR rfl,fR rfl,fR rfl⟩),Im k 7⟩
 have ho:¬obj>=0:=ho;rw[if_neg ho];refine bc (λGm=>?_) (λGm=>?_)
 .have Gm:c.ah=13:=Gm;rw[if_pos Gm];refine af (oB c.data) ?_;refine⟨⟨rfl,trivial⟩,?_⟩;refine jK (Dd _ _ _ _) (vF k p hw ⟨obj,dir,name,0⟩ (zD c.data) (Df _ _) 0 rfl ?_);refine⟨trivial,?_⟩;refine⟨_,View.o1 4 [0,1,2] [] (m3 ⟨rfl,rfl,rfl⟩ ⟨fR rfl,fR rfl,fR rfl⟩),Im _ _⟩
 have Gm:¬c.ah=13:=Gm;rw[if_neg Gm];refine jK (Dd _ _ _ _) (vF k p hw ⟨obj,dir,name,0⟩ Il (Df _ _) 0 rfl ?_);refine⟨_,View.o1 4 [0,1,2] [] (m3 ⟨rfl,rfl,rfl⟩ ⟨fR rfl,fR rfl,fR rfl⟩),Im _ _⟩
theorem Fr(k:Kr)(p:Nat)(hw:KW k p)(c:Cl)(aB:Int)(R:Kr×Int)(hR:R=lw k c (eA k aB c.cE true false)):
  aw prog 2 ab3 (QC c42.mr (QH R).1 p c (QH R).2)
   ⟨jD 142 [(0,.rv (.one (.ptr 0 0))),(1,.rv (.one (.ptr 1 0))),(4,.rv (.one (.ptr 2 0))),(7,am .i64 aB)],[xB k p,cB c,jW]⟩:=by
 have hs:=QJ k p hw c (eA k aB c.cE true false);rw[<-hR]at hs;refine⟨?_,?_⟩
 .refine uj k p hw aB c.cE true false ?_;refine⟨trivial,⟨rfl,rfl,trivial⟩,trivial,_,View.o1 4 [0,1,2,3] [] ?_,hs⟩
  .exact .au
 .refine⟨⟨rfl,rfl,trivial⟩,?_⟩;refine uj k p hw aB c.cE true false ?_;refine⟨trivial,trivial,_,View.o1 4 [0,1,2,3] [] ?_,hs⟩
  .exact .au
theorem QL(k:Kr)(p:Nat)(hw:KW k p)(c:Cl)(need:Int):
  aw prog 2 ab2 (QC c42.mr (QH (i7 k c (bm k p c.fd need))).1 p c (QH (i7 k c (bm k p c.fd need))).2)
   ⟨jD 142 [(0,.rv (.one (.ptr 0 0))),(1,.rv (.one (.ptr 1 0))),(4,.rv (.one (.ptr 2 0))),(5,am .i64 need)],[xB k p,cB c,jW]⟩:=by
 refine ma k p hw c.fd need 0 rfl ?_;generalize bm k p c.fd need=w;obtain⟨⟨o,r⟩,b,e⟩:=w;refine bO (λhe=>?_) (λhe=>?_)
 .have he:e≠0:=he;have e1:i7 k c ((o,r),b,e)=(k,e):=by rw[i7,if_pos he]
  rw[e1];exact dz (X:=[_,_])
 have he:e=0:=he;subst he;refine bc (λGm=>?_) (λGm=>?_)
 .have Gm:c.ah=13:=Gm;refine af (oB c.data) ?_;refine bY.zd (zC c.data) ?_;refine bO (λhs=>?_) (λhs=>?_)
  .have hs:(bY.df (zC c.data)).2.2≠0:=hs;have e1:i7 k c ((o,r),b,0)=(k,(bY.df (zC c.data)).2.2):=by rw[i7,if_neg aG,if_pos ⟨Gm,hs⟩]
   rw[e1];exact dz (X:=[_,_])
  .have hs:¬(bY.df (zC c.data)).2.2≠0:=λh=>h hs
   refine⟨_,View.o1 4 [0,1,2] [] (m3 ⟨rfl,rfl,rfl⟩ ⟨fR rfl,fR rfl,fR rfl⟩),Fr k p hw c b (i7 k c ((o,r),b,0)) (by rw[i7,if_neg aG,if_neg (λh=>hs h.2)])⟩
 .have Gm:¬c.ah=13:=Gm;refine⟨_,View.o1 4 [0,1,2] [] (m3 ⟨rfl,rfl,rfl⟩ ⟨fR rfl,fR rfl,fR rfl⟩),Fr k p hw c b (i7 k c ((o,r),b,0)) (by rw[i7,if_neg aG,if_neg (λh=>Gm h.1)])⟩
theorem oC(k:Kr)(p:Nat)(hw:KW k p)(c:Cl):
  body prog c42 [.rv (.one (.ptr 0 0)),.rv (.one (.ptr 1 0))] [xB k p,cB c] (TC (jX k p c).1 p c (jX k p c).2):=by
 have hs:=λneed=>QL k p hw c need
 refine bc (λh=>?_) (λh=>?_)
 .have h:c.ah=14:=h;have e:jX k p c=QH (i7 k c (bm k p c.fd 40)):=by rw[jX,wS,if_pos h]
  rw[e];refine⟨_,View.o1 3 [0,1,2] [] (m3 ⟨rfl,rfl,rfl⟩ ⟨fR rfl,fR rfl,fR rfl⟩),hs 40⟩
 .have h:¬c.ah=14:=h;have e:jX k p c=QH (i7 k c (bm k p c.fd 24)):=by rw[jX,wS,if_neg h]
  rw[e];refine⟨_,View.o1 3 [0,1,2] [] (m3 ⟨rfl,rfl,rfl⟩ ⟨fR rfl,fR rfl,fR rfl⟩),hs 24⟩
theorem vJ(k:Kr)(p:Nat)(hw:KW k p)(c:Cl):aq prog 42 [.rv (.one (.ptr 0 0)),.rv (.one (.ptr 1 0))] [xB k p,cB c] (TC (jX k p c).1 p c (jX k p c).2):=
 cN func42 l42 (oC k p hw c)
end Kn
def c44:LF:=Cq prog f44 [[5]] [[(eL 16 0 (.cons 16 (some []) (eL 4 17 (.cons 21 (some []) (.cons 22 none .nil)))))],[(eL 7 0 (.cons 7 (some []) (eL 5 8 .nil)))]]
def c45:LF:=Cq prog f45 [[7]] [[(eL 14 0 (.cons 14 (some []) (eL 7 15 .nil)))]]
namespace Kn
def BK(d:List Int)(g:(Int×Int)×Bool):cJ:=⟨dH d,g.2,g.1.1,g.1.2⟩
def i9(k:Kr)(c:Cl)(r:List Obj×Int):Kr×An:=(cu k r.1 r.2,if r.2≠0 then An.no r.2 else⟨0,c.data.length,0,[]⟩)
def rY(k:Kr)(p:Nat)(c:Cl)(obj:Int):Kr×An:=
 if c.iQ>=0 then
  (if(lv (aP k.ps p) c.iQ).2≠0 then(k,An.no (lv (aP k.ps p) c.iQ).2)else i9 k c (dS k.l obj (BK c.data ((lv (aP k.ps p) c.iQ).1,true))))
 else i9 k c (dS k.l obj (BK c.data ((0,0),false)))
def um(k:Kr)(p:Nat)(c:Cl)(w:(Int×Int)×Int×Int):Kr×An:=if w.2.2≠0 then(k,An.no w.2.2)else rY k p c w.2.1
def ik(k:Kr)(p:Nat)(c:Cl):Kr×An:=um k p c (bm k p c.fd 256)
theorem l44:bA prog f44=some c44.er:=by kernel_rfl
def agN:LC:=bs (bs (bs (bs (bs c44.code))))
def agO:LC:=mK agN
theorem QM(k:Kr)(p:Nat)(hw:KW k p)(c:Cl)(obj:Int)(m:cJ)(hm:m.data.length<=4194304):
  aw prog 2 agO (QC c44.mr (i9 k c (dS k.l obj m)).1 p c (i9 k c (dS k.l obj m)).2)
   ⟨jD 85 [(0,.rv (.one (.ptr 0 0))),(1,.rv (.one (.ptr 1 0))),(4,.rv (.one (.ptr 2 0))),(6,am .i64 obj),(8,.rv (.one (.ptr 3 0)))],[xB k p,cB c,jW,.var (m.enc.map .ai)]⟩:=by
 refine Ta k.l hw.pZ obj m hm ?_;generalize dS k.l obj m=r;obtain⟨l,e⟩:=r;refine⟨trivial,?_⟩;refine pj k p hw.kr l e 0 rfl ?_;refine bO (λhe=>?_) (λhe=>?_)
 .have he:e≠0:=he;rw[i9,if_pos he];exact dz (X:=[_,_])
 .have he:¬e≠0:=λh=>h he
  have hq:(c.data.length:Int)=((dH c.data).length:Int):=by simp[dH]
  rw[i9,if_neg he,hq];exact dz (X:=[_,_])
theorem vh(k:Kr)(p:Nat)(hw:KW k p)(c:Cl)(hd:c.data.length<=4194304):
  body prog c44 [.rv (.one (.ptr 0 0)),.rv (.one (.ptr 1 0))] [xB k p,cB c] (TC (ik k p c).1 p c (ik k p c).2):=by
 have hs:=λobj m hm=>QM k p hw c obj m hm
 have lF:(dH c.data).length<=4194304:=by simpa[dH]using hd
 refine ma k p hw c.fd 256 0 rfl ?_;have hS:ik k p c=um k p c (bm k p c.fd 256):=rfl;rw[hS];clear hS;generalize bm k p c.fd 256=w;obtain⟨⟨o,r⟩,b,e⟩:=w;refine bO (λhe=>?_) (λhe=>?_)
 .have he:e≠0:=he;rw[um,if_pos he];exact dz (X:=[_,_])
 have he:e=0:=he;subst he;rw[um,if_neg aG];refine an (λh2=>?_) (λh2=>?_)
 .have h2:c.iQ>=0:=h2;have hg:=fk hw.hp;rw[<-kU hw.hp]at hg;refine af hg ?_;have e1:rY k p c b=if(lv (aP k.ps p) c.iQ).2≠0 then(k,An.no (lv (aP k.ps p) c.iQ).2)else i9 k c (dS k.l b (BK c.data ((lv (aP k.ps p) c.iQ).1,true))):=by rw[rY,if_pos h2]
  rw[e1];refine TQ (aP k.ps p) c.iQ ?_;generalize lv (aP k.ps p) c.iQ=g;obtain⟨⟨go,gr⟩,e⟩:=g;refine⟨trivial,trivial,?_⟩;refine bO (λhe=>?_) (λhe=>?_)
  .have he:e≠0:=he;rw[if_pos he];exact dz (X:=[_,_,_])
  have he:¬e≠0:=λh=>h he
  rw[if_neg he];refine⟨_,View.o1 5 [0,1,2,4] [] ?_,hs b (BK c.data ((go,gr),true)) lF⟩
  .exact .au
 .have h2:¬c.iQ>=0:=h2;have e1:rY k p c b=i9 k c (dS k.l b (BK c.data ((0,0),false))):=by rw[rY,if_neg h2]
  rw[e1];refine⟨_,View.o1 5 [0,1,2,4] [] ?_,hs b (BK c.data ((0,0),false)) lF⟩
  .exact .au
theorem MT(k:Kr)(p:Nat)(hw:KW k p)(c:Cl)(hd:c.data.length<=4194304):aq prog 44 [.rv (.one (.ptr 0 0)),.rv (.one (.ptr 1 0))] [xB k p,cB c] (TC (ik k p c).1 p c (ik k p c).2):=
 cN func44 l44 (vh k p hw c hd)
def rZ(k:Kr)(l:List Obj)(m:cJ)(fd:Int):Kr×An:=(cu k l 0,⟨0,m.data.length,fd,m.data⟩)
def r8(k:Kr)(p:Nat)(r:List Obj×cJ×Int):Kr×An:=
 if r.2.2≠0 then(k,An.no r.2.2)
 else if r.2.1.has=true then
  (if(gP (aP k.ps p) r.2.1.ct r.2.1.rts).2.2≠0 then(k,An.no (gP (aP k.ps p) r.2.1.ct r.2.1.rts).2.2)
   else rZ (gg k p (gP (aP k.ps p) r.2.1.ct r.2.1.rts).1 0) r.1 r.2.1 (gP (aP k.ps p) r.2.1.ct r.2.1.rts).2.1)
 else rZ k r.1 r.2.1 (-1)
def uq(k:Kr)(p:Nat)(w:(Int×Int)×Int×Int):Kr×An:=if w.2.2≠0 then(k,An.no w.2.2)else r8 k p (eS k.l w.2.1)
def il(k:Kr)(p:Nat)(c:Cl):Kr×An:=uq k p (bm k p c.fd 512)
theorem ur{l:List dX}{o r:Int}(hl:l.length<=10):(gP l o r).1.length<=10:=by
 unfold gP Tb.jR;split
 .simp
 .split
  .simpa using hl
  .split
   .simp
   .rename_i h;simp only[P2,acs,aaY,acg]at h|-;omega
theorem QN{k:Kr}(hk:dY k.l k.ops k.ps){p:Nat}(hp:p<k.ps.length){l:List dX}(hl:l.length<=10):dY k.l k.ops (dV k.ps p l):=by
 have e:dV k.ps p l=k.ps.set p {k.ps[p]with ap:=l}:=by rw[dV,xm hp]
 rw[e];refine⟨hk.sm,hk.ll,hk.lo,by simpa using hk.lp,λx hx=>?_,λh=>hk.ne (by simpa using h)⟩
 rcases abF hx with hx|rfl
 .exact hk.sl x hx
 .exact hl
theorem l45:bA prog f45=some c45.er:=by kernel_rfl
def agP:LC:=bs (bs (bs (bs (bs (bs (bs c45.code))))))
def agQ:LC:=mK agP
theorem Fs(k:Kr)(p:Nat)(hk:dY k.l k.ops k.ps)(c:Cl)(l:List Obj)(m:cJ)(fd:Int):
  aw prog 2 agQ (QC c45.mr (rZ k l m fd).1 p c (rZ k l m fd).2)
   ⟨jD 82 [(0,.rv (.one (.ptr 0 0))),(1,.rv (.one (.ptr 1 0))),(4,.rv (.one (.ptr 2 0))),(8,cQ l),(9,.rv (.one (.ptr 3 0))),(10,am .i64 fd)],[xB k p,cB c,jW,.var (m.enc.map .ai)]⟩:=by
 refine pj k p hk l 0 0 rfl ?_;exact Ib (k:=cu k l 0) (a:=⟨0,m.data.length,fd,m.data⟩) (X:=[_,_])
theorem vj(k:Kr)(p:Nat)(hw:KW k p)(c:Cl):
  body prog c45 [.rv (.one (.ptr 0 0)),.rv (.one (.ptr 1 0))] [xB k p,cB c] (TC (il k p c).1 p c (il k p c).2):=by
 refine ma k p hw c.fd 512 0 rfl ?_;have hS:il k p c=uq k p (bm k p c.fd 512):=rfl;rw[hS];clear hS;generalize bm k p c.fd 512=w;obtain⟨⟨o,r⟩,b,e⟩:=w;refine bO (λhe=>?_) (λhe=>?_)
 .have he:e≠0:=he;rw[uq,if_pos he];exact dz (X:=[_,_])
 have he:e=0:=he;subst he;rw[uq,if_neg aG];refine Tc k.l hw.pZ b ?_;generalize eS k.l b=R;obtain⟨l,m,e⟩:=R;refine bO (λhe=>?_) (λhe=>?_)
 .have he:e≠0:=he;rw[r8,if_pos he];exact dz (X:=[_,_,_])
 have he:e=0:=he;subst he;have hR:r8 k p (l,m,0)=if m.has=true then
   (if(gP (aP k.ps p) m.ct m.rts).2.2≠0 then(k,An.no (gP (aP k.ps p) m.ct m.rts).2.2)
    else rZ (gg k p (gP (aP k.ps p) m.ct m.rts).1 0) l m (gP (aP k.ps p) m.ct m.rts).2.1)
  else rZ k l m (-1):=by rw[r8,if_neg aG]
 rw[hR];clear hR;obtain⟨data,has,ct,rts⟩:=m;cases has with
 |false=>
  rw[if_neg aG];refine⟨_,View.o1 5 [0,1,2,4] [] ?_,Fs k p hw.kr c l ⟨data,false,ct,rts⟩ (-1)⟩
  .exact .au
 |true=>
  rw[if_pos rfl];have hg:=fk hw.hp;rw[<-kU hw.hp]at hg;have hl:(aP k.ps p).length<=10:=by rw[kU hw.hp];exact hw.kr.sl _ (aaP hw.hp)
  refine af hg ?_;have fb:= @ur (aP k.ps p) ct rts hl;refine CT (aP k.ps p) om ct rts ?_;have hkr:= @QN k hw.kr p hw.hp;generalize gP (aP k.ps p) ct rts=T at fb|-;obtain⟨t,fd,e⟩:=T;refine⟨trivial,?_⟩;refine bO (λhe=>?_) (λhe=>?_)
  .have he:e≠0:=he;rw[if_pos he];exact dz (X:=[_,_,_])
  have he:e=0:=he;subst he;rw[if_neg aG];refine Fj k p hw.kr hw.hp t 0 0 rfl ?_;refine⟨_,View.o1 5 [0,1,2,4] [] ?_,Fs (gg k p t 0) p (hkr fb) c l ⟨data,true,ct,rts⟩ fd⟩
  .exact .au
theorem MU(k:Kr)(p:Nat)(hw:KW k p)(c:Cl):aq prog 45 [.rv (.one (.ptr 0 0)),.rv (.one (.ptr 1 0))] [xB k p,cB c] (TC (il k p c).1 p c (il k p c).2):=
 cN func45 l45 (vj k p hw c)
end Kn
def c43:LF:=Cq prog f43 [[5]] [[(eL 7 0 (.cons 7 (some []) (eL 4 8 (.cons 12 (some []) (.cons 13 none (.cons 14 none .nil))))))],[(eL 7 0 (.cons 7 (some []) (eL 4 8 (.cons 12 (some []) (.cons 13 none (.cons 14 none .nil))))))]]
namespace Kn
def qX(p:Nat)(a:Kr×Int×Int)(e1:Int)(k:Kr):Kr×An:=
 if a.2.2≠0 then(k,An.no a.2.2)
 else if(aK a.1 p e1 896).2.2≠0 then(k,An.no (aK a.1 p e1 896).2.2)
 else((aK a.1 p e1 896).1,⟨0,a.2.1,(aK a.1 p e1 896).2.1,[]⟩)
def ut(k:Kr)(p:Nat)(P:List Obj×(Int×Int)×Int):Kr×An:=
 if P.2.2≠0 then(k,An.no P.2.2)else qX p (aK ⟨P.1,k.ops,k.ps⟩ p P.2.1.1 896) P.2.1.2 k
def im(k:Kr)(p:Nat):Kr×An:=ut k p (dL k.l)
structure X9(k:Kr)(p:Nat)(P:List Obj×(Int×Int)×Int):Prop where
 a:P.2.2=0->dY P.1 k.ops k.ps
 b:P.2.2=0->(aK ⟨P.1,k.ops,k.ps⟩ p P.2.1.1 896).2.2=0->dY (aK ⟨P.1,k.ops,k.ps⟩ p P.2.1.1 896).1.l (aK ⟨P.1,k.ops,k.ps⟩ p P.2.1.1 896).1.ops (aK ⟨P.1,k.ops,k.ps⟩ p P.2.1.1 896).1.ps/\p<(aK ⟨P.1,k.ops,k.ps⟩ p P.2.1.1 896).1.ps.length
theorem l43:bA prog f43=some c43.er:=by kernel_rfl
def agS:LC:=bs (bs (bs (bs (bs c43.code))))
def agT:LC:=mK agS
def kB(k:Kr):Bk:= .var ((kC k.l k.ops k.ps).map .ai)
theorem oN(k:Kr):kB k≠.aE:=by intro h;cases h
def TP(k:Kr)(p:Nat)(a:An)(r:CV)(m:Mem):Prop:=∃r' m',View 1 ⟨[r],m⟩ ⟨[r'],m'⟩/\r'=a.cv/\m'=[xB k p]
theorem Kp{k:Kr}{p:Nat}{X:Mem}{e n x:Int}:TP k p ⟨e,n,x,[]⟩ (.rv (.agg [.ai (.val (.int .i64 e)),.ai (.val (.int .i64 n)),.ai (.val (.int .i64 x)),.bv])) (xB k p::X):=
 ⟨_,_,View.of (X.length+1) [0] [] rfl rfl rfl rfl rfl (by simp[eP,Nat.blt]) (.put QA .nil) (.pt rfl rfl (.eq rfl (oM _ _)) (.nil _)),rfl,rfl⟩
theorem QO(k:Kr)(p:Nat)(k1:Kr)(hp:p<k1.ps.length)(hk:dY k1.l k1.ops k1.ps)(e0 e1:Int)(hb:(aK k1 p e0 896).2.2=0->dY (aK k1 p e0 896).1.l (aK k1 p e0 896).1.ops (aK k1 p e0 896).1.ps/\p<(aK k1 p e0 896).1.ps.length):
  aw prog 1 agT (oi prog c43.mr (TP (qX p (aK k1 p e0 896) e1 k).1 p (qX p (aK k1 p e0 896) e1 k).2))
   ⟨jD 69 [(0,.rv (.one (.ptr 0 0))),(2,.rv (.one (.ptr 1 0))),(4,.rv (.one (.ptr 2 0))),(6,.rv (.one (.ptr 3 0)))],[xB k p,jW,.var [.ai (.val (.int .i64 e0)),.ai (.val (.int .i64 e1))],kB k1]⟩:=by
 refine vC k1 hk p hp e0 896 ?_;generalize aK k1 p e0 896=A at hb|-;obtain⟨k2,fd,e⟩:=A;refine⟨trivial,trivial,?_⟩;refine bO (λhe=>?_) (λhe=>?_)
 .have he:e≠0:=he;rw[qX,if_pos he];exact Kp (X:=[_,_,_])
 have he:e=0:=he;subst he;obtain⟨mC,MV⟩:=hb rfl;have e2:qX p (k2,fd,0) e1 k=if(aK k2 p e1 896).2.2≠0 then(k,An.no (aK k2 p e1 896).2.2)else((aK k2 p e1 896).1,⟨0,fd,(aK k2 p e1 896).2.1,[]⟩):=by rw[qX,if_neg aG]
 rw[e2];refine vC k2 mC p MV e1 896 ?_;generalize aK k2 p e1 896=B;obtain⟨k3,iQ,e⟩:=B;refine⟨trivial,trivial,?_⟩;refine bO (λhe=>?_) (λhe=>?_)
 .have he:e≠0:=he;rw[if_pos he];exact Kp (X:=[_,_,_])
 have he:¬e≠0:=λh=>h he
 rw[if_neg he];exact Kp (k:=k3) (X:=[_,_,_])
theorem Io(k:Kr)(p:Nat)(hw:KW k p)(hi:X9 k p (dL k.l)):
  body prog c43 [.rv (.one (.ptr 0 0))] [xB k p] (TP (im k p).1 p (im k p).2):=by
 refine S9 k.l hw.pZ ?_;have hS:im k p=ut k p (dL k.l):=rfl;rw[hS];clear hS;generalize dL k.l=P at hi|-;obtain⟨l,⟨e0,e1⟩,e⟩:=P;refine bO (λhe=>?_) (λhe=>?_)
 .have he:e≠0:=he;rw[ut,if_pos he];exact Kp (X:=[_,_])
 have he:e=0:=he;subst he;rw[ut,if_neg aG];refine jM k.l k.ops k.ps hw.pZ hw.kr.lo hw.kr.lp hw.kr.sl hw.kr.ne ?_;refine⟨_,View.o1 7 [0,1,2,6] [3,4,5] ?_,QO k p ⟨l,k.ops,k.ps⟩ hw.hp (hi.a rfl) e0 e1 (hi.b rfl)⟩
 .exact .pt rfl rfl (.eq rfl (oM _ _)) (.pt rfl rfl (.eq rfl (by simp[jW])) (.pe rfl rfl rfl (.pt rfl rfl (dC.var (.cons (.aO (.ai _)) (.cons (.dO (jy rfl rfl)) (.cons (.dO (jy rfl rfl)) .nil)))) (.nil _))))
theorem QP(k:Kr)(p:Nat)(hw:KW k p)(hi:X9 k p (dL k.l)){m:Mem}(id:Nat)(hb:dp m id=some (xB k p)){K:CV->Mem->Prop}(hK:K (im k p).2.cv (aZ m id (xB (im k p).1 p))):
  aq prog 43 [.rv (.one (.ptr id 0))] m K:=
 Kl (args:=[]) (λ_=>rfl) (λ_=>rfl)
  (bP (cN func43 l43 (Io k p hw hi)) λr m1⟨r',m',hv,hq⟩=>⟨r',m',hv,hq⟩) id hb hK
end Kn
def c46:LF:=Cq prog Tryz.f46 [[3]] [[(eL 11 0 (.cons 11 (some []) .nil))],[eL 12 0 .nil],[(eL 8 0 (.z7 (.cons 8 (some []) (eL 5 9 (.cons 14 (some [7,3]) (.cons 15 (some []) (eL 3 16 .nil))))) (.cons 14 (some [7,3]) (.cons 8 (some []) (eL 5 9 (.cons 15 (some []) (eL 3 16 .nil)))))))],[(eL 12 0 (.z7 (.cons 12 (some []) (eL 3 13 (.cons 16 (some [11,7,3]) (.cons 17 (some []) (.cons 18 none .nil))))) (.cons 16 (some [11,7,3]) (.cons 12 (some []) (eL 3 13 (.cons 17 (some []) (.cons 18 none .nil)))))))]]
namespace Kn
def iJ(ps:List aM)(p:Nat):Bool:=match ps[p]? with|some x=>x.fenced|none=>false
def lJ(ps:List aM)(p:Nat):List aM:=match ps[p]? with|some x=>ps.set p {x with fenced:=true}|none=>ps
def Ip(ps:List aM)(z:Int):Int:=match ps[z.toNat]? with|some x=>x.code|none=>0
def fK(k:Kr)(e:Kr×Int):Kr×An:=(if e.2=0 then e.1 else k,An.no e.2)
def pR(k:Kr)(f:Kr×Int×Int×Int):Kr×An:=if f.2.2.2≠0 then(k,An.no f.2.2.2)else(f.1,⟨0,f.2.1,f.2.2.1,[]⟩)
def po(k:Kr)(c:Cl)(o:Obj):Kr×An:=
 if o.ah≠5 then(k,An.no 8)
 else if c.ah=21 then(if eG k.ps o.aQ=true then(k,An.no 16)else(k,⟨0,Ip k.ps o.aQ,0,[]⟩))
 else fK k (fJ k o.aQ 255)
def kW(k:Kr)(c:Cl)(w:(Int×Int)×Int×Int):Kr×An:=if w.2.2≠0 then(k,An.no w.2.2)else po k c (ii k.l w.2.1)
def eZ(k:Kr)(p:Nat)(c:Cl):Kr×An:=
 if c.ah=1 then(⟨k.l,k.ops,lJ k.ps p⟩,⟨0,0,0,[]⟩)
 else if c.ah=22 then(k,⟨0,if iJ k.ps p=true then 1 else 0,0,[]⟩)
 else if c.ah=18 then pR k (iy k p)
 else if c.ah=19 then fK k (fJ k p c.n)
 else kW k c (bm k p c.fd (if c.ah=20 then 2048 else 1024))
def sR(x:Int):Prop:=x=1\/x=22\/x=18\/x=19\/x=20\/x=21
theorem l46:bA prog Tryz.f46=some c46.er:=by kernel_rfl
def ab7:LC:=bs (bs (bs c46.code))
def ab8:LC:=mK ab7
theorem Iq(k:Kr)(p:Nat)(hw:KW k p)(c:Cl)(need:Int)(hq:∀o,o∈k.l->o.ah=5->∃n:Nat,o.aQ=n/\n<k.ps.length):
  aw prog 2 ab8 (QC c46.mr (kW k c (bm k p c.fd need)).1 p c (kW k c (bm k p c.fd need)).2)
   ⟨jD 195 [(0,.rv (.one (.ptr 0 0))),(1,.rv (.one (.ptr 1 0))),(4,.rv (.one (.ptr 2 0))),(11,am .i64 need)],[xB k p,cB c,jW]⟩:=by
 refine ma k p hw c.fd need 0 rfl ?_;have hh:= @KW.held k p hw c.fd need;generalize bm k p c.fd need=w at hh|-;obtain⟨⟨o,r⟩,b,e⟩:=w;refine bO (λhe=>?_) (λhe=>?_)
 .have he:e≠0:=he;rw[kW,if_pos he];exact dz (X:=[_,_])
 have he:e=0:=he;subst he;obtain⟨n,j,h1,h2,h3,h4,h5⟩:=hh rfl;have h3:b=j:=h3;subst h3;have e1:kW k c ((o,r),((j:Nat):Int),0)=po k c k.l[j]:=by rw[kW,if_neg aG,vH h4]
 rw[e1];have W8:=hq _ (aaP h4);have hg:=jU h4;generalize k.l[j]=ob at W8 hg|-;refine af hg ?_;refine bO (λh6=>?_) (λh6=>?_)
 .have h6:ob.ah≠5:=h6;rw[po,if_pos h6];exact dz (X:=[_,_])
 have h6:ob.ah=5:=h6;rw[po,if_neg (λh=>h h6)]
 obtain⟨q,Gh,Sm⟩:=W8 h6;refine af hg ?_;refine bc (λh7=>?_) (λh7=>?_)
 .have h7:c.ah=21:=h7;rw[if_pos h7];refine qM k.l k.ops k.ps ob.aQ ?_;cases hl:eG k.ps ob.aQ with
  |true=>
   rw[if_pos rfl];exact dz (X:=[_,_])
  |false=>
   rw[if_neg aG];have hc:Ip k.ps ob.aQ=k.ps[q].code:=by rw[Ip,Gh,aam,xm Sm]
   rw[hc];refine af (x:=[.val (.bool k.ps[q].aF),.val (.bool k.ps[q].fenced),.val (.int .i64 k.ps[q].code),ip k.ps[q].ap]) (by rw[Gh];exact fk Sm) ?_
   exact dz (X:=[_,_])
 .have h7:¬c.ah=21:=h7;rw[if_neg h7];refine CS k hw.kr ob.aQ 255 ?_;generalize fJ k ob.aQ 255=E;obtain⟨k2,e⟩:=E;refine bc (λhe=>?_) (λhe=>?_)
  .have he:e=0:=he;subst he;rw[fK,if_pos rfl];exact dz (X:=[_,_,_])
  .have he:¬e=0:=he;rw[fK,if_neg he];exact dz (X:=[_,_,_])
theorem Ft{ps:List aM}{n:Nat}(hn:n<ps.length):aZ (aa (ps.map aM.enc)) n ((aM.enc ⟨ps[n].aF,true,ps[n].code,ps[n].ap⟩).map .ai)=aa ((lJ ps n).map aM.enc):=by
 have:lJ ps n=ps.set n {ps[n]with fenced:=true}:=by rw[lJ,xm hn]
 rw[this,br,aa,aa,acF,acF]
theorem Fu(k:Kr)(p:Nat)(hw:KW k p)(c:Cl)(hc:c.ah=1):
  body prog c46 [.rv (.one (.ptr 0 0)),.rv (.one (.ptr 1 0))] [xB k p,cB c] (TC ⟨k.l,k.ops,lJ k.ps p⟩ p c ⟨0,0,0,[]⟩):=by
 obtain⟨aQ,ah,fd,iQ,n,bQ,bb,cE,data⟩:=c;have hc:ah=1:=hc;subst hc;refine jM k.l k.ops k.ps hw.pZ hw.kr.lo hw.kr.lp hw.kr.sl hw.kr.ne ?_;refine af (nV hw.hp) ?_;refine af (bq aM.enc k.ps hw.hp) ?_;refine⟨trivial,_,_,View.o 6 [0,1] [3,4,5] (.put QA .nil) (.pt rfl rfl (X7 (k:=⟨k.l,k.ops,lJ k.ps p⟩) (jy rfl rfl) (jy rfl rfl) (jy rfl (congrArg (λx=>some (Bk.row 4 x)) (Ft hw.hp)))) (.pt rfl rfl (.eq rfl (qW _)) (.nil _))),rfl,rfl⟩
theorem Ir(k:Kr)(p:Nat)(hw:KW k p)(c:Cl)(hc:c.ah=22):
  body prog c46 [.rv (.one (.ptr 0 0)),.rv (.one (.ptr 1 0))] [xB k p,cB c] (TC k p c ⟨0,if iJ k.ps p=true then 1 else 0,0,[]⟩):=by
 obtain⟨aQ,ah,fd,iQ,n,bQ,bb,cE,data⟩:=c;have hc:ah=22:=hc;subst hc;have hp:=hw.hp;have hf:iJ k.ps p=k.ps[p].fenced:=by rw[iJ,xm hp]
 rw[hf];refine af (fk hp) ?_;cases k.ps[p].fenced with
 |true=>exact dz (X:=[_])
 |false=>exact dz (X:=[_])
theorem Is(k:Kr)(p:Nat)(hw:KW k p)(c:Cl)(hc:c.ah=18):
  body prog c46 [.rv (.one (.ptr 0 0)),.rv (.one (.ptr 1 0))] [xB k p,cB c] (TC (pR k (iy k p)).1 p c (pR k (iy k p)).2):=by
 obtain⟨aQ,ah,fd,iQ,n,bQ,bb,cE,data⟩:=c;have hc:ah=18:=hc;subst hc;have Ya:k.l.length<=4194303:=by have:=hw.l40;omega
 refine⟨?_,?_⟩
 .refine Ka k hw.kr Ya p ?_;generalize iy k p=F;obtain⟨k2,ch,fd,e⟩:=F;refine⟨trivial,⟨rfl,rfl,trivial⟩,trivial,?_⟩;refine bO (λhe=>?_) (λhe=>?_)
  .have he:e≠0:=he;rw[pR,if_pos he];exact dz (X:=[_,_])
  .have he:¬e≠0:=λh=>h he
   rw[pR,if_neg he];exact dz (k:=k2) (X:=[_,_])
 .refine⟨⟨rfl,rfl,trivial⟩,?_⟩;refine Ka k hw.kr Ya p ?_;generalize iy k p=F;obtain⟨k2,ch,fd,e⟩:=F;refine⟨trivial,trivial,?_⟩;refine bO (λhe=>?_) (λhe=>?_)
  .have he:e≠0:=he;rw[pR,if_pos he];exact dz (X:=[_,_])
  .have he:¬e≠0:=λh=>h he
   rw[pR,if_neg he];exact dz (k:=k2) (X:=[_,_])
theorem It(k:Kr)(p:Nat)(hw:KW k p)(c:Cl)(hc:c.ah=19):
  body prog c46 [.rv (.one (.ptr 0 0)),.rv (.one (.ptr 1 0))] [xB k p,cB c] (TC (fK k (fJ k p c.n)).1 p c (fK k (fJ k p c.n)).2):=by
 obtain⟨aQ,ah,fd,iQ,n,bQ,bb,cE,data⟩:=c;have hc:ah=19:=hc;subst hc;show body prog c46 _ _ (TC (fK k (fJ k p n)).1 p _ (fK k (fJ k p n)).2);refine⟨?_,?_⟩
 .refine CS k hw.kr p n ?_;generalize fJ k p n=F;obtain⟨k2,e⟩:=F;refine⟨trivial,⟨rfl,rfl,rfl,trivial⟩,trivial,?_⟩;refine bc (λhe=>?_) (λhe=>?_)
  .have he:e=0:=he;rw[fK,if_pos he];exact dz (k:=k2) (X:=[_,_])
  .have he:¬e=0:=he;rw[fK,if_neg he];exact dz (X:=[_,_])
 .refine⟨⟨rfl,rfl,rfl,trivial⟩,?_⟩;refine CS k hw.kr p n ?_;generalize fJ k p n=F;obtain⟨k2,e⟩:=F;refine⟨trivial,trivial,?_⟩;refine bc (λhe=>?_) (λhe=>?_)
  .have he:e=0:=he;rw[fK,if_pos he];exact dz (k:=k2) (X:=[_,_])
  .have he:¬e=0:=he;rw[fK,if_neg he];exact dz (X:=[_,_])
theorem zE(k:Kr)(p:Nat)(hw:KW k p)(c:Cl)(hc:c.ah=20\/c.ah=21)(hq:∀o,o∈k.l->o.ah=5->∃n:Nat,o.aQ=n/\n<k.ps.length):
  body prog c46 [.rv (.one (.ptr 0 0)),.rv (.one (.ptr 1 0))] [xB k p,cB c] (TC (kW k c (bm k p c.fd (if c.ah=20 then 2048 else 1024))).1 p c (kW k c (bm k p c.fd (if c.ah=20 then 2048 else 1024))).2):=by
 have hs:=λneed=>Iq k p hw c need hq
 obtain⟨aQ,ah,fd,iQ,n,bQ,bb,cE,data⟩:=c;rcases hc with hc|hc
 .have hc:ah=20:=hc;subst hc;refine⟨_,View.o1 4 [0,1,2] [] ?_,hs 2048⟩
  .exact .au
 .have hc:ah=21:=hc;subst hc;refine⟨_,View.o1 4 [0,1,2] [] ?_,hs 1024⟩
  .exact .au
theorem kX(k:Kr)(p:Nat)(hw:KW k p)(c:Cl)(hc:sR c.ah)(hq:∀o,o∈k.l->o.ah=5->∃n:Nat,o.aQ=n/\n<k.ps.length):
  aq prog 46 [.rv (.one (.ptr 0 0)),.rv (.one (.ptr 1 0))] [xB k p,cB c] (TC (eZ k p c).1 p c (eZ k p c).2):=by
 refine cN func46 l46 ?_;rcases hc with hc|hc|hc|hc|hc|hc
 .rw[eZ,if_pos hc];exact Fu k p hw c hc
 .rw[eZ,if_neg om,if_pos hc];exact Ir k p hw c hc
 .rw[eZ,if_neg om,if_neg om,if_pos hc];exact Is k p hw c hc
 .rw[eZ,if_neg om,if_neg om,if_neg om,if_pos hc];exact It k p hw c hc
 .rw[eZ,if_neg om,if_neg om,if_neg om,if_neg om];exact zE k p hw c (.inl hc) hq
 .rw[eZ,if_neg om,if_neg om,if_neg om,if_neg om];exact zE k p hw c (.inr hc) hq
end Kn
def c105:LF:=Cq prog f105 [] []
def c137:LF:=Cq prog f137 [] []
structure eI where
 op:Int
 jt:Int
 jf:Int
 k:Int
 deriving DecidableEq
def eI.enc(i:eI):List Dt:=[.val (.int .i64 i.op),.val (.int .i64 i.jt),.val (.int .i64 i.jf),.val (.int .i64 i.k)]
def eI.cv(i:eI):CV:= .rv (.agg (i.enc.map .ai))
def ab9(l:List eI):Dt:= .sl 4 (l.map eI.enc)
def qY(l:List eI):CV:= .rv (.one (.ai (ab9 l)))
def Dh(f:Int×Int):CV:= .rv (.agg [.ai (.val (.int .i64 f.1)),.ai (.val (.int .i64 f.2))])
def pS(a n zF s:Int):Bool:=decide (n>=0)&&decide (n<=zF)&&decide (a+1+n<s)
theorem l137:bA prog f137=some c137:=by kernel_rfl
theorem MW(a n zF s:Int)(ha:0<=a)(ZI:a<=4194304)(hm:zF<=4194304):body prog c137 [am .i64 a,am .i64 n,am .i64 zF,am .i64 s] [] (λr m=>r=ar (pS a n zF s)):=by
 refine aC (λh=>?_) (λh=>?_)
 .refine aC (λh2=>?_) (λh2=>?_)
  .have e1:n>=0:=of_decide_eq_true h;have e2:n<=zF:=of_decide_eq_true h2;show ar _=ar _;rw[pS,h,h2,js (n:=a+1) om om,js om om];rfl
  .show ar _=ar _;rw[pS,h,h2];rfl
 .show ar _=ar _;rw[pS,h];rfl
theorem TY(a n zF s:Int)(ha:0<=a)(ZI:a<=4194304)(hm:zF<=4194304){m:Mem}{K:CV->Mem->Prop}(h:K (ar (pS a n zF s)) m):aq prog 137 [am .i64 a,am .i64 n,am .i64 zF,am .i64 s] m K:=
 bH func137 l137 rfl (aat rfl) (MW a n zF s ha ZI hm) rfl rfl h
def zG(i:eI):Int:=if(i.jt !=0)||(i.jf !=0)then 2 else 0
def jC(i:eI)(a s:Int):Int:=
 if(i.op==1)then(if(decide (i.k<0)||decide (i.k>=6))then 3 else zG i)
 else if(i.op==2)||(i.op==3)||(i.op==4)then(if(decide (i.k<0)||decide (i.k>=2147483648)|| !pS a i.jt 40 s|| !pS a i.jf 40 s)then 3 else 0)
 else if(i.op==5)then(if !pS a i.k s s then 3 else zG i)
 else if(i.op==6)then(if(i.k !=1)&&(i.k !=0)then 3 else zG i)
 else 1
theorem l105:bA prog f105=some c105:=by kernel_rfl
theorem Iu(i:eI)(a s:Int)(ha:0<=a)(ZI:a<=4194304)(hs:s<=4194304):body prog c105 [i.cv,am .i64 a,am .i64 s] [] (λr m=>r=am .i64 (jC i a s)):=by
 repeat' (first
  |(refine aC (λh=>?_) (λh=>?_))
  |(refine TY _ _ _ _ ha ZI om ?_))
 all_goals(show am .i64 _=am .i64 _;refine congrArg _ ?_;simp only[jC,zG, *];try(first|rfl|simp[*]))
theorem QQ(i:eI)(a s:Int)(ha:0<=a)(ZI:a<=4194304)(hs:s<=4194304){m:Mem}{K:CV->Mem->Prop}(h:K (am .i64 (jC i a s)) m):aq prog 105 [i.cv,am .i64 a,am .i64 s] m K:=
 bH func105 l105 rfl (aat rfl) (Iu i a s ha ZI hs) rfl rfl h
def c62:LF:=Cq prog f62 [] []
def xq(s:Int):Nat->List eI->Int×Int
 |_,[]=>(0,0)
 |k,i::r=>if jC i (k:Int) s=0 then xq s (k+1) r else(jC i (k:Int) s,(k:Int))
theorem Kq(s:Int):∀(l:List eI)(k:Nat),(∀(j:Nat)i,l[j]? =some i->jC i ((k+j:Nat):Int) s=0)->xq s k l=(0,0)
 | [],_,_=>rfl
 |i::r,k,h=>by
  rw[xq,if_pos (by simpa using h 0 i rfl)]
  exact Kq s r (k+1) λj x hx=>by
   have:=h (j+1) x (by simpa using hx)
   rwa [show k+(j+1)=k+1+j by omega]at this
theorem Fv(s:Int):∀(l:List eI)(k j:Nat)(i:eI),l[j]? =some i->(∀(j':Nat)i,j'<j->l[j']? =some i->jC i ((k+j':Nat):Int) s=0)->jC i ((k+j:Nat):Int) s≠0->xq s k l=(jC i ((k+j:Nat):Int) s,((k+j:Nat):Int))
 | [],_,j,i,h,_,_=>by simp at h
 |x::r,k,0,i,h,_,hb=>by
  simp at h;subst h;rw[xq,if_neg (by simpa using hb)];rfl
 |x::r,k,j+1,i,h,hg,hb=>by
  rw[xq,if_pos (by simpa using hg 0 x om rfl)]
  rw[show k+(j+1)=k+1+j by omega]at hb|-
  exact Fv s r (k+1) j i (by simpa using h) (λj' y hj hy=>by
   have:=hg (j'+1) y om (by simpa using hy)
   rwa [show k+(j'+1)=k+1+j' by omega]at this) hb
def n8(p:List eI):Int×Int:=
 if p.length<1\/p.length>400 then(5,0)
 else if(xq p.length 0 p).1≠0 then xq p.length 0 p
 else match p[p.length-1]? with
  |some i=>if i.op=6 then(0,0)else(2,((p.length-1:Nat):Int))
  |none=>(0,0)
theorem l62:bA prog f62=some c62:=by kernel_rfl
theorem Iv(p:List eI):body prog c62 [qY p] [] (λr m=>r=Dh (n8 p)):=by
 refine aC (λh=>?_) (λh0=>?_)
 .have h:p.length<1:=by have h:(((p.map eI.enc).length:Nat):Int)<1:=of_decide_eq_true h;rw[P2]at h;omega
  rw[n8,if_pos (.inl h)];exact rfl
 .refine aC (λh=>?_) (λh1=>?_)
  .have h:p.length>400:=by have h:(((p.map eI.enc).length:Nat):Int)>400:=of_decide_eq_true h;simp at h;omega
   rw[n8,if_pos (.inr h)];exact rfl
  .have h0:¬p.length<1:=by have h:¬(((p.map eI.enc).length:Nat):Int)<1:=of_decide_eq_false h0;rw[P2]at h;omega
   have h1:¬p.length>400:=by have h:¬(((p.map eI.enc).length:Nat):Int)>400:=of_decide_eq_false h1;rw[P2]at h;omega
   have hc:n8 p=if(xq p.length 0 p).1≠0 then xq p.length 0 p else match p[p.length-1]? with
     |some i=>if i.op=6 then(0,0)else(2,((p.length-1:Nat):Int))
     |none=>(0,0):=by rw[n8,if_neg om]
   refine yC (λk=>k<=p.length/\∀(j:Nat)i,j<k->p[j]? =some i->jC i (j:Int) p.length=0) (λk=>[(17,am .i64 (k:Nat)),(3,.aL),(4,.aL),(5,.aL),(18,.aL),(19,.aL),(20,.aL),(21,.aL),(22,.aL),(23,.aL),(24,.aL),(25,.aL),(26,.aL),(27,.aL),(28,.aL),(32,.aL)])
    (λk=>[.var [.ai (.val (.int .i64 0)),.ai (.val (.int .i64 0))]]) (λk=>p.length-k) 0 ⟨aad _,λj i h=>absurd h (abq j)⟩ ?_ (λk hk=>?_)
   .refine View.o1 1 [0] [] ?_
    .exact .put (by simp[bh]) rfl (.eq rfl aG) (.nil _)
   .refine aC (λh=>?_) (λh=>?_)
    .have ay:k<p.length:=by have h:(k:Int)<((p.map eI.enc).length:Int):=of_decide_eq_true h;rw[P2]at h;omega
     have hg:cH (p.map eI.enc) (k:Nat)=some (p[k].enc):=by rw[aY,Rn,xm ay];rfl
     have hlen:(((p.map eI.enc).length:Nat):Int)=(p.length:Int):=by rw[P2]
     refine af hg ?_;have wy:∀{m:Mem}{K:CV->Mem->Prop},K (am .i64 (jC p[k] k p.length)) m->aq prog 105 [p[k].cv,am .i64 k,am .i64 (((p.map eI.enc).length:Nat):Int)] m K:=by intro m K h;rw[hlen];exact QQ _ _ _ om om om h
     refine wy ?_;refine aC (λh3=>?_) (λh3=>?_)
     .have h3:jC p[k] k p.length≠0:=by simpa using h3
      have:=Fv p.length p 0 k p[k] (xm ay) (λj i hj hi=>by simpa using hk.2 j i hj hi) (by simpa using h3)
      rw[acA]at this;rw[hc,this,if_pos h3];exact rfl
     .have h3:jC p[k] k p.length=0:=by simpa using h3
      refine⟨k+1,⟨ay,λj i hj hi=>?_⟩,?_,View.o 2 [0] [] ?_ ?_⟩
      .rcases aaD j k with h5|h5
       .exact hk.2 j i h5 hi
       .have:j=k:=om;subst this;rw[xm ay]at hi;cases hi;exact h3
      .show p.length-(k+1)<p.length-k;omega
      .repeat(first|exact .nil|refine .aL ?_|refine .put (.aO (bC om).symm) ?_|refine .eq rfl ?_)
      .exact .put (by simp[bh]) rfl (.eq rfl aG) (.nil _)
    .have eO:¬(k:Int)<((p.map eI.enc).length:Int):=of_decide_eq_false h;rw[P2]at eO;have gM:=Kq p.length p 0 λj i hi=>by have:=(Mp.1 hi).1;simpa using hk.2 j i om hi
     rw[hc,gM,if_neg aG];have pI:p.length-1<p.length:=om;rw[xm pI];have hw:IntKind.i64.wrap ((((p.map eI.enc).length:Nat):Int)-1)=((p.length-1:Nat):Int):=by rw[P2,js om om];omega
     have hg:cH (p.map eI.enc) (IntKind.i64.wrap ((((p.map eI.enc).length:Nat):Int)-1))=some (p[p.length-1].enc):=by rw[hw,aY,Rn,xm pI];rfl
     refine af hg ?_;refine aC (λh3=>?_) (λh3=>?_)
     .have h3:p[p.length-1].op≠6:=by simpa using h3
      show Dh (2,IntKind.i64.wrap ((((p.map eI.enc).length:Nat):Int)-1))=_;rw[hw];simp only;rw[if_neg h3]
     .have h3:p[p.length-1].op=6:=by simpa using h3
      simp only;rw[if_pos h3];exact rfl
theorem QR(p:List eI){m:Mem}{K:CV->Mem->Prop}(h:K (Dh (n8 p)) m):aq prog 62 [qY p] m K:=
 bH func62 l62 rfl (aat rfl) (Iv p) rfl rfl h
theorem Yb(jt jf k a s:Int):jC ⟨1,jt,jf,k⟩ a s=if k<0\/k>=6 then 3 else if jt≠0\/jf≠0 then 2 else 0:=by simp[jC,zG,<-Bool.decide_or]
theorem Iw(o jt jf k a s:Int)(ho:o=2\/o=3\/o=4):jC ⟨o,jt,jf,k⟩ a s=if k<0\/k>=2147483648\/jt<0\/jf<0\/jt>40\/jf>40\/jt>s-a-2\/jf>s-a-2 then 3 else 0:=by
 have h1:(o==1)=false:=by rcases ho with rfl|rfl|rfl<;>rfl
 have h2:((o==2)||(o==3)||(o==4))=true:=by rcases ho with rfl|rfl|rfl<;>rfl
 simp only[jC,h1,h2,adz,if_false,if_true];by_cases hc:k<0\/k>=2147483648\/jt<0\/jf<0\/jt>40\/jf>40\/jt>s-a-2\/jf>s-a-2
 .rw[if_pos hc,if_pos];simp only[pS,adB,adx,aeN,decide_eq_true_eq,decide_eq_false_iff_not];omega
 .rw[if_neg hc,if_neg];simp only[pS,adB,adx,aeN,decide_eq_true_eq,decide_eq_false_iff_not];omega
theorem Yc(jt jf k a s:Int)(ha:0<=a):jC ⟨5,jt,jf,k⟩ a s=if k<0\/k>s-a-2 then 3 else if jt≠0\/jf≠0 then 2 else 0:=by
 have e:(!pS a k s s)=decide (k<0\/k>s-a-2):=by rw[aeX];simp only[pS,adx,aeN,decide_eq_true_eq,decide_eq_false_iff_not];omega
 simp[jC,e,zG,<-Bool.decide_or]
theorem Yd(jt jf k a s:Int):jC ⟨6,jt,jf,k⟩ a s=if k≠0/\k≠1 then 3 else if jt≠0\/jf≠0 then 2 else 0:=by simp[jC,zG,<-Bool.decide_or,<-Bool.decide_and];simp only[and_comm]
theorem Ye(o jt jf k a s:Int)(ho:o<1\/o>6):jC ⟨o,jt,jf,k⟩ a s=1:=by
 have h:∀c:Int,1<=c->c<=6->(o==c)=false:=λc h1 h2=>by rw[beq_eq_false_iff_ne];omega
 simp[jC,h 1 om om,h 2 om om,h 3 om om,h 4 om om,h 5 om om,h 6 om om]
def c36:LF:=Cq prog f36 [] []
structure BL where
 r0:Int
 r1:Int
 r2:Int
 r3:Int
 r4:Int
 r5:Int
def BL.enc(r:BL):List Dt:=[.val (.int .i64 r.r0),.val (.int .i64 r.r1),.val (.int .i64 r.r2),.val (.int .i64 r.r3),.val (.int .i64 r.r4),.val (.int .i64 r.r5)]
def BL.cv(r:BL):CV:= .rv (.agg (r.enc.map .ai))
def BL.get(r:BL):Nat->Int
 |0=>r.r0
 |1=>r.r1
 |2=>r.r2
 |3=>r.r3
 |4=>r.r4
 |_=>r.r5
theorem BL.agU(r:BL){k:Nat}(h:k<6):kh (r.enc.map .ai) (0+k*1) 1=some [.ai (.val (.int .i64 (r.get k)))]:=by
 rw[show 0+k*1=k by omega]
 apply Bl
 match k,h with
 |0,_=>rfl
 |1,_=>rfl
 |2,_=>rfl
 |3,_=>rfl
 |4,_=>rfl
 |5,_=>rfl
def Yf(a b:Int):Int:=IntKind.i64.wrap ((BitVec.ofInt 64 a&&&BitVec.ofInt 64 b).toNat:Int)
def AE(i:eI)(dI:Int)(r:BL):Nat×Int:=
 if i.op=1 then(1,r.get i.k.toNat)
 else if i.op=5 then(1+i.k.toNat,dI)
 else if(if i.op=2 then dI==i.k else if i.op=3 then decide (dI>=i.k)else if i.op=4 then Yf dI i.k !=0 else false)=true then(1+i.jt.toNat,dI)
 else(1+i.jf.toNat,dI)
theorem We(x y:Nat)(k dI:Int)(r:BL):(dI=k->AE ⟨2,x,y,k⟩ dI r=(1+x,dI))/\(dI≠k->AE ⟨2,x,y,k⟩ dI r=(1+y,dI)):=
 ⟨λh=>by subst h;simp[AE],λh=>by simp[AE,h]⟩
theorem Wf(x y:Nat)(k dI:Int)(r:BL):(dI>=k->AE ⟨3,x,y,k⟩ dI r=(1+x,dI))/\(¬dI>=k->AE ⟨3,x,y,k⟩ dI r=(1+y,dI)):=
 ⟨λh=>by simp[AE];omega,λh=>by simp[AE];omega⟩
theorem Wg(x y:Nat)(k dI:Int)(r:BL):(Yf dI k≠0->AE ⟨4,x,y,k⟩ dI r=(1+x,dI))/\(Yf dI k=0->AE ⟨4,x,y,k⟩ dI r=(1+y,dI)):=
 ⟨λh=>by simp[AE,h],λh=>by simp[AE,h]⟩
theorem TZ(i:eI)(dI:Int)(r:BL):1<=(AE i dI r).1:=by
 unfold AE;repeat' split
 all_goals simp
def kY(p:List eI)(r:BL)(a:Nat)(dI:Int):Int×Int:=
 if h:a<p.length then
  if p[a].op=6 then(p[a].k,1)
  else((kY p r (a+(AE p[a] dI r).1) (AE p[a] dI r).2).1,(kY p r (a+(AE p[a] dI r).1) (AE p[a] dI r).2).2+1)
 else(0,0)
 termination_by p.length-a
 decreasing_by
 all_goals
  have:=TZ p[a] dI r;omega
theorem MX{p:List eI}{r:BL}{a:Nat}{dI:Int}{i:eI}(h:p[a]? =some i)(ho:i.op=6):kY p r a dI=(i.k,1):=by obtain⟨ay,rfl⟩:=Mp.1 h;rw[kY,dif_pos ay,if_pos ho]
theorem nJ{p:List eI}{r:BL}{a:Nat}{dI:Int}{i:eI}(h:p[a]? =some i)(ho:i.op≠6){d:Nat}{Di:Int}(hn:AE i dI r=(d,Di)):kY p r a dI=((kY p r (a+d) Di).1,(kY p r (a+d) Di).2+1):=by obtain⟨ay,rfl⟩:=Mp.1 h;rw[kY,dif_pos ay,if_neg ho,hn]
theorem Fw(s:Int):∀(l:List eI)(k:Nat),(xq s k l).1=0->∀(j:Nat)i,l[j]? =some i->jC i ((k+j:Nat):Int) s=0
 | [],_,_,j,i,h=>by simp at h
 |x::r,k,h,j,i,hi=>by
  simp only[xq]at h;split at h
  .rename_i h0;cases j with
   |zero=>simp at hi;subst hi;simpa using h0
   |succ j=>
    have:=Fw s r (k+1) h j i (by simpa using hi)
    rwa [show k+1+j=k+(j+1) by omega]at this
  .rename_i h0;exact absurd h h0
theorem BM{p:List eI}(h:(n8 p).1=0):1<=p.length/\p.length<=400/\(∀(j:Nat)i,p[j]? =some i->jC i (j:Int) p.length=0)/\∃i,p[p.length-1]? =some i/\i.op=6:=by
 unfold n8 at h;split at h
 .simp at h
 .rename_i hl;split at h
  .rename_i hc;exact absurd h hc
  .rename_i hc;have gM:=Fw p.length p 0 (by simpa using hc)
   refine⟨om,om,λj i hi=>by simpa using gM j i hi,?_⟩
   have ay:p.length-1<p.length:=om;rw[xm ay]at h|-;simp only at h;split at h
   .rename_i h6;exact⟨_,rfl,h6⟩
   .simp at h
theorem T0{i:eI}{a s:Int}(h:jC i a s=0):i.op=1\/i.op=2\/i.op=3\/i.op=4\/i.op=5\/i.op=6:=by
 by_cases ho:i.op<1\/i.op>6
 .have:=Ye i.op i.jt i.jf i.k a s ho;have e:jC ⟨i.op,i.jt,i.jf,i.k⟩ a s=jC i a s:=rfl;omega
 .omega
theorem MY{p:List eI}(h:(n8 p).1=0){a:Nat}{o jt jf k:Int}(hi:p[a]? =some ⟨o,jt,jf,k⟩):
  (o=1/\0<=k/\k<6/\a+1<p.length)\/((o=2\/o=3\/o=4)/\0<=jt/\0<=jf/\a+1+jt.toNat<p.length/\a+1+jf.toNat<p.length/\jt<=40/\jf<=40)\/(o=5/\0<=k/\a+1+k.toNat<p.length)\/(o=6/\(k=0\/k=1)):=by
 obtain⟨h1,h2,h3,i6,h4,h5⟩:=BM h;have he:=h3 a _ hi;have ay:=(Mp.1 hi).1;rcases T0 he with ho|ho|ho|ho|ho|ho<;>simp only at ho<;>subst ho
 .rw[Yb]at he;have gj:a≠p.length-1:=λe=>by rw[<-e,hi]at h4;cases h4;simp at h5
  split at he
  .simp at he
  .exact .inl ⟨rfl,om,om,om⟩
 .rw[Iw _ _ _ _ _ _ om]at he;split at he
  .simp at he
  .exact .inr (.inl ⟨om,om,om,om,om,om,om⟩)
 .rw[Iw _ _ _ _ _ _ om]at he;split at he
  .simp at he
  .exact .inr (.inl ⟨om,om,om,om,om,om,om⟩)
 .rw[Iw _ _ _ _ _ _ om]at he;split at he
  .simp at he
  .exact .inr (.inl ⟨om,om,om,om,om,om,om⟩)
 .rw[Yc _ _ _ _ _ om]at he;split at he
  .simp at he
  .exact .inr (.inr (.inl ⟨rfl,om,om⟩))
 .rw[Yd]at he;split at he
  .simp at he
  .exact .inr (.inr (.inr ⟨rfl,om⟩))
def zH(p:List eI)(r:BL):Int×Int:=if(n8 p).1=0 then kY p r 0 0 else(0,0)
theorem l36:bA prog f36=some c36:=by kernel_rfl
def Wh(x:Int×Int):CV:= .bI [cR x.1,cR x.2]
theorem Yg{s:Nat}(h:s<9223372036854775807):((s+1:Nat):Int)=IntKind.i64.wrap ((s:Int)+1):=by
 rw[show(s:Int)+1=((s+1:Nat):Int) by omega,mG om]
theorem QS(p:List eI)(r:BL):body prog c36 [qY p,r.cv] [] (λx m=>x=Wh (zH p r)):=by
 refine QR p ?_;refine bO (λh=>?_) (λh=>?_)
 .have e:zH p r=(0,0):=by rw[zH,if_neg h]
  rw[e];exact rfl
 .have e:zH p r=kY p r 0 0:=by rw[zH,if_pos h]
  rw[e];obtain⟨g1,g2,g3,_⟩:=BM h;refine yC (α:=Nat×Int×Nat) (λx=>x.1<p.length/\x.2.2<=x.1/\(kY p r x.1 x.2.1).1=(kY p r 0 0).1/\(kY p r x.1 x.2.1).2+x.2.2=(kY p r 0 0).2)
   (λx=>[(8,am .i64 (x.1:Nat)),(7,am .i64 x.2.1),(5,am .i64 (x.2.2:Nat)),(6,.aL),(9,.aL),(10,.aL),(11,.aL),(12,.aL),(13,.aL),(14,.aL),(15,.aL),(16,.aL),(17,.aL),(18,.aL),(19,.aL),(20,.aL),(21,.aL),(22,.aL),(23,.aL),(24,.aL),(25,.aL),(26,.aL),(27,.aL),(28,.aL),(29,.aL),(30,.aL),(31,.aL),(32,.aL),(33,.aL),(34,.aL),(35,.aL),(36,.aL),(37,.aL),(38,.aL),(39,.aL),(40,.aL),(41,.aL),(42,.aL),(43,.aL),(44,.aL),(45,.aL),(46,.aL),(47,.aL),(48,.aL),(49,.aL),(50,.aL),(51,.aL),(52,.aL),(53,.aL),(54,.aL),(55,.aL),(56,.aL),(57,.aL),(58,.aL),(59,.aL),(60,.aL),(61,.aL),(62,.aL),(63,.aL),(64,.aL),(65,.aL),(66,.aL),(67,.aL),(68,.aL),(69,.aL),(70,.aL),(71,.aL),(72,.aL),(73,.aL),(74,.aL)])
   (λx=>[.var (r.enc.map .ai)]) (λx=>p.length-x.1) (0,0,0) ⟨by show 0<p.length;omega,aah 0,rfl,aG⟩ ?_ (λx hJ=>?_)
  .refine View.o1 2 [0] [] ?_
   .exact .put (by simp[bh]) rfl (.eq rfl aG) (.nil _)
  .obtain⟨a,dI,s⟩:=x;obtain⟨ay,Gk,DN,wQ⟩:=hJ;have ay:a<p.length:=ay;have Gk:s<=a:=Gk;have DN:(kY p r a dI).1=(kY p r 0 0).1:=DN;have wQ:(kY p r a dI).2+s=(kY p r 0 0).2:=wQ;have hi:=xm ay;generalize p[a]=i at hi;obtain⟨o,jt,jf,k⟩:=i;have hg:cH (p.map eI.enc) (a:Nat)=some [.val (.int .i64 o),.val (.int .i64 jt),.val (.int .i64 jf),.val (.int .i64 k)]:=by rw[aY,Rn,hi];rfl
   have next:∀(d:Nat)(Di:Int),kY p r a dI=((kY p r (a+d) Di).1,(kY p r (a+d) Di).2+1)->(1<=d/\a+d<p.length)->∀{G:Prop},
     (((a+d<p.length)/\s+1<=a+d/\(kY p r (a+d) Di).1=(kY p r 0 0).1/\(kY p r (a+d) Di).2+((s+1:Nat):Int)=(kY p r 0 0).2)->(p.length-(a+d)<p.length-a)->G)->G:=by
    intro d Di hw hd G hG;refine hG ⟨hd.2,om,?_,?_⟩ om
    .rw[<-DN,hw]
    .rw[<-wQ,hw];simp only;omega
   refine af hg ?_;rcases MY h hi with⟨rfl,k1,k2,k3⟩|⟨ho,j1,j2,j3,j4,j5,j6⟩|⟨rfl,k1,k2⟩|⟨rfl,k1⟩
   .obtain⟨n,rfl⟩:∃n:Nat,k=n:=⟨k.toNat,om⟩;refine af (bL om) ?_;refine af (r.agU om) ?_;refine next 1 (r.get n) (nJ hi aG (by simp[AE])) om (λhJ hm=>?_)
    exact⟨(a+1,r.get n,s+1),hJ,hm,View.o 2 [0] [] (by
     repeat(first|exact .nil|refine .aL ?_|refine .put (.aO (bC om).symm) ?_|refine .eq rfl ?_|refine .eq (congrArg (λx=>am .i64 x) ((by rw[mG (n:=a+1) om]:((a+1:Nat):Int)=_))) ?_)) (.put (by simp[bh]) rfl (.eq rfl aG) (.nil _))⟩
   .obtain⟨x,rfl⟩:∃n:Nat,jt=n:=⟨jt.toNat,om⟩;obtain⟨y,rfl⟩:∃n:Nat,jf=n:=⟨jf.toNat,om⟩;have ex:IntKind.i64.wrap ((a:Int)+IntKind.i64.wrap (1+(x:Int)))=((a+(1+x):Nat):Int):=by rw[js (n:=1+(x:Int)) om om,js om om];omega
    have ey:IntKind.i64.wrap ((a:Int)+IntKind.i64.wrap (1+(y:Int)))=((a+(1+y):Nat):Int):=by rw[js (n:=1+(y:Int)) om om,js om om];omega
    rcases ho with rfl|rfl|rfl
    .refine bc (λhy=>?_) (λhy=>?_)
     .skip
      refine next (1+x) dI (nJ hi aG ((We x y k dI r).1 hy)) om (λhJ hm=>?_)
      exact⟨(a+(1+x),dI,s+1),hJ,hm,View.o 2 [0] [] (by
       repeat(first|exact .nil|refine .aL ?_|refine .put (.aO (bC om).symm) ?_|refine .eq rfl ?_|refine .eq (congrArg (λx=>am .i64 x) (ex.symm)) ?_)) (.put (by simp[bh]) rfl (.eq rfl aG) (.nil _))⟩
     .skip
      refine next (1+y) dI (nJ hi aG ((We x y k dI r).2 hy)) om (λhJ hm=>?_)
      exact⟨(a+(1+y),dI,s+1),hJ,hm,View.o 2 [0] [] (by
       repeat(first|exact .nil|refine .aL ?_|refine .put (.aO (bC om).symm) ?_|refine .eq rfl ?_|refine .eq (congrArg (λx=>am .i64 x) (ey.symm)) ?_)) (.put (by simp[bh]) rfl (.eq rfl aG) (.nil _))⟩
    .refine an (λhy=>?_) (λhy=>?_)
     .skip
      refine next (1+x) dI (nJ hi aG ((Wf x y k dI r).1 hy)) om (λhJ hm=>?_)
      exact⟨(a+(1+x),dI,s+1),hJ,hm,View.o 2 [0] [] (by
       repeat(first|exact .nil|refine .aL ?_|refine .put (.aO (bC om).symm) ?_|refine .eq rfl ?_|refine .eq (congrArg (λx=>am .i64 x) (ex.symm)) ?_)) (.put (by simp[bh]) rfl (.eq rfl aG) (.nil _))⟩
     .skip
      refine next (1+y) dI (nJ hi aG ((Wf x y k dI r).2 hy)) om (λhJ hm=>?_)
      exact⟨(a+(1+y),dI,s+1),hJ,hm,View.o 2 [0] [] (by
       repeat(first|exact .nil|refine .aL ?_|refine .put (.aO (bC om).symm) ?_|refine .eq rfl ?_|refine .eq (congrArg (λx=>am .i64 x) (ey.symm)) ?_)) (.put (by simp[bh]) rfl (.eq rfl aG) (.nil _))⟩
    .refine bO (λhy=>?_) (λhy=>?_)
     .skip
      refine next (1+x) dI (nJ hi aG ((Wg x y k dI r).1 hy)) om (λhJ hm=>?_)
      exact⟨(a+(1+x),dI,s+1),hJ,hm,View.o 2 [0] [] (by
       repeat(first|exact .nil|refine .aL ?_|refine .put (.aO (bC om).symm) ?_|refine .eq rfl ?_|refine .eq (congrArg (λx=>am .i64 x) (ex.symm)) ?_)) (.put (by simp[bh]) rfl (.eq rfl aG) (.nil _))⟩
     .skip
      refine next (1+y) dI (nJ hi aG ((Wg x y k dI r).2 hy)) om (λhJ hm=>?_)
      exact⟨(a+(1+y),dI,s+1),hJ,hm,View.o 2 [0] [] (by
       repeat(first|exact .nil|refine .aL ?_|refine .put (.aO (bC om).symm) ?_|refine .eq rfl ?_|refine .eq (congrArg (λx=>am .i64 x) (ey.symm)) ?_)) (.put (by simp[bh]) rfl (.eq rfl aG) (.nil _))⟩
   .obtain⟨n,rfl⟩:∃n:Nat,k=n:=⟨k.toNat,om⟩;have ex:IntKind.i64.wrap ((a:Int)+IntKind.i64.wrap (1+(n:Int)))=((a+(1+n):Nat):Int):=by rw[js (n:=1+(n:Int)) om om,js om om];omega
    refine next (1+n) dI (nJ hi aG (by simp[AE])) om (λhJ hm=>?_)
    exact⟨(a+(1+n),dI,s+1),hJ,hm,View.o 2 [0] [] (by
     repeat(first|exact .nil|refine .aL ?_|refine .put (.aO (bC om).symm) ?_|refine .eq rfl ?_|refine .eq (congrArg (λx=>am .i64 x) (ex.symm)) ?_)) (.put (by simp[bh]) rfl (.eq rfl aG) (.nil _))⟩
   .have hb:kY p r a dI=(k,1):=MX hi rfl;rw[hb]at DN wQ;show CV.bI [cR k,cR (IntKind.i64.wrap ((s:Int)+1))]=_;rw[<-Yg (s:=s) om];have e2:kY p r 0 0=(k,((s+1:Nat):Int)):=Prod.ext DN.symm (by rw[<-wQ];simp only;omega)
    rw[e2];rfl
theorem Yh(p:List eI)(r:BL){m:Mem}{K:CV->Mem->Prop}(h:K (Wh (zH p r)) m):aq prog 36 [qY p,r.cv] m K:=
 bH func36 l36 rfl (aat rfl) (QS p r) rfl rfl h
end Go.Proofs.YtllkfpggoigbaaaGreatDoor
