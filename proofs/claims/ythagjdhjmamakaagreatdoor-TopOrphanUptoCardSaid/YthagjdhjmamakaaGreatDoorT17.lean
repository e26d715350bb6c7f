/- Part 17 of 41: what the law stands on. -/
import Derived.Test.YthagjdhjmamakaaGreatDoorT15
import Derived.Test.YthagjdhjmamakaaGreatDoorT16
import Derived.Sort.Grow
import Derived.Test.YthagjdhjmamakaaGreatDoorRows
set_option linter.unusedVariables false
set_option linter.unusedSimpArgs false
set_option linter.unnecessarySimpa false
set_option maxRecDepth 100000
set_option maxHeartbeats 64000000
namespace Go.AM
section
variable {P:Program} {ρ:bH} {m:Mem} {w:World}
theorem wq(w:World)(JS:Nat)(f:Array Value->Array Value){b:Nat}(h:b≠JS):(Sort.mapBlock w JS f).heap[b]? =w.heap[b]? :=by simp only[Sort.mapBlock,aaJ];rw[if_neg (fun e=>h e.symm)]
theorem wt(w:World)(n JS off:Nat)(F:Array Value):jH w (Sort.putRow id (Sort.ahead w n) JS off F) JS:=
 ⟨fun b hb=>wq _ _ _ hb,by simp[Sort.putRow,Sort.mapBlock,Sort.ahead],rfl,rfl,rfl⟩
theorem De{mk:Prop}{w:World}{JS off:Nat}{cur:Array Value}(F:Array Value)(n:Nat)(h:lq mk w JS cur):lq mk (Sort.putRow id (Sort.ahead w n) JS off F) JS (Sort.putCells id off F cur):=by
 obtain⟨ty,fr,hb,h1,h2,h3⟩:=h;refine⟨ty,fr,?_,h1,fun i hi=>h2 i (by simpa[Sort.putCells]using hi),by simpa[Sort.putCells]using h3⟩
 have aF:JS<w.heap.size:=(aac.1 hb).1;have e:(Sort.ahead w n).heap[JS]? =some (.cells cur ty fr):=hb;simp only[Sort.putRow,Sort.mapBlock,aaJ,if_true,e,XS,Sort.onCells]
theorem Hb(hM:aC ρ m w){id esz:Nat}{rows kz:List (List CC)}{F:Array Value}(hb:m[id]? =some (.row esz rows))(de:0<rows.length)(hlen:kz.length=rows.length)(dj:∀cs,cs∈kz->cs.length=esz)(hF:F.size=rows.length*esz)(MV:∀cs,cs∈kz->∀c,c∈cs->∃d,c= .aa d)(bY:∀(i:Nat)cs(j:Nat)c,kz[i]? =some cs->cs[j]? =some c->br ρ w .none c F[i*esz+j]!)(n:Nat)(os:Array Obj):
  aC ρ (m.set id (.row esz kz)) (Sort.grow (Sort.putRow _root_.id (Sort.ahead w n) (ρ.aO (.ap id)).b (ρ.aO (.ap id)).au F) os)/\
  Ext ρ m w ρ (m.set id (.row esz kz)) (Sort.grow (Sort.putRow _root_.id (Sort.ahead w n) (ρ.aO (.ap id)).b (ρ.aO (.ap id)).au F) os):=by
 have hid:id<m.length:=(Hy.1 hb).1;obtain⟨h2,h3,h4,h5,zE⟩:=hM.bk id _ hb;have bl:0<(ρ.aO (.ap id)).cap:=om;obtain⟨cur,bU,h1,hd⟩:=zE bl;have hmul:rows.length*esz<=(ρ.aO (.ap id)).cap*esz:=aam _ om;have Tr:∀{i' j' wa e},fp (m.set id (.row esz kz)) id i' j' wa e->False:=by rintro i' j' wa e ⟨es,Ox,I8,nf,d8,jy⟩;rw[QO hid]at nf;cases nf;obtain⟨d,hd⟩:=MV _ (O9 d8) _ (O9 jy);cases hd
 obtain⟨kY,hX⟩:=hM.PF (Cy:= .row esz kz) (w':=Sort.putRow _root_.id (Sort.ahead w n) (ρ.aO (.ap id)).b (ρ.aO (.ap id)).au F) hb ⟨_,hb,aK,fun _=>bl⟩ (wt w n _ _ F)
  (fun g=>⟨by rw[hlen];exact h2,h3,h4,dj,fun _=>⟨_,De F n bU,by simpa[Sort.putCells]using h1,fun i cs j c hi hj=>by
   have l4:j<esz:=by rw[<-dj cs (O9 hi)];exact(Hy.1 hj).1
   have Ou:i<rows.length:=by rw[<-hlen];exact(Hy.1 hi).1
   have pG:i*esz+j<rows.length*esz:=by have:(i+1)*esz<=rows.length*esz:=aam _ om;rw[aaz,aaU]at this;omega
   have b9:=bY i cs j c hi hj;refine⟨F[i*esz+j]!,?_,(br.cF g aK b9).ub _⟩;have hc:(ρ.aO (.ap id)).au+i*esz+j<cur.size:=om;simp only[Sort.putCells,Array.getElem?_mapIdx,aaM hc,XS];rw[if_pos om];congr 2;show F[_]! =_;congr 1;omega⟩⟩)
  (fun i j e1 e2 h=>(Tr h).elim)
 have hW:d5 (Sort.putRow _root_.id (Sort.ahead w n) (ρ.aO (.ap id)).b (ρ.aO (.ap id)).au F) (Sort.grow (Sort.putRow _root_.id (Sort.ahead w n) (ρ.aO (.ap id)).b (ρ.aO (.ap id)).au F) os):=
  ⟨fun b hb=>Sort.heap_grow_old _ os hb,by simp[Sort.grow],rfl,rfl,rfl⟩
 obtain⟨C5,nn⟩:=kY.JJ hW;exact⟨C5,hX.trans nn⟩
end
end Go.AM
namespace Go.Proofs.YthagjdhjmamakaaGreatDoor
open Go.AM Go.ChangeShapes Go.WideShapes Go.ChangeAt Go.RowKit
def c90:LF:= ⟨8,[.tmp 2],(.seq (.ai [qu 2 (.aD qe)]) (.seq (.seq (.ai [qm 3 0,qu 4 (.v6 false 3)]) (.cond 4 (.seq (.ai [qu 2 (.aD qe)]) .ret) .skip)) (.seq (.ai [qu 5 (.lu 1 [(.aa (.val (.int .u8 (0))))] 0 []),qm 6 0,qu 7 (.mY 1 1 5 6),qm 2 7]) .ret)))⟩
def c121:LF:= ⟨8,[.tmp 2],(.seq (.ai [qu 2 (.aD qe)]) (.seq (.seq (.ai [qm 3 0,qu 4 (.v6 false 3)]) (.cond 4 (.seq (.ai [qu 2 (.aD qe)]) .ret) .skip)) (.seq (.ai [qu 5 (.lu 2 [(.aa (.val (.string ⟨#[]⟩))),(qd 0)] 0 []),qm 6 0,qu 7 (.mY 2 24 5 6),qm 2 7]) .ret)))⟩
theorem gh{n:Int}(h1: -9223372036854775808<=n)(h2:n<=9223372036854775807):IntKind.i64.wrap n=n:=IntWalk.i64_in n om
structure bp where
 data:List (List Dt)
 has:Bool
 eJ:Int
 cn:Int
def bp.enc(m:bp):List Dt:=[.sl 1 m.data,.val (.bool m.has),.val (.int .i64 m.eJ),.val (.int .i64 m.cn)]
structure Obj where
 ah:Int
 data:List (List Dt)
 aj:List (List Dt)
 target:ByteArray
 aG:Int
 ak:List bp
 aM:Int
 am:Int
 up:Int
def Obj.enc(o:Obj):List Dt:=[.val (.int .i64 o.ah),.sl 1 o.data,.sl 2 o.aj,.val (.string o.target),.val (.int .i64 o.aG),.sl 4 (o.ak.map bp.enc),.val (.int .i64 o.aM),.val (.int .i64 o.am),.val (.int .i64 o.up)]
def bp.cv(m:bp):CV:= .rv (.agg (m.enc.map .aa))
def Obj.cv(o:Obj):CV:= .rv (.agg (o.enc.map .aa))
def da(l:List Obj):Dt:= .sl 9 (l.map Obj.enc)
def cq(l:List Obj):CV:= .rv (.one (.aa (da l)))
def Obj.mU(o:Obj):Prop:=o.data.length<=4194304/\o.aj.length<=4194304/\o.ak.length<=4194304/\∀q,q∈o.ak->q.data.length<=4194304
def kg(l:List Obj):Prop:=l.length<=4194304/\∀o,o∈l->o.mU
theorem l90:bq Tryz.prog Tryz.f90=some c90:=by kernel_rfl
theorem l121:bq Tryz.prog Tryz.f121=some c121:=by kernel_rfl
def pV(esz:Nat)(d:List (List Dt)):CV:= .rv (.one (.aa (.sl esz d)))
theorem AK(d:List (List Dt))(hb:d.length<=4194304):body Tryz.prog c90 [pV 1 d] [] (fun r m=>cw m r (pV 1 d)):=by
 have qK:((([]:List (List CC)).length+(d.map fun ds=>ds.map CC.aa).length)*1)<=140737488355328:=by simp;omega
 refine ay (fun h=>?_) (fun h=>?_)
 .have hd:d=[]:=XJ (by simpa using XM h)
  subst hd;exact⟨.rv (.one (.aB 1)),qK,.rv (.one (dY.d6 rfl 0 none))⟩
 .exact⟨qK,.rv (.one (dY.d6 rfl 0 none))⟩
theorem gv(d:List (List Dt))(hb:d.length<=4194304){m:Mem}{K:CV->Mem->Prop}(h:K (pV 1 d) m):ar Tryz.prog 90 [pV 1 d] m K:=
 aY (aW Tryz.func90 l90 (AK d hb)) (by simp[pV,CV.c7,CC.c7]) fun r m1 hf=>⟨_,hf,h⟩
theorem AL(d:List (List Dt))(hb:d.length<=4194304):body Tryz.prog c121 [pV 2 d] [] (fun r m=>cw m r (pV 2 d)):=by
 have qK:((([]:List (List CC)).length+(d.map fun ds=>ds.map CC.aa).length)*24)<=140737488355328:=by simp;omega
 refine ay (fun h=>?_) (fun h=>?_)
 .have hd:d=[]:=XJ (by simpa using XM h)
  subst hd;exact⟨.rv (.one (.aB 2)),qK,.rv (.one (dY.d6 rfl 0 none))⟩
 .exact⟨qK,.rv (.one (dY.d6 rfl 0 none))⟩
theorem ri(d:List (List Dt))(hb:d.length<=4194304){m:Mem}{K:CV->Mem->Prop}(h:K (pV 2 d) m):ar Tryz.prog 121 [pV 2 d] m K:=
 aY (aW Tryz.func121 l121 (AL d hb)) (by simp[pV,CV.c7,CC.c7]) fun r m1 hf=>⟨_,hf,h⟩
def pW(p Q k:Nat)(o:Obj):List CC:=[.aa (.val (.int .i64 o.ah)),.aa (.sl 1 o.data),.aa (.sl 2 o.aj),.aa (.val (.string o.target)),.aa (.val (.int .i64 o.aG)),
 (if k=p then .row Q 4 0 none else .aa (.sl 4 (o.ak.map bp.enc))),.aa (.val (.int .i64 o.aM)),.aa (.val (.int .i64 o.am)),.aa (.val (.int .i64 o.up))]
def dW(p Q:Nat):Nat->List Obj->List (List CC)
 |_,[]=>[]
 |k,o::r=>pW p Q k o::dW p Q (k+1) r
theorem pX(p Q:Nat):∀(a:List Obj)(k:Nat)(b:List Obj),dW p Q k (a++b)=dW p Q k a++dW p Q (k+a.length) b
 | [],k,b=>rfl
 |o::r,k,b=>by simp[dW,pX p Q r (k+1) b,aau,Nat.add_comm 1]
theorem lK(p Q:Nat):∀(l:List Obj)(k:Nat),(dW p Q k l).length=l.length
 | [],_=>rfl
 |o::r,k=>by simp[dW,lK p Q r (k+1)]
theorem oU(p Q:Nat):∀(l:List Obj)(k:Nat),(p<k\/k+l.length<=p)->dW p Q k l=af (l.map Obj.enc)
 | [],_,_=>rfl
 |o::r,k,h=>by simp only[XR]at h;have hk:¬k=p:=om;simp only[dW,pW,if_neg hk,oU p Q r (k+1) om];rfl
theorem rk(p Q:Nat):∀(l:List Obj)(k i:Nat),(dW p Q k l)[i]? =(l[i]?).map (pW p Q (k+i))
 | [],k,i=>by simp[dW]
 |o::r,k,0=>by simp[dW]
 |o::r,k,i+1=>by
  simp only[dW,aaQ,rk p Q r (k+1) i];rw[show k+1+i=k+(i+1) by omega]
theorem JT{σ:Nat->Nat}{p Q k:Nat}(o:Obj):(pW p Q k o).map (CC.aP σ)=pW p (σ Q) k o:=by
 by_cases h:k=p<;>simp[pW,h,CC.aP]
theorem jB{σ:Nat->Nat}(p Q:Nat):∀(l:List Obj)(k:Nat),(dW p Q k l).map (fun cs=>cs.map (CC.aP σ))=dW p (σ Q) k l
 | [],_=>rfl
 |o::r,k=>by simp only[dW,aay,jB p Q r (k+1)];rw[JT]
def c91:LF:= ⟨47,[.tmp 2],(.seq (.ai [qu 2 (.aD qe)]) (.seq (.ai [qu 3 (.aD qe)]) (.seq (.seq (.ai [qm 9 0,qu 10 (.len 1 9),qu 11 (.aD (qi 0))]) (.block 0 (.loop (.seq (.ai [qu 12 (.aE .lss 11 10)]) (.seq (.cond 12 .skip (.exit 0)) (.seq (.block 1 (.seq (.ai [qu 13 (.b7 9 9 11),qL 14 9 13,qu 5 (.alloc [(qd 0),.aB,.aB,(.aa (.val (.string ⟨#[]⟩))),(qd 0),.aB,(qd 0),(qd 0),(qd 0)]),qw (.store 9 5 14)]) (.seq (.bT [qf 15 1 5,ql 16 15,qu 17 (qc 90 [16]),qf 18 2 5,ql 19 18,qu 20 (qc 121 [19]),qf 21 1 5,qw (.store 1 21 17),qf 22 2 5,qw (.store 1 22 20)] [(.cons 0 none (.cons 1 none (.cons 3 none (.cons 4 none (.cons 2 (some [4]) (.cons 6 none (.cons 5 (some []) (.cons 7 (some []) (.cons 8 none (.cons 9 (some []) .nil))))))))))]) (.seq (.ai [qu 6 (.aD qe)]) (.seq (.seq (.ai [qf 23 5 5,ql 24 23,qu 25 (.len 1 24),qu 26 (.aD (qi 0))]) (.block 2 (.loop (.seq (.ai [qu 27 (.aE .lss 26 25)]) (.seq (.cond 27 .skip (.exit 2)) (.seq (.block 3 (.seq (.ai [qu 28 (.b7 4 24 26),qL 29 4 28,qu 8 (.alloc [.aB,(.aa (.val (.bool false))),(qd 0),(qd 0)]),qw (.store 4 8 29)]) (.seq (.ai [qf 30 0 8,ql 31 30,qu 32 (qc 90 [31]),qf 33 0 8,qw (.store 1 33 32)]) (.ai [qm 34 6,qL 35 4 8,qu 36 (.lu 4 [.aB,(.aa (.val (.bool false))),(qd 0),(qd 0)] 1 [(0,35)]),qu 37 (.mY 4 48 34 36),qm 6 37])))) (.ai [qu 38 (.aE .add 26 (qi 1)),qm 26 38]))))))) (.seq (.ai [qm 39 6,qf 40 5 5,qw (.store 1 40 39)]) (.ai [qm 41 3,qL 42 9 5,qu 43 (.lu 9 [(qd 0),.aB,.aB,(.aa (.val (.string ⟨#[]⟩))),(qd 0),.aB,(qd 0),(qd 0),(qd 0)] 1 [(0,42)]),qu 44 (.mY 9 128 41 43),qm 3 44]))))))) (.ai [qu 45 (.aE .add 11 (qi 1)),qm 11 45]))))))) (.seq (.ai [qm 46 3,qm 2 46]) .ret))))⟩
def W9(l:List Obj)(p:Nat):List bp:=match l[p]? with|some o=>o.ak|none=>[]
def yy(l:List Obj)(p k:Nat):Bk:=match Nat.blt p k with|true=>.row 4 (af ((W9 l p).map bp.enc))|false=>.aZ
theorem tH{σ:Nat->Nat}(l:List Obj)(p k:Nat):(yy l p k).aP σ=yy l p k:=by
 unfold yy;split
 .exact Bk.jz _ _
 .rfl
theorem sU{α:Type}{l:List α}{i:Nat}{s:α}(h:l[i]? =some s):l.take (i+1)=l.take i++ [s]:=by rw[aaL,h];rfl
theorem cG(a b:List (List Dt)):af (a++b)=af a++af b:=by simp[af]
theorem uD{p Q:Nat}{l:List Obj}{k:Nat}{o:Obj}(h:l[k]? =some o):dW p Q 0 (l.take (k+1))=dW p Q 0 (l.take k)++ [pW p Q k o]:=by have hk:=(Hy.1 h).1;rw[sU h,pX,Z3,ab3 om,aak];rfl
theorem l91:bq Tryz.prog Tryz.f91=some c91:=by kernel_rfl
theorem JU(l:List Obj)(hf:kg l)(p:Nat):body Tryz.prog c91 [cq l] [] (fun r m=>r= .rv (.one (.row 0 9 0 none))/\m=[.row 9 (dW p 1 0 l),yy l p l.length]):=by
 obtain⟨hl,Ry⟩:=hf;refine aX (fun k=>k<=l.length) [0,9,10] (fun k=>[(11,an .i64 (k:Nat)),(3,.rv (.one (.row 0 9 0 none)))]) (fun k=>[.row 9 (dW p 1 0 (l.take k)),yy l p k]) (fun k=>l.length-k) 0 (XL _) ?_ (fun k hk=>?_)
 .refine View.trans (View.aB 2 4 0 rfl rfl rfl) (View.trans (View.aB 3 9 1 rfl rfl rfl) (View.o1 2 [1,0] [] ?_))
  .exact .put (by simp[bs]) rfl (.eq rfl aK) (.aZ (.nil _))
 .refine aJ (fun h=>?_) (fun h=>?_)
  .have aF:k<l.length:=by have h:(k:Int)<((l.map Obj.enc).length:Int):=h;rw[LW]at h;omega
   have hi:=tq aF;have Mo:=Ry _ (XP aF);have hg:dg (l.map Obj.enc) (k:Nat)=some (l[k].enc):=by rw[bF,O6,tq aF];rfl
   generalize l[k]=o at hi Mo hg;obtain⟨ah,data,aj,target,aG,ak,aM,am,up⟩:=o;obtain⟨JV,IH,ON,II⟩:=Mo;have JV:data.length<=4194304:=JV;have IH:aj.length<=4194304:=IH;have ON:ak.length<=4194304:=ON;have II:∀q,q∈ak->q.data.length<=4194304:=II;have hg:dg (l.map Obj.enc) (k:Nat)=some [.val (.int .i64 ah),.sl 1 data,.sl 2 aj,.val (.string target),.val (.int .i64 aG),.sl 4 (ak.map bp.enc),.val (.int .i64 aM),.val (.int .i64 am),.val (.int .i64 up)]:=hg;refine ag hg ?_;refine gv data JV ?_;refine⟨⟨rfl,trivial⟩,?_⟩;refine ri aj IH ?_;refine⟨trivial,?_⟩;refine⟨trivial,?_⟩;refine⟨trivial,?_⟩;refine aX (fun j=>j<=ak.length) [0,3,5,9,10,11,24,25] (fun j=>[(26,an .i64 (j:Nat)),(6,.rv (.one (.row 3 4 0 none)))])
    (fun j=>[.row 9 (dW p 1 0 (l.take k)),yy l p k,.var ((⟨ah,data,aj,target,aG,ak,aM,am,up⟩:Obj).enc.map .aa),.row 4 (af ((ak.take j).map bp.enc))]) (fun j=>ak.length-j) 0 (XL _) ?_ (fun j hj=>?_)
   .refine View.trans (View.aB 6 4 3 rfl rfl rfl) (View.o1 4 [0,1,2,3] [] ?_)
    .exact .pt rfl rfl (.eq (congrArg (Bk.row 9) (jB p 1 _ _)) aK) (.xk (eD rfl) rfl (tH l p k) (.pe rfl rfl rfl (.pn rfl rfl rfl)))
   .have hj:j<=ak.length:=hj;refine aJ (fun h=>?_) (fun h=>?_)
    .have dP:j<ak.length:=by have h:(j:Int)<((ak.map bp.enc).length:Int):=h;rw[LW]at h;omega
     have wn:=tq dP;have Hc:=II _ (XP dP);generalize ak[j]=q at wn Hc;obtain⟨qd,qh,qo,qr⟩:=q;have zP:dg (ak.map bp.enc) (j:Nat)=some [.sl 1 qd,.val (.bool qh),.val (.int .i64 qo),.val (.int .i64 qr)]:=by rw[bF,O6,wn];rfl
     refine ag zP ?_;refine gv qd Hc ?_;refine⟨?_,?_⟩
     .show((af ((ak.take j).map bp.enc)).length+1)*48<=_;simp[af];omega
     refine⟨j+1,dP,(show ak.length-(j+1)<ak.length-j by omega),View.o 7 [0,1,2,6] [] ?_ ?_⟩
     .repeat(first|exact .nil|refine .aq ?_|refine .put (.aP (aL om).symm) ?_|refine .eq rfl ?_)
     .refine .pt rfl rfl (.eq (congrArg (Bk.row 9) (jB p 1 _ _)) aK) (.xk (eD rfl) rfl (tH l p k) (.pe rfl rfl rfl (.pt rfl rfl (.bR ?_) (.nil _))));rw[sU wn,aax,cG];rfl
    .have ef:¬(j:Int)<((ak.map bp.enc).length:Int):=h;rw[LW]at ef;have hq:ak.take j=ak:=aaV om;refine⟨?_,?_⟩
     .show((dW p 1 0 (l.take k)).length+1)*128<=_;rw[lK];simp;omega
     by_cases PQ:k=p
     .subst PQ;have hR:∀Q,dW k Q 0 (l.take k)=af ((l.take k).map Obj.enc):=fun Q=>oU k Q _ 0 (.inr (by simp;omega))
      have Qd:yy l k (k+1)= .row 4 (af ((ak.take j).map bp.enc)):=by
       have:Nat.blt k (k+1)=true:=by rw[aaO];omega
       simp only[yy,this,W9,hi,hq]
      refine⟨k+1,aF,(show l.length-(k+1)<l.length-k by omega),View.o 6 [5,3] [] ?_ ?_⟩
      .repeat(first|exact .nil|refine .aq ?_|refine .put (.aP (aL om).symm) ?_|refine .eq rfl ?_)
      .rw[uD hi,Qd];refine .pt rfl rfl (.Dd ?_ rfl ?_) (.pn rfl rfl rfl)
       .rw[jB,hR,hR];rfl
       .intro j c c' h1 h2;have e5:pW k 1 k ⟨ah,data,aj,target,aG,ak,aM,am,up⟩=[.aa (.val (.int .i64 ah)),.aa (.sl 1 data),.aa (.sl 2 aj),.aa (.val (.string target)),.aa (.val (.int .i64 aG)),.row 1 4 0 none,.aa (.val (.int .i64 aM)),.aa (.val (.int .i64 am)),.aa (.val (.int .i64 up))]:=by simp[pW]
        rw[e5]at h2
        match j,h1,h2 with
        |0,h1,h2=>cases h1;cases h2;exact .aP (.aa _)
        |1,h1,h2=>cases h1;cases h2;exact .aP (.aa _)
        |2,h1,h2=>cases h1;cases h2;exact .aP (.aa _)
        |3,h1,h2=>cases h1;cases h2;exact .aP (.aa _)
        |4,h1,h2=>cases h1;cases h2;exact .aP (.aa _)
        |5,h1,h2=>cases h1;cases h2;exact .aP (.row 1 4 0 none)
        |6,h1,h2=>cases h1;cases h2;exact .aP (.aa _)
        |7,h1,h2=>cases h1;cases h2;exact .aP (.aa _)
        |8,h1,h2=>cases h1;cases h2;exact .aP (.aa _)
        |n+9,h1,h2=>simp at h1
     .have Qd:yy l p (k+1)=yy l p k:=by
       have:Nat.blt p (k+1)=Nat.blt p k:=by rw[acw,aaO,aaO];omega
       simp only[yy,this]
      refine⟨k+1,aF,(show l.length-(k+1)<l.length-k by omega),View.o 6 [5,1] [3] ?_ ?_⟩
      .repeat(first|exact .nil|refine .aq ?_|refine .put (.aP (aL om).symm) ?_|refine .eq rfl ?_)
      .rw[uD hi,Qd];refine .pt rfl rfl (.Dd (jB p 1 _ _) rfl ?_) (.xk (eD rfl) rfl (tH l p k) (.nil _));intro j' c c' h1 h2;have e5:pW p 1 k ⟨ah,data,aj,target,aG,ak,aM,am,up⟩=[.aa (.val (.int .i64 ah)),.aa (.sl 1 data),.aa (.sl 2 aj),.aa (.val (.string target)),.aa (.val (.int .i64 aG)),.aa (.sl 4 ((ak.take j).map bp.enc)),.aa (.val (.int .i64 aM)),.aa (.val (.int .i64 am)),.aa (.val (.int .i64 up))]:=by simp[pW,PQ,hq]
       rw[e5]at h2
       match j',h1,h2 with
       |0,h1,h2=>cases h1;cases h2;exact .aP (.aa _)
       |1,h1,h2=>cases h1;cases h2;exact .aP (.aa _)
       |2,h1,h2=>cases h1;cases h2;exact .aP (.aa _)
       |3,h1,h2=>cases h1;cases h2;exact .aP (.aa _)
       |4,h1,h2=>cases h1;cases h2;exact .aP (.aa _)
       |5,h1,h2=>cases h1;cases h2;exact .eu (dm.d6 (Z:=fun k=>bs [3] k=true) rfl (by rw[<-aT];rfl) 0 none)
       |6,h1,h2=>cases h1;cases h2;exact .aP (.aa _)
       |7,h1,h2=>cases h1;cases h2;exact .aP (.aa _)
       |8,h1,h2=>cases h1;cases h2;exact .aP (.aa _)
       |n+9,h1,h2=>simp at h1
  .have ef:¬(k:Int)<((l.map Obj.enc).length:Int):=h;rw[LW]at ef;have fy:k=l.length:=by have:k<=l.length:=hk;omega
   subst fy;rw[aan];exact⟨rfl,rfl⟩
theorem uE(l:List Obj)(hf:kg l)(p:Nat){m:Mem}{K:CV->Mem->Prop}(h:K (.rv (.one (.row m.length 9 0 none))) (m++ [.row 9 (dW p (m.length+1) 0 l),yy l p l.length])):ar Tryz.prog 91 [cq l] m K:=by
 refine bv [] m.length rfl rfl rfl rfl rfl (fun i b' hi=>by simp at hi) (aW Tryz.func91 l91 (JU l hf p)) (fun r m1 hr=>?_)
 obtain⟨h1,h2⟩:=hr;subst h1;subst h2;refine⟨XL _,?_⟩;show K (.rv (.one (.row (m.length+(0-0)) 9 0 none))) (gX m [.row 9 ((dW p 1 0 l).map (fun cs=>cs.map (CC.aP (sg [] m.length)))),(yy l p l.length).aP (sg [] m.length)])
 rw[jB,tH,cg];exact h
def c104:LF:= ⟨34,[.tmp 4,.tmp 5,.tmp 6],(.seq (.ai [qu 3 (.box 1),qu 4 (.aD qe),qu 5 (.aD (qi 0)),qu 6 (.aD (qi 0))]) (.seq (.ai [qm 9 0,qu 10 (qc 114 [9,(.c (.rv (.one (.fn 131 []))))]),qm 7 10]) (.seq (.seq (.ai [qm 11 7,qu 12 (.aE .lss 11 (qi 0))]) (.cond 12 (.seq (.seq (.ai [qm 13 0,qu 14 (.len 1 13),qu 15 (.aE .geq 14 (qi 40))]) (.cond 15 (.seq (.ai [qu 4 (.aD qe),qu 5 (.aD (qi 0)),qu 6 (.aD (qi 15))]) .ret) .skip)) (.ai [qm 16 0,qu 17 (.len 1 16),qm 7 17])) .skip)) (.seq (.ai [qm 18 0,qu 19 (qc 91 [18]),qm 8 19]) (.seq (.seq (.ai [qm 20 7,qm 21 8,qu 22 (.len 1 21),qu 23 (.aE .eql 20 22)]) (.cond 23 (.ai [qm 24 8,qu 25 (.build [(qd 0),.aB,.aB,(.aa (.val (.string ⟨#[]⟩))),(qd 0),.aB,(qd 0),(qd 0),(qd 0)] []),qu 26 (.lu 9 [(qd 0),.aB,.aB,(.aa (.val (.string ⟨#[]⟩))),(qd 0),.aB,(qd 0),(qd 0),(qd 0)] 1 [(0,25)]),qu 27 (.mY 9 128 24 26),qm 8 27]) .skip)) (.seq (.ai [qm 28 8,qm 29 7,qL 30 9 3,qu 31 (.b7 9 28 29),qw (.store 9 31 30)]) (.seq (.ai [qm 32 8,qm 33 7,qm 4 32,qm 5 33,qu 6 (.aD (qi 0))]) .ret)))))))⟩
def c114:LF:= ⟨19,[.tmp 4],(.seq (.ai [qu 4 (.aD (qi 0))]) (.seq (.seq (.ai [qm 6 0,qu 7 (.len 1 6),qu 8 (.aD (qi 0))]) (.block 0 (.loop (.seq (.ai [qu 9 (.aE .lss 8 7)]) (.seq (.cond 9 .skip (.exit 0)) (.seq (.block 1 (.seq (.ai [qm 10 8,qm 5 10]) (.seq (.ai [qm 11 1,qm 12 0,qm 13 5,qu 14 (.b7 9 12 13),qL 15 9 14,qu 16 (.call 11 [15])]) (.cond 16 (.seq (.ai [qm 17 5,qm 4 17]) .ret) .skip)))) (.ai [qu 18 (.aE .add 8 (qi 1)),qm 8 18]))))))) (.seq (.ai [qu 4 (.aD (qi (-1)))]) .ret)))⟩
def c131:LF:= ⟨6,[.tmp 2],(.seq (.ai [qu 1 (.box 0),qu 2 (.aD (qb false))]) (.seq (.ai [qf 3 0 1,ql 4 3,qu 5 (.aE .eql 4 (qi 0)),qm 2 5]) .ret))⟩
def mV{α:Type}(q:α->Bool)(l:List α):Int:=match l.findIdx? q with|some k=>(k:Int)|none=>-1
theorem jM{α:Type}{q:α->Bool}{l:List α}{k:Nat}(h:k<l.length)(hq:q l[k]=true)(hb:∀(j:Nat)s,j<k->l[j]? =some s->q s=false):mV q l=k:=by
 have:l.findIdx? q=some k:=by rw[aar];exact⟨h,hq,fun j hj=>by simpa using hb j _ hj (tq om)⟩
 rw[mV,this]
theorem lL{α:Type}{q:α->Bool}{l:List α}(hb:∀(j:Nat)s,l[j]? =some s->q s=false):mV q l= -1:=by
 have:l.findIdx? q=none:=by rw[abn];intro s hs;obtain⟨i,hi⟩:=Xz hs;simpa using hb i s hi
 rw[mV,this]
theorem pY{α:Type}(q:α->Bool)(l:List α):decide (mV q l>=0)=l.any q:=by
 unfold mV;cases h:l.findIdx? q with
 |none=>
  rw[abn]at h;have:l.any q=false:=by simpa using h
  rw[this];rfl
 |some k=>
  obtain⟨h1,h2,_⟩:=aar.1 h;have:l.any q=true:=aaH.2 ⟨_,XP h1,h2⟩;rw[this];exact decide_eq_true aK
theorem l104:bq Tryz.prog Tryz.f104=some c104:=by kernel_rfl
theorem l114:bq Tryz.prog Tryz.f114=some c114:=by kernel_rfl
theorem l131:bq Tryz.prog Tryz.f131=some c131:=by kernel_rfl
theorem yz(l:List Obj)(hb:l.length<=4194304)(F:Nat)(q:Obj->Bool)(hF:∀s,s∈l->∀K:CV->Mem->Prop,K (aA (q s)) []->ar Tryz.prog F [s.cv] [] K):body Tryz.prog c114 [cq l,(.rv (.one (.fn F [])))] [] (fun r m=>r=an .i64 (mV q l)):=by
 refine aX (fun k=>k<=l.length/\∀(j:Nat)s,j<k->l[j]? =some s->q s=false) [0,1,7] (fun k=>[(8,an .i64 (k:Nat))]) (fun _=>[]) (fun k=>l.length-k) 0 ⟨XL _,fun j s h=>absurd h (aal j)⟩ ?_ (fun k hk=>?_)
 .refine View.o1 0 [] [] ?_
  .exact .nil _
 .refine aJ (fun h=>?_) (fun h=>?_)
  .have aF:k<l.length:=by have h:(k:Int)<((l.map Obj.enc).length:Int):=h;rw[LW]at h;omega
   have hg:dg (l.map Obj.enc) (k:Nat)=some (l[k].enc):=by rw[bF,O6,tq aF];rfl
   refine ag hg ?_;refine hF l[k] (XP aF) _ ?_;refine ay (fun h=>?_) (fun h=>?_)
   .rw[jM aF h hk.2];exact rfl
   .refine⟨k+1,⟨aF,fun j s hj hs=>?_⟩,(show l.length-(k+1)<l.length-k by omega),View.o 0 [] [] ?_ ?_⟩
    .rcases XN j k with h5|h5
     .exact hk.2 j s h5 hs
     .have:j=k:=om;subst this;rw[tq aF]at hs;cases hs;exact h
    .repeat(first|exact .nil|refine .aq ?_|refine .put (.aP (aL om).symm) ?_|refine .eq rfl ?_)
    .exact .nil _
  .have ef:¬(k:Int)<((l.map Obj.enc).length:Int):=h;rw[LW]at ef;rw[lL fun j s hs=>hk.2 j s (by have:=(Hy.1 hs).1;omega) hs]
   exact rfl
theorem Df(l:List Obj)(hb:l.length<=4194304)(F:Nat)(q:Obj->Bool)(hF:∀s,s∈l->∀K:CV->Mem->Prop,K (aA (q s)) []->ar Tryz.prog F [s.cv] [] K){m:Mem}{K:CV->Mem->Prop}(h:K (an .i64 (mV q l)) m):ar Tryz.prog 114 [cq l,.rv (.one (.fn F []))] m K:=
 bo Tryz.func114 l114 rfl (T3 rfl) (yz l hb F q hF) rfl rfl h
theorem Qe(s:Obj)(K:CV->Mem->Prop)(h:K (aA (s.ah==0)) []):ar Tryz.prog 131 [s.cv] [] K:=
 bo Tryz.func131 l131 rfl (T3 rfl) (show body Tryz.prog c131 [s.cv] [] (fun r m=>r=aA (s.ah==0))from rfl) rfl rfl h
theorem Fz(l:List Obj)(hf:kg l){m:Mem}{K:CV->Mem->Prop}(h:K (.rv (.one (.row m.length 9 0 none))) (m++ [.row 9 (af (l.map Obj.enc)),.aZ])):ar Tryz.prog 91 [cq l] m K:=by
 refine uE l hf l.length ?_;have h1:yy l l.length l.length= .aZ:=by
  have:Nat.blt l.length l.length=false:=by
   cases hb:Nat.blt l.length l.length with
   |false=>rfl
   |true=>rw[aaO]at hb;omega
  simp only[yy,this]
 rw[oU _ _ _ _ (.inr om),h1];exact h
def cD(n:Int):RV:= .one (.aa (.val (.int .i64 n)))
def aI(l:List Obj)(o:Obj):List Obj×Int×Int:=
 match l.findIdx? (fun x=>x.ah==0)with
 |some k=>(l.set k o,k,0)
 |none=>if l.length>=40 then([],0,15)else(l++ [o],l.length,0)
def OO(l:List Obj)(o:Obj)(r:CV)(m:Mem):Prop:=
 ((aI l o).2.2=15/\r= .bG [.one .aB,cD (aI l o).2.1,cD (aI l o).2.2]/\m=[])\/
 ((aI l o).2.2=0/\r= .bG [.one (.row 0 9 0 none),cD (aI l o).2.1,cD (aI l o).2.2]/\m=[.row 9 (af ((aI l o).1.map Obj.enc))])
theorem xl(l:List Obj)(k:Nat)(o:Obj):(af (l.map Obj.enc)).set k (o.enc.map .aa)=af ((l.set k o).map Obj.enc):=by simp[af,aaG]
theorem xm(l:List Obj){k:Nat}(h:k<l.length):cR (af (l.map Obj.enc)) k=some (l[k].enc.map .aa):=by rw[aT];simp[af,h]
theorem Hd(l:List Obj)(hf:kg l)(o:Obj):body Tryz.prog c104 [cq l,o.cv] [] (fun r m=>∃r' m',View 0 ⟨[r],m⟩ ⟨[r'],m'⟩/\OO l o r' m'):=by
 have hl:=hf.1;refine Df l hl 131 (fun x=>x.ah==0) (fun s _ K hs=>Qe s K hs) ?_
 have hlen:(af (l.map Obj.enc)).length=l.length:=by simp[af]
 cases hk:l.findIdx? (fun x=>x.ah==0)with
 |some k=>
  have hi:mV (fun x:Obj=>x.ah==0) l=(k:Int):=by rw[mV,hk]
  have fy:k<l.length:=(aar.1 hk).1;have hm:aI l o=(l.set k o,(k:Int),0):=by rw[aI,hk]
  rw[hi];refine Fz l hf ?_;refine sM (by simp[hlen,lenOf];omega) ?_
  refine ag (bP (k:=k) (by simp[hlen,lenOf];omega)) ?_
  refine ag (x:=l[k].enc.map .aa) (by simpa[gB]using xm l fy) ?_
  refine⟨.bG [.one (.row 0 9 0 none),cD k,cD 0],[.row 9 (af ((l.set k o).map Obj.enc))],View.o 3 [1] [] ?_ ?_,.inr ?_⟩
  .exact .eq rfl .nil
  .refine .pt rfl rfl (.bR ?_) (.nil _);rw[<-xl];simp[bg,gB,Obj.enc]
  .rw[hm];exact⟨rfl,rfl,rfl⟩
 |none=>
  have hi:mV (fun x:Obj=>x.ah==0) l= -1:=by rw[mV,hk]
  rw[hi];refine aJ (fun h=>?_) (fun h=>?_)
  .have h:l.length>=40:=by have h:(((l.map Obj.enc).length:Nat):Int)>=40:=h;rw[LW]at h;omega
   have hm:aI l o=([],0,15):=by rw[aI,hk];simp only;rw[if_pos h]
   refine⟨.bG [.one .aB,cD 0,cD 15],[],View.o 1 [] [] ?_ (.nil _),.inl ?_⟩
   .exact .eq rfl .nil
   .rw[hm];exact⟨rfl,rfl,rfl⟩
  .have h:¬l.length>=40:=by have h:¬(((l.map Obj.enc).length:Nat):Int)>=40:=h;rw[LW]at h;omega
   have hm:aI l o=(l++ [o],(l.length:Int),0):=by rw[aI,hk];simp only;rw[if_neg h]
   refine Fz l hf ?_;refine b8 (by simp[hlen,lenOf]) ?_
   refine⟨by simp[hlen,ct];omega,?_⟩
   have IJ:(l.map Obj.enc).length=l.length:=aK;refine ag (bP (k:=(l.map Obj.enc).length) (by simp[hlen,lenOf,ct])) ?_
   refine ag (x:=[.aa (.val (.int .i64 0)),.aB,.aB,.aa (.val (.string ⟨#[]⟩)),.aa (.val (.int .i64 0)),.aB,.aa (.val (.int .i64 0)),.aa (.val (.int .i64 0)),.aa (.val (.int .i64 0))]) (by simp[aT,hlen,ct,gB]) ?_
   refine⟨.bG [.one (.row 0 9 0 none),cD (((l.map Obj.enc).length:Nat):Int),cD 0],[.row 9 (af ((l++ [o]).map Obj.enc))],View.o 5 [4] [] ?_ ?_,.inr ?_⟩
   .exact .eq rfl .nil
   .refine .pt rfl rfl (.bR ?_) (.nil _);rw[aax,cG];simp only[bg,gB,ct];rw[IJ,<-hlen];rw[abZ _ _ (QN _),abK];rfl
   .rw[hm];refine⟨rfl,?_,rfl⟩;rw[IJ]
theorem xn(l:List Obj)(hf:kg l)(o:Obj):ar Tryz.prog 104 [cq l,o.cv] [] (OO l o):=
 bK (aW Tryz.func104 l104 (Hd l hf o)) fun r m1⟨r',m',hv,hp⟩=>⟨r',m',hv,hp⟩
def lM(l:List Obj):RV:= .one (.aa (da l))
theorem k7{m:Mem}{a b c d:RV}{x:Int}(h:eh m a b)(hc:eh m c d):cw m (.bG [a,c,cD x]) (.bG [b,d,cD x]):=by
 refine .bG rfl fun i r r' h1 h2=>?_
 match i,h1,h2 with
 |0,h1,h2=>cases h1;cases h2;exact h
 |1,h1,h2=>cases h1;cases h2;exact hc
 |2,h1,h2=>cases h1;cases h2;exact eh.self rfl
theorem yA(l:List Obj)(hf:kg l)(o:Obj){m:Mem}{K:CV->Mem->Prop}(h:K (.bG [lM (aI l o).1,cD (aI l o).2.1,cD (aI l o).2.2]) m):ar Tryz.prog 104 [cq l,o.cv] m K:=by
 refine aY (xn l hf o) (by simp[cq,Obj.cv,CV.c7,CC.c7,RV.c7]) fun r m1 hp=>?_
 rcases hp with⟨h1,rfl,rfl⟩|⟨h1,rfl,rfl⟩
 .have h2:(aI l o).1=[]:=by
   unfold aI at h1⊢;split at h1
   .simp at h1
   .split at h1
    .rename_i hc;rw[if_pos hc]
    .simp at h1
  refine⟨_,k7 (.one (.aB 9)) (eh.self rfl),?_⟩;rw[h2]at h;exact h
 .refine⟨_,k7 (.one (dY.d6 rfl 0 none)) (eh.self rfl),?_⟩;exact h
theorem JW(l:List Obj)(hf:kg l)(o:Obj){m:Mem}{K:CV->Mem->Prop}(h1:(aI l o).2.2=15->K (.bG [.one .aB,cD (aI l o).2.1,cD (aI l o).2.2]) m)(h2:(aI l o).2.2=0->K (.bG [.one (.row m.length 9 0 none),cD (aI l o).2.1,cD (aI l o).2.2]) (m++ [.row 9 (af ((aI l o).1.map Obj.enc))])):ar Tryz.prog 104 [cq l,o.cv] m K:=by
 refine bv [] m.length rfl rfl rfl rfl rfl (fun i b' hi=>by simp at hi) (xn l hf o) (fun r m1 hp=>⟨XL _,?_⟩)
 rcases hp with⟨e1,rfl,rfl⟩|⟨e1,rfl,rfl⟩
 .have:=h1 e1;show K _ (gX m []);rw[cg,aa6];exact this
 .have:=h2 e1;show K _ (gX m [Bk.aP _ _]);rw[cg,Bk.jz];exact this
def c64:LF:= ⟨41,[.tmp 2,.cell true 2 3,.tmp 4],(.seq (.ai [qu 2 (.aD qe),qu 3 (.alloc [(qd 0),(qd 0)]),qu 4 (.aD (qi 0))]) (.seq (.ai [qm 10 0,qu 11 (.build [(qd 0),.aB,.aB,(.aa (.val (.string ⟨#[]⟩))),(qd 0),.aB,(qd 0),(qd 0),(qd 0)] [(0,1,(qi 4)),(4,1,(qi (-1))),(6,1,(qi (-1)))]),qu 12 (qc 104 [10,11]),qm 9 12,qu 13 (.ext 9 0),qu 14 (.ext 9 1),qu 15 (.ext 9 2),qm 5 13,qm 6 14,qm 7 15]) (.seq (.seq (.ai [qm 16 7,qu 17 (.aE .neq 16 (qi 0))]) (.cond 17 (.seq (.ai [qu 18 (.build [(qd 0),(qd 0)] []),qm 19 7,qu 2 (.aD qe),qw (.store 2 3 18),qm 4 19]) .ret) .skip)) (.seq (.ai [qm 21 5,qm 22 6,qu 23 (.build [(qd 0),.aB,.aB,(.aa (.val (.string ⟨#[]⟩))),(qd 0),.aB,(qd 0),(qd 0),(qd 0)] [(0,1,(qi 4)),(4,1,22),(6,1,(qi (-1)))]),qu 24 (qc 104 [21,23]),qm 20 24,qu 25 (.ext 20 0),qu 26 (.ext 20 1),qu 27 (.ext 20 2),qm 5 25,qm 8 26,qm 7 27]) (.seq (.seq (.ai [qm 28 7,qu 29 (.aE .neq 28 (qi 0))]) (.cond 29 (.seq (.ai [qu 30 (.build [(qd 0),(qd 0)] []),qm 31 7,qu 2 (.aD qe),qw (.store 2 3 30),qm 4 31]) .ret) .skip)) (.seq (.ai [qm 32 5,qm 33 6,qm 34 8,qu 35 (.b7 9 32 33),qf 36 4 35,qw (.store 1 36 34)]) (.seq (.ai [qm 37 5,qm 38 6,qm 39 8,qu 40 (.build [(qd 0),(qd 0)] [(0,1,38),(1,1,39)]),qm 2 37,qw (.store 2 3 40),qu 4 (.aD (qi 0))]) .ret)))))))⟩
theorem FA{l:List Obj}{o:Obj}(h:(aI l o).2.2=0):∃k:Nat,(aI l o).2.1=k/\k<(aI l o).1.length/\(aI l o).1[k]? =some o/\l.length<=(aI l o).1.length/\(∀j,j≠k->j<l.length->(aI l o).1[j]? =l[j]?):=by
 unfold aI at h⊢;split
 .rename_i k hk;have fy:k<l.length:=(aar.1 hk).1;exact⟨k,rfl,by simpa using fy,by simp[fy],aK,fun j hj l4=>by simp[aaq,Ne.symm hj]⟩
 .rename_i hk;rw[hk]at h;simp only at h;split at h
  .simp at h
  .rename_i hc;rw[if_neg hc];exact⟨l.length,rfl,aK,aK,aK,fun j hj l4=>by simp[VO l4]⟩
theorem JX{l:List Obj}{o:Obj}(hf:kg l)(ho:o.mU):kg (aI l o).1:=by
 unfold aI;split
 .refine⟨by simpa using hf.1,fun x hx=>?_⟩
  rcases aag hx with h|rfl
  .exact hf.2 x h
  .exact ho
 .split
  .exact⟨aK,aK⟩
  .refine⟨by simp;omega,fun x hx=>?_⟩
   rcases aaF.1 hx with h|h
   .exact hf.2 x h
   .simp at h;subst h;exact ho
def bM(p:Int):Obj:=⟨4,[],[],⟨#[]⟩,p,[],-1,0,0⟩
theorem JY(p:Int):(bM p).mU:=by simp[Obj.mU,bM]
def kJ(l:List Obj)(k:Nat)(b:Int):List Obj:=match l[k]? with|some o=>l.set k {o with aG:=b}|none=>l
def fe(l:List Obj):List Obj×(Int×Int)×Int:=
 if(aI l (bM (-1))).2.2≠0 then([],(0,0),(aI l (bM (-1))).2.2)
 else if(aI (aI l (bM (-1))).1 (bM (aI l (bM (-1))).2.1)).2.2≠0 then([],(0,0),(aI (aI l (bM (-1))).1 (bM (aI l (bM (-1))).2.1)).2.2)
 else(kJ (aI (aI l (bM (-1))).1 (bM (aI l (bM (-1))).2.1)).1 (aI l (bM (-1))).2.1.toNat (aI (aI l (bM (-1))).1 (bM (aI l (bM (-1))).2.1)).2.1,((aI l (bM (-1))).2.1,(aI (aI l (bM (-1))).1 (bM (aI l (bM (-1))).2.1)).2.1),0)
def Ts(x:Int×Int):RV:= .agg [.aa (.val (.int .i64 x.1)),.aa (.val (.int .i64 x.2))]
theorem l64:bq Tryz.prog Tryz.f64=some c64:=by kernel_rfl
theorem FB(a b:CV)(p:Int):jL [a,.rv (.agg [.aa (.val (.int .i64 4)),.aB,.aB,.aa (.val (.string ⟨#[]⟩)),.aa (.val (.int .i64 p)),.aB,.aa (.val (.int .i64 (-1))),.aa (.val (.int .i64 0)),.aa (.val (.int .i64 0))])] [a,(bM p).cv]:=
 .dz _ (.agg (.cons (.dz _) (.cons (.aB 1) (.cons (.aB 2) (.cons (.dz _) (.cons (.dz _) (.cons (.aB 4) (.cons (.dz _) (.cons (.dz _) (.cons (.dz _) .nil))))))))) .nil)
theorem He(l:List Obj)(hf:kg l):body Tryz.prog c64 [cq l] [] (fun r m=>cw m r (.bG [lM (fe l).1,Ts (fe l).2.1,cD (fe l).2.2])):=by
 refine lI (FB _ (.aq) _) (yA l hf (bM (-1)) ?_);have hp:fe l=if(aI l (bM (-1))).2.2≠0 then([],(0,0),(aI l (bM (-1))).2.2)
   else if(aI (aI l (bM (-1))).1 (bM (aI l (bM (-1))).2.1)).2.2≠0 then([],(0,0),(aI (aI l (bM (-1))).1 (bM (aI l (bM (-1))).2.1)).2.2)
   else(kJ (aI (aI l (bM (-1))).1 (bM (aI l (bM (-1))).2.1)).1 (aI l (bM (-1))).2.1.toNat (aI (aI l (bM (-1))).1 (bM (aI l (bM (-1))).2.1)).2.1,((aI l (bM (-1))).2.1,(aI (aI l (bM (-1))).1 (bM (aI l (bM (-1))).2.1)).2.1),0):=rfl
 have jg:=JX (o:=bM (-1)) hf (JY _);generalize hx:aI l (bM (-1))=x at hp jg;obtain⟨l1,a,e1⟩:=x;have jg:kg l1:=jg;refine bu (fun h=>?_) (fun h=>?_)
 .have h:e1≠0:=h;rw[hp];simp only;rw[if_pos h];exact k7 (.one (.aB 9)) (eh.self rfl)
 .have h:e1=0:=h;subst h;have G4:=FA (l:=l) (o:=bM (-1)) (by rw[hx])
  rw[hx]at G4;obtain⟨ka,Mp,Tt,aa7,aa8,_⟩:=G4;have Mp:a=(ka:Int):=Mp;have Tt:ka<l1.length:=Tt;subst Mp;simp only[ne_eq,not_true,if_false,XO]at hp;refine lI (FB _ (.aq) _) (JW l1 jg (bM ka) (fun h=>?_) (fun h=>?_))
  .rw[h]at hp;rw[h,hp];exact k7 (.one (.aB 9)) (eh.self rfl)
  .have G4:=FA (l:=l1) (o:=bM ka) h;generalize hy:aI l1 (bM ka)=y at hp G4 h;obtain⟨l2,b,e2⟩:=y;have h:e2=0:=h;subst h;obtain⟨kb,Vy,aa9,aba,Tu,_⟩:=G4;have Tu:l1.length<=l2.length:=Tu;have aF:ka<l2.length:=om;have hlen:(af (l2.map Obj.enc)).length=l2.length:=by simp[af]
   refine ag (bP (k:=ka) (by simpa[hlen,lenOf]using aF)) ?_
   refine ag (x:=l2[ka].enc.map .aa) (by simpa[gB]using xm l2 aF) ?_
   have ji:a7 (af (l2.map Obj.enc)) (gB 0 ka) (({l2[ka]with aG:=b}:Obj).enc.map .aa)=af ((kJ l2 ka b).map Obj.enc):=by rw[bg];simp only[kJ,tq aF];rw[<-xl];simp[gB]
   have eE:some (Bk.row 9 (a7 (af (l2.map Obj.enc)) (gB 0 ka) (({l2[ka]with aG:=b}:Obj).enc.map .aa)))=some (Bk.row 9 (af ((kJ l2 ka b).map Obj.enc))):=by rw[ji]
   rw[hp];exact k7 (.one (dY.d6 eE 0 none)) (eh.self rfl)
theorem MY(l:List Obj)(hf:kg l){m:Mem}{K:CV->Mem->Prop}(h:K (.bG [lM (fe l).1,Ts (fe l).2.1,cD (fe l).2.2]) m):ar Tryz.prog 64 [cq l] m K:=
 aY (aW Tryz.func64 l64 (He l hf)) (by simp[cq,CV.c7,CC.c7]) fun r m1 Tj=>⟨_,Tj,h⟩
def c67:LF:= ⟨80,[.tmp 6,.tmp 7],(.seq (.ai [qu 5 (.box 2),qu 6 (.aD qe),qu 7 (.aD (qi 0))]) (.seq (.seq (.ai [qm 10 1,qu 11 (.aE .lss 10 (qi 0)),qm 12 11,qg 13 (.aD 1) 12 false,qg 14 (.aD 0) 12 false,qg 15 (.len 1 14) 12 false,qg 16 (.aE .geq 13 15) 12 false,qu 17 (.pick 12 (qb true) 16),qm 18 17,qg 19 (.aD 0) 18 false,qg 20 (.aD 1) 18 false,qg 21 (.b7 9 19 20) 18 false,qg 22 (.bQ 0 21) 18 false,qg 23 (.load false 1 22) 18 false,qg 24 (.aE .neq 23 (qi 4)) 18 false,qu 25 (.pick 18 (qb true) 24)]) (.cond 25 (.seq (.ai [qu 6 (.aD qe),qu 7 (.aD (qi 8))]) .ret) .skip)) (.seq (.ai [qm 26 0,qm 27 1,qu 28 (.b7 9 26 27),qf 29 4 28,ql 30 29,qm 8 30]) (.seq (.block 0 (.seq (.ai [qm 32 8,qu 33 (.aE .lss 32 (qi 0)),qm 34 33,qg 35 (.aD 8) 34 false,qg 36 (.aD 0) 34 false,qg 37 (.len 1 36) 34 false,qg 38 (.aE .geq 35 37) 34 false,qu 39 (.pick 34 (qb true) 38),qm 40 39,qg 41 (.aD 0) 40 false,qg 42 (.aD 8) 40 false,qg 43 (.b7 9 41 42) 40 false,qg 44 (.bQ 0 43) 40 false,qg 45 (.load false 1 44) 40 false,qg 46 (.aE .neq 45 (qi 4)) 40 false,qu 47 (.pick 40 (qb true) 46),qm 31 47]) (.cond 31 (.seq (.ai [qu 6 (.aD qe),qu 7 (.aD (qi 17))]) .ret) (.seq (.ai [qf 49 0 5,ql 50 49,qu 51 (.len 1 50),qu 52 (.aE .gtr 51 (qi 60)),qm 48 52]) (.cond 48 (.seq (.ai [qu 6 (.aD qe),qu 7 (.aD (qi 4))]) .ret) (.seq (.ai [qm 54 0,qm 55 8,qu 56 (.b7 9 54 55),qf 57 5 56,ql 58 57,qu 59 (.len 1 58),qu 60 (.aE .geq 59 (qi 4)),qm 53 60]) (.cond 53 (.seq (.ai [qu 6 (.aD qe),qu 7 (.aD (qi 15))]) .ret) .skip))))))) (.seq (.ai [qm 61 0,qu 62 (qc 91 [61]),qm 9 62]) (.seq (.ai [qf 63 0 5,ql 64 63,qu 65 (qc 90 [64]),qf 66 0 5,qw (.store 1 66 65)]) (.seq (.bT [qm 67 9,qm 68 8,qm 69 9,qm 70 8,qu 71 (.b7 9 69 70),qf 72 5 71,ql 73 72,qL 74 4 5,qu 75 (.lu 4 [.aB,(.aa (.val (.bool false))),(qd 0),(qd 0)] 1 [(0,74)]),qu 76 (.mY 4 48 73 75),qu 77 (.b7 9 67 68),qf 78 5 77,qw (.store 1 78 76)] [(.cons 0 none (.cons 1 none (.cons 2 none (.cons 3 none (.cons 4 none (.cons 5 none (.cons 6 none (.cons 7 none (.cons 8 (some [6,4]) (.cons 9 (some []) (.cons 10 none (.cons 11 none (.cons 12 (some []) .nil)))))))))))))]) (.seq (.ai [qm 79 9,qm 6 79,qu 7 (.aD (qi 0))]) .ret))))))))⟩
def Hf(o:Obj)(c:CC):List CC:=[.aa (.val (.int .i64 o.ah)),.aa (.sl 1 o.data),.aa (.sl 2 o.aj),.aa (.val (.string o.target)),.aa (.val (.int .i64 o.aG)),c,.aa (.val (.int .i64 o.aM)),.aa (.val (.int .i64 o.am)),.aa (.val (.int .i64 o.up))]
theorem AN{l:List Obj}{p Q:Nat}{q:Obj}(h:l[p]? =some q):cR (dW p Q 0 l) p=some (Hf q (.row Q 4 0 none)):=by rw[aT,rk,h];simp[pW,Hf]
theorem JZ{l:List Obj}{p:Nat}{q:Obj}(h:l[p]? =some q):yy l p l.length= .row 4 (af (q.ak.map bp.enc)):=by
 have hp:=(Hy.1 h).1;have:Nat.blt p l.length=true:=by rw[aaO];exact hp
 simp only[yy,this,W9,h]
theorem FC{m:Mem}{Z:Nat->Prop}{id p Q:Nat}{l:List Obj}{q:Obj}{c:CC}(hz:Z id)(hb:m[id]? =some (.row 9 (a7 (dW p Q 0 l) p (Hf q c))))(hc:dm m Z (some id) c (.sl 4 (q.ak.map bp.enc))):
  dm m Z none (.row id 9 0 none) (.sl 9 ((l.set p q).map Obj.enc)):=by
 have key:∀(i:Nat)cs es,(a7 (dW p Q 0 l) p (Hf q c))[i]? =some cs->((l.set p q).map Obj.enc)[i]? =some es->(cs=Hf q c/\es=q.enc)\/∃o:Obj,cs=o.enc.map .aa/\es=o.enc:=by
  intro i cs es h1 h2;rw[bg,aaq]at h1;rw[O6,aaq]at h2;by_cases hi:p=i
  .subst hi;rw[if_pos rfl]at h1 h2;split at h1
   .cases h1;split at h2
    .cases h2;exact .inl ⟨rfl,rfl⟩
    .cases h2
   .cases h1
  .rw[if_neg hi]at h1 h2;rw[rk]at h1;cases ho:l[i]? with
   |none=>rw[ho]at h1;cases h1
   |some o=>
    rw[ho]at h1 h2;cases h1;cases h2;refine .inr ⟨o,?_,rfl⟩;simp only[pW,aak,if_neg (Ne.symm hi)];rfl
 refine .row id 9 0 none _ ((l.set p q).map Obj.enc) hz hb (by rw[bg];simp[lK]) (fun i cs es h1 h2=>?_) (fun i cs es j cc d h1 h2 h3 h4=>?_)
 .rcases key i cs es h1 h2 with⟨rfl,rfl⟩|⟨o,rfl,rfl⟩
  .rfl
  .simp
 .rcases key i cs es h1 h2 with⟨rfl,rfl⟩|⟨o,rfl,rfl⟩
  .match j,h3,h4 with
   |0,h3,h4=>cases h3;cases h4;exact .aa _
   |1,h3,h4=>cases h3;cases h4;exact .aa _
   |2,h3,h4=>cases h3;cases h4;exact .aa _
   |3,h3,h4=>cases h3;cases h4;exact .aa _
   |4,h3,h4=>cases h3;cases h4;exact .aa _
   |5,h3,h4=>cases h3;cases h4;exact hc
   |6,h3,h4=>cases h3;cases h4;exact .aa _
   |7,h3,h4=>cases h3;cases h4;exact .aa _
   |8,h3,h4=>cases h3;cases h4;exact .aa _
   |n+9,h3,h4=>simp[Hf]at h3
  .rw[O6,h4]at h3;cases h3;exact .aa _
def eP(l:List Obj)(e:Int)(m:bp):List Obj×Int:=
 if e<0\/e>=l.length then([],8)else match l[e.toNat]? with
 |none=>([],8)
 |some o=>if o.ah≠4 then([],8)else if o.aG<0\/o.aG>=l.length then([],17)else match l[o.aG.toNat]? with
  |none=>([],17)
  |some q=>if q.ah≠4 then([],17)else if m.data.length>60 then([],4)else if q.ak.length>=4 then([],15)else(l.set o.aG.toNat {q with ak:=q.ak++ [m]},0)
def J0(l:List Obj)(e:Int):CV:= .bG [lM l,cD e]
theorem jm{m:Mem}{a b:RV}{x:Int}(h:eh m a b):cw m (.bG [a,cD x]) (.bG [b,cD x]):=by
 refine .bG rfl fun i r r' h1 h2=>?_
 match i,h1,h2 with
 |0,h1,h2=>cases h1;cases h2;exact h
 |1,h1,h2=>cases h1;cases h2;exact eh.self rfl
theorem Zq{σ:Nat->Nat}{m:Mem}{Z:Nat->Prop}{a b:RV}{x:Int}(h:vZ σ m Z a b):pS σ m Z (.bG [a,cD x]) (.bG [b,cD x]):=by
 refine .bG rfl fun i r r' h1 h2=>?_
 match i,h1,h2 with
 |0,h1,h2=>cases h1;cases h2;exact h
 |1,h1,h2=>cases h1;cases h2;exact .one (.aP (.aa _))
theorem l67:bq Tryz.prog Tryz.f67=some c67:=by kernel_rfl
theorem rl(l:List Obj)(hf:kg l)(e:Int)(msg:bp)(Xa:msg.data.length<=4194304):body Tryz.prog c67 [cq l,an .i64 e,msg.cv] [] (fun r m=>∃r' m',View 0 ⟨[r],m⟩ ⟨[r'],m'⟩/\r'=J0 (eP l e msg).1 (eP l e msg).2/\m'=[]):=by
 have IJ:(((l.map Obj.enc).length:Nat):Int)=(l.length:Int):=aK;have bad:∀(x:Int),eP l e msg=([],x)->∃r' m',View 0 ⟨[CV.bG [.one .aB,cD x]],[.var (msg.enc.map .aa)]⟩ ⟨[r'],m'⟩/\r'=J0 (eP l e msg).1 (eP l e msg).2/\m'=[]:=by intro x hx;refine⟨_,_,View.o 1 [] [] (.put (Zq (b:=lM []) (.one (.eu (.aB 9)))) .nil) (.nil _),?_,rfl⟩;rw[hx];rfl
 refine aJ (fun h=>?_) (fun h1=>?_)
 .exact bad 8 (by rw[eP,if_pos (.inl h)])
 refine aJ (fun h=>?_) (fun h2=>?_)
 .exact bad 8 (by rw[eP,if_pos (.inr (by rw[<-IJ];exact h))])
 have h2:¬e>=(l.length:Int):=by rw[<-IJ];exact h2
 obtain⟨k,rfl⟩:∃k:Nat,e=k:=⟨e.toNat,om⟩;have hk:k<l.length:=om;have hi:=tq hk;have n9:eP l (k:Int) msg=if l[k].ah≠4 then(([],8):List Obj×Int)else if l[k].aG<0\/l[k].aG>=l.length then([],17)else match l[l[k].aG.toNat]? with
   |none=>([],17)
   |some q=>if q.ah≠4 then([],17)else if msg.data.length>60 then([],4)else if q.ak.length>=4 then([],15)else(l.set l[k].aG.toNat {q with ak:=q.ak++ [msg]},0):=by
  rw[eP,if_neg om,XO,hi]
 have hg:dg (l.map Obj.enc) (k:Nat)=some (l[k].enc):=by rw[bF,O6,hi];rfl
 generalize l[k]=o at n9 hg;obtain⟨ah,data,aj,target,aG,ak,aM,am,up⟩:=o;have hg:dg (l.map Obj.enc) (k:Nat)=some [.val (.int .i64 ah),.sl 1 data,.sl 2 aj,.val (.string target),.val (.int .i64 aG),.sl 4 (ak.map bp.enc),.val (.int .i64 aM),.val (.int .i64 am),.val (.int .i64 up)]:=hg;refine ag hg ?_;refine bu (fun h=>?_) (fun h3=>?_)
 .exact bad 8 (by rw[n9,if_pos h])
 have h3:ah=4:=h3;rw[if_neg (by simpa using h3)]at n9
 simp only at n9;refine ag hg ?_;refine aJ (fun h=>?_) (fun h4=>?_)
 .exact bad 17 (by rw[n9,if_pos (.inl h)])
 refine aJ (fun h=>?_) (fun h5=>?_)
 .exact bad 17 (by rw[n9,if_pos (.inr (by rw[<-IJ];exact h))])
 have h5:¬aG>=(l.length:Int):=by rw[<-IJ];exact h5
 have h4:¬aG<0:=h4;obtain⟨p,rfl⟩:∃p:Nat,aG=p:=⟨aG.toNat,om⟩;have hp:p<l.length:=om;have OP:=tq hp;rw[if_neg om,XO,OP]at n9;simp only at n9;have zP:dg (l.map Obj.enc) (p:Nat)=some (l[p].enc):=by rw[bF,O6,OP];rfl
 have Hc:=hf.2 _ (XP hp);generalize l[p]=q at n9 zP OP Hc;have zP:dg (l.map Obj.enc) (p:Nat)=some [.val (.int .i64 q.ah),.sl 1 q.data,.sl 2 q.aj,.val (.string q.target),.val (.int .i64 q.aG),.sl 4 (q.ak.map bp.enc),.val (.int .i64 q.aM),.val (.int .i64 q.am),.val (.int .i64 q.up)]:=zP;refine ag zP ?_;refine bu (fun h=>?_) (fun h6=>?_)
 .exact bad 17 (by rw[n9,if_pos h])
 rw[if_neg (by simpa using h6)]at n9
 refine aJ (fun h=>?_) (fun h7=>?_)
 .exact bad 4 (by rw[n9,if_pos (by have h:((msg.data.length:Nat):Int)>60:=h;omega)])
 rw[if_neg (by have h:¬((msg.data.length:Nat):Int)>60:=h7;omega)]at n9
 refine ag zP ?_;refine aJ (fun h=>?_) (fun h8=>?_)
 .exact bad 15 (by rw[n9,if_pos (by have h:(((q.ak.map bp.enc).length:Nat):Int)>=4:=h;rw[LW]at h;omega)])
 have h8:¬q.ak.length>=4:=by have h:¬(((q.ak.map bp.enc).length:Nat):Int)>=4:=h8;rw[LW]at h;omega
 rw[if_neg h8]at n9;refine uE l hf p ?_;rw[JZ OP];refine gv msg.data Xa ?_;have rm:dt (p:Int) (lenOf (dW p 2 0 l).length 0 none)=some p:=bP (by simp[lenOf,lK];omega)
 have mR:=AN (Q:=2) OP;refine ag rm ?_;refine ag mR ?_;refine⟨⟨ag mR rfl,ag rm rfl,trivial⟩,?_⟩;refine⟨?_,?_⟩
 .show((af (q.ak.map bp.enc)).length+1)*48<=_;simp[af];omega
 refine⟨trivial,?_⟩;refine ag rm ?_;refine ag mR ?_;refine⟨trivial,?_⟩;refine⟨J0 (l.set p {q with ak:=q.ak++ [msg]}) 0,[],View.o 5 [] [1,4] (.put (Zq (.one (.eu ?_))) .nil) (.nil _),?_,rfl⟩
 .refine FC (p:=p) (Q:=2) (l:=l) (q:={q with ak:=q.ak++ [msg]}) (c:= .row 4 4 0 none) rfl (by rw[<-aT];rfl) ?_
  refine dm.d6 (Z:=fun k=>bs [1,4] k=true) (ds:=(q.ak++ [msg]).map bp.enc) rfl ?_ 0 none
  rw[<-aT,aax,cG];rfl
 .rw[n9]
theorem MZ(l:List Obj)(hf:kg l)(e:Int)(msg:bp)(Xa:msg.data.length<=4194304){m:Mem}{K:CV->Mem->Prop}(h:K (J0 (eP l e msg).1 (eP l e msg).2) m):ar Tryz.prog 67 [cq l,an .i64 e,msg.cv] m K:=by
 refine aY (K0:=fun r m=>r=J0 (eP l e msg).1 (eP l e msg).2/\m=[]) (bK (aW Tryz.func67 l67 (rl l hf e msg Xa)) fun r m1⟨r',m',hv,hp⟩=>⟨r',m',hv,hp⟩) (by simp[cq,an,bp.cv,CV.c7,CC.c7,RV.c7]) fun r m1 hr=>?_
 obtain⟨rfl,rfl⟩:=hr;exact⟨_,cw.self rfl,h⟩
end Go.Proofs.YthagjdhjmamakaaGreatDoor
