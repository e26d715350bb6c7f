/- Part 17 of 39: what the law stands on. -/
import Derived.Test.YtodckkkbiidffaaGreatDoorT15
import Derived.Test.YtodckkkbiidffaaGreatDoorT16
import Derived.Sort.Grow
import Derived.Test.YtodckkkbiidffaaGreatDoorRows
set_option linter.unusedVariables false
set_option linter.unusedSimpArgs false
set_option linter.unnecessarySimpa false
set_option maxRecDepth 100000
set_option maxHeartbeats 64000000
namespace Go.AM
section
variable {P:Program} {ρ:bG} {m:Mem} {w:World}
theorem vn(w:World)(IA:Nat)(f:Array Value->Array Value){b:Nat}(h:b≠IA):(Sort.mapBlock w IA f).heap[b]? =w.heap[b]? :=by simp only[Sort.mapBlock,aaG];rw[if_neg (fun e=>h e.symm)]
theorem vo(w:World)(n IA off:Nat)(F:Array Value):jw w (Sort.putRow id (Sort.ahead w n) IA off F) IA:=
 ⟨fun b hb=>vn _ _ _ hb,by simp[Sort.putRow,Sort.mapBlock,Sort.ahead],rfl,rfl,rfl⟩
theorem B7{mk:Prop}{w:World}{IA off:Nat}{cur:Array Value}(F:Array Value)(n:Nat)(h:kQ mk w IA cur):kQ mk (Sort.putRow id (Sort.ahead w n) IA off F) IA (Sort.putCells id off F cur):=by
 obtain⟨ty,fr,hb,h1,h2,h3⟩:=h;refine⟨ty,fr,?_,h1,fun i hi=>h2 i (by simpa[Sort.putCells]using hi),by simpa[Sort.putCells]using h3⟩
 have aE:IA<w.heap.size:=(Z4.1 hb).1;have e:(Sort.ahead w n).heap[IA]? =some (.cells cur ty fr):=hb;simp only[Sort.putRow,Sort.mapBlock,aaG,if_true,e,Wn,Sort.onCells]
theorem FP(hM:aA ρ m w){id esz:Nat}{rows j9:List (List CC)}{F:Array Value}(hb:m[id]? =some (.row esz rows))(dd:0<rows.length)(hlen:j9.length=rows.length)(dn:∀cs,cs∈j9->cs.length=esz)(hF:F.size=rows.length*esz)(Lz:∀cs,cs∈j9->∀c,c∈cs->∃d,c= .aa d)(bY:∀(i:Nat)cs(j:Nat)c,j9[i]? =some cs->cs[j]? =some c->bq ρ w .none c F[i*esz+j]!)(n:Nat)(os:Array Obj):
  aA ρ (m.set id (.row esz j9)) (Sort.grow (Sort.putRow _root_.id (Sort.ahead w n) (ρ.aP (.ap id)).b (ρ.aP (.ap id)).au F) os)/\
  Ext ρ m w ρ (m.set id (.row esz j9)) (Sort.grow (Sort.putRow _root_.id (Sort.ahead w n) (ρ.aP (.ap id)).b (ρ.aP (.ap id)).au F) os):=by
 have hid:id<m.length:=(Gf.1 hb).1;obtain⟨h2,h3,h4,h5,yH⟩:=hM.bk id _ hb;have bl:0<(ρ.aP (.ap id)).cap:=om;obtain⟨cur,bS,h1,hd⟩:=yH bl;have hmul:rows.length*esz<=(ρ.aP (.ap id)).cap*esz:=aag _ om;have RZ:∀{i' j' u9 e},fg (m.set id (.row esz j9)) id i' j' u9 e->False:=by rintro i' j' u9 e ⟨es,Nf,HP,mL,d5,jm⟩;rw[Pr hid]at mL;cases mL;obtain⟨d,hd⟩:=Lz _ (NQ d5) _ (NQ jm);cases hd
 obtain⟨kJ,hX⟩:=hM.Ol (Bt:= .row esz j9) (w':=Sort.putRow _root_.id (Sort.ahead w n) (ρ.aP (.ap id)).b (ρ.aP (.ap id)).au F) hb ⟨_,hb,aI,fun _=>bl⟩ (vo w n _ _ F)
  (fun g=>⟨by rw[hlen];exact h2,h3,h4,dn,fun _=>⟨_,B7 F n bS,by simpa[Sort.putCells]using h1,fun i cs j c hi hj=>by
   have lG:j<esz:=by rw[<-dn cs (NQ hi)];exact(Gf.1 hj).1
   have Nb:i<rows.length:=by rw[<-hlen];exact(Gf.1 hi).1
   have o8:i*esz+j<rows.length*esz:=by have:(i+1)*esz<=rows.length*esz:=aag _ om;rw[aas,aaY]at this;omega
   have b8:=bY i cs j c hi hj;refine⟨F[i*esz+j]!,?_,(bq.cE g aI b8).ti _⟩;have hc:(ρ.aP (.ap id)).au+i*esz+j<cur.size:=om;simp only[Sort.putCells,Array.getElem?_mapIdx,aaO hc,Wn];rw[if_pos om];congr 2;show F[_]! =_;congr 1;omega⟩⟩)
  (fun i j e1 e2 h=>(RZ h).elim)
 have hW:dW (Sort.putRow _root_.id (Sort.ahead w n) (ρ.aP (.ap id)).b (ρ.aP (.ap id)).au F) (Sort.grow (Sort.putRow _root_.id (Sort.ahead w n) (ρ.aP (.ap id)).b (ρ.aP (.ap id)).au F) os):=
  ⟨fun b hb=>Sort.heap_grow_old _ os hb,by simp[Sort.grow],rfl,rfl,rfl⟩
 obtain⟨BX,mR⟩:=kJ.Ir hW;exact⟨BX,hX.trans mR⟩
end
end Go.AM
namespace Go.Proofs.YtodckkkbiidffaaGreatDoor
open Go.AM Go.ChangeShapes Go.WideShapes Go.ChangeAt Go.RowKit
def c97:LF:= ⟨8,[.tmp 2],(.seq (.ai [qu 2 (.aF qe)]) (.seq (.seq (.ai [qm 3 0,qu 4 (.u5 false 3)]) (.cond 4 (.seq (.ai [qu 2 (.aF qe)]) .ret) .skip)) (.seq (.ai [qu 5 (.l5 1 [(.aa (.val (.int .u8 (0))))] 0 []),qm 6 0,qu 7 (.mE 1 1 5 6),qm 2 7]) .ret)))⟩
def c128:LF:= ⟨8,[.tmp 2],(.seq (.ai [qu 2 (.aF qe)]) (.seq (.seq (.ai [qm 3 0,qu 4 (.u5 false 3)]) (.cond 4 (.seq (.ai [qu 2 (.aF qe)]) .ret) .skip)) (.seq (.ai [qu 5 (.l5 2 [(.aa (.val (.string ⟨#[]⟩))),(qd 0)] 0 []),qm 6 0,qu 7 (.mE 2 24 5 6),qm 2 7]) .ret)))⟩
theorem gk{n:Int}(h1: -9223372036854775808<=n)(h2:n<=9223372036854775807):IntKind.i64.wrap n=n:=IntWalk.i64_in n om
structure bo where
 data:List (List Dt)
 has:Bool
 eE:Int
 cn:Int
def bo.enc(m:bo):List Dt:=[.sl 1 m.data,.val (.bool m.has),.val (.int .i64 m.eE),.val (.int .i64 m.cn)]
structure Obj where
 ah:Int
 data:List (List Dt)
 aj:List (List Dt)
 target:ByteArray
 aC:Int
 ak:List bo
 aM:Int
 am:Int
 up:Int
def Obj.enc(o:Obj):List Dt:=[.val (.int .i64 o.ah),.sl 1 o.data,.sl 2 o.aj,.val (.string o.target),.val (.int .i64 o.aC),.sl 4 (o.ak.map bo.enc),.val (.int .i64 o.aM),.val (.int .i64 o.am),.val (.int .i64 o.up)]
def bo.cv(m:bo):CV:= .rv (.agg (m.enc.map .aa))
def Obj.cv(o:Obj):CV:= .rv (.agg (o.enc.map .aa))
def c7(l:List Obj):Dt:= .sl 9 (l.map Obj.enc)
def cq(l:List Obj):CV:= .rv (.one (.aa (c7 l)))
def Obj.mz(o:Obj):Prop:=o.data.length<=4194304/\o.aj.length<=4194304/\o.ak.length<=4194304/\∀q,q∈o.ak->q.data.length<=4194304
def jV(l:List Obj):Prop:=l.length<=4194304/\∀o,o∈l->o.mz
theorem l97:bs Tryz.prog Tryz.f97=some c97:=by kernel_rfl
theorem l128:bs Tryz.prog Tryz.f128=some c128:=by kernel_rfl
def pw(esz:Nat)(d:List (List Dt)):CV:= .rv (.one (.aa (.sl esz d)))
theorem zG(d:List (List Dt))(hb:d.length<=4194304):body Tryz.prog c97 [pw 1 d] [] (fun r m=>cw m r (pw 1 d)):=by
 have p0:((([]:List (List CC)).length+(d.map fun ds=>ds.map CC.aa).length)*1)<=140737488355328:=by simp;omega
 refine aD (fun h=>?_) (fun h=>?_)
 .have hd:d=[]:=Wg (by simpa using Wh h)
  subst hd;exact⟨.rv (.one (.aB 1)),p0,.rv (.one (dU.dX rfl 0 none))⟩
 .exact⟨p0,.rv (.one (dU.dX rfl 0 none))⟩
theorem gl(d:List (List Dt))(hb:d.length<=4194304){m:Mem}{K:CV->Mem->Prop}(h:K (pw 1 d) m):aq Tryz.prog 97 [pw 1 d] m K:=
 aY (aX Tryz.func97 l97 (zG d hb)) (by simp[pw,CV.c6,CC.c6]) fun r m1 hf=>⟨_,hf,h⟩
theorem zH(d:List (List Dt))(hb:d.length<=4194304):body Tryz.prog c128 [pw 2 d] [] (fun r m=>cw m r (pw 2 d)):=by
 have p0:((([]:List (List CC)).length+(d.map fun ds=>ds.map CC.aa).length)*24)<=140737488355328:=by simp;omega
 refine aD (fun h=>?_) (fun h=>?_)
 .have hd:d=[]:=Wg (by simpa using Wh h)
  subst hd;exact⟨.rv (.one (.aB 2)),p0,.rv (.one (dU.dX rfl 0 none))⟩
 .exact⟨p0,.rv (.one (dU.dX rfl 0 none))⟩
theorem qC(d:List (List Dt))(hb:d.length<=4194304){m:Mem}{K:CV->Mem->Prop}(h:K (pw 2 d) m):aq Tryz.prog 128 [pw 2 d] m K:=
 aY (aX Tryz.func128 l128 (zH d hb)) (by simp[pw,CV.c6,CC.c6]) fun r m1 hf=>⟨_,hf,h⟩
def px(p Q k:Nat)(o:Obj):List CC:=[.aa (.val (.int .i64 o.ah)),.aa (.sl 1 o.data),.aa (.sl 2 o.aj),.aa (.val (.string o.target)),.aa (.val (.int .i64 o.aC)),
 (if k=p then .row Q 4 0 none else .aa (.sl 4 (o.ak.map bo.enc))),.aa (.val (.int .i64 o.aM)),.aa (.val (.int .i64 o.am)),.aa (.val (.int .i64 o.up))]
def dQ(p Q:Nat):Nat->List Obj->List (List CC)
 |_,[]=>[]
 |k,o::r=>px p Q k o::dQ p Q (k+1) r
theorem py(p Q:Nat):∀(a:List Obj)(k:Nat)(b:List Obj),dQ p Q k (a++b)=dQ p Q k a++dQ p Q (k+a.length) b
 | [],k,b=>rfl
 |o::r,k,b=>by simp[dQ,py p Q r (k+1) b,aao,Nat.add_comm 1]
theorem lg(p Q:Nat):∀(l:List Obj)(k:Nat),(dQ p Q k l).length=l.length
 | [],_=>rfl
 |o::r,k=>by simp[dQ,lg p Q r (k+1)]
theorem ou(p Q:Nat):∀(l:List Obj)(k:Nat),(p<k\/k+l.length<=p)->dQ p Q k l=af (l.map Obj.enc)
 | [],_,_=>rfl
 |o::r,k,h=>by simp only[Wo]at h;have hk:¬k=p:=om;simp only[dQ,px,if_neg hk,ou p Q r (k+1) om];rfl
theorem qD(p Q:Nat):∀(l:List Obj)(k i:Nat),(dQ p Q k l)[i]? =(l[i]?).map (px p Q (k+i))
 | [],k,i=>by simp[dQ]
 |o::r,k,0=>by simp[dQ]
 |o::r,k,i+1=>by
  simp only[dQ,aaU,qD p Q r (k+1) i];rw[show k+1+i=k+(i+1) by omega]
theorem IB{σ:Nat->Nat}{p Q k:Nat}(o:Obj):(px p Q k o).map (CC.aQ σ)=px p (σ Q) k o:=by
 by_cases h:k=p<;>simp[px,h,CC.aQ]
theorem jp{σ:Nat->Nat}(p Q:Nat):∀(l:List Obj)(k:Nat),(dQ p Q k l).map (fun cs=>cs.map (CC.aQ σ))=dQ p (σ Q) k l
 | [],_=>rfl
 |o::r,k=>by simp only[dQ,aar,jp p Q r (k+1)];rw[IB]
def c98:LF:= ⟨47,[.tmp 2],(.seq (.ai [qu 2 (.aF qe)]) (.seq (.ai [qu 3 (.aF qe)]) (.seq (.seq (.ai [qm 9 0,qu 10 (.len 1 9),qu 11 (.aF (qi 0))]) (.block 0 (.loop (.seq (.ai [qu 12 (.aH .lss 11 10)]) (.seq (.cond 12 .skip (.exit 0)) (.seq (.block 1 (.seq (.ai [qu 13 (.cr 9 9 11),qL 14 9 13,qu 5 (.alloc [(qd 0),.aB,.aB,(.aa (.val (.string ⟨#[]⟩))),(qd 0),.aB,(qd 0),(qd 0),(qd 0)]),qw (.store 9 5 14)]) (.seq (.bU [qf 15 1 5,ql 16 15,qu 17 (qc 97 [16]),qf 18 2 5,ql 19 18,qu 20 (qc 128 [19]),qf 21 1 5,qw (.store 1 21 17),qf 22 2 5,qw (.store 1 22 20)] [(.cons 0 none (.cons 1 none (.cons 3 none (.cons 4 none (.cons 2 (some [4]) (.cons 6 none (.cons 5 (some []) (.cons 7 (some []) (.cons 8 none (.cons 9 (some []) .nil))))))))))]) (.seq (.ai [qu 6 (.aF qe)]) (.seq (.seq (.ai [qf 23 5 5,ql 24 23,qu 25 (.len 1 24),qu 26 (.aF (qi 0))]) (.block 2 (.loop (.seq (.ai [qu 27 (.aH .lss 26 25)]) (.seq (.cond 27 .skip (.exit 2)) (.seq (.block 3 (.seq (.ai [qu 28 (.cr 4 24 26),qL 29 4 28,qu 8 (.alloc [.aB,(.aa (.val (.bool false))),(qd 0),(qd 0)]),qw (.store 4 8 29)]) (.seq (.ai [qf 30 0 8,ql 31 30,qu 32 (qc 97 [31]),qf 33 0 8,qw (.store 1 33 32)]) (.ai [qm 34 6,qL 35 4 8,qu 36 (.l5 4 [.aB,(.aa (.val (.bool false))),(qd 0),(qd 0)] 1 [(0,35)]),qu 37 (.mE 4 48 34 36),qm 6 37])))) (.ai [qu 38 (.aH .add 26 (qi 1)),qm 26 38]))))))) (.seq (.ai [qm 39 6,qf 40 5 5,qw (.store 1 40 39)]) (.ai [qm 41 3,qL 42 9 5,qu 43 (.l5 9 [(qd 0),.aB,.aB,(.aa (.val (.string ⟨#[]⟩))),(qd 0),.aB,(qd 0),(qd 0),(qd 0)] 1 [(0,42)]),qu 44 (.mE 9 128 41 43),qm 3 44]))))))) (.ai [qu 45 (.aH .add 11 (qi 1)),qm 11 45]))))))) (.seq (.ai [qm 46 3,qm 2 46]) .ret))))⟩
def VF(l:List Obj)(p:Nat):List bo:=match l[p]? with|some o=>o.ak|none=>[]
def xG(l:List Obj)(p k:Nat):Bk:=match Nat.blt p k with|true=>.row 4 (af ((VF l p).map bo.enc))|false=>.aO
theorem sL{σ:Nat->Nat}(l:List Obj)(p k:Nat):(xG l p k).aQ σ=xG l p k:=by
 unfold xG;split
 .exact Bk.jn _ _
 .rfl
theorem rV{α:Type}{l:List α}{i:Nat}{s:α}(h:l[i]? =some s):l.take (i+1)=l.take i++ [s]:=by rw[aaM,h];rfl
theorem cN(a b:List (List Dt)):af (a++b)=af a++af b:=by simp[af]
theorem tP{p Q:Nat}{l:List Obj}{k:Nat}{o:Obj}(h:l[k]? =some o):dQ p Q 0 (l.take (k+1))=dQ p Q 0 (l.take k)++ [px p Q k o]:=by have hk:=(Gf.1 h).1;rw[rV h,py,Z3,abU om,aai];rfl
theorem l98:bs Tryz.prog Tryz.f98=some c98:=by kernel_rfl
theorem IC(l:List Obj)(hf:jV l)(p:Nat):body Tryz.prog c98 [cq l] [] (fun r m=>r= .rv (.one (.row 0 9 0 none))/\m=[.row 9 (dQ p 1 0 l),xG l p l.length]):=by
 obtain⟨hl,P6⟩:=hf;refine ba (fun k=>k<=l.length) [0,9,10] (fun k=>[(11,an .i64 (k:Nat)),(3,.rv (.one (.row 0 9 0 none)))]) (fun k=>[.row 9 (dQ p 1 0 (l.take k)),xG l p k]) (fun k=>l.length-k) 0 (Wi _) ?_ (fun k hk=>?_)
 .refine View.trans (View.aB 2 4 0 rfl rfl rfl) (View.trans (View.aB 3 9 1 rfl rfl rfl) (View.o1 2 [1,0] [] ?_))
  .exact .put (by simp[bz]) rfl (.eq rfl aI) (.aO (.nil _))
 .refine aJ (fun h=>?_) (fun h=>?_)
  .have aE:k<l.length:=by have h:(k:Int)<((l.map Obj.enc).length:Int):=h;rw[KB]at h;omega
   have hi:=sA aE;have KV:=P6 _ (Wl aE);have hg:dg (l.map Obj.enc) (k:Nat)=some (l[k].enc):=by rw[bI,NO,sA aE];rfl
   generalize l[k]=o at hi KV hg;obtain⟨ah,data,aj,target,aC,ak,aM,am,up⟩:=o;obtain⟨ID,Hm,Nu,Hn⟩:=KV;have ID:data.length<=4194304:=ID;have Hm:aj.length<=4194304:=Hm;have Nu:ak.length<=4194304:=Nu;have Hn:∀q,q∈ak->q.data.length<=4194304:=Hn;have hg:dg (l.map Obj.enc) (k:Nat)=some [.val (.int .i64 ah),.sl 1 data,.sl 2 aj,.val (.string target),.val (.int .i64 aC),.sl 4 (ak.map bo.enc),.val (.int .i64 aM),.val (.int .i64 am),.val (.int .i64 up)]:=hg;refine ag hg ?_;refine gl data ID ?_;refine⟨⟨rfl,trivial⟩,?_⟩;refine qC aj Hm ?_;refine⟨trivial,?_⟩;refine⟨trivial,?_⟩;refine⟨trivial,?_⟩;refine ba (fun j=>j<=ak.length) [0,3,5,9,10,11,24,25] (fun j=>[(26,an .i64 (j:Nat)),(6,.rv (.one (.row 3 4 0 none)))])
    (fun j=>[.row 9 (dQ p 1 0 (l.take k)),xG l p k,.var ((⟨ah,data,aj,target,aC,ak,aM,am,up⟩:Obj).enc.map .aa),.row 4 (af ((ak.take j).map bo.enc))]) (fun j=>ak.length-j) 0 (Wi _) ?_ (fun j hj=>?_)
   .refine View.trans (View.aB 6 4 3 rfl rfl rfl) (View.o1 4 [0,1,2,3] [] ?_)
    .exact .pt rfl rfl (.eq (congrArg (Bk.row 9) (jp p 1 _ _)) aI) (.wh (ez rfl) rfl (sL l p k) (.pe rfl rfl rfl (.pn rfl rfl rfl)))
   .have hj:j<=ak.length:=hj;refine aJ (fun h=>?_) (fun h=>?_)
    .have dL:j<ak.length:=by have h:(j:Int)<((ak.map bo.enc).length:Int):=h;rw[KB]at h;omega
     have vl:=sA dL;have FQ:=Hn _ (Wl dL);generalize ak[j]=q at vl FQ;obtain⟨qd,qh,qo,qr⟩:=q;have yR:dg (ak.map bo.enc) (j:Nat)=some [.sl 1 qd,.val (.bool qh),.val (.int .i64 qo),.val (.int .i64 qr)]:=by rw[bI,NO,vl];rfl
     refine ag yR ?_;refine gl qd FQ ?_;refine⟨?_,?_⟩
     .show((af ((ak.take j).map bo.enc)).length+1)*48<=_;simp[af];omega
     refine⟨j+1,dL,(show ak.length-(j+1)<ak.length-j by omega),View.o 7 [0,1,2,6] [] ?_ ?_⟩
     .repeat(first|exact .nil|refine .ar ?_|refine .put (.aQ (aL om).symm) ?_|refine .eq rfl ?_)
     .refine .pt rfl rfl (.eq (congrArg (Bk.row 9) (jp p 1 _ _)) aI) (.wh (ez rfl) rfl (sL l p k) (.pe rfl rfl rfl (.pt rfl rfl (.bP ?_) (.nil _))));rw[rV vl,aav,cN];rfl
    .have eu:¬(j:Int)<((ak.map bo.enc).length:Int):=h;rw[KB]at eu;have hq:ak.take j=ak:=aaR om;refine⟨?_,?_⟩
     .show((dQ p 1 0 (l.take k)).length+1)*128<=_;rw[lg];simp;omega
     by_cases Ox:k=p
     .subst Ox;have hR:∀Q,dQ k Q 0 (l.take k)=af ((l.take k).map Obj.enc):=fun Q=>ou k Q _ 0 (.inr (by simp;omega))
      have OS:xG l k (k+1)= .row 4 (af ((ak.take j).map bo.enc)):=by
       have:Nat.blt k (k+1)=true:=by rw[aaQ];omega
       simp only[xG,this,VF,hi,hq]
      refine⟨k+1,aE,(show l.length-(k+1)<l.length-k by omega),View.o 6 [5,3] [] ?_ ?_⟩
      .repeat(first|exact .nil|refine .ar ?_|refine .put (.aQ (aL om).symm) ?_|refine .eq rfl ?_)
      .rw[tP hi,OS];refine .pt rfl rfl (.B6 ?_ rfl ?_) (.pn rfl rfl rfl)
       .rw[jp,hR,hR];rfl
       .intro j c c' h1 h2;have e5:px k 1 k ⟨ah,data,aj,target,aC,ak,aM,am,up⟩=[.aa (.val (.int .i64 ah)),.aa (.sl 1 data),.aa (.sl 2 aj),.aa (.val (.string target)),.aa (.val (.int .i64 aC)),.row 1 4 0 none,.aa (.val (.int .i64 aM)),.aa (.val (.int .i64 am)),.aa (.val (.int .i64 up))]:=by simp[px]
        rw[e5]at h2
        match j,h1,h2 with
        |0,h1,h2=>cases h1;cases h2;exact .aQ (.aa _)
        |1,h1,h2=>cases h1;cases h2;exact .aQ (.aa _)
        |2,h1,h2=>cases h1;cases h2;exact .aQ (.aa _)
        |3,h1,h2=>cases h1;cases h2;exact .aQ (.aa _)
        |4,h1,h2=>cases h1;cases h2;exact .aQ (.aa _)
        |5,h1,h2=>cases h1;cases h2;exact .aQ (.row 1 4 0 none)
        |6,h1,h2=>cases h1;cases h2;exact .aQ (.aa _)
        |7,h1,h2=>cases h1;cases h2;exact .aQ (.aa _)
        |8,h1,h2=>cases h1;cases h2;exact .aQ (.aa _)
        |n+9,h1,h2=>simp at h1
     .have OS:xG l p (k+1)=xG l p k:=by
       have:Nat.blt p (k+1)=Nat.blt p k:=by rw[acd,aaQ,aaQ];omega
       simp only[xG,this]
      refine⟨k+1,aE,(show l.length-(k+1)<l.length-k by omega),View.o 6 [5,1] [3] ?_ ?_⟩
      .repeat(first|exact .nil|refine .ar ?_|refine .put (.aQ (aL om).symm) ?_|refine .eq rfl ?_)
      .rw[tP hi,OS];refine .pt rfl rfl (.B6 (jp p 1 _ _) rfl ?_) (.wh (ez rfl) rfl (sL l p k) (.nil _));intro j' c c' h1 h2;have e5:px p 1 k ⟨ah,data,aj,target,aC,ak,aM,am,up⟩=[.aa (.val (.int .i64 ah)),.aa (.sl 1 data),.aa (.sl 2 aj),.aa (.val (.string target)),.aa (.val (.int .i64 aC)),.aa (.sl 4 ((ak.take j).map bo.enc)),.aa (.val (.int .i64 aM)),.aa (.val (.int .i64 am)),.aa (.val (.int .i64 up))]:=by simp[px,Ox,hq]
       rw[e5]at h2
       match j',h1,h2 with
       |0,h1,h2=>cases h1;cases h2;exact .aQ (.aa _)
       |1,h1,h2=>cases h1;cases h2;exact .aQ (.aa _)
       |2,h1,h2=>cases h1;cases h2;exact .aQ (.aa _)
       |3,h1,h2=>cases h1;cases h2;exact .aQ (.aa _)
       |4,h1,h2=>cases h1;cases h2;exact .aQ (.aa _)
       |5,h1,h2=>cases h1;cases h2;exact .eZ (dj.dX (Z:=fun k=>bz [3] k=true) rfl (by rw[<-aU];rfl) 0 none)
       |6,h1,h2=>cases h1;cases h2;exact .aQ (.aa _)
       |7,h1,h2=>cases h1;cases h2;exact .aQ (.aa _)
       |8,h1,h2=>cases h1;cases h2;exact .aQ (.aa _)
       |n+9,h1,h2=>simp at h1
  .have eu:¬(k:Int)<((l.map Obj.enc).length:Int):=h;rw[KB]at eu;have fj:k=l.length:=by have:k<=l.length:=hk;omega
   subst fj;rw[aal];exact⟨rfl,rfl⟩
theorem tQ(l:List Obj)(hf:jV l)(p:Nat){m:Mem}{K:CV->Mem->Prop}(h:K (.rv (.one (.row m.length 9 0 none))) (m++ [.row 9 (dQ p (m.length+1) 0 l),xG l p l.length])):aq Tryz.prog 98 [cq l] m K:=by
 refine bw [] m.length rfl rfl rfl rfl rfl (fun i b' hi=>by simp at hi) (aX Tryz.func98 l98 (IC l hf p)) (fun r m1 hr=>?_)
 obtain⟨h1,h2⟩:=hr;subst h1;subst h2;refine⟨Wi _,?_⟩;show K (.rv (.one (.row (m.length+(0-0)) 9 0 none))) (gL m [.row 9 ((dQ p 1 0 l).map (fun cs=>cs.map (CC.aQ (sg [] m.length)))),(xG l p l.length).aQ (sg [] m.length)])
 rw[jp,sL,cf];exact h
def c111:LF:= ⟨34,[.tmp 4,.tmp 5,.tmp 6],(.seq (.ai [qu 3 (.box 1),qu 4 (.aF qe),qu 5 (.aF (qi 0)),qu 6 (.aF (qi 0))]) (.seq (.ai [qm 9 0,qu 10 (qc 121 [9,(.c (.rv (.one (.fn 138 []))))]),qm 7 10]) (.seq (.seq (.ai [qm 11 7,qu 12 (.aH .lss 11 (qi 0))]) (.cond 12 (.seq (.seq (.ai [qm 13 0,qu 14 (.len 1 13),qu 15 (.aH .geq 14 (qi 40))]) (.cond 15 (.seq (.ai [qu 4 (.aF qe),qu 5 (.aF (qi 0)),qu 6 (.aF (qi 15))]) .ret) .skip)) (.ai [qm 16 0,qu 17 (.len 1 16),qm 7 17])) .skip)) (.seq (.ai [qm 18 0,qu 19 (qc 98 [18]),qm 8 19]) (.seq (.seq (.ai [qm 20 7,qm 21 8,qu 22 (.len 1 21),qu 23 (.aH .eql 20 22)]) (.cond 23 (.ai [qm 24 8,qu 25 (.build [(qd 0),.aB,.aB,(.aa (.val (.string ⟨#[]⟩))),(qd 0),.aB,(qd 0),(qd 0),(qd 0)] []),qu 26 (.l5 9 [(qd 0),.aB,.aB,(.aa (.val (.string ⟨#[]⟩))),(qd 0),.aB,(qd 0),(qd 0),(qd 0)] 1 [(0,25)]),qu 27 (.mE 9 128 24 26),qm 8 27]) .skip)) (.seq (.ai [qm 28 8,qm 29 7,qL 30 9 3,qu 31 (.cr 9 28 29),qw (.store 9 31 30)]) (.seq (.ai [qm 32 8,qm 33 7,qm 4 32,qm 5 33,qu 6 (.aF (qi 0))]) .ret)))))))⟩
def c121:LF:= ⟨19,[.tmp 4],(.seq (.ai [qu 4 (.aF (qi 0))]) (.seq (.seq (.ai [qm 6 0,qu 7 (.len 1 6),qu 8 (.aF (qi 0))]) (.block 0 (.loop (.seq (.ai [qu 9 (.aH .lss 8 7)]) (.seq (.cond 9 .skip (.exit 0)) (.seq (.block 1 (.seq (.ai [qm 10 8,qm 5 10]) (.seq (.ai [qm 11 1,qm 12 0,qm 13 5,qu 14 (.cr 9 12 13),qL 15 9 14,qu 16 (.call 11 [15])]) (.cond 16 (.seq (.ai [qm 17 5,qm 4 17]) .ret) .skip)))) (.ai [qu 18 (.aH .add 8 (qi 1)),qm 8 18]))))))) (.seq (.ai [qu 4 (.aF (qi (-1)))]) .ret)))⟩
def c138:LF:= ⟨6,[.tmp 2],(.seq (.ai [qu 1 (.box 0),qu 2 (.aF (qb false))]) (.seq (.ai [qf 3 0 1,ql 4 3,qu 5 (.aH .eql 4 (qi 0)),qm 2 5]) .ret))⟩
def mA{α:Type}(q:α->Bool)(l:List α):Int:=match l.findIdx? q with|some k=>(k:Int)|none=>-1
theorem jB{α:Type}{q:α->Bool}{l:List α}{k:Nat}(h:k<l.length)(hq:q l[k]=true)(hb:∀(j:Nat)s,j<k->l[j]? =some s->q s=false):mA q l=k:=by
 have:l.findIdx? q=some k:=by rw[aam];exact⟨h,hq,fun j hj=>by simpa using hb j _ hj (sA om)⟩
 rw[mA,this]
theorem lh{α:Type}{q:α->Bool}{l:List α}(hb:∀(j:Nat)s,l[j]? =some s->q s=false):mA q l= -1:=by
 have:l.findIdx? q=none:=by rw[abl];intro s hs;obtain⟨i,hi⟩:=Un hs;simpa using hb i s hi
 rw[mA,this]
theorem pz{α:Type}(q:α->Bool)(l:List α):decide (mA q l>=0)=l.any q:=by
 unfold mA;cases h:l.findIdx? q with
 |none=>
  rw[abl]at h;have:l.any q=false:=by simpa using h
  rw[this];rfl
 |some k=>
  obtain⟨h1,h2,_⟩:=aam.1 h;have:l.any q=true:=aaB.2 ⟨_,Wl h1,h2⟩;rw[this];exact decide_eq_true aI
theorem l111:bs Tryz.prog Tryz.f111=some c111:=by kernel_rfl
theorem l121:bs Tryz.prog Tryz.f121=some c121:=by kernel_rfl
theorem l138:bs Tryz.prog Tryz.f138=some c138:=by kernel_rfl
theorem xH(l:List Obj)(hb:l.length<=4194304)(F:Nat)(q:Obj->Bool)(hF:∀s,s∈l->∀K:CV->Mem->Prop,K (ay (q s)) []->aq Tryz.prog F [s.cv] [] K):body Tryz.prog c121 [cq l,(.rv (.one (.fn F [])))] [] (fun r m=>r=an .i64 (mA q l)):=by
 refine ba (fun k=>k<=l.length/\∀(j:Nat)s,j<k->l[j]? =some s->q s=false) [0,1,7] (fun k=>[(8,an .i64 (k:Nat))]) (fun _=>[]) (fun k=>l.length-k) 0 ⟨Wi _,fun j s h=>absurd h (aah j)⟩ ?_ (fun k hk=>?_)
 .refine View.o1 0 [] [] ?_
  .exact .nil _
 .refine aJ (fun h=>?_) (fun h=>?_)
  .have aE:k<l.length:=by have h:(k:Int)<((l.map Obj.enc).length:Int):=h;rw[KB]at h;omega
   have hg:dg (l.map Obj.enc) (k:Nat)=some (l[k].enc):=by rw[bI,NO,sA aE];rfl
   refine ag hg ?_;refine hF l[k] (Wl aE) _ ?_;refine aD (fun h=>?_) (fun h=>?_)
   .rw[jB aE h hk.2];exact rfl
   .refine⟨k+1,⟨aE,fun j s hj hs=>?_⟩,(show l.length-(k+1)<l.length-k by omega),View.o 0 [] [] ?_ ?_⟩
    .rcases Wj j k with h5|h5
     .exact hk.2 j s h5 hs
     .have:j=k:=om;subst this;rw[sA aE]at hs;cases hs;exact h
    .repeat(first|exact .nil|refine .ar ?_|refine .put (.aQ (aL om).symm) ?_|refine .eq rfl ?_)
    .exact .nil _
  .have eu:¬(k:Int)<((l.map Obj.enc).length:Int):=h;rw[KB]at eu;rw[lh fun j s hs=>hk.2 j s (by have:=(Gf.1 hs).1;omega) hs]
   exact rfl
theorem B8(l:List Obj)(hb:l.length<=4194304)(F:Nat)(q:Obj->Bool)(hF:∀s,s∈l->∀K:CV->Mem->Prop,K (ay (q s)) []->aq Tryz.prog F [s.cv] [] K){m:Mem}{K:CV->Mem->Prop}(h:K (an .i64 (mA q l)) m):aq Tryz.prog 121 [cq l,.rv (.one (.fn F []))] m K:=
 bu Tryz.func121 l121 rfl (V5 rfl) (xH l hb F q hF) rfl rfl h
theorem OT(s:Obj)(K:CV->Mem->Prop)(h:K (ay (s.ah==0)) []):aq Tryz.prog 138 [s.cv] [] K:=
 bu Tryz.func138 l138 rfl (V5 rfl) (show body Tryz.prog c138 [s.cv] [] (fun r m=>r=ay (s.ah==0))from rfl) rfl rfl h
theorem Eg(l:List Obj)(hf:jV l){m:Mem}{K:CV->Mem->Prop}(h:K (.rv (.one (.row m.length 9 0 none))) (m++ [.row 9 (af (l.map Obj.enc)),.aO])):aq Tryz.prog 98 [cq l] m K:=by
 refine tQ l hf l.length ?_;have h1:xG l l.length l.length= .aO:=by
  have:Nat.blt l.length l.length=false:=by
   cases hb:Nat.blt l.length l.length with
   |false=>rfl
   |true=>rw[aaQ]at hb;omega
  simp only[xG,this]
 rw[ou _ _ _ _ (.inr om),h1];exact h
def cC(n:Int):RV:= .one (.aa (.val (.int .i64 n)))
def aG(l:List Obj)(o:Obj):List Obj×Int×Int:=
 match l.findIdx? (fun x=>x.ah==0)with
 |some k=>(l.set k o,k,0)
 |none=>if l.length>=40 then([],0,15)else(l++ [o],l.length,0)
def Nv(l:List Obj)(o:Obj)(r:CV)(m:Mem):Prop:=
 ((aG l o).2.2=15/\r= .bF [.one .aB,cC (aG l o).2.1,cC (aG l o).2.2]/\m=[])\/
 ((aG l o).2.2=0/\r= .bF [.one (.row 0 9 0 none),cC (aG l o).2.1,cC (aG l o).2.2]/\m=[.row 9 (af ((aG l o).1.map Obj.enc))])
theorem wi(l:List Obj)(k:Nat)(o:Obj):(af (l.map Obj.enc)).set k (o.enc.map .aa)=af ((l.set k o).map Obj.enc):=by simp[af,aay]
theorem wj(l:List Obj){k:Nat}(h:k<l.length):cR (af (l.map Obj.enc)) k=some (l[k].enc.map .aa):=by rw[aU];simp[af,h]
theorem FS(l:List Obj)(hf:jV l)(o:Obj):body Tryz.prog c111 [cq l,o.cv] [] (fun r m=>∃r' m',View 0 ⟨[r],m⟩ ⟨[r'],m'⟩/\Nv l o r' m'):=by
 have hl:=hf.1;refine B8 l hl 138 (fun x=>x.ah==0) (fun s _ K hs=>OT s K hs) ?_
 have hlen:(af (l.map Obj.enc)).length=l.length:=by simp[af]
 cases hk:l.findIdx? (fun x=>x.ah==0)with
 |some k=>
  have hi:mA (fun x:Obj=>x.ah==0) l=(k:Int):=by rw[mA,hk]
  have fj:k<l.length:=(aam.1 hk).1;have hm:aG l o=(l.set k o,(k:Int),0):=by rw[aG,hk]
  rw[hi];refine Eg l hf ?_;refine tJ (by simp[hlen,lenOf];omega) ?_
  refine ag (bZ (k:=k) (by simp[hlen,lenOf];omega)) ?_
  refine ag (x:=l[k].enc.map .aa) (by simpa[gu]using wj l fj) ?_
  refine⟨.bF [.one (.row 0 9 0 none),cC k,cC 0],[.row 9 (af ((l.set k o).map Obj.enc))],View.o 3 [1] [] ?_ ?_,.inr ?_⟩
  .exact .eq rfl .nil
  .refine .pt rfl rfl (.bP ?_) (.nil _);rw[<-wi];simp[bg,gu,Obj.enc]
  .rw[hm];exact⟨rfl,rfl,rfl⟩
 |none=>
  have hi:mA (fun x:Obj=>x.ah==0) l= -1:=by rw[mA,hk]
  rw[hi];refine aJ (fun h=>?_) (fun h=>?_)
  .have h:l.length>=40:=by have h:(((l.map Obj.enc).length:Nat):Int)>=40:=h;rw[KB]at h;omega
   have hm:aG l o=([],0,15):=by rw[aG,hk];simp only;rw[if_pos h]
   refine⟨.bF [.one .aB,cC 0,cC 15],[],View.o 1 [] [] ?_ (.nil _),.inl ?_⟩
   .exact .eq rfl .nil
   .rw[hm];exact⟨rfl,rfl,rfl⟩
  .have h:¬l.length>=40:=by have h:¬(((l.map Obj.enc).length:Nat):Int)>=40:=h;rw[KB]at h;omega
   have hm:aG l o=(l++ [o],(l.length:Int),0):=by rw[aG,hk];simp only;rw[if_neg h]
   refine Eg l hf ?_;refine cj (by simp[hlen,lenOf]) ?_
   refine⟨by simp[hlen,cu];omega,?_⟩
   have Ho:(l.map Obj.enc).length=l.length:=aI;refine ag (bZ (k:=(l.map Obj.enc).length) (by simp[hlen,lenOf,cu])) ?_
   refine ag (x:=[.aa (.val (.int .i64 0)),.aB,.aB,.aa (.val (.string ⟨#[]⟩)),.aa (.val (.int .i64 0)),.aB,.aa (.val (.int .i64 0)),.aa (.val (.int .i64 0)),.aa (.val (.int .i64 0))]) (by simp[aU,hlen,cu,gu]) ?_
   refine⟨.bF [.one (.row 0 9 0 none),cC (((l.map Obj.enc).length:Nat):Int),cC 0],[.row 9 (af ((l++ [o]).map Obj.enc))],View.o 5 [4] [] ?_ ?_,.inr ?_⟩
   .exact .eq rfl .nil
   .refine .pt rfl rfl (.bP ?_) (.nil _);rw[aav,cN];simp only[bg,gu,cu];rw[Ho,<-hlen];rw[abR _ _ (Pq _),abB];rfl
   .rw[hm];refine⟨rfl,?_,rfl⟩;rw[Ho]
theorem wm(l:List Obj)(hf:jV l)(o:Obj):aq Tryz.prog 111 [cq l,o.cv] [] (Nv l o):=
 bK (aX Tryz.func111 l111 (FS l hf o)) fun r m1⟨r',m',hv,hp⟩=>⟨r',m',hv,hp⟩
def li(l:List Obj):RV:= .one (.aa (c7 l))
theorem kK{m:Mem}{a b c d:RV}{x:Int}(h:d8 m a b)(hc:d8 m c d):cw m (.bF [a,c,cC x]) (.bF [b,d,cC x]):=by
 refine .bF rfl fun i r r' h1 h2=>?_
 match i,h1,h2 with
 |0,h1,h2=>cases h1;cases h2;exact h
 |1,h1,h2=>cases h1;cases h2;exact hc
 |2,h1,h2=>cases h1;cases h2;exact d8.self rfl
theorem xI(l:List Obj)(hf:jV l)(o:Obj){m:Mem}{K:CV->Mem->Prop}(h:K (.bF [li (aG l o).1,cC (aG l o).2.1,cC (aG l o).2.2]) m):aq Tryz.prog 111 [cq l,o.cv] m K:=by
 refine aY (wm l hf o) (by simp[cq,Obj.cv,CV.c6,CC.c6,RV.c6]) fun r m1 hp=>?_
 rcases hp with⟨h1,rfl,rfl⟩|⟨h1,rfl,rfl⟩
 .have h2:(aG l o).1=[]:=by
   unfold aG at h1⊢;split at h1
   .simp at h1
   .split at h1
    .rename_i hc;rw[if_pos hc]
    .simp at h1
  refine⟨_,kK (.one (.aB 9)) (d8.self rfl),?_⟩;rw[h2]at h;exact h
 .refine⟨_,kK (.one (dU.dX rfl 0 none)) (d8.self rfl),?_⟩;exact h
theorem IE(l:List Obj)(hf:jV l)(o:Obj){m:Mem}{K:CV->Mem->Prop}(h1:(aG l o).2.2=15->K (.bF [.one .aB,cC (aG l o).2.1,cC (aG l o).2.2]) m)(h2:(aG l o).2.2=0->K (.bF [.one (.row m.length 9 0 none),cC (aG l o).2.1,cC (aG l o).2.2]) (m++ [.row 9 (af ((aG l o).1.map Obj.enc))])):aq Tryz.prog 111 [cq l,o.cv] m K:=by
 refine bw [] m.length rfl rfl rfl rfl rfl (fun i b' hi=>by simp at hi) (wm l hf o) (fun r m1 hp=>⟨Wi _,?_⟩)
 rcases hp with⟨e1,rfl,rfl⟩|⟨e1,rfl,rfl⟩
 .have:=h1 e1;show K _ (gL m []);rw[cf,abi];exact this
 .have:=h2 e1;show K _ (gL m [Bk.aQ _ _]);rw[cf,Bk.jn];exact this
def c71:LF:= ⟨41,[.tmp 2,.cell true 2 3,.tmp 4],(.seq (.ai [qu 2 (.aF qe),qu 3 (.alloc [(qd 0),(qd 0)]),qu 4 (.aF (qi 0))]) (.seq (.ai [qm 10 0,qu 11 (.build [(qd 0),.aB,.aB,(.aa (.val (.string ⟨#[]⟩))),(qd 0),.aB,(qd 0),(qd 0),(qd 0)] [(0,1,(qi 4)),(4,1,(qi (-1))),(6,1,(qi (-1)))]),qu 12 (qc 111 [10,11]),qm 9 12,qu 13 (.ext 9 0),qu 14 (.ext 9 1),qu 15 (.ext 9 2),qm 5 13,qm 6 14,qm 7 15]) (.seq (.seq (.ai [qm 16 7,qu 17 (.aH .neq 16 (qi 0))]) (.cond 17 (.seq (.ai [qu 18 (.build [(qd 0),(qd 0)] []),qm 19 7,qu 2 (.aF qe),qw (.store 2 3 18),qm 4 19]) .ret) .skip)) (.seq (.ai [qm 21 5,qm 22 6,qu 23 (.build [(qd 0),.aB,.aB,(.aa (.val (.string ⟨#[]⟩))),(qd 0),.aB,(qd 0),(qd 0),(qd 0)] [(0,1,(qi 4)),(4,1,22),(6,1,(qi (-1)))]),qu 24 (qc 111 [21,23]),qm 20 24,qu 25 (.ext 20 0),qu 26 (.ext 20 1),qu 27 (.ext 20 2),qm 5 25,qm 8 26,qm 7 27]) (.seq (.seq (.ai [qm 28 7,qu 29 (.aH .neq 28 (qi 0))]) (.cond 29 (.seq (.ai [qu 30 (.build [(qd 0),(qd 0)] []),qm 31 7,qu 2 (.aF qe),qw (.store 2 3 30),qm 4 31]) .ret) .skip)) (.seq (.ai [qm 32 5,qm 33 6,qm 34 8,qu 35 (.cr 9 32 33),qf 36 4 35,qw (.store 1 36 34)]) (.seq (.ai [qm 37 5,qm 38 6,qm 39 8,qu 40 (.build [(qd 0),(qd 0)] [(0,1,38),(1,1,39)]),qm 2 37,qw (.store 2 3 40),qu 4 (.aF (qi 0))]) .ret)))))))⟩
theorem Eh{l:List Obj}{o:Obj}(h:(aG l o).2.2=0):∃k:Nat,(aG l o).2.1=k/\k<(aG l o).1.length/\(aG l o).1[k]? =some o/\l.length<=(aG l o).1.length/\(∀j,j≠k->j<l.length->(aG l o).1[j]? =l[j]?):=by
 unfold aG at h⊢;split
 .rename_i k hk;have fj:k<l.length:=(aam.1 hk).1;exact⟨k,rfl,by simpa using fj,by simp[fj],aI,fun j hj lG=>by simp[aan,Ne.symm hj]⟩
 .rename_i hk;rw[hk]at h;simp only at h;split at h
  .simp at h
  .rename_i hc;rw[if_neg hc];exact⟨l.length,rfl,aI,aI,aI,fun j hj lG=>by simp[Tz lG]⟩
theorem IF{l:List Obj}{o:Obj}(hf:jV l)(ho:o.mz):jV (aG l o).1:=by
 unfold aG;split
 .refine⟨by simpa using hf.1,fun x hx=>?_⟩
  rcases aac hx with h|rfl
  .exact hf.2 x h
  .exact ho
 .split
  .exact⟨aI,aI⟩
  .refine⟨by simp;omega,fun x hx=>?_⟩
   rcases aaN.1 hx with h|h
   .exact hf.2 x h
   .simp at h;subst h;exact ho
def bM(p:Int):Obj:=⟨4,[],[],⟨#[]⟩,p,[],-1,0,0⟩
theorem IG(p:Int):(bM p).mz:=by simp[Obj.mz,bM]
def kn(l:List Obj)(k:Nat)(b:Int):List Obj:=match l[k]? with|some o=>l.set k {o with aC:=b}|none=>l
def e8(l:List Obj):List Obj×(Int×Int)×Int:=
 if(aG l (bM (-1))).2.2≠0 then([],(0,0),(aG l (bM (-1))).2.2)
 else if(aG (aG l (bM (-1))).1 (bM (aG l (bM (-1))).2.1)).2.2≠0 then([],(0,0),(aG (aG l (bM (-1))).1 (bM (aG l (bM (-1))).2.1)).2.2)
 else(kn (aG (aG l (bM (-1))).1 (bM (aG l (bM (-1))).2.1)).1 (aG l (bM (-1))).2.1.toNat (aG (aG l (bM (-1))).1 (bM (aG l (bM (-1))).2.1)).2.1,((aG l (bM (-1))).2.1,(aG (aG l (bM (-1))).1 (bM (aG l (bM (-1))).2.1)).2.1),0)
def R0(x:Int×Int):RV:= .agg [.aa (.val (.int .i64 x.1)),.aa (.val (.int .i64 x.2))]
theorem l71:bs Tryz.prog Tryz.f71=some c71:=by kernel_rfl
theorem Ei(a b:CV)(p:Int):jA [a,.rv (.agg [.aa (.val (.int .i64 4)),.aB,.aB,.aa (.val (.string ⟨#[]⟩)),.aa (.val (.int .i64 p)),.aB,.aa (.val (.int .i64 (-1))),.aa (.val (.int .i64 0)),.aa (.val (.int .i64 0))])] [a,(bM p).cv]:=
 .dv _ (.agg (.cons (.dv _) (.cons (.aB 1) (.cons (.aB 2) (.cons (.dv _) (.cons (.dv _) (.cons (.aB 4) (.cons (.dv _) (.cons (.dv _) (.cons (.dv _) .nil))))))))) .nil)
theorem FT(l:List Obj)(hf:jV l):body Tryz.prog c71 [cq l] [] (fun r m=>cw m r (.bF [li (e8 l).1,R0 (e8 l).2.1,cC (e8 l).2.2])):=by
 refine ld (Ei _ (.ar) _) (xI l hf (bM (-1)) ?_);have hp:e8 l=if(aG l (bM (-1))).2.2≠0 then([],(0,0),(aG l (bM (-1))).2.2)
   else if(aG (aG l (bM (-1))).1 (bM (aG l (bM (-1))).2.1)).2.2≠0 then([],(0,0),(aG (aG l (bM (-1))).1 (bM (aG l (bM (-1))).2.1)).2.2)
   else(kn (aG (aG l (bM (-1))).1 (bM (aG l (bM (-1))).2.1)).1 (aG l (bM (-1))).2.1.toNat (aG (aG l (bM (-1))).1 (bM (aG l (bM (-1))).2.1)).2.1,((aG l (bM (-1))).2.1,(aG (aG l (bM (-1))).1 (bM (aG l (bM (-1))).2.1)).2.1),0):=rfl
 have iX:=IF (o:=bM (-1)) hf (IG _);generalize hx:aG l (bM (-1))=x at hp iX;obtain⟨l1,a,e1⟩:=x;have iX:jV l1:=iX;refine bt (fun h=>?_) (fun h=>?_)
 .have h:e1≠0:=h;rw[hp];simp only;rw[if_pos h];exact kK (.one (.aB 9)) (d8.self rfl)
 .have h:e1=0:=h;subst h;have FI:=Eh (l:=l) (o:=bM (-1)) (by rw[hx])
  rw[hx]at FI;obtain⟨ka,KX,R1,ZB,ZC,_⟩:=FI;have KX:a=(ka:Int):=KX;have R1:ka<l1.length:=R1;subst KX;simp only[ne_eq,not_true,if_false,Wk]at hp;refine ld (Ei _ (.ar) _) (IE l1 iX (bM ka) (fun h=>?_) (fun h=>?_))
  .rw[h]at hp;rw[h,hp];exact kK (.one (.aB 9)) (d8.self rfl)
  .have FI:=Eh (l:=l1) (o:=bM ka) h;generalize hy:aG l1 (bM ka)=y at hp FI h;obtain⟨l2,b,e2⟩:=y;have h:e2=0:=h;subst h;obtain⟨kb,T7,ZD,ZE,R2,_⟩:=FI;have R2:l1.length<=l2.length:=R2;have aE:ka<l2.length:=om;have hlen:(af (l2.map Obj.enc)).length=l2.length:=by simp[af]
   refine ag (bZ (k:=ka) (by simpa[hlen,lenOf]using aE)) ?_
   refine ag (x:=l2[ka].enc.map .aa) (by simpa[gu]using wj l2 aE) ?_
   have iZ:aZ (af (l2.map Obj.enc)) (gu 0 ka) (({l2[ka]with aC:=b}:Obj).enc.map .aa)=af ((kn l2 ka b).map Obj.enc):=by rw[bg];simp only[kn,sA aE];rw[<-wi];simp[gu]
   have eA:some (Bk.row 9 (aZ (af (l2.map Obj.enc)) (gu 0 ka) (({l2[ka]with aC:=b}:Obj).enc.map .aa)))=some (Bk.row 9 (af ((kn l2 ka b).map Obj.enc))):=by rw[iZ]
   rw[hp];exact kK (.one (dU.dX eA 0 none)) (d8.self rfl)
theorem LD(l:List Obj)(hf:jV l){m:Mem}{K:CV->Mem->Prop}(h:K (.bF [li (e8 l).1,R0 (e8 l).2.1,cC (e8 l).2.2]) m):aq Tryz.prog 71 [cq l] m K:=
 aY (aX Tryz.func71 l71 (FT l hf)) (by simp[cq,CV.c6,CC.c6]) fun r m1 RQ=>⟨_,RQ,h⟩
def c74:LF:= ⟨80,[.tmp 6,.tmp 7],(.seq (.ai [qu 5 (.box 2),qu 6 (.aF qe),qu 7 (.aF (qi 0))]) (.seq (.seq (.ai [qm 10 1,qu 11 (.aH .lss 10 (qi 0)),qm 12 11,qg 13 (.aF 1) 12 false,qg 14 (.aF 0) 12 false,qg 15 (.len 1 14) 12 false,qg 16 (.aH .geq 13 15) 12 false,qu 17 (.pick 12 (qb true) 16),qm 18 17,qg 19 (.aF 0) 18 false,qg 20 (.aF 1) 18 false,qg 21 (.cr 9 19 20) 18 false,qg 22 (.bX 0 21) 18 false,qg 23 (.load false 1 22) 18 false,qg 24 (.aH .neq 23 (qi 4)) 18 false,qu 25 (.pick 18 (qb true) 24)]) (.cond 25 (.seq (.ai [qu 6 (.aF qe),qu 7 (.aF (qi 8))]) .ret) .skip)) (.seq (.ai [qm 26 0,qm 27 1,qu 28 (.cr 9 26 27),qf 29 4 28,ql 30 29,qm 8 30]) (.seq (.block 0 (.seq (.ai [qm 32 8,qu 33 (.aH .lss 32 (qi 0)),qm 34 33,qg 35 (.aF 8) 34 false,qg 36 (.aF 0) 34 false,qg 37 (.len 1 36) 34 false,qg 38 (.aH .geq 35 37) 34 false,qu 39 (.pick 34 (qb true) 38),qm 40 39,qg 41 (.aF 0) 40 false,qg 42 (.aF 8) 40 false,qg 43 (.cr 9 41 42) 40 false,qg 44 (.bX 0 43) 40 false,qg 45 (.load false 1 44) 40 false,qg 46 (.aH .neq 45 (qi 4)) 40 false,qu 47 (.pick 40 (qb true) 46),qm 31 47]) (.cond 31 (.seq (.ai [qu 6 (.aF qe),qu 7 (.aF (qi 17))]) .ret) (.seq (.ai [qf 49 0 5,ql 50 49,qu 51 (.len 1 50),qu 52 (.aH .gtr 51 (qi 60)),qm 48 52]) (.cond 48 (.seq (.ai [qu 6 (.aF qe),qu 7 (.aF (qi 4))]) .ret) (.seq (.ai [qm 54 0,qm 55 8,qu 56 (.cr 9 54 55),qf 57 5 56,ql 58 57,qu 59 (.len 1 58),qu 60 (.aH .geq 59 (qi 4)),qm 53 60]) (.cond 53 (.seq (.ai [qu 6 (.aF qe),qu 7 (.aF (qi 15))]) .ret) .skip))))))) (.seq (.ai [qm 61 0,qu 62 (qc 98 [61]),qm 9 62]) (.seq (.ai [qf 63 0 5,ql 64 63,qu 65 (qc 97 [64]),qf 66 0 5,qw (.store 1 66 65)]) (.seq (.bU [qm 67 9,qm 68 8,qm 69 9,qm 70 8,qu 71 (.cr 9 69 70),qf 72 5 71,ql 73 72,qL 74 4 5,qu 75 (.l5 4 [.aB,(.aa (.val (.bool false))),(qd 0),(qd 0)] 1 [(0,74)]),qu 76 (.mE 4 48 73 75),qu 77 (.cr 9 67 68),qf 78 5 77,qw (.store 1 78 76)] [(.cons 0 none (.cons 1 none (.cons 2 none (.cons 3 none (.cons 4 none (.cons 5 none (.cons 6 none (.cons 7 none (.cons 8 (some [6,4]) (.cons 9 (some []) (.cons 10 none (.cons 11 none (.cons 12 (some []) .nil)))))))))))))]) (.seq (.ai [qm 79 9,qm 6 79,qu 7 (.aF (qi 0))]) .ret))))))))⟩
def FU(o:Obj)(c:CC):List CC:=[.aa (.val (.int .i64 o.ah)),.aa (.sl 1 o.data),.aa (.sl 2 o.aj),.aa (.val (.string o.target)),.aa (.val (.int .i64 o.aC)),c,.aa (.val (.int .i64 o.aM)),.aa (.val (.int .i64 o.am)),.aa (.val (.int .i64 o.up))]
theorem zI{l:List Obj}{p Q:Nat}{q:Obj}(h:l[p]? =some q):cR (dQ p Q 0 l) p=some (FU q (.row Q 4 0 none)):=by rw[aU,qD,h];simp[px,FU]
theorem IH{l:List Obj}{p:Nat}{q:Obj}(h:l[p]? =some q):xG l p l.length= .row 4 (af (q.ak.map bo.enc)):=by
 have hp:=(Gf.1 h).1;have:Nat.blt p l.length=true:=by rw[aaQ];exact hp
 simp only[xG,this,VF,h]
theorem Ej{m:Mem}{Z:Nat->Prop}{id p Q:Nat}{l:List Obj}{q:Obj}{c:CC}(hz:Z id)(hb:m[id]? =some (.row 9 (aZ (dQ p Q 0 l) p (FU q c))))(hc:dj m Z (some id) c (.sl 4 (q.ak.map bo.enc))):
  dj m Z none (.row id 9 0 none) (.sl 9 ((l.set p q).map Obj.enc)):=by
 have key:∀(i:Nat)cs es,(aZ (dQ p Q 0 l) p (FU q c))[i]? =some cs->((l.set p q).map Obj.enc)[i]? =some es->(cs=FU q c/\es=q.enc)\/∃o:Obj,cs=o.enc.map .aa/\es=o.enc:=by
  intro i cs es h1 h2;rw[bg,aan]at h1;rw[NO,aan]at h2;by_cases hi:p=i
  .subst hi;rw[if_pos rfl]at h1 h2;split at h1
   .cases h1;split at h2
    .cases h2;exact .inl ⟨rfl,rfl⟩
    .cases h2
   .cases h1
  .rw[if_neg hi]at h1 h2;rw[qD]at h1;cases ho:l[i]? with
   |none=>rw[ho]at h1;cases h1
   |some o=>
    rw[ho]at h1 h2;cases h1;cases h2;refine .inr ⟨o,?_,rfl⟩;simp only[px,aai,if_neg (Ne.symm hi)];rfl
 refine .row id 9 0 none _ ((l.set p q).map Obj.enc) hz hb (by rw[bg];simp[lg]) (fun i cs es h1 h2=>?_) (fun i cs es j cc d h1 h2 h3 h4=>?_)
 .rcases key i cs es h1 h2 with⟨rfl,rfl⟩|⟨o,rfl,rfl⟩
  .rfl
  .simp
 .rcases key i cs es h1 h2 with⟨rfl,rfl⟩|⟨o,rfl,rfl⟩
  .match j,h3,h4 with
   |0,h3,h4=>cases h3;cases h4;exact .aa _
   |1,h3,h4=>cases h3;cases h4;exact .aa _
   |2,h3,h4=>cases h3;cases h4;exact .aa _
   |3,h3,h4=>cases h3;cases h4;exact .aa _
   |4,h3,h4=>cases h3;cases h4;exact .aa _
   |5,h3,h4=>cases h3;cases h4;exact hc
   |6,h3,h4=>cases h3;cases h4;exact .aa _
   |7,h3,h4=>cases h3;cases h4;exact .aa _
   |8,h3,h4=>cases h3;cases h4;exact .aa _
   |n+9,h3,h4=>simp[FU]at h3
  .rw[NO,h4]at h3;cases h3;exact .aa _
def eJ(l:List Obj)(e:Int)(m:bo):List Obj×Int:=
 if e<0\/e>=l.length then([],8)else match l[e.toNat]? with
 |none=>([],8)
 |some o=>if o.ah≠4 then([],8)else if o.aC<0\/o.aC>=l.length then([],17)else match l[o.aC.toNat]? with
  |none=>([],17)
  |some q=>if q.ah≠4 then([],17)else if m.data.length>60 then([],4)else if q.ak.length>=4 then([],15)else(l.set o.aC.toNat {q with ak:=q.ak++ [m]},0)
def II(l:List Obj)(e:Int):CV:= .bF [li l,cC e]
theorem i9{m:Mem}{a b:RV}{x:Int}(h:d8 m a b):cw m (.bF [a,cC x]) (.bF [b,cC x]):=by
 refine .bF rfl fun i r r' h1 h2=>?_
 match i,h1,h2 with
 |0,h1,h2=>cases h1;cases h2;exact h
 |1,h1,h2=>cases h1;cases h2;exact d8.self rfl
theorem XV{σ:Nat->Nat}{m:Mem}{Z:Nat->Prop}{a b:RV}{x:Int}(h:u3 σ m Z a b):po σ m Z (.bF [a,cC x]) (.bF [b,cC x]):=by
 refine .bF rfl fun i r r' h1 h2=>?_
 match i,h1,h2 with
 |0,h1,h2=>cases h1;cases h2;exact h
 |1,h1,h2=>cases h1;cases h2;exact .one (.aQ (.aa _))
theorem l74:bs Tryz.prog Tryz.f74=some c74:=by kernel_rfl
theorem qE(l:List Obj)(hf:jV l)(e:Int)(msg:bo)(VG:msg.data.length<=4194304):body Tryz.prog c74 [cq l,an .i64 e,msg.cv] [] (fun r m=>∃r' m',View 0 ⟨[r],m⟩ ⟨[r'],m'⟩/\r'=II (eJ l e msg).1 (eJ l e msg).2/\m'=[]):=by
 have Ho:(((l.map Obj.enc).length:Nat):Int)=(l.length:Int):=aI;have bad:∀(x:Int),eJ l e msg=([],x)->∃r' m',View 0 ⟨[CV.bF [.one .aB,cC x]],[.var (msg.enc.map .aa)]⟩ ⟨[r'],m'⟩/\r'=II (eJ l e msg).1 (eJ l e msg).2/\m'=[]:=by intro x hx;refine⟨_,_,View.o 1 [] [] (.put (XV (b:=li []) (.one (.eZ (.aB 9)))) .nil) (.nil _),?_,rfl⟩;rw[hx];rfl
 refine aJ (fun h=>?_) (fun h1=>?_)
 .exact bad 8 (by rw[eJ,if_pos (.inl h)])
 refine aJ (fun h=>?_) (fun h2=>?_)
 .exact bad 8 (by rw[eJ,if_pos (.inr (by rw[<-Ho];exact h))])
 have h2:¬e>=(l.length:Int):=by rw[<-Ho];exact h2
 obtain⟨k,rfl⟩:∃k:Nat,e=k:=⟨e.toNat,om⟩;have hk:k<l.length:=om;have hi:=sA hk;have nv:eJ l (k:Int) msg=if l[k].ah≠4 then(([],8):List Obj×Int)else if l[k].aC<0\/l[k].aC>=l.length then([],17)else match l[l[k].aC.toNat]? with
   |none=>([],17)
   |some q=>if q.ah≠4 then([],17)else if msg.data.length>60 then([],4)else if q.ak.length>=4 then([],15)else(l.set l[k].aC.toNat {q with ak:=q.ak++ [msg]},0):=by
  rw[eJ,if_neg om,Wk,hi]
 have hg:dg (l.map Obj.enc) (k:Nat)=some (l[k].enc):=by rw[bI,NO,hi];rfl
 generalize l[k]=o at nv hg;obtain⟨ah,data,aj,target,aC,ak,aM,am,up⟩:=o;have hg:dg (l.map Obj.enc) (k:Nat)=some [.val (.int .i64 ah),.sl 1 data,.sl 2 aj,.val (.string target),.val (.int .i64 aC),.sl 4 (ak.map bo.enc),.val (.int .i64 aM),.val (.int .i64 am),.val (.int .i64 up)]:=hg;refine ag hg ?_;refine bt (fun h=>?_) (fun h3=>?_)
 .exact bad 8 (by rw[nv,if_pos h])
 have h3:ah=4:=h3;rw[if_neg (by simpa using h3)]at nv
 simp only at nv;refine ag hg ?_;refine aJ (fun h=>?_) (fun h4=>?_)
 .exact bad 17 (by rw[nv,if_pos (.inl h)])
 refine aJ (fun h=>?_) (fun h5=>?_)
 .exact bad 17 (by rw[nv,if_pos (.inr (by rw[<-Ho];exact h))])
 have h5:¬aC>=(l.length:Int):=by rw[<-Ho];exact h5
 have h4:¬aC<0:=h4;obtain⟨p,rfl⟩:∃p:Nat,aC=p:=⟨aC.toNat,om⟩;have hp:p<l.length:=om;have Nw:=sA hp;rw[if_neg om,Wk,Nw]at nv;simp only at nv;have yR:dg (l.map Obj.enc) (p:Nat)=some (l[p].enc):=by rw[bI,NO,Nw];rfl
 have FQ:=hf.2 _ (Wl hp);generalize l[p]=q at nv yR Nw FQ;have yR:dg (l.map Obj.enc) (p:Nat)=some [.val (.int .i64 q.ah),.sl 1 q.data,.sl 2 q.aj,.val (.string q.target),.val (.int .i64 q.aC),.sl 4 (q.ak.map bo.enc),.val (.int .i64 q.aM),.val (.int .i64 q.am),.val (.int .i64 q.up)]:=yR;refine ag yR ?_;refine bt (fun h=>?_) (fun h6=>?_)
 .exact bad 17 (by rw[nv,if_pos h])
 rw[if_neg (by simpa using h6)]at nv
 refine aJ (fun h=>?_) (fun h7=>?_)
 .exact bad 4 (by rw[nv,if_pos (by have h:((msg.data.length:Nat):Int)>60:=h;omega)])
 rw[if_neg (by have h:¬((msg.data.length:Nat):Int)>60:=h7;omega)]at nv
 refine ag yR ?_;refine aJ (fun h=>?_) (fun h8=>?_)
 .exact bad 15 (by rw[nv,if_pos (by have h:(((q.ak.map bo.enc).length:Nat):Int)>=4:=h;rw[KB]at h;omega)])
 have h8:¬q.ak.length>=4:=by have h:¬(((q.ak.map bo.enc).length:Nat):Int)>=4:=h8;rw[KB]at h;omega
 rw[if_neg h8]at nv;refine tQ l hf p ?_;rw[IH Nw];refine gl msg.data VG ?_;have qF:dp (p:Int) (lenOf (dQ p 2 0 l).length 0 none)=some p:=bZ (by simp[lenOf,lg];omega)
 have mv:=zI (Q:=2) Nw;refine ag qF ?_;refine ag mv ?_;refine⟨⟨ag mv rfl,ag qF rfl,trivial⟩,?_⟩;refine⟨?_,?_⟩
 .show((af (q.ak.map bo.enc)).length+1)*48<=_;simp[af];omega
 refine⟨trivial,?_⟩;refine ag qF ?_;refine ag mv ?_;refine⟨trivial,?_⟩;refine⟨II (l.set p {q with ak:=q.ak++ [msg]}) 0,[],View.o 5 [] [1,4] (.put (XV (.one (.eZ ?_))) .nil) (.nil _),?_,rfl⟩
 .refine Ej (p:=p) (Q:=2) (l:=l) (q:={q with ak:=q.ak++ [msg]}) (c:= .row 4 4 0 none) rfl (by rw[<-aU];rfl) ?_
  refine dj.dX (Z:=fun k=>bz [1,4] k=true) (ds:=(q.ak++ [msg]).map bo.enc) rfl ?_ 0 none
  rw[<-aU,aav,cN];rfl
 .rw[nv]
theorem LG(l:List Obj)(hf:jV l)(e:Int)(msg:bo)(VG:msg.data.length<=4194304){m:Mem}{K:CV->Mem->Prop}(h:K (II (eJ l e msg).1 (eJ l e msg).2) m):aq Tryz.prog 74 [cq l,an .i64 e,msg.cv] m K:=by
 refine aY (K0:=fun r m=>r=II (eJ l e msg).1 (eJ l e msg).2/\m=[]) (bK (aX Tryz.func74 l74 (qE l hf e msg VG)) fun r m1⟨r',m',hv,hp⟩=>⟨r',m',hv,hp⟩) (by simp[cq,an,bo.cv,CV.c6,CC.c6,RV.c6]) fun r m1 hr=>?_
 obtain⟨rfl,rfl⟩:=hr;exact⟨_,cw.self rfl,h⟩
end Go.Proofs.YtodckkkbiidffaaGreatDoor
