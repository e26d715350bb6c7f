/- Part 17 of 43: what the law stands on. -/
import Derived.Test.YtojhmadmlnfpcaaGreatDoorK15
import Derived.Test.YtojhmadmlnfpcaaGreatDoorK16
import Derived.Sort.Grow
import Derived.Test.YtojhmadmlnfpcaaGreatDoorRows
set_option linter.unusedVariables false
set_option linter.unusedSimpArgs false
set_option linter.unnecessarySimpa false
set_option maxRecDepth 100000
set_option maxHeartbeats 64000000
namespace Go.AM
section
variable {P:Program} {ρ:bL} {m:Mem} {w:World}
theorem xX(w:World)(LA:Nat)(f:Array Value->Array Value){b:Nat}(h:b≠LA):(Sort.mapBlock w LA f).heap[b]? =w.heap[b]? :=by simp only[Sort.mapBlock,aba];rw[if_neg (fun e=>h e.symm)]
theorem xY(w:World)(n LA off:Nat)(F:Array Value):kJ w (Sort.putRow id (Sort.ahead w n) LA off F) LA:=
 ⟨fun b hb=>xX _ _ _ hb,by simp[Sort.putRow,Sort.mapBlock,Sort.ahead],rfl,rfl,rfl⟩
theorem EH{mk:Prop}{w:World}{LA off:Nat}{cur:Array Value}(F:Array Value)(n:Nat)(h:mf mk w LA cur):mf mk (Sort.putRow id (Sort.ahead w n) LA off F) LA (Sort.putCells id off F cur):=by
 obtain⟨ty,fr,hb,h1,h2,h3⟩:=h;refine⟨ty,fr,?_,h1,fun i hi=>h2 i (by simpa[Sort.putCells]using hi),by simpa[Sort.putCells]using h3⟩
 have aC:LA<w.heap.size:=(aaF.1 hb).1;have e:(Sort.ahead w n).heap[LA]? =some (.cells cur ty fr):=hb;simp only[Sort.putRow,Sort.mapBlock,aba,if_true,e,aaC,Sort.onCells]
theorem IJ(hM:aH ρ m w){id esz:Nat}{rows lE:List (List CC)}{F:Array Value}(hb:m[id]? =some (.row esz rows))(dD:0<rows.length)(hlen:lE.length=rows.length)(dI:∀cs,cs∈lE->cs.length=esz)(hF:F.size=rows.length*esz)(OQ:∀cs,cs∈lE->∀c,c∈cs->∃d,c= .aa d)(cj:∀(i:Nat)cs(j:Nat)c,lE[i]? =some cs->cs[j]? =some c->bz ρ w .none c F[i*esz+j]!)(n:Nat)(os:Array Obj):
  aH ρ (m.set id (.row esz lE)) (Sort.grow (Sort.putRow _root_.id (Sort.ahead w n) (ρ.aR (.au id)).b (ρ.aR (.au id)).ax F) os)/\
  Ext ρ m w ρ (m.set id (.row esz lE)) (Sort.grow (Sort.putRow _root_.id (Sort.ahead w n) (ρ.aR (.au id)).b (ρ.aR (.au id)).ax F) os):=by
 have hid:id<m.length:=(aac.1 hb).1;obtain⟨h2,h3,h4,h5,Bg⟩:=hM.bk id _ hb;have bp:0<(ρ.aR (.au id)).cap:=om;obtain⟨cur,b9,h1,hd⟩:=Bg bp;have hmul:rows.length*esz<=(ρ.aR (.au id)).cap*esz:=aaP _ om;have U2:∀{i' j' xN e},fI (m.set id (.row esz lE)) id i' j' xN e->False:=by rintro i' j' xN e ⟨es,Qu,KN,jD,eL,km⟩;rw[aal hid]at jD;cases jD;obtain⟨d,hd⟩:=OQ _ (aag eL) _ (aag km);cases hd
 obtain⟨lV,hX⟩:=hM.Ru (DZ:= .row esz lE) (w':=Sort.putRow _root_.id (Sort.ahead w n) (ρ.aR (.au id)).b (ρ.aR (.au id)).ax F) hb ⟨_,hb,aG,fun _=>bp⟩ (xY w n _ _ F)
  (fun g=>⟨by rw[hlen];exact h2,h3,h4,dI,fun _=>⟨_,EH F n b9,by simpa[Sort.putCells]using h1,fun i cs j c hi hj=>by
   have mU:j<esz:=by rw[<-dI cs (aag hi)];exact(aac.1 hj).1
   have Qq:i<rows.length:=by rw[<-hlen];exact(aac.1 hi).1
   have pM:i*esz+j<rows.length*esz:=by have:(i+1)*esz<=rows.length*esz:=aaP _ om;rw[aa2,abl]at this;omega
   have cn:=cj i cs j c hi hj;refine⟨F[i*esz+j]!,?_,(bz.cM g aG cn).vg _⟩;have hc:(ρ.aR (.au id)).ax+i*esz+j<cur.size:=om;simp only[Sort.putCells,Array.getElem?_mapIdx,abc hc,aaC];rw[if_pos om];congr 2;show F[_]! =_;congr 1;omega⟩⟩)
  (fun i j e1 e2 h=>(U2 h).elim)
 have hW:eG (Sort.putRow _root_.id (Sort.ahead w n) (ρ.aR (.au id)).b (ρ.aR (.au id)).ax F) (Sort.grow (Sort.putRow _root_.id (Sort.ahead w n) (ρ.aR (.au id)).b (ρ.aR (.au id)).ax F) os):=
  ⟨fun b hb=>Sort.heap_grow_old _ os hb,by simp[Sort.grow],rfl,rfl,rfl⟩
 obtain⟨Ew,n9⟩:=lV.Lq hW;exact⟨Ew,hX.trans n9⟩
end
end Go.AM
namespace Go.Proofs.YtojhmadmlnfpcaaGreatDoor
open Go.AM Go.ChangeShapes Go.WideShapes Go.ChangeAt Go.RowKit
def c104:LF:= ⟨8,[.tmp 2],(.seq (.ai [qu 2 (.aD qe)]) (.seq (.seq (.ai [qm 3 0,qu 4 (.xJ false 3)]) (.cond 4 (.seq (.ai [qu 2 (.aD qe)]) .ret) .skip)) (.seq (.ai [qu 5 (.mh 1 [(.aa (.val (.int .u8 (0))))] 0 []),qm 6 0,qu 7 (.nO 1 1 5 6),qm 2 7]) .ret)))⟩
def c135:LF:= ⟨8,[.tmp 2],(.seq (.ai [qu 2 (.aD qe)]) (.seq (.seq (.ai [qm 3 0,qu 4 (.xJ false 3)]) (.cond 4 (.seq (.ai [qu 2 (.aD qe)]) .ret) .skip)) (.seq (.ai [qu 5 (.mh 2 [(.aa (.val (.string ⟨#[]⟩))),(qd 0)] 0 []),qm 6 0,qu 7 (.nO 2 24 5 6),qm 2 7]) .ret)))⟩
theorem g9{n:Int}(h1: -9223372036854775808<=n)(h2:n<=9223372036854775807):IntKind.i64.wrap n=n:=IntWalk.i64_in n om
structure bw where
 data:List (List Dt)
 has:Bool
 eT:Int
 cf:Int
def bw.enc(m:bw):List Dt:=[.sl 1 m.data,.val (.bool m.has),.val (.int .i64 m.eT),.val (.int .i64 m.cf)]
structure Obj where
 ah:Int
 data:List (List Dt)
 ak:List (List Dt)
 target:ByteArray
 aJ:Int
 aj:List bw
 aL:Int
 am:Int
 up:Int
def Obj.enc(o:Obj):List Dt:=[.val (.int .i64 o.ah),.sl 1 o.data,.sl 2 o.ak,.val (.string o.target),.val (.int .i64 o.aJ),.sl 4 (o.aj.map bw.enc),.val (.int .i64 o.aL),.val (.int .i64 o.am),.val (.int .i64 o.up)]
def bw.cv(m:bw):CV:= .rv (.agg (m.enc.map .aa))
def Obj.cv(o:Obj):CV:= .rv (.agg (o.enc.map .aa))
def cX(l:List Obj):Dt:= .sl 9 (l.map Obj.enc)
def cg(l:List Obj):CV:= .rv (.one (.aa (cX l)))
def Obj.mP(o:Obj):Prop:=o.data.length<=4194304/\o.ak.length<=4194304/\o.aj.length<=4194304/\∀q,q∈o.aj->q.data.length<=4194304
def jZ(l:List Obj):Prop:=l.length<=4194304/\∀o,o∈l->o.mP
theorem l104:bs Tryz.prog Tryz.f104=some c104:=by kernel_rfl
theorem l135:bs Tryz.prog Tryz.f135=some c135:=by kernel_rfl
def rd(esz:Nat)(d:List (List Dt)):CV:= .rv (.one (.aa (.sl esz d)))
theorem Cd(d:List (List Dt))(hb:d.length<=4194304):body Tryz.prog c104 [rd 1 d] [] (fun r m=>cJ m r (rd 1 d)):=by
 have rR:((([]:List (List CC)).length+(d.map fun ds=>ds.map CC.aa).length)*1)<=140737488355328:=by simp;omega
 refine aE (fun h=>?_) (fun h=>?_)
 .have hd:d=[]:=aat (by simpa using aav h)
  subst hd;exact⟨.rv (.one (.aI 1)),rR,.rv (.one (eI.eE rfl 0 none))⟩
 .exact⟨rR,.rv (.one (eI.eE rfl 0 none))⟩
theorem hB(d:List (List Dt))(hb:d.length<=4194304){m:Mem}{K:CV->Mem->Prop}(h:K (rd 1 d) m):ar Tryz.prog 104 [rd 1 d] m K:=
 bb (aZ Tryz.func104 l104 (Cd d hb)) (by simp[rd,CV.dx,CC.dx]) fun r m1 hf=>⟨_,hf,h⟩
theorem Ce(d:List (List Dt))(hb:d.length<=4194304):body Tryz.prog c135 [rd 2 d] [] (fun r m=>cJ m r (rd 2 d)):=by
 have rR:((([]:List (List CC)).length+(d.map fun ds=>ds.map CC.aa).length)*24)<=140737488355328:=by simp;omega
 refine aE (fun h=>?_) (fun h=>?_)
 .have hd:d=[]:=aat (by simpa using aav h)
  subst hd;exact⟨.rv (.one (.aI 2)),rR,.rv (.one (eI.eE rfl 0 none))⟩
 .exact⟨rR,.rv (.one (eI.eE rfl 0 none))⟩
theorem sw(d:List (List Dt))(hb:d.length<=4194304){m:Mem}{K:CV->Mem->Prop}(h:K (rd 2 d) m):ar Tryz.prog 135 [rd 2 d] m K:=
 bb (aZ Tryz.func135 l135 (Ce d hb)) (by simp[rd,CV.dx,CC.dx]) fun r m1 hf=>⟨_,hf,h⟩
def re(p Q k:Nat)(o:Obj):List CC:=[.aa (.val (.int .i64 o.ah)),.aa (.sl 1 o.data),.aa (.sl 2 o.ak),.aa (.val (.string o.target)),.aa (.val (.int .i64 o.aJ)),
 (if k=p then .row Q 4 0 none else .aa (.sl 4 (o.aj.map bw.enc))),.aa (.val (.int .i64 o.aL)),.aa (.val (.int .i64 o.am)),.aa (.val (.int .i64 o.up))]
def eD(p Q:Nat):Nat->List Obj->List (List CC)
 |_,[]=>[]
 |k,o::r=>re p Q k o::eD p Q (k+1) r
theorem rf(p Q:Nat):∀(a:List Obj)(k:Nat)(b:List Obj),eD p Q k (a++b)=eD p Q k a++eD p Q (k+a.length) b
 | [],k,b=>rfl
 |o::r,k,b=>by simp[eD,rf p Q r (k+1) b,aaV,Nat.add_comm 1]
theorem mB(p Q:Nat):∀(l:List Obj)(k:Nat),(eD p Q k l).length=l.length
 | [],_=>rfl
 |o::r,k=>by simp[eD,mB p Q r (k+1)]
theorem pQ(p Q:Nat):∀(l:List Obj)(k:Nat),(p<k\/k+l.length<=p)->eD p Q k l=af (l.map Obj.enc)
 | [],_,_=>rfl
 |o::r,k,h=>by simp only[aax]at h;have hk:¬k=p:=om;simp only[eD,re,if_neg hk,pQ p Q r (k+1) om];rfl
theorem sx(p Q:Nat):∀(l:List Obj)(k i:Nat),(eD p Q k l)[i]? =(l[i]?).map (re p Q (k+i))
 | [],k,i=>by simp[eD]
 |o::r,k,0=>by simp[eD]
 |o::r,k,i+1=>by
  simp only[eD,aa9,sx p Q r (k+1) i];rw[show k+1+i=k+(i+1) by omega]
theorem LB{σ:Nat->Nat}{p Q k:Nat}(o:Obj):(re p Q k o).map (CC.aQ σ)=re p (σ Q) k o:=by
 by_cases h:k=p<;>simp[re,h,CC.aQ]
theorem ku{σ:Nat->Nat}(p Q:Nat):∀(l:List Obj)(k:Nat),(eD p Q k l).map (fun cs=>cs.map (CC.aQ σ))=eD p (σ Q) k l
 | [],_=>rfl
 |o::r,k=>by simp only[eD,aaX,ku p Q r (k+1)];rw[LB]
def c105:LF:= ⟨47,[.tmp 2],(.seq (.ai [qu 2 (.aD qe)]) (.seq (.ai [qu 3 (.aD qe)]) (.seq (.seq (.ai [qm 9 0,qu 10 (.len 1 9),qu 11 (.aD (qi 0))]) (.block 0 (.loop (.seq (.ai [qu 12 (.aF .lss 11 10)]) (.seq (.cond 12 .skip (.exit 0)) (.seq (.block 1 (.seq (.ai [qu 13 (.bO 9 9 11),qL 14 9 13,qu 5 (.alloc [(qd 0),.aI,.aI,(.aa (.val (.string ⟨#[]⟩))),(qd 0),.aI,(qd 0),(qd 0),(qd 0)]),qw (.store 9 5 14)]) (.seq (.bQ [qf 15 1 5,ql 16 15,qu 17 (qc 104 [16]),qf 18 2 5,ql 19 18,qu 20 (qc 135 [19]),qf 21 1 5,qw (.store 1 21 17),qf 22 2 5,qw (.store 1 22 20)] [(.cons 0 none (.cons 1 none (.cons 3 none (.cons 4 none (.cons 2 (some [4]) (.cons 6 none (.cons 5 (some []) (.cons 7 (some []) (.cons 8 none (.cons 9 (some []) .nil))))))))))]) (.seq (.ai [qu 6 (.aD qe)]) (.seq (.seq (.ai [qf 23 5 5,ql 24 23,qu 25 (.len 1 24),qu 26 (.aD (qi 0))]) (.block 2 (.loop (.seq (.ai [qu 27 (.aF .lss 26 25)]) (.seq (.cond 27 .skip (.exit 2)) (.seq (.block 3 (.seq (.ai [qu 28 (.bO 4 24 26),qL 29 4 28,qu 8 (.alloc [.aI,(.aa (.val (.bool false))),(qd 0),(qd 0)]),qw (.store 4 8 29)]) (.seq (.ai [qf 30 0 8,ql 31 30,qu 32 (qc 104 [31]),qf 33 0 8,qw (.store 1 33 32)]) (.ai [qm 34 6,qL 35 4 8,qu 36 (.mh 4 [.aI,(.aa (.val (.bool false))),(qd 0),(qd 0)] 1 [(0,35)]),qu 37 (.nO 4 48 34 36),qm 6 37])))) (.ai [qu 38 (.aF .add 26 (qi 1)),qm 26 38]))))))) (.seq (.ai [qm 39 6,qf 40 5 5,qw (.store 1 40 39)]) (.ai [qm 41 3,qL 42 9 5,qu 43 (.mh 9 [(qd 0),.aI,.aI,(.aa (.val (.string ⟨#[]⟩))),(qd 0),.aI,(qd 0),(qd 0),(qd 0)] 1 [(0,42)]),qu 44 (.nO 9 128 41 43),qm 3 44]))))))) (.ai [qu 45 (.aF .add 11 (qi 1)),qm 11 45]))))))) (.seq (.ai [qm 46 3,qm 2 46]) .ret))))⟩
def Yz(l:List Obj)(p:Nat):List bw:=match l[p]? with|some o=>o.aj|none=>[]
def zZ(l:List Obj)(p k:Nat):Bk:=match Nat.blt p k with|true=>.row 4 (af ((Yz l p).map bw.enc))|false=>.bh
theorem uS{σ:Nat->Nat}(l:List Obj)(p k:Nat):(zZ l p k).aQ σ=zZ l p k:=by
 unfold zZ;split
 .exact Bk.kn _ _
 .rfl
theorem ph{α:Type}{l:List α}{i:Nat}{s:α}(h:l[i]? =some s):l.take (i+1)=l.take i++ [s]:=by rw[aa8,h];rfl
theorem cD(a b:List (List Dt)):af (a++b)=af a++af b:=by simp[af]
theorem vM{p Q:Nat}{l:List Obj}{k:Nat}{o:Obj}(h:l[k]? =some o):eD p Q 0 (l.take (k+1))=eD p Q 0 (l.take k)++ [re p Q k o]:=by have hk:=(aac.1 h).1;rw[ph h,rf,aaz,acq om,aaS];rfl
theorem l105:bs Tryz.prog Tryz.f105=some c105:=by kernel_rfl
theorem LD(l:List Obj)(hf:jZ l)(p:Nat):body Tryz.prog c105 [cg l] [] (fun r m=>r= .rv (.one (.row 0 9 0 none))/\m=[.row 9 (eD p 1 0 l),zZ l p l.length]):=by
 obtain⟨hl,Td⟩:=hf;refine aO (fun k=>k<=l.length) [0,9,10] (fun k=>[(11,an .i64 (k:Nat)),(3,.rv (.one (.row 0 9 0 none)))]) (fun k=>[.row 9 (eD p 1 0 (l.take k)),zZ l p k]) (fun k=>l.length-k) 0 (aao _) ?_ (fun k hk=>?_)
 .refine View.trans (View.aI 2 4 0 rfl rfl rfl) (View.trans (View.aI 3 9 1 rfl rfl rfl) (View.o1 2 [1,0] [] ?_))
  .exact .put (by simp[bq]) rfl (.eq rfl aG) (.bh (.nil _))
 .refine aB (fun h=>?_) (fun h=>?_)
  .have aC:k<l.length:=by have h:(k:Int)<((l.map Obj.enc).length:Int):=h;rw[aad]at h;omega
   have hi:=aab aC;have Oe:=Td _ (aau aC);have hg:cy (l.map Obj.enc) (k:Nat)=some (l[k].enc):=by rw[bl,aaf,aab aC];rfl
   generalize l[k]=o at hi Oe hg;obtain⟨ah,data,ak,target,aJ,aj,aL,am,up⟩:=o;obtain⟨LG,EI,Of,Ki⟩:=Oe;have LG:data.length<=4194304:=LG;have EI:ak.length<=4194304:=EI;have Of:aj.length<=4194304:=Of;have Ki:∀q,q∈aj->q.data.length<=4194304:=Ki;have hg:cy (l.map Obj.enc) (k:Nat)=some [.val (.int .i64 ah),.sl 1 data,.sl 2 ak,.val (.string target),.val (.int .i64 aJ),.sl 4 (aj.map bw.enc),.val (.int .i64 aL),.val (.int .i64 am),.val (.int .i64 up)]:=hg;refine ag hg ?_;refine hB data LG ?_;refine⟨⟨rfl,trivial⟩,?_⟩;refine sw ak EI ?_;refine⟨trivial,?_⟩;refine⟨trivial,?_⟩;refine⟨trivial,?_⟩;refine aO (fun j=>j<=aj.length) [0,3,5,9,10,11,24,25] (fun j=>[(26,an .i64 (j:Nat)),(6,.rv (.one (.row 3 4 0 none)))])
    (fun j=>[.row 9 (eD p 1 0 (l.take k)),zZ l p k,.var ((⟨ah,data,ak,target,aJ,aj,aL,am,up⟩:Obj).enc.map .aa),.row 4 (af ((aj.take j).map bw.enc))]) (fun j=>aj.length-j) 0 (aao _) ?_ (fun j hj=>?_)
   .refine View.trans (View.aI 6 4 3 rfl rfl rfl) (View.o1 4 [0,1,2,3] [] ?_)
    .exact .pt rfl rfl (.eq (congrArg (Bk.row 9) (ku p 1 _ _)) aG) (.yQ (eZ rfl) rfl (uS l p k) (.pe rfl rfl rfl (.pn rfl rfl rfl)))
   .have hj:j<=aj.length:=hj;refine aB (fun h=>?_) (fun h=>?_)
    .have dA:j<aj.length:=by have h:(j:Int)<((aj.map bw.enc).length:Int):=h;rw[aad]at h;omega
     have xV:=aab dA;have IK:=Ki _ (aau dA);generalize aj[j]=q at xV IK;obtain⟨qd,qh,qo,qr⟩:=q;have ur:cy (aj.map bw.enc) (j:Nat)=some [.sl 1 qd,.val (.bool qh),.val (.int .i64 qo),.val (.int .i64 qr)]:=by rw[bl,aaf,xV];rfl
     refine ag ur ?_;refine hB qd IK ?_;refine⟨?_,?_⟩
     .show((af ((aj.take j).map bw.enc)).length+1)*48<=_;simp[af];omega
     refine⟨j+1,dA,(show aj.length-(j+1)<aj.length-j by omega),View.o 7 [0,1,2,6] [] ?_ ?_⟩
     .repeat(first|exact .nil|refine .ap ?_|refine .put (.aQ (aq om).symm) ?_|refine .eq rfl ?_)
     .refine .pt rfl rfl (.eq (congrArg (Bk.row 9) (ku p 1 _ _)) aG) (.yQ (eZ rfl) rfl (uS l p k) (.pe rfl rfl rfl (.pt rfl rfl (.bV ?_) (.nil _))));rw[ph xV,aaU,cD];rfl
    .have ei:¬(j:Int)<((aj.map bw.enc).length:Int):=h;rw[aad]at ei;have hq:aj.take j=aj:=abm om;refine⟨?_,?_⟩
     .show((eD p 1 0 (l.take k)).length+1)*128<=_;rw[mB];simp;omega
     by_cases RF:k=p
     .subst RF;have hR:∀Q,eD k Q 0 (l.take k)=af ((l.take k).map Obj.enc):=fun Q=>pQ k Q _ 0 (.inr (by simp;omega))
      have R3:zZ l k (k+1)= .row 4 (af ((aj.take j).map bw.enc)):=by
       have:Nat.blt k (k+1)=true:=by rw[abe];omega
       simp only[zZ,this,Yz,hi,hq]
      refine⟨k+1,aC,(show l.length-(k+1)<l.length-k by omega),View.o 6 [5,3] [] ?_ ?_⟩
      .repeat(first|exact .nil|refine .ap ?_|refine .put (.aQ (aq om).symm) ?_|refine .eq rfl ?_)
      .rw[vM hi,R3];refine .pt rfl rfl (.EG ?_ rfl ?_) (.pn rfl rfl rfl)
       .rw[ku,hR,hR];rfl
       .intro j c c' h1 h2;have e5:re k 1 k ⟨ah,data,ak,target,aJ,aj,aL,am,up⟩=[.aa (.val (.int .i64 ah)),.aa (.sl 1 data),.aa (.sl 2 ak),.aa (.val (.string target)),.aa (.val (.int .i64 aJ)),.row 1 4 0 none,.aa (.val (.int .i64 aL)),.aa (.val (.int .i64 am)),.aa (.val (.int .i64 up))]:=by simp[re]
        rw[e5]at h2
        match j,h1,h2 with
        |0,h1,h2=>cases h1;cases h2;exact .aQ (.aa _)
        |1,h1,h2=>cases h1;cases h2;exact .aQ (.aa _)
        |2,h1,h2=>cases h1;cases h2;exact .aQ (.aa _)
        |3,h1,h2=>cases h1;cases h2;exact .aQ (.aa _)
        |4,h1,h2=>cases h1;cases h2;exact .aQ (.aa _)
        |5,h1,h2=>cases h1;cases h2;exact .aQ (.row 1 4 0 none)
        |6,h1,h2=>cases h1;cases h2;exact .aQ (.aa _)
        |7,h1,h2=>cases h1;cases h2;exact .aQ (.aa _)
        |8,h1,h2=>cases h1;cases h2;exact .aQ (.aa _)
        |n+9,h1,h2=>simp at h1
     .have R3:zZ l p (k+1)=zZ l p k:=by
       have:Nat.blt p (k+1)=Nat.blt p k:=by rw[ab6,abe,abe];omega
       simp only[zZ,this]
      refine⟨k+1,aC,(show l.length-(k+1)<l.length-k by omega),View.o 6 [5,1] [3] ?_ ?_⟩
      .repeat(first|exact .nil|refine .ap ?_|refine .put (.aQ (aq om).symm) ?_|refine .eq rfl ?_)
      .rw[vM hi,R3];refine .pt rfl rfl (.EG (ku p 1 _ _) rfl ?_) (.yQ (eZ rfl) rfl (uS l p k) (.nil _));intro j' c c' h1 h2;have e5:re p 1 k ⟨ah,data,ak,target,aJ,aj,aL,am,up⟩=[.aa (.val (.int .i64 ah)),.aa (.sl 1 data),.aa (.sl 2 ak),.aa (.val (.string target)),.aa (.val (.int .i64 aJ)),.aa (.sl 4 ((aj.take j).map bw.enc)),.aa (.val (.int .i64 aL)),.aa (.val (.int .i64 am)),.aa (.val (.int .i64 up))]:=by simp[re,RF,hq]
       rw[e5]at h2
       match j',h1,h2 with
       |0,h1,h2=>cases h1;cases h2;exact .aQ (.aa _)
       |1,h1,h2=>cases h1;cases h2;exact .aQ (.aa _)
       |2,h1,h2=>cases h1;cases h2;exact .aQ (.aa _)
       |3,h1,h2=>cases h1;cases h2;exact .aQ (.aa _)
       |4,h1,h2=>cases h1;cases h2;exact .aQ (.aa _)
       |5,h1,h2=>cases h1;cases h2;exact .fv (dP.eE (Z:=fun k=>bq [3] k=true) rfl (by rw[<-aX];rfl) 0 none)
       |6,h1,h2=>cases h1;cases h2;exact .aQ (.aa _)
       |7,h1,h2=>cases h1;cases h2;exact .aQ (.aa _)
       |8,h1,h2=>cases h1;cases h2;exact .aQ (.aa _)
       |n+9,h1,h2=>simp at h1
  .have ei:¬(k:Int)<((l.map Obj.enc).length:Int):=h;rw[aad]at ei;have fP:k=l.length:=by have:k<=l.length:=hk;omega
   subst fP;rw[aaO];exact⟨rfl,rfl⟩
theorem vN(l:List Obj)(hf:jZ l)(p:Nat){m:Mem}{K:CV->Mem->Prop}(h:K (.rv (.one (.row m.length 9 0 none))) (m++ [.row 9 (eD p (m.length+1) 0 l),zZ l p l.length])):ar Tryz.prog 105 [cg l] m K:=by
 refine bC [] m.length rfl rfl rfl rfl rfl (fun i b' hi=>by simp at hi) (aZ Tryz.func105 l105 (LD l hf p)) (fun r m1 hr=>?_)
 obtain⟨h1,h2⟩:=hr;subst h1;subst h2;refine⟨aao _,?_⟩;show K (.rv (.one (.row (m.length+(0-0)) 9 0 none))) (iI m [.row 9 ((eD p 1 0 l).map (fun cs=>cs.map (CC.aQ (sg [] m.length)))),(zZ l p l.length).aQ (sg [] m.length)])
 rw[ku,uS,cr];exact h
def c118:LF:= ⟨34,[.tmp 4,.tmp 5,.tmp 6],(.seq (.ai [qu 3 (.box 1),qu 4 (.aD qe),qu 5 (.aD (qi 0)),qu 6 (.aD (qi 0))]) (.seq (.ai [qm 9 0,qu 10 (qc 128 [9,(.c (.rv (.one (.fn 145 []))))]),qm 7 10]) (.seq (.seq (.ai [qm 11 7,qu 12 (.aF .lss 11 (qi 0))]) (.cond 12 (.seq (.seq (.ai [qm 13 0,qu 14 (.len 1 13),qu 15 (.aF .geq 14 (qi 40))]) (.cond 15 (.seq (.ai [qu 4 (.aD qe),qu 5 (.aD (qi 0)),qu 6 (.aD (qi 15))]) .ret) .skip)) (.ai [qm 16 0,qu 17 (.len 1 16),qm 7 17])) .skip)) (.seq (.ai [qm 18 0,qu 19 (qc 105 [18]),qm 8 19]) (.seq (.seq (.ai [qm 20 7,qm 21 8,qu 22 (.len 1 21),qu 23 (.aF .eql 20 22)]) (.cond 23 (.ai [qm 24 8,qu 25 (.build [(qd 0),.aI,.aI,(.aa (.val (.string ⟨#[]⟩))),(qd 0),.aI,(qd 0),(qd 0),(qd 0)] []),qu 26 (.mh 9 [(qd 0),.aI,.aI,(.aa (.val (.string ⟨#[]⟩))),(qd 0),.aI,(qd 0),(qd 0),(qd 0)] 1 [(0,25)]),qu 27 (.nO 9 128 24 26),qm 8 27]) .skip)) (.seq (.ai [qm 28 8,qm 29 7,qL 30 9 3,qu 31 (.bO 9 28 29),qw (.store 9 31 30)]) (.seq (.ai [qm 32 8,qm 33 7,qm 4 32,qm 5 33,qu 6 (.aD (qi 0))]) .ret)))))))⟩
def c128:LF:= ⟨19,[.tmp 4],(.seq (.ai [qu 4 (.aD (qi 0))]) (.seq (.seq (.ai [qm 6 0,qu 7 (.len 1 6),qu 8 (.aD (qi 0))]) (.block 0 (.loop (.seq (.ai [qu 9 (.aF .lss 8 7)]) (.seq (.cond 9 .skip (.exit 0)) (.seq (.block 1 (.seq (.ai [qm 10 8,qm 5 10]) (.seq (.ai [qm 11 1,qm 12 0,qm 13 5,qu 14 (.bO 9 12 13),qL 15 9 14,qu 16 (.call 11 [15])]) (.cond 16 (.seq (.ai [qm 17 5,qm 4 17]) .ret) .skip)))) (.ai [qu 18 (.aF .add 8 (qi 1)),qm 8 18]))))))) (.seq (.ai [qu 4 (.aD (qi (-1)))]) .ret)))⟩
def c145:LF:= ⟨6,[.tmp 2],(.seq (.ai [qu 1 (.box 0),qu 2 (.aD (qb false))]) (.seq (.ai [qf 3 0 1,ql 4 3,qu 5 (.aF .eql 4 (qi 0)),qm 2 5]) .ret))⟩
def nJ{α:Type}(q:α->Bool)(l:List α):Int:=match l.findIdx? q with|some k=>(k:Int)|none=>-1
theorem kP{α:Type}{q:α->Bool}{l:List α}{k:Nat}(h:k<l.length)(hq:q l[k]=true)(hb:∀(j:Nat)s,j<k->l[j]? =some s->q s=false):nJ q l=k:=by
 have:l.findIdx? q=some k:=by rw[aaN];exact⟨h,hq,fun j hj=>by simpa using hb j _ hj (aab om)⟩
 rw[nJ,this]
theorem mC{α:Type}{q:α->Bool}{l:List α}(hb:∀(j:Nat)s,l[j]? =some s->q s=false):nJ q l= -1:=by
 have:l.findIdx? q=none:=by rw[abM];intro s hs;obtain⟨i,hi⟩:=aam hs;simpa using hb i s hi
 rw[nJ,this]
theorem rh{α:Type}(q:α->Bool)(l:List α):decide (nJ q l>=0)=l.any q:=by
 unfold nJ;cases h:l.findIdx? q with
 |none=>
  rw[abM]at h;have:l.any q=false:=by simpa using h
  rw[this];rfl
 |some k=>
  obtain⟨h1,h2,_⟩:=aaN.1 h;have:l.any q=true:=aaM.2 ⟨_,aau h1,h2⟩;rw[this];exact decide_eq_true aG
theorem l118:bs Tryz.prog Tryz.f118=some c118:=by kernel_rfl
theorem l128:bs Tryz.prog Tryz.f128=some c128:=by kernel_rfl
theorem l145:bs Tryz.prog Tryz.f145=some c145:=by kernel_rfl
theorem z6(l:List Obj)(hb:l.length<=4194304)(F:Nat)(q:Obj->Bool)(hF:∀s,s∈l->∀K:CV->Mem->Prop,K (ay (q s)) []->ar Tryz.prog F [s.cv] [] K):body Tryz.prog c128 [cg l,(.rv (.one (.fn F [])))] [] (fun r m=>r=an .i64 (nJ q l)):=by
 refine aO (fun k=>k<=l.length/\∀(j:Nat)s,j<k->l[j]? =some s->q s=false) [0,1,7] (fun k=>[(8,an .i64 (k:Nat))]) (fun _=>[]) (fun k=>l.length-k) 0 ⟨aao _,fun j s h=>absurd h (aaL j)⟩ ?_ (fun k hk=>?_)
 .refine View.o1 0 [] [] ?_
  .exact .nil _
 .refine aB (fun h=>?_) (fun h=>?_)
  .have aC:k<l.length:=by have h:(k:Int)<((l.map Obj.enc).length:Int):=h;rw[aad]at h;omega
   have hg:cy (l.map Obj.enc) (k:Nat)=some (l[k].enc):=by rw[bl,aaf,aab aC];rfl
   refine ag hg ?_;refine hF l[k] (aau aC) _ ?_;refine aE (fun h=>?_) (fun h=>?_)
   .rw[kP aC h hk.2];exact rfl
   .refine⟨k+1,⟨aC,fun j s hj hs=>?_⟩,(show l.length-(k+1)<l.length-k by omega),View.o 0 [] [] ?_ ?_⟩
    .rcases aaq j k with h5|h5
     .exact hk.2 j s h5 hs
     .have:j=k:=om;subst this;rw[aab aC]at hs;cases hs;exact h
    .repeat(first|exact .nil|refine .ap ?_|refine .put (.aQ (aq om).symm) ?_|refine .eq rfl ?_)
    .exact .nil _
  .have ei:¬(k:Int)<((l.map Obj.enc).length:Int):=h;rw[aad]at ei;rw[mC fun j s hs=>hk.2 j s (by have:=(aac.1 hs).1;omega) hs]
   exact rfl
theorem EJ(l:List Obj)(hb:l.length<=4194304)(F:Nat)(q:Obj->Bool)(hF:∀s,s∈l->∀K:CV->Mem->Prop,K (ay (q s)) []->ar Tryz.prog F [s.cv] [] K){m:Mem}{K:CV->Mem->Prop}(h:K (an .i64 (nJ q l)) m):ar Tryz.prog 128 [cg l,.rv (.one (.fn F []))] m K:=
 bm Tryz.func128 l128 rfl (aak rfl) (z6 l hb F q hF) rfl rfl h
theorem R5(s:Obj)(K:CV->Mem->Prop)(h:K (ay (s.ah==0)) []):ar Tryz.prog 145 [s.cv] [] K:=
 bm Tryz.func145 l145 rfl (aak rfl) (show body Tryz.prog c145 [s.cv] [] (fun r m=>r=ay (s.ah==0))from rfl) rfl rfl h
theorem G4(l:List Obj)(hf:jZ l){m:Mem}{K:CV->Mem->Prop}(h:K (.rv (.one (.row m.length 9 0 none))) (m++ [.row 9 (af (l.map Obj.enc)),.bh])):ar Tryz.prog 105 [cg l] m K:=by
 refine vN l hf l.length ?_;have h1:zZ l l.length l.length= .bh:=by
  have:Nat.blt l.length l.length=false:=by
   cases hb:Nat.blt l.length l.length with
   |false=>rfl
   |true=>rw[abe]at hb;omega
  simp only[zZ,this]
 rw[pQ _ _ _ _ (.inr om),h1];exact h
def cH(n:Int):RV:= .one (.aa (.val (.int .i64 n)))
def aK(l:List Obj)(o:Obj):List Obj×Int×Int:=
 match l.findIdx? (fun x=>x.ah==0)with
 |some k=>(l.set k o,k,0)
 |none=>if l.length>=40 then([],0,15)else(l++ [o],l.length,0)
def QL(l:List Obj)(o:Obj)(r:CV)(m:Mem):Prop:=
 ((aK l o).2.2=15/\r= .bF [.one .aI,cH (aK l o).2.1,cH (aK l o).2.2]/\m=[])\/
 ((aK l o).2.2=0/\r= .bF [.one (.row 0 9 0 none),cH (aK l o).2.1,cH (aK l o).2.2]/\m=[.row 9 (af ((aK l o).1.map Obj.enc))])
theorem yR(l:List Obj)(k:Nat)(o:Obj):(af (l.map Obj.enc)).set k (o.enc.map .aa)=af ((l.set k o).map Obj.enc):=by simp[af,aa6]
theorem yS(l:List Obj){k:Nat}(h:k<l.length):df (af (l.map Obj.enc)) k=some (l[k].enc.map .aa):=by rw[aX];simp[af,h]
theorem IL(l:List Obj)(hf:jZ l)(o:Obj):body Tryz.prog c118 [cg l,o.cv] [] (fun r m=>∃r' m',View 0 ⟨[r],m⟩ ⟨[r'],m'⟩/\QL l o r' m'):=by
 have hl:=hf.1;refine EJ l hl 145 (fun x=>x.ah==0) (fun s _ K hs=>R5 s K hs) ?_
 have hlen:(af (l.map Obj.enc)).length=l.length:=by simp[af]
 cases hk:l.findIdx? (fun x=>x.ah==0)with
 |some k=>
  have hi:nJ (fun x:Obj=>x.ah==0) l=(k:Int):=by rw[nJ,hk]
  have fP:k<l.length:=(aaN.1 hk).1;have hm:aK l o=(l.set k o,(k:Int),0):=by rw[aK,hk]
  rw[hi];refine G4 l hf ?_;refine dZ (by simp[hlen,lenOf];omega) ?_
  refine ag (bT (k:=k) (by simp[hlen,lenOf];omega)) ?_
  refine ag (x:=l[k].enc.map .aa) (by simpa[ii]using yS l fP) ?_
  refine⟨.bF [.one (.row 0 9 0 none),cH k,cH 0],[.row 9 (af ((l.set k o).map Obj.enc))],View.o 3 [1] [] ?_ ?_,.inr ?_⟩
  .exact .eq rfl .nil
  .refine .pt rfl rfl (.bV ?_) (.nil _);rw[<-yR];simp[bn,ii,Obj.enc]
  .rw[hm];exact⟨rfl,rfl,rfl⟩
 |none=>
  have hi:nJ (fun x:Obj=>x.ah==0) l= -1:=by rw[nJ,hk]
  rw[hi];refine aB (fun h=>?_) (fun h=>?_)
  .have h:l.length>=40:=by have h:(((l.map Obj.enc).length:Nat):Int)>=40:=h;rw[aad]at h;omega
   have hm:aK l o=([],0,15):=by rw[aK,hk];simp only;rw[if_pos h]
   refine⟨.bF [.one .aI,cH 0,cH 15],[],View.o 1 [] [] ?_ (.nil _),.inl ?_⟩
   .exact .eq rfl .nil
   .rw[hm];exact⟨rfl,rfl,rfl⟩
  .have h:¬l.length>=40:=by have h:¬(((l.map Obj.enc).length:Nat):Int)>=40:=h;rw[aad]at h;omega
   have hm:aK l o=(l++ [o],(l.length:Int),0):=by rw[aK,hk];simp only;rw[if_neg h]
   refine G4 l hf ?_;refine cF (by simp[hlen,lenOf]) ?_
   refine⟨by simp[hlen,cw];omega,?_⟩
   have Kj:(l.map Obj.enc).length=l.length:=aG;refine ag (bT (k:=(l.map Obj.enc).length) (by simp[hlen,lenOf,cw])) ?_
   refine ag (x:=[.aa (.val (.int .i64 0)),.aI,.aI,.aa (.val (.string ⟨#[]⟩)),.aa (.val (.int .i64 0)),.aI,.aa (.val (.int .i64 0)),.aa (.val (.int .i64 0)),.aa (.val (.int .i64 0))]) (by simp[aX,hlen,cw,ii]) ?_
   refine⟨.bF [.one (.row 0 9 0 none),cH (((l.map Obj.enc).length:Nat):Int),cH 0],[.row 9 (af ((l++ [o]).map Obj.enc))],View.o 5 [4] [] ?_ ?_,.inr ?_⟩
   .exact .eq rfl .nil
   .refine .pt rfl rfl (.bV ?_) (.nil _);rw[aaU,cD];simp only[bn,ii,cw];rw[Kj,<-hlen];rw[aco _ _ (aaj _),ab9];rfl
   .rw[hm];refine⟨rfl,?_,rfl⟩;rw[Kj]
theorem yT(l:List Obj)(hf:jZ l)(o:Obj):ar Tryz.prog 118 [cg l,o.cv] [] (QL l o):=
 bN (aZ Tryz.func118 l118 (IL l hf o)) fun r m1⟨r',m',hv,hp⟩=>⟨r',m',hv,hp⟩
def mD(l:List Obj):RV:= .one (.aa (cX l))
theorem lX{m:Mem}{a b c d:RV}{x:Int}(h:eP m a b)(hc:eP m c d):cJ m (.bF [a,c,cH x]) (.bF [b,d,cH x]):=by
 refine .bF rfl fun i r r' h1 h2=>?_
 match i,h1,h2 with
 |0,h1,h2=>cases h1;cases h2;exact h
 |1,h1,h2=>cases h1;cases h2;exact hc
 |2,h1,h2=>cases h1;cases h2;exact eP.self rfl
theorem z7(l:List Obj)(hf:jZ l)(o:Obj){m:Mem}{K:CV->Mem->Prop}(h:K (.bF [mD (aK l o).1,cH (aK l o).2.1,cH (aK l o).2.2]) m):ar Tryz.prog 118 [cg l,o.cv] m K:=by
 refine bb (yT l hf o) (by simp[cg,Obj.cv,CV.dx,CC.dx,RV.dx]) fun r m1 hp=>?_
 rcases hp with⟨h1,rfl,rfl⟩|⟨h1,rfl,rfl⟩
 .have h2:(aK l o).1=[]:=by
   unfold aK at h1⊢;split at h1
   .simp at h1
   .split at h1
    .rename_i hc;rw[if_pos hc]
    .simp at h1
  refine⟨_,lX (.one (.aI 9)) (eP.self rfl),?_⟩;rw[h2]at h;exact h
 .refine⟨_,lX (.one (eI.eE rfl 0 none)) (eP.self rfl),?_⟩;exact h
theorem LH(l:List Obj)(hf:jZ l)(o:Obj){m:Mem}{K:CV->Mem->Prop}(h1:(aK l o).2.2=15->K (.bF [.one .aI,cH (aK l o).2.1,cH (aK l o).2.2]) m)(h2:(aK l o).2.2=0->K (.bF [.one (.row m.length 9 0 none),cH (aK l o).2.1,cH (aK l o).2.2]) (m++ [.row 9 (af ((aK l o).1.map Obj.enc))])):ar Tryz.prog 118 [cg l,o.cv] m K:=by
 refine bC [] m.length rfl rfl rfl rfl rfl (fun i b' hi=>by simp at hi) (yT l hf o) (fun r m1 hp=>⟨aao _,?_⟩)
 rcases hp with⟨e1,rfl,rfl⟩|⟨e1,rfl,rfl⟩
 .have:=h1 e1;show K _ (iI m []);rw[cr,abI];exact this
 .have:=h2 e1;show K _ (iI m [Bk.aQ _ _]);rw[cr,Bk.kn];exact this
def c78:LF:= ⟨41,[.tmp 2,.cell true 2 3,.tmp 4],(.seq (.ai [qu 2 (.aD qe),qu 3 (.alloc [(qd 0),(qd 0)]),qu 4 (.aD (qi 0))]) (.seq (.ai [qm 10 0,qu 11 (.build [(qd 0),.aI,.aI,(.aa (.val (.string ⟨#[]⟩))),(qd 0),.aI,(qd 0),(qd 0),(qd 0)] [(0,1,(qi 4)),(4,1,(qi (-1))),(6,1,(qi (-1)))]),qu 12 (qc 118 [10,11]),qm 9 12,qu 13 (.ext 9 0),qu 14 (.ext 9 1),qu 15 (.ext 9 2),qm 5 13,qm 6 14,qm 7 15]) (.seq (.seq (.ai [qm 16 7,qu 17 (.aF .neq 16 (qi 0))]) (.cond 17 (.seq (.ai [qu 18 (.build [(qd 0),(qd 0)] []),qm 19 7,qu 2 (.aD qe),qw (.store 2 3 18),qm 4 19]) .ret) .skip)) (.seq (.ai [qm 21 5,qm 22 6,qu 23 (.build [(qd 0),.aI,.aI,(.aa (.val (.string ⟨#[]⟩))),(qd 0),.aI,(qd 0),(qd 0),(qd 0)] [(0,1,(qi 4)),(4,1,22),(6,1,(qi (-1)))]),qu 24 (qc 118 [21,23]),qm 20 24,qu 25 (.ext 20 0),qu 26 (.ext 20 1),qu 27 (.ext 20 2),qm 5 25,qm 8 26,qm 7 27]) (.seq (.seq (.ai [qm 28 7,qu 29 (.aF .neq 28 (qi 0))]) (.cond 29 (.seq (.ai [qu 30 (.build [(qd 0),(qd 0)] []),qm 31 7,qu 2 (.aD qe),qw (.store 2 3 30),qm 4 31]) .ret) .skip)) (.seq (.ai [qm 32 5,qm 33 6,qm 34 8,qu 35 (.bO 9 32 33),qf 36 4 35,qw (.store 1 36 34)]) (.seq (.ai [qm 37 5,qm 38 6,qm 39 8,qu 40 (.build [(qd 0),(qd 0)] [(0,1,38),(1,1,39)]),qm 2 37,qw (.store 2 3 40),qu 4 (.aD (qi 0))]) .ret)))))))⟩
theorem G5{l:List Obj}{o:Obj}(h:(aK l o).2.2=0):∃k:Nat,(aK l o).2.1=k/\k<(aK l o).1.length/\(aK l o).1[k]? =some o/\l.length<=(aK l o).1.length/\(∀j,j≠k->j<l.length->(aK l o).1[j]? =l[j]?):=by
 unfold aK at h⊢;split
 .rename_i k hk;have fP:k<l.length:=(aaN.1 hk).1;exact⟨k,rfl,by simpa using fP,by simp[fP],aG,fun j hj mU=>by simp[aaQ,Ne.symm hj]⟩
 .rename_i hk;rw[hk]at h;simp only at h;split at h
  .simp at h
  .rename_i hc;rw[if_neg hc];exact⟨l.length,rfl,aG,aG,aG,fun j hj mU=>by simp[aar mU]⟩
theorem LI{l:List Obj}{o:Obj}(hf:jZ l)(ho:o.mP):jZ (aK l o).1:=by
 unfold aK;split
 .refine⟨by simpa using hf.1,fun x hx=>?_⟩
  rcases aaI hx with h|rfl
  .exact hf.2 x h
  .exact ho
 .split
  .exact⟨aG,aG⟩
  .refine⟨by simp;omega,fun x hx=>?_⟩
   rcases abf.1 hx with h|h
   .exact hf.2 x h
   .simp at h;subst h;exact ho
def bR(p:Int):Obj:=⟨4,[],[],⟨#[]⟩,p,[],-1,0,0⟩
theorem LJ(p:Int):(bR p).mP:=by simp[Obj.mP,bR]
def lL(l:List Obj)(k:Nat)(b:Int):List Obj:=match l[k]? with|some o=>l.set k {o with aJ:=b}|none=>l
def fp(l:List Obj):List Obj×(Int×Int)×Int:=
 if(aK l (bR (-1))).2.2≠0 then([],(0,0),(aK l (bR (-1))).2.2)
 else if(aK (aK l (bR (-1))).1 (bR (aK l (bR (-1))).2.1)).2.2≠0 then([],(0,0),(aK (aK l (bR (-1))).1 (bR (aK l (bR (-1))).2.1)).2.2)
 else(lL (aK (aK l (bR (-1))).1 (bR (aK l (bR (-1))).2.1)).1 (aK l (bR (-1))).2.1.toNat (aK (aK l (bR (-1))).1 (bR (aK l (bR (-1))).2.1)).2.1,((aK l (bR (-1))).2.1,(aK (aK l (bR (-1))).1 (bR (aK l (bR (-1))).2.1)).2.1),0)
def U3(x:Int×Int):RV:= .agg [.aa (.val (.int .i64 x.1)),.aa (.val (.int .i64 x.2))]
theorem l78:bs Tryz.prog Tryz.f78=some c78:=by kernel_rfl
theorem G6(a b:CV)(p:Int):kO [a,.rv (.agg [.aa (.val (.int .i64 4)),.aI,.aI,.aa (.val (.string ⟨#[]⟩)),.aa (.val (.int .i64 p)),.aI,.aa (.val (.int .i64 (-1))),.aa (.val (.int .i64 0)),.aa (.val (.int .i64 0))])] [a,(bR p).cv]:=
 .dK _ (.agg (.cons (.dK _) (.cons (.aI 1) (.cons (.aI 2) (.cons (.dK _) (.cons (.dK _) (.cons (.aI 4) (.cons (.dK _) (.cons (.dK _) (.cons (.dK _) .nil))))))))) .nil)
theorem IM(l:List Obj)(hf:jZ l):body Tryz.prog c78 [cg l] [] (fun r m=>cJ m r (.bF [mD (fp l).1,U3 (fp l).2.1,cH (fp l).2.2])):=by
 refine mz (G6 _ (.ap) _) (z7 l hf (bR (-1)) ?_);have hp:fp l=if(aK l (bR (-1))).2.2≠0 then([],(0,0),(aK l (bR (-1))).2.2)
   else if(aK (aK l (bR (-1))).1 (bR (aK l (bR (-1))).2.1)).2.2≠0 then([],(0,0),(aK (aK l (bR (-1))).1 (bR (aK l (bR (-1))).2.1)).2.2)
   else(lL (aK (aK l (bR (-1))).1 (bR (aK l (bR (-1))).2.1)).1 (aK l (bR (-1))).2.1.toNat (aK (aK l (bR (-1))).1 (bR (aK l (bR (-1))).2.1)).2.1,((aK l (bR (-1))).2.1,(aK (aK l (bR (-1))).1 (bR (aK l (bR (-1))).2.1)).2.1),0):=rfl
 have jr:=LI (o:=bR (-1)) hf (LJ _);generalize hx:aK l (bR (-1))=x at hp jr;obtain⟨l1,a,e1⟩:=x;have jr:jZ l1:=jr;refine br (fun h=>?_) (fun h=>?_)
 .have h:e1≠0:=h;rw[hp];simp only;rw[if_pos h];exact lX (.one (.aI 9)) (eP.self rfl)
 .have h:e1=0:=h;subst h;have IA:=G5 (l:=l) (o:=bR (-1)) (by rw[hx])
  rw[hx]at IA;obtain⟨ka,Og,U4,acv,acw,_⟩:=IA;have Og:a=(ka:Int):=Og;have U4:ka<l1.length:=U4;subst Og;simp only[ne_eq,not_true,if_false,aaw]at hp;refine mz (G6 _ (.ap) _) (LH l1 jr (bR ka) (fun h=>?_) (fun h=>?_))
  .rw[h]at hp;rw[h,hp];exact lX (.one (.aI 9)) (eP.self rfl)
  .have IA:=G5 (l:=l1) (o:=bR ka) h;generalize hy:aK l1 (bR ka)=y at hp IA h;obtain⟨l2,b,e2⟩:=y;have h:e2=0:=h;subst h;obtain⟨kb,W5,acx,acy,U5,_⟩:=IA;have U5:l1.length<=l2.length:=U5;have aC:ka<l2.length:=om;have hlen:(af (l2.map Obj.enc)).length=l2.length:=by simp[af]
   refine ag (bT (k:=ka) (by simpa[hlen,lenOf]using aC)) ?_
   refine ag (x:=l2[ka].enc.map .aa) (by simpa[ii]using yS l2 aC) ?_
   have jU:ba (af (l2.map Obj.enc)) (ii 0 ka) (({l2[ka]with aJ:=b}:Obj).enc.map .aa)=af ((lL l2 ka b).map Obj.enc):=by rw[bn];simp only[lL,aab aC];rw[<-yR];simp[ii]
   have eO:some (Bk.row 9 (ba (af (l2.map Obj.enc)) (ii 0 ka) (({l2[ka]with aJ:=b}:Obj).enc.map .aa)))=some (Bk.row 9 (af ((lL l2 ka b).map Obj.enc))):=by rw[jU]
   rw[hp];exact lX (.one (eI.eE eO 0 none)) (eP.self rfl)
theorem OT(l:List Obj)(hf:jZ l){m:Mem}{K:CV->Mem->Prop}(h:K (.bF [mD (fp l).1,U3 (fp l).2.1,cH (fp l).2.2]) m):ar Tryz.prog 78 [cg l] m K:=
 bb (aZ Tryz.func78 l78 (IM l hf)) (by simp[cg,CV.dx,CC.dx]) fun r m1 UT=>⟨_,UT,h⟩
def c81:LF:= ⟨80,[.tmp 6,.tmp 7],(.seq (.ai [qu 5 (.box 2),qu 6 (.aD qe),qu 7 (.aD (qi 0))]) (.seq (.seq (.ai [qm 10 1,qu 11 (.aF .lss 10 (qi 0)),qm 12 11,qg 13 (.aD 1) 12 false,qg 14 (.aD 0) 12 false,qg 15 (.len 1 14) 12 false,qg 16 (.aF .geq 13 15) 12 false,qu 17 (.pick 12 (qb true) 16),qm 18 17,qg 19 (.aD 0) 18 false,qg 20 (.aD 1) 18 false,qg 21 (.bO 9 19 20) 18 false,qg 22 (.bg 0 21) 18 false,qg 23 (.load false 1 22) 18 false,qg 24 (.aF .neq 23 (qi 4)) 18 false,qu 25 (.pick 18 (qb true) 24)]) (.cond 25 (.seq (.ai [qu 6 (.aD qe),qu 7 (.aD (qi 8))]) .ret) .skip)) (.seq (.ai [qm 26 0,qm 27 1,qu 28 (.bO 9 26 27),qf 29 4 28,ql 30 29,qm 8 30]) (.seq (.block 0 (.seq (.ai [qm 32 8,qu 33 (.aF .lss 32 (qi 0)),qm 34 33,qg 35 (.aD 8) 34 false,qg 36 (.aD 0) 34 false,qg 37 (.len 1 36) 34 false,qg 38 (.aF .geq 35 37) 34 false,qu 39 (.pick 34 (qb true) 38),qm 40 39,qg 41 (.aD 0) 40 false,qg 42 (.aD 8) 40 false,qg 43 (.bO 9 41 42) 40 false,qg 44 (.bg 0 43) 40 false,qg 45 (.load false 1 44) 40 false,qg 46 (.aF .neq 45 (qi 4)) 40 false,qu 47 (.pick 40 (qb true) 46),qm 31 47]) (.cond 31 (.seq (.ai [qu 6 (.aD qe),qu 7 (.aD (qi 17))]) .ret) (.seq (.ai [qf 49 0 5,ql 50 49,qu 51 (.len 1 50),qu 52 (.aF .gtr 51 (qi 60)),qm 48 52]) (.cond 48 (.seq (.ai [qu 6 (.aD qe),qu 7 (.aD (qi 4))]) .ret) (.seq (.ai [qm 54 0,qm 55 8,qu 56 (.bO 9 54 55),qf 57 5 56,ql 58 57,qu 59 (.len 1 58),qu 60 (.aF .geq 59 (qi 4)),qm 53 60]) (.cond 53 (.seq (.ai [qu 6 (.aD qe),qu 7 (.aD (qi 15))]) .ret) .skip))))))) (.seq (.ai [qm 61 0,qu 62 (qc 105 [61]),qm 9 62]) (.seq (.ai [qf 63 0 5,ql 64 63,qu 65 (qc 104 [64]),qf 66 0 5,qw (.store 1 66 65)]) (.seq (.bQ [qm 67 9,qm 68 8,qm 69 9,qm 70 8,qu 71 (.bO 9 69 70),qf 72 5 71,ql 73 72,qL 74 4 5,qu 75 (.mh 4 [.aI,(.aa (.val (.bool false))),(qd 0),(qd 0)] 1 [(0,74)]),qu 76 (.nO 4 48 73 75),qu 77 (.bO 9 67 68),qf 78 5 77,qw (.store 1 78 76)] [(.cons 0 none (.cons 1 none (.cons 2 none (.cons 3 none (.cons 4 none (.cons 5 none (.cons 6 none (.cons 7 none (.cons 8 (some [6,4]) (.cons 9 (some []) (.cons 10 none (.cons 11 none (.cons 12 (some []) .nil)))))))))))))]) (.seq (.ai [qm 79 9,qm 6 79,qu 7 (.aD (qi 0))]) .ret))))))))⟩
def IN(o:Obj)(c:CC):List CC:=[.aa (.val (.int .i64 o.ah)),.aa (.sl 1 o.data),.aa (.sl 2 o.ak),.aa (.val (.string o.target)),.aa (.val (.int .i64 o.aJ)),c,.aa (.val (.int .i64 o.aL)),.aa (.val (.int .i64 o.am)),.aa (.val (.int .i64 o.up))]
theorem Cf{l:List Obj}{p Q:Nat}{q:Obj}(h:l[p]? =some q):df (eD p Q 0 l) p=some (IN q (.row Q 4 0 none)):=by rw[aX,sx,h];simp[re,IN]
theorem LK{l:List Obj}{p:Nat}{q:Obj}(h:l[p]? =some q):zZ l p l.length= .row 4 (af (q.aj.map bw.enc)):=by
 have hp:=(aac.1 h).1;have:Nat.blt p l.length=true:=by rw[abe];exact hp
 simp only[zZ,this,Yz,h]
theorem G7{m:Mem}{Z:Nat->Prop}{id p Q:Nat}{l:List Obj}{q:Obj}{c:CC}(hz:Z id)(hb:m[id]? =some (.row 9 (ba (eD p Q 0 l) p (IN q c))))(hc:dP m Z (some id) c (.sl 4 (q.aj.map bw.enc))):
  dP m Z none (.row id 9 0 none) (.sl 9 ((l.set p q).map Obj.enc)):=by
 have key:∀(i:Nat)cs es,(ba (eD p Q 0 l) p (IN q c))[i]? =some cs->((l.set p q).map Obj.enc)[i]? =some es->(cs=IN q c/\es=q.enc)\/∃o:Obj,cs=o.enc.map .aa/\es=o.enc:=by
  intro i cs es h1 h2;rw[bn,aaQ]at h1;rw[aaf,aaQ]at h2;by_cases hi:p=i
  .subst hi;rw[if_pos rfl]at h1 h2;split at h1
   .cases h1;split at h2
    .cases h2;exact .inl ⟨rfl,rfl⟩
    .cases h2
   .cases h1
  .rw[if_neg hi]at h1 h2;rw[sx]at h1;cases ho:l[i]? with
   |none=>rw[ho]at h1;cases h1
   |some o=>
    rw[ho]at h1 h2;cases h1;cases h2;refine .inr ⟨o,?_,rfl⟩;simp only[re,aaS,if_neg (Ne.symm hi)];rfl
 refine .row id 9 0 none _ ((l.set p q).map Obj.enc) hz hb (by rw[bn];simp[mB]) (fun i cs es h1 h2=>?_) (fun i cs es j cc d h1 h2 h3 h4=>?_)
 .rcases key i cs es h1 h2 with⟨rfl,rfl⟩|⟨o,rfl,rfl⟩
  .rfl
  .simp
 .rcases key i cs es h1 h2 with⟨rfl,rfl⟩|⟨o,rfl,rfl⟩
  .match j,h3,h4 with
   |0,h3,h4=>cases h3;cases h4;exact .aa _
   |1,h3,h4=>cases h3;cases h4;exact .aa _
   |2,h3,h4=>cases h3;cases h4;exact .aa _
   |3,h3,h4=>cases h3;cases h4;exact .aa _
   |4,h3,h4=>cases h3;cases h4;exact .aa _
   |5,h3,h4=>cases h3;cases h4;exact hc
   |6,h3,h4=>cases h3;cases h4;exact .aa _
   |7,h3,h4=>cases h3;cases h4;exact .aa _
   |8,h3,h4=>cases h3;cases h4;exact .aa _
   |n+9,h3,h4=>simp[IN]at h3
  .rw[aaf,h4]at h3;cases h3;exact .aa _
def fe(l:List Obj)(e:Int)(m:bw):List Obj×Int:=
 if e<0\/e>=l.length then([],8)else match l[e.toNat]? with
 |none=>([],8)
 |some o=>if o.ah≠4 then([],8)else if o.aJ<0\/o.aJ>=l.length then([],17)else match l[o.aJ.toNat]? with
  |none=>([],17)
  |some q=>if q.ah≠4 then([],17)else if m.data.length>60 then([],4)else if q.aj.length>=4 then([],15)else(l.set o.aJ.toNat {q with aj:=q.aj++ [m]},0)
def LL(l:List Obj)(e:Int):CV:= .bF [mD l,cH e]
theorem j0{m:Mem}{a b:RV}{x:Int}(h:eP m a b):cJ m (.bF [a,cH x]) (.bF [b,cH x]):=by
 refine .bF rfl fun i r r' h1 h2=>?_
 match i,h1,h2 with
 |0,h1,h2=>cases h1;cases h2;exact h
 |1,h1,h2=>cases h1;cases h2;exact eP.self rfl
theorem vw2{σ:Nat->Nat}{m:Mem}{Z:Nat->Prop}{a b:RV}{x:Int}(h:xH σ m Z a b):qv σ m Z (.bF [a,cH x]) (.bF [b,cH x]):=by
 refine .bF rfl fun i r r' h1 h2=>?_
 match i,h1,h2 with
 |0,h1,h2=>cases h1;cases h2;exact h
 |1,h1,h2=>cases h1;cases h2;exact .one (.aQ (.aa _))
theorem l81:bs Tryz.prog Tryz.f81=some c81:=by kernel_rfl
theorem sy(l:List Obj)(hf:jZ l)(e:Int)(msg:bw)(YA:msg.data.length<=4194304):body Tryz.prog c81 [cg l,an .i64 e,msg.cv] [] (fun r m=>∃r' m',View 0 ⟨[r],m⟩ ⟨[r'],m'⟩/\r'=LL (fe l e msg).1 (fe l e msg).2/\m'=[]):=by
 have Kj:(((l.map Obj.enc).length:Nat):Int)=(l.length:Int):=aG;have bad:∀(x:Int),fe l e msg=([],x)->∃r' m',View 0 ⟨[CV.bF [.one .aI,cH x]],[.var (msg.enc.map .aa)]⟩ ⟨[r'],m'⟩/\r'=LL (fe l e msg).1 (fe l e msg).2/\m'=[]:=by intro x hx;refine⟨_,_,View.o 1 [] [] (.put (vw2 (b:=mD []) (.one (.fv (.aI 9)))) .nil) (.nil _),?_,rfl⟩;rw[hx];rfl
 refine aB (fun h=>?_) (fun h1=>?_)
 .exact bad 8 (by rw[fe,if_pos (.inl h)])
 refine aB (fun h=>?_) (fun h2=>?_)
 .exact bad 8 (by rw[fe,if_pos (.inr (by rw[<-Kj];exact h))])
 have h2:¬e>=(l.length:Int):=by rw[<-Kj];exact h2
 obtain⟨k,rfl⟩:∃k:Nat,e=k:=⟨e.toNat,om⟩;have hk:k<l.length:=om;have hi:=aab hk;have oP:fe l (k:Int) msg=if l[k].ah≠4 then(([],8):List Obj×Int)else if l[k].aJ<0\/l[k].aJ>=l.length then([],17)else match l[l[k].aJ.toNat]? with
   |none=>([],17)
   |some q=>if q.ah≠4 then([],17)else if msg.data.length>60 then([],4)else if q.aj.length>=4 then([],15)else(l.set l[k].aJ.toNat {q with aj:=q.aj++ [msg]},0):=by
  rw[fe,if_neg om,aaw,hi]
 have hg:cy (l.map Obj.enc) (k:Nat)=some (l[k].enc):=by rw[bl,aaf,hi];rfl
 generalize l[k]=o at oP hg;obtain⟨ah,data,ak,target,aJ,aj,aL,am,up⟩:=o;have hg:cy (l.map Obj.enc) (k:Nat)=some [.val (.int .i64 ah),.sl 1 data,.sl 2 ak,.val (.string target),.val (.int .i64 aJ),.sl 4 (aj.map bw.enc),.val (.int .i64 aL),.val (.int .i64 am),.val (.int .i64 up)]:=hg;refine ag hg ?_;refine br (fun h=>?_) (fun h3=>?_)
 .exact bad 8 (by rw[oP,if_pos h])
 have h3:ah=4:=h3;rw[if_neg (by simpa using h3)]at oP
 simp only at oP;refine ag hg ?_;refine aB (fun h=>?_) (fun h4=>?_)
 .exact bad 17 (by rw[oP,if_pos (.inl h)])
 refine aB (fun h=>?_) (fun h5=>?_)
 .exact bad 17 (by rw[oP,if_pos (.inr (by rw[<-Kj];exact h))])
 have h5:¬aJ>=(l.length:Int):=by rw[<-Kj];exact h5
 have h4:¬aJ<0:=h4;obtain⟨p,rfl⟩:∃p:Nat,aJ=p:=⟨aJ.toNat,om⟩;have hp:p<l.length:=om;have QM:=aab hp;rw[if_neg om,aaw,QM]at oP;simp only at oP;have ur:cy (l.map Obj.enc) (p:Nat)=some (l[p].enc):=by rw[bl,aaf,QM];rfl
 have IK:=hf.2 _ (aau hp);generalize l[p]=q at oP ur QM IK;have ur:cy (l.map Obj.enc) (p:Nat)=some [.val (.int .i64 q.ah),.sl 1 q.data,.sl 2 q.ak,.val (.string q.target),.val (.int .i64 q.aJ),.sl 4 (q.aj.map bw.enc),.val (.int .i64 q.aL),.val (.int .i64 q.am),.val (.int .i64 q.up)]:=ur;refine ag ur ?_;refine br (fun h=>?_) (fun h6=>?_)
 .exact bad 17 (by rw[oP,if_pos h])
 rw[if_neg (by simpa using h6)]at oP
 refine aB (fun h=>?_) (fun h7=>?_)
 .exact bad 4 (by rw[oP,if_pos (by have h:((msg.data.length:Nat):Int)>60:=h;omega)])
 rw[if_neg (by have h:¬((msg.data.length:Nat):Int)>60:=h7;omega)]at oP
 refine ag ur ?_;refine aB (fun h=>?_) (fun h8=>?_)
 .exact bad 15 (by rw[oP,if_pos (by have h:(((q.aj.map bw.enc).length:Nat):Int)>=4:=h;rw[aad]at h;omega)])
 have h8:¬q.aj.length>=4:=by have h:¬(((q.aj.map bw.enc).length:Nat):Int)>=4:=h8;rw[aad]at h;omega
 rw[if_neg h8]at oP;refine vN l hf p ?_;rw[LK QM];refine hB msg.data YA ?_;have sA:dU (p:Int) (lenOf (eD p 2 0 l).length 0 none)=some p:=bT (by simp[lenOf,mB];omega)
 have nH:=Cf (Q:=2) QM;refine ag sA ?_;refine ag nH ?_;refine⟨⟨ag nH rfl,ag sA rfl,trivial⟩,?_⟩;refine⟨?_,?_⟩
 .show((af (q.aj.map bw.enc)).length+1)*48<=_;simp[af];omega
 refine⟨trivial,?_⟩;refine ag sA ?_;refine ag nH ?_;refine⟨trivial,?_⟩;refine⟨LL (l.set p {q with aj:=q.aj++ [msg]}) 0,[],View.o 5 [] [1,4] (.put (vw2 (.one (.fv ?_))) .nil) (.nil _),?_,rfl⟩
 .refine G7 (p:=p) (Q:=2) (l:=l) (q:={q with aj:=q.aj++ [msg]}) (c:= .row 4 4 0 none) rfl (by rw[<-aX];rfl) ?_
  refine dP.eE (Z:=fun k=>bq [1,4] k=true) (ds:=(q.aj++ [msg]).map bw.enc) rfl ?_ 0 none
  rw[<-aX,aaU,cD];rfl
 .rw[oP]
theorem OU(l:List Obj)(hf:jZ l)(e:Int)(msg:bw)(YA:msg.data.length<=4194304){m:Mem}{K:CV->Mem->Prop}(h:K (LL (fe l e msg).1 (fe l e msg).2) m):ar Tryz.prog 81 [cg l,an .i64 e,msg.cv] m K:=by
 refine bb (K0:=fun r m=>r=LL (fe l e msg).1 (fe l e msg).2/\m=[]) (bN (aZ Tryz.func81 l81 (sy l hf e msg YA)) fun r m1⟨r',m',hv,hp⟩=>⟨r',m',hv,hp⟩) (by simp[cg,an,bw.cv,CV.dx,CC.dx,RV.dx]) fun r m1 hr=>?_
 obtain⟨rfl,rfl⟩:=hr;exact⟨_,cJ.self rfl,h⟩
end Go.Proofs.YtojhmadmlnfpcaaGreatDoor
