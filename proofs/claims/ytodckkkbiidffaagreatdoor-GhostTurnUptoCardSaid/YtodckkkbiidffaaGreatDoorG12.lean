/- Part 12 of 16. -/
import Derived.Test.YtodckkkbiidffaaGreatDoorG11
import Derived.Sort.Grow
import Derived.Test.YtodckkkbiidffaaGreatDoorRows
set_option linter.unusedVariables false
set_option linter.unusedSimpArgs false
set_option maxRecDepth 100000
set_option maxHeartbeats 0
namespace Go.AM
section
variable {P:Program} {U:bF} {m:Mem} {w:World}
theorem yf(w:World)(LR:Nat)(f:Array Value->Array Value){b:Nat}(h:b≠LR):(Sort.mapBlock w LR f).heap[b]? =w.heap[b]? :=by simp only[Sort.mapBlock,abx];rw[if_neg (λe=>h e.symm)]
theorem yg(w:World)(n LR off:Nat)(F:Array Value):eS w (Sort.putRow id (Sort.ahead w n) LR off F) LR:=
 ⟨λb hb=>yf _ _ _ hb,by simp[Sort.putRow,Sort.mapBlock,Sort.ahead],rfl,rfl,rfl⟩
theorem EP{mk:Prop}{w:World}{LR off:Nat}{cur:Array Value}(F:Array Value)(n:Nat)(h:l6 mk w LR cur):l6 mk (Sort.putRow id (Sort.ahead w n) LR off F) LR (Sort.putCells id off F cur):=by
 obtain⟨ty,fr,hb,h1,h2,h3⟩:=h;refine⟨ty,fr,?_,h1,λi hi=>h2 i (by simpa[Sort.putCells]using hi),by simpa[Sort.putCells]using h3⟩
 have aD:LR<w.heap.size:=(aap.1 hb).1;have e:(Sort.ahead w n).heap[LR]? =some (.cells cur ty fr):=hb;simp only[Sort.putRow,Sort.mapBlock,abx,if_true,e,aaz,Sort.onCells]
theorem IC(hM:au U m w){id esz:Nat}{rows mD:List (List CC)}{F:Array Value}(hb:m[id]? =some (.row esz rows))(cH:0<rows.length)(hlen:mD.length=rows.length)(dn:∀cs,cs∈mD->cs.length=esz)(hF:F.size=rows.length*esz)(Pk:∀cs,cs∈mD->∀c,c∈cs->∃d,c= .aa d)(cq:∀(i:Nat)cs(j:Nat)c,mD[i]? =some cs->cs[j]? =some c->bh U w .none c F[i*esz+j]!)(n:Nat)(os:Array Obj):
  au U (m.set id (.row esz mD)) (Sort.grow (Sort.putRow _root_.id (Sort.ahead w n) (U.aH (.al id)).b (U.aH (.al id)).ar F) os)/\
  Ext U m w U (m.set id (.row esz mD)) (Sort.grow (Sort.putRow _root_.id (Sort.ahead w n) (U.aH (.al id)).b (U.aH (.al id)).ar F) os):=by
 have hid:id<m.length:=(I4.1 hb).1;obtain⟨h2,h3,h4,h5,BC⟩:=hM.bk id _ hb;have bc:0<(U.aH (.al id)).cap:=om;obtain⟨cur,bT,h1,hd⟩:=BC bc;have hmul:rows.length*esz<=(U.aH (.al id)).cap*esz:=abh _ om;have V5:∀{i' j' qW e},dM (m.set id (.row esz mD)) id i' j' qW e->False:=by rintro i' j' qW e ⟨b2,fx,gV⟩;rw[Tr hid]at fx;cases fx;obtain⟨XM,eO,lA⟩:=gV.xV;obtain⟨d,hd⟩:=Pk _ (RD eO) _ (RD lA);cases hd
 obtain⟨jc,hX⟩:=hM.KN (zX:= .row esz mD) (w':=Sort.putRow _root_.id (Sort.ahead w n) (U.aH (.al id)).b (U.aH (.al id)).ar F) hb ⟨_,hb,aC,λ_=>bc⟩ (yg w n _ _ F)
  (λg=>⟨by rw[hlen];exact h2,h3,h4,dn,λ_=>⟨_,EP F n bT,by simpa[Sort.putCells]using h1,λi cs j c hi hj=>by
   have na:j<esz:=by rw[<-dn cs (RD hi)];exact(I4.1 hj).1
   have x4:i<rows.length:=by rw[<-hlen];exact(I4.1 hi).1
   have rh:i*esz+j<rows.length*esz:=by have:(i+1)*esz<=rows.length*esz:=abh _ om;rw[abr,abZ]at this;omega
   have ct:=cq i cs j c hi hj;refine⟨F[i*esz+j]!,?_,(bh.cm g aC ct).vH _⟩;have hc:(U.aH (.al id)).ar+i*esz+j<cur.size:=om;simp only[Sort.putCells,Array.getElem?_mapIdx,abK hc,aaz];rw[if_pos om];congr 2;show F[_]! =_;congr 1;omega⟩⟩)
  (λi j e1 e2 h=>(V5 h).elim)
 have hW:eu (Sort.putRow _root_.id (Sort.ahead w n) (U.aH (.al id)).b (U.aH (.al id)).ar F) (Sort.grow (Sort.putRow _root_.id (Sort.ahead w n) (U.aH (.al id)).b (U.aH (.al id)).ar F) os):=
  ⟨λb hb=>Sort.heap_grow_old _ os hb,by simp[Sort.grow],rfl,rfl,rfl⟩
 obtain⟨ED,ow⟩:=jc.LH hW;exact⟨ED,hX.trans ow⟩
end
section
variable {P:Program}
theorem View.ZD{n0:Nat}{e:List CV}{m:Mem}(id j esz n:Nat){cs:List CC}(hn:m.length=n)(hb:cD m id=some (.var cs))(hj:cD cs j=some .aO)(h0:Nat.ble n0 n=true):
  View n0 ⟨e,m⟩ ⟨e,gh (aW m id (.var (aW cs j (.row n esz 0 none)))) [.row esz []]⟩:=by
 subst hn;have h0:=aae h0;rw[aT]at hb hj;rw[a8,a8,bX];have hid:id<m.length:=(I4.1 hb).1;have na:j<cs.length:=(I4.1 hj).1;refine⟨by simp;omega,rfl,λU w hM=>?_⟩
 have hn:U.n=m.length:=hM.n;let U':bF:={n:=m.length+1,aH:=λk=>if k.id=m.length then⟨0,0,0,0⟩else U.aH k,S:=U.S}
 have bM:∀k:fY,k.id<U.n->U'.aH k=U.aH k:=λk hk=>by simp only[U'];rw[if_neg om]
 have g:iz U w U' w:=⟨by show U.n<=m.length+1;omega,bM,λ_ h=>h,λ_ _=>rfl⟩
 have get:∀(k:Nat)b,(m.set id (.var (cs.set j (.row m.length esz 0 none)))++ [Bk.row esz []])[k]? =some b->(k<m.length/\k≠id/\m[k]? =some b)\/(k=id/\b= .var (cs.set j (.row m.length esz 0 none)))\/(k=m.length/\b= .row esz []):=by
  intro k b hk;rcases aad k m.length with h|h
  .rw[Yf (by simpa using h)]at hk
   by_cases Oz:k=id
   .subst Oz;rw[Tr hid]at hk;cases hk;exact .inr (.inl ⟨rfl,rfl⟩)
   .rw[WE (λe=>Oz e.symm)]at hk
    exact .inl ⟨h,Oz,hk⟩
  .have aD:=(I4.1 hk).1;simp at aD;have:k=m.length:=om;subst this;rw[WH aC]at hk;simp at hk;exact .inr (.inr ⟨rfl,hk.symm⟩)
 have bY:∀k,Live U' (m.set id (.var (cs.set j (.row m.length esz 0 none)))++ [.row esz []]) k->Live U m k:=by
  intro k hk;cases k with
  |al i=>
   obtain⟨bk,de,lB,bc⟩:=hk;rcases get i bk de with⟨h1,h2,h3⟩|⟨rfl,rfl⟩|⟨rfl,rfl⟩
   .rw[bM (.al i) (by simp only[fY.id];omega)]at bc
    exact⟨bk,h3,lB,bc⟩
   .exact⟨_,hb,aC,aC⟩
   .have:=bc ⟨_,_,rfl⟩;simp[U',fY.id]at this
  |sub i x y=>
   obtain⟨⟨s,el,b2,de,ho⟩,bc⟩:=hk;rcases get i _ de with⟨h1,h2,h3⟩|⟨rfl,h⟩|⟨rfl,h⟩
   .rw[bM (.sub i x y) (by simp only[fY.id];omega)]at bc
    exact⟨⟨s,el,b2,h3,ho⟩,bc⟩
   .subst h;cases ho
   .subst h;obtain⟨c2,hi,pu⟩:=ho.xV;simp at hi
 have jG:∀k,Live U m k->U'.aH k=U.aH k:=λk hk=>bM k (by rw[hn];exact hk.eC)
 refine⟨U',⟨by simp[U'],hM.S,λk hk=>?_,λk k' hk fU nr=>?_,λi b hbi=>?_,λi x y s el ho bc=>?_⟩,⟨λi hi=>bM (.al i) (by simp only[fY.id];omega),λ_ h=>h,λ_ h=>.inl h,λk hk=>⟨k,bY k hk,(by rw[jG k (bY k hk)])⟩⟩,λi c' hi=>⟨c',hi,λv hd=>bZ.cm g hd⟩⟩
 .rw[jG k (bY k hk)];exact hM.aQ k (bY k hk)
 .rw[jG k (bY k hk),jG k' (bY k' fU)]at nr;exact hM.inj k k' (bY k hk) (bY k' fU) nr
 .rcases get i b hbi with⟨h1,h2,h3⟩|⟨rfl,rfl⟩|⟨rfl,rfl⟩
  .exact(hM.bk i b h3).cm g om λ_ _=>rfl
  .obtain⟨cur,bT,hc⟩:=hM.bk i _ hb;rw[show cI U' w i (.var (cs.set j (.row m.length esz 0 none)))=(∃cur,l6 True w (U'.aH (.al i)).b cur/\∀(j':Nat)c,(cs.set j (.row m.length esz 0 none))[j']? =some c->∃u,cur[(U'.aH (.al i)).ar+j']? =some u/\bh U' w .none c u)from rfl,bM (.al i) (by simp only[fY.id];omega)]
   refine⟨cur,bT,λj' c pu=>?_⟩
   rw[abl]at pu;split at pu
   .rename_i hjj;subst hjj;cases pu;obtain⟨u,hu,hd⟩:=hc j _ hj;obtain⟨a,rfl⟩:=hd;exact⟨_,hu,by simp[bh,U',fY.id]⟩
   .obtain⟨u,hu,hd⟩:=hc j' c pu;exact⟨u,hu,bh.cm g aC hd⟩
  .simp[cI,U',fY.id]
 .have hk:Live U m (.sub i x y):=bY (.sub i x y) ⟨⟨_,_,ho⟩,bc⟩;have pw:=hk.eC;simp only[fY.id]at pw;rw[jG _ hk]at bc|-;obtain⟨b2,de,ho⟩:=ho;rcases get i _ de with⟨h1,h2,h3⟩|⟨rfl,h⟩|⟨rfl,h⟩
  .obtain⟨cur,hc,q1,q2,q3⟩:=hM.dV i x y s el ⟨b2,h3,ho⟩ bc;exact⟨cur,hc,q1,q2,q3⟩
  .subst h;cases ho
  .subst h;obtain⟨c2,hi,pu⟩:=ho.xV;simp at hi
end
end Go.AM
namespace Go.Proofs.YtodckkkbiidffaaGreatDoor
open Proofs.Tryz
open Go.AM Go.ChangeShapes Go.WideShapes Go.ChangeAt Go.RowKit
def c97:LF:= ⟨8,[.tmp 2],(.seq (.ai [qu 2 (.aK qe)]) (.seq (.seq (.ai [qm 3 0,qu 4 (.xW false 3)]) (.cond 4 (.seq (.ai [qu 2 (.aK qe)]) .ret) .skip)) (.seq (.ai [qu 5 (.nC 1 [(.aa (.val (.int .u8 (0))))] 0 []),qm 6 0,qu 7 (.oZ 1 1 5 6),qm 2 7]) .ret)))⟩
def c128:LF:= ⟨8,[.tmp 2],(.seq (.ai [qu 2 (.aK qe)]) (.seq (.seq (.ai [qm 3 0,qu 4 (.xW false 3)]) (.cond 4 (.seq (.ai [qu 2 (.aK qe)]) .ret) .skip)) (.seq (.ai [qu 5 (.nC 2 [(.aa (.val (.string ⟨#[]⟩))),qd 0] 0 []),qm 6 0,qu 7 (.oZ 2 24 5 6),qm 2 7]) .ret)))⟩
theorem ic{n:Int}(h1: -9223372036854775808<=n)(h2:n<=9223372036854775807):IntKind.i64.wrap n=n:=IntWalk.i64_in n om
structure br where
 data:List (List Dt)
 has:Bool
 dP:Int
 b9:Int
def br.enc(m:br):List Dt:=[.sl 1 m.data,.val (.bool m.has),.val (.int .i64 m.dP),.val (.int .i64 m.b9)]
structure Obj where
 ah:Int
 data:List (List Dt)
 ak:List (List Dt)
 target:ByteArray
 aG:Int
 aj:List br
 aA:Int
 am:Int
 up:Int
def Obj.enc(o:Obj):List Dt:=[.val (.int .i64 o.ah),.sl 1 o.data,.sl 2 o.ak,.val (.string o.target),.val (.int .i64 o.aG),.sl 4 (o.aj.map br.enc),.val (.int .i64 o.aA),.val (.int .i64 o.am),.val (.int .i64 o.up)]
def br.cv(m:br):CV:= .rv (.agg (m.enc.map .aa))
def Obj.cv(o:Obj):CV:= .rv (.agg (o.enc.map .aa))
def db(l:List Obj):Dt:= .sl 9 (l.map Obj.enc)
def cz(l:List Obj):CV:= .rv (.one (.aa (db l)))
def Obj.nT(o:Obj):Prop:=o.data.length<=4194304/\o.ak.length<=4194304/\o.aj.length<=4194304/\∀q,q∈o.aj->q.data.length<=4194304
def lG(l:List Obj):Prop:=l.length<=4194304/\∀o,o∈l->o.nT
theorem l97:bu prog f97=some c97:=by kernel_rfl
theorem l128:bu prog f128=some c128:=by kernel_rfl
def rI(esz:Nat)(d:List (List Dt)):CV:= .rv (.one (.aa (.sl esz d)))
theorem Cu(d:List (List Dt))(hb:d.length<=4194304):body prog c97 [rI 1 d] [] (λr m=>cQ m r (rI 1 d)):=by
 have sL:((([]:List (List CC)).length+(d.map λds=>ds.map CC.aa).length)*1)<=140737488355328:=by simp;omega
 refine aM (λh=>?_) (λh=>?_)
 .have hd:d=[]:=aag (by simpa using aai h)
  subst hd;exact⟨.rv (.one (.aO 1)),sL,.rv (.one (eT.eU rfl 0 none))⟩
 .exact⟨sL,.rv (.one (eT.eU rfl 0 none))⟩
theorem ig(d:List (List Dt))(hb:d.length<=4194304){m:Mem}{K:CV->Mem->Prop}(h:K (rI 1 d) m):aq prog 97 [rI 1 d] m K:=
 bg (aY func97 l97 (Cu d hb)) (by simp[rI,CV.du,CC.du]) λr m1 hf=>⟨_,hf,h⟩
theorem Cv(d:List (List Dt))(hb:d.length<=4194304):body prog c128 [rI 2 d] [] (λr m=>cQ m r (rI 2 d)):=by
 have sL:((([]:List (List CC)).length+(d.map λds=>ds.map CC.aa).length)*24)<=140737488355328:=by simp;omega
 refine aM (λh=>?_) (λh=>?_)
 .have hd:d=[]:=aag (by simpa using aai h)
  subst hd;exact⟨.rv (.one (.aO 2)),sL,.rv (.one (eT.eU rfl 0 none))⟩
 .exact⟨sL,.rv (.one (eT.eU rfl 0 none))⟩
theorem tf(d:List (List Dt))(hb:d.length<=4194304){m:Mem}{K:CV->Mem->Prop}(h:K (rI 2 d) m):aq prog 128 [rI 2 d] m K:=
 bg (aY func128 l128 (Cv d hb)) (by simp[rI,CV.du,CC.du]) λr m1 hf=>⟨_,hf,h⟩
def rJ(p Q k:Nat)(o:Obj):List CC:=[.aa (.val (.int .i64 o.ah)),.aa (.sl 1 o.data),.aa (.sl 2 o.ak),.aa (.val (.string o.target)),.aa (.val (.int .i64 o.aG)),
 (if k=p then .row Q 4 0 none else .aa (.sl 4 (o.aj.map br.enc))),.aa (.val (.int .i64 o.aA)),.aa (.val (.int .i64 o.am)),.aa (.val (.int .i64 o.up))]
def ez(p Q:Nat):Nat->List Obj->List (List CC)
 |_,[]=>[]
 |k,o::r=>rJ p Q k o::ez p Q (k+1) r
theorem rK(p Q:Nat):∀(a:List Obj)(k:Nat)(b:List Obj),ez p Q k (a++b)=ez p Q k a++ez p Q (k+a.length) b
 | [],k,b=>rfl
 |o::r,k,b=>by simp[ez,rK p Q r (k+1) b,abo,Nat.add_comm 1]
theorem mO(p Q:Nat):∀(l:List Obj)(k:Nat),(ez p Q k l).length=l.length
 | [],_=>rfl
 |o::r,k=>by simp[ez,mO p Q r (k+1)]
theorem qq(p Q:Nat):∀(l:List Obj)(k:Nat),(p<k\/k+l.length<=p)->ez p Q k l=af (l.map Obj.enc)
 | [],_,_=>rfl
 |o::r,k,h=>by simp only[aah]at h;have hk:¬k=p:=om;simp only[ez,rJ,if_neg hk,qq p Q r (k+1) om];rfl
theorem th(p Q:Nat):∀(l:List Obj)(k i:Nat),(ez p Q k l)[i]? =(l[i]?).map (rJ p Q (k+i))
 | [],k,i=>by simp[ez]
 |o::r,k,0=>by simp[ez]
 |o::r,k,i+1=>by
  simp only[ez,abA,th p Q r (k+1) i];rw[show k+1+i=k+(i+1) by omega]
theorem LS{Y:Nat->Nat}{p Q k:Nat}(o:Obj):(rJ p Q k o).map (CC.aU Y)=rJ p (Y Q) k o:=by
 by_cases h:k=p<;>simp[rJ,h,CC.aU]
theorem kL{Y:Nat->Nat}(p Q:Nat):∀(l:List Obj)(k:Nat),(ez p Q k l).map (λcs=>cs.map (CC.aU Y))=ez p (Y Q) k l
 | [],_=>rfl
 |o::r,k=>by simp only[ez,aa9,kL p Q r (k+1)];rw[LS]
def c98:LF:= ⟨47,[.tmp 2],(.seq (.ai [qu 2 (.aK qe)]) (.seq (.ai [qu 3 (.aK qe)]) (.seq (.seq (.ai [qm 9 0,qu 10 (.len 1 9),qu 11 (.aK (qi 0))]) (.block 0 (.loop (.seq (.ai [qu 12 (.aJ .lss 11 10)]) (.seq (.cond 12 .skip (.exit 0)) (.seq (.block 1 (.seq (.ai [qu 13 (.cw 9 9 11),qL 14 9 13,qu 5 (.alloc [qd 0,.aO,.aO,(.aa (.val (.string ⟨#[]⟩))),qd 0,.aO,qd 0,qd 0,qd 0]),qw (.store 9 5 14)]) (.seq (.bR [qf 15 1 5,ql 16 15,qu 17 (qc 97 [16]),qf 18 2 5,ql 19 18,qu 20 (qc 128 [19]),qf 21 1 5,qw (.store 1 21 17),qf 22 2 5,qw (.store 1 22 20)] [(.cons 0 none (.cons 1 none (.cons 3 none (.cons 4 none (.cons 2 (some [4]) (.cons 6 none (.cons 5 (some []) (.cons 7 (some []) (.cons 8 none (.cons 9 (some []) .nil))))))))))]) (.seq (.ai [qu 6 (.aK qe)]) (.seq (.seq (.ai [qf 23 5 5,ql 24 23,qu 25 (.len 1 24),qu 26 (.aK (qi 0))]) (.block 2 (.loop (.seq (.ai [qu 27 (.aJ .lss 26 25)]) (.seq (.cond 27 .skip (.exit 2)) (.seq (.block 3 (.seq (.ai [qu 28 (.cw 4 24 26),qL 29 4 28,qu 8 (.alloc [.aO,(.aa (.val (.bool false))),qd 0,qd 0]),qw (.store 4 8 29)]) (.seq (.ai [qf 30 0 8,ql 31 30,qu 32 (qc 97 [31]),qf 33 0 8,qw (.store 1 33 32)]) (.ai [qm 34 6,qL 35 4 8,qu 36 (.nC 4 [.aO,(.aa (.val (.bool false))),qd 0,qd 0] 1 [(0,35)]),qu 37 (.oZ 4 48 34 36),qm 6 37])))) (.ai [qu 38 (.aJ .add 26 (qi 1)),qm 26 38]))))))) (.seq (.ai [qm 39 6,qf 40 5 5,qw (.store 1 40 39)]) (.ai [qm 41 3,qL 42 9 5,qu 43 (.nC 9 [qd 0,.aO,.aO,(.aa (.val (.string ⟨#[]⟩))),qd 0,.aO,qd 0,qd 0,qd 0] 1 [(0,42)]),qu 44 (.oZ 9 128 41 43),qm 3 44]))))))) (.ai [qu 45 (.aJ .add 11 (qi 1)),qm 11 45]))))))) (.seq (.ai [qm 46 3,qm 2 46]) .ret))))⟩
def ZE(l:List Obj)(p:Nat):List br:=match l[p]? with|some o=>o.aj|none=>[]
def Ax(l:List Obj)(p k:Nat):Bk:=match Nat.blt p k with|true=>.row 4 (af ((ZE l p).map br.enc))|false=>.aS
theorem vf{Y:Nat->Nat}(l:List Obj)(p k:Nat):(Ax l p k).aU Y=Ax l p k:=by
 unfold Ax;split
 .exact Bk.jk _ _
 .rfl
theorem rL{α:Type}{l:List α}{i:Nat}{s:α}(h:l[i]? =some s):l.take (i+1)=l.take i++ [s]:=by rw[abI,h];rfl
theorem dj(a b:List (List Dt)):af (a++b)=af a++af b:=by simp[af]
theorem wm{p Q:Nat}{l:List Obj}{k:Nat}{o:Obj}(h:l[k]? =some o):ez p Q 0 (l.take (k+1))=ez p Q 0 (l.take k)++ [rJ p Q k o]:=by have hk:=(I4.1 h).1;rw[rL h,rK,aan,acr om,abb];rfl
theorem l98:bu prog f98=some c98:=by kernel_rfl
theorem LU(l:List Obj)(hf:lG l)(p:Nat):body prog c98 [cz l] [] (λr m=>r= .rv (.one (.row 0 9 0 none))/\m=[.row 9 (ez p 1 0 l),Ax l p l.length]):=by
 obtain⟨hl,Ud⟩:=hf;refine bb (λk=>k<=l.length) [0,9,10] (λk=>[(11,an .i64 (k:Nat)),(3,.rv (.one (.row 0 9 0 none)))]) (λk=>[.row 9 (ez p 1 0 (l.take k)),Ax l p k]) (λk=>l.length-k) 0 (aaj _) ?_ (λk hk=>?_)
 .refine View.trans (View.aO 2 4 0 rfl rfl rfl) (View.trans (View.aO 3 9 1 rfl rfl rfl) (View.o1 2 [1,0] [] ?_))
  .exact .put (by simp[bw]) rfl (.eq rfl aC) (.aS (.nil _))
 .refine aL (λh=>?_) (λh=>?_)
  .have aD:k<l.length:=by have h:(k:Int)<((l.map Obj.enc).length:Int):=h;rw[ML]at h;omega
   have hi:=uX aD;have OA:=Ud _ (aal aD);have hg:dx (l.map Obj.enc) (k:Nat)=some (l[k].enc):=by rw[bA,RA,uX aD];rfl
   generalize l[k]=o at hi OA hg;obtain⟨ah,data,ak,target,aG,aj,aA,am,up⟩:=o;obtain⟨LV,Kk,Rg,Kl⟩:=OA;have LV:data.length<=4194304:=LV;have Kk:ak.length<=4194304:=Kk;have Rg:aj.length<=4194304:=Rg;have Kl:∀q,q∈aj->q.data.length<=4194304:=Kl;have hg:dx (l.map Obj.enc) (k:Nat)=some [.val (.int .i64 ah),.sl 1 data,.sl 2 ak,.val (.string target),.val (.int .i64 aG),.sl 4 (aj.map br.enc),.val (.int .i64 aA),.val (.int .i64 am),.val (.int .i64 up)]:=hg;refine ag hg ?_;refine ig data LV ?_;refine⟨⟨rfl,trivial⟩,?_⟩;refine tf ak Kk ?_;refine⟨trivial,?_⟩;refine⟨trivial,?_⟩;refine⟨trivial,?_⟩;refine bb (λj=>j<=aj.length) [0,3,5,9,10,11,24,25] (λj=>[(26,an .i64 (j:Nat)),(6,.rv (.one (.row 3 4 0 none)))])
    (λj=>[.row 9 (ez p 1 0 (l.take k)),Ax l p k,.var ((⟨ah,data,ak,target,aG,aj,aA,am,up⟩:Obj).enc.map .aa),.row 4 (af ((aj.take j).map br.enc))]) (λj=>aj.length-j) 0 (aaj _) ?_ (λj hj=>?_)
   .refine View.trans (View.aO 6 4 3 rfl rfl rfl) (View.o1 4 [0,1,2,3] [] ?_)
    .exact .pt rfl rfl (.eq (congrArg (Bk.row 9) (kL p 1 _ _)) aC) (.fO (dy rfl) rfl (vf l p k) (.pe rfl rfl rfl (.pn rfl rfl rfl)))
   .have hj:j<=aj.length:=hj;refine aL (λh=>?_) (λh=>?_)
    .have d8:j<aj.length:=by have h:(j:Int)<((aj.map br.enc).length:Int):=h;rw[ML]at h;omega
     have yd:=uX d8;have ID:=Kl _ (aal d8);generalize aj[j]=q at yd ID;obtain⟨qd,qh,qo,qr⟩:=q;have BI:dx (aj.map br.enc) (j:Nat)=some [.sl 1 qd,.val (.bool qh),.val (.int .i64 qo),.val (.int .i64 qr)]:=by rw[bA,RA,yd];rfl
     refine ag BI ?_;refine ig qd ID ?_;refine⟨?_,?_⟩
     .show((af ((aj.take j).map br.enc)).length+1)*48<=_;simp[af];omega
     refine⟨j+1,d8,(show aj.length-(j+1)<aj.length-j by omega),View.o 7 [0,1,2,6] [] ?_ ?_⟩
     .repeat(first|exact .nil|refine .ap ?_|refine .put (.aU (aN om).symm) ?_|refine .eq rfl ?_)
     .refine .pt rfl rfl (.eq (congrArg (Bk.row 9) (kL p 1 _ _)) aC) (.fO (dy rfl) rfl (vf l p k) (.pe rfl rfl rfl (.pt rfl rfl (.bI ?_) (.nil _))));rw[rL yd,abw,dj];rfl
    .have d7:¬(j:Int)<((aj.map br.enc).length:Int):=h;rw[ML]at d7;have hq:aj.take j=aj:=abN om;refine⟨?_,?_⟩
     .show((ez p 1 0 (l.take k)).length+1)*128<=_;rw[mO];simp;omega
     by_cases Ic:k=p
     .subst Ic;have hR:∀Q,ez k Q 0 (l.take k)=af ((l.take k).map Obj.enc):=λQ=>qq k Q _ 0 (.inr (by simp;omega))
      have SO:Ax l k (k+1)= .row 4 (af ((aj.take j).map br.enc)):=by
       have:Nat.blt k (k+1)=true:=by rw[abL];omega
       simp only[Ax,this,ZE,hi,hq]
      refine⟨k+1,aD,(show l.length-(k+1)<l.length-k by omega),View.o 6 [5,3] [] ?_ ?_⟩
      .repeat(first|exact .nil|refine .ap ?_|refine .put (.aU (aN om).symm) ?_|refine .eq rfl ?_)
      .rw[wm hi,SO];refine .pt rfl rfl (.IB ?_ rfl ?_) (.pn rfl rfl rfl)
       .rw[kL,hR,hR];rfl
       .intro j c c' h1 h2;have e5:rJ k 1 k ⟨ah,data,ak,target,aG,aj,aA,am,up⟩=[.aa (.val (.int .i64 ah)),.aa (.sl 1 data),.aa (.sl 2 ak),.aa (.val (.string target)),.aa (.val (.int .i64 aG)),.row 1 4 0 none,.aa (.val (.int .i64 aA)),.aa (.val (.int .i64 am)),.aa (.val (.int .i64 up))]:=by simp[rJ]
        rw[e5]at h2
        match j,h1,h2 with
        |0,h1,h2=>cases h1;cases h2;exact .aU (.aa _)
        |1,h1,h2=>cases h1;cases h2;exact .aU (.aa _)
        |2,h1,h2=>cases h1;cases h2;exact .aU (.aa _)
        |3,h1,h2=>cases h1;cases h2;exact .aU (.aa _)
        |4,h1,h2=>cases h1;cases h2;exact .aU (.aa _)
        |5,h1,h2=>cases h1;cases h2;exact .aU (.row 1 4 0 none)
        |6,h1,h2=>cases h1;cases h2;exact .aU (.aa _)
        |7,h1,h2=>cases h1;cases h2;exact .aU (.aa _)
        |8,h1,h2=>cases h1;cases h2;exact .aU (.aa _)
        |n+9,h1,h2=>simp at h1
     .have SO:Ax l p (k+1)=Ax l p k:=by
       have:Nat.blt p (k+1)=Nat.blt p k:=by rw[acZ,abL,abL];omega
       simp only[Ax,this]
      refine⟨k+1,aD,(show l.length-(k+1)<l.length-k by omega),View.o 6 [5,1] [3] ?_ ?_⟩
      .repeat(first|exact .nil|refine .ap ?_|refine .put (.aU (aN om).symm) ?_|refine .eq rfl ?_)
      .rw[wm hi,SO];refine .pt rfl rfl (.IB (kL p 1 _ _) rfl ?_) (.fO (dy rfl) rfl (vf l p k) (.nil _));intro j' c c' h1 h2;have e5:rJ p 1 k ⟨ah,data,ak,target,aG,aj,aA,am,up⟩=[.aa (.val (.int .i64 ah)),.aa (.sl 1 data),.aa (.sl 2 ak),.aa (.val (.string target)),.aa (.val (.int .i64 aG)),.aa (.sl 4 ((aj.take j).map br.enc)),.aa (.val (.int .i64 aA)),.aa (.val (.int .i64 am)),.aa (.val (.int .i64 up))]:=by simp[rJ,Ic,hq]
       rw[e5]at h2
       match j',h1,h2 with
       |0,h1,h2=>cases h1;cases h2;exact .aU (.aa _)
       |1,h1,h2=>cases h1;cases h2;exact .aU (.aa _)
       |2,h1,h2=>cases h1;cases h2;exact .aU (.aa _)
       |3,h1,h2=>cases h1;cases h2;exact .aU (.aa _)
       |4,h1,h2=>cases h1;cases h2;exact .aU (.aa _)
       |5,h1,h2=>cases h1;cases h2;exact .fy (dO.eU (Z:=λk=>bw [3] k=true) rfl (by rw[<-aT];rfl) 0 none)
       |6,h1,h2=>cases h1;cases h2;exact .aU (.aa _)
       |7,h1,h2=>cases h1;cases h2;exact .aU (.aa _)
       |8,h1,h2=>cases h1;cases h2;exact .aU (.aa _)
       |n+9,h1,h2=>simp at h1
  .have d7:¬(k:Int)<((l.map Obj.enc).length:Int):=h;rw[ML]at d7;have f8:k=l.length:=by have:k<=l.length:=hk;omega
   subst f8;rw[abe];exact⟨rfl,rfl⟩
theorem wn(l:List Obj)(hf:lG l)(p:Nat){m:Mem}{K:CV->Mem->Prop}(h:K (.rv (.one (.row m.length 9 0 none))) (m++ [.row 9 (ez p (m.length+1) 0 l),Ax l p l.length])):aq prog 98 [cz l] m K:=by
 refine bq [] m.length rfl rfl rfl rfl rfl (λi b' hi=>by simp at hi) (aY func98 l98 (LU l hf p)) (λr m1 hr=>?_)
 obtain⟨h1,h2⟩:=hr;subst h1;subst h2;refine⟨aaj _,?_⟩;show K (.rv (.one (.row (m.length+(0-0)) 9 0 none))) (gh m [.row 9 ((ez p 1 0 l).map (λcs=>cs.map (CC.aU (sg [] m.length)))),(Ax l p l.length).aU (sg [] m.length)])
 rw[kL,vf,bX];exact h
def c111:LF:= ⟨34,[.tmp 4,.tmp 5,.tmp 6],(.seq (.ai [qu 3 (.box 1),qu 4 (.aK qe),qu 5 (.aK (qi 0)),qu 6 (.aK (qi 0))]) (.seq (.ai [qm 9 0,qu 10 (qc 121 [9,(.c (.rv (.one (.fn 138 []))))]),qm 7 10]) (.seq (.seq (.ai [qm 11 7,qu 12 (.aJ .lss 11 (qi 0))]) (.cond 12 (.seq (.seq (.ai [qm 13 0,qu 14 (.len 1 13),qu 15 (.aJ .geq 14 (qi 40))]) (.cond 15 (.seq (.ai [qu 4 (.aK qe),qu 5 (.aK (qi 0)),qu 6 (.aK (qi 15))]) .ret) .skip)) (.ai [qm 16 0,qu 17 (.len 1 16),qm 7 17])) .skip)) (.seq (.ai [qm 18 0,qu 19 (qc 98 [18]),qm 8 19]) (.seq (.seq (.ai [qm 20 7,qm 21 8,qu 22 (.len 1 21),qu 23 (.aJ .eql 20 22)]) (.cond 23 (.ai [qm 24 8,qu 25 (.build [qd 0,.aO,.aO,(.aa (.val (.string ⟨#[]⟩))),qd 0,.aO,qd 0,qd 0,qd 0] []),qu 26 (.nC 9 [qd 0,.aO,.aO,(.aa (.val (.string ⟨#[]⟩))),qd 0,.aO,qd 0,qd 0,qd 0] 1 [(0,25)]),qu 27 (.oZ 9 128 24 26),qm 8 27]) .skip)) (.seq (.ai [qm 28 8,qm 29 7,qL 30 9 3,qu 31 (.cw 9 28 29),qw (.store 9 31 30)]) (.seq (.ai [qm 32 8,qm 33 7,qm 4 32,qm 5 33,qu 6 (.aK (qi 0))]) .ret)))))))⟩
def c121:LF:= ⟨19,[.tmp 4],(.seq (.ai [qu 4 (.aK (qi 0))]) (.seq (.seq (.ai [qm 6 0,qu 7 (.len 1 6),qu 8 (.aK (qi 0))]) (.block 0 (.loop (.seq (.ai [qu 9 (.aJ .lss 8 7)]) (.seq (.cond 9 .skip (.exit 0)) (.seq (.block 1 (.seq (.ai [qm 10 8,qm 5 10]) (.seq (.ai [qm 11 1,qm 12 0,qm 13 5,qu 14 (.cw 9 12 13),qL 15 9 14,qu 16 (.call 11 [15])]) (.cond 16 (.seq (.ai [qm 17 5,qm 4 17]) .ret) .skip)))) (.ai [qu 18 (.aJ .add 8 (qi 1)),qm 8 18]))))))) (.seq (.ai [qu 4 (.aK (qi (-1)))]) .ret)))⟩
def c138:LF:= ⟨6,[.tmp 2],(.seq (.ai [qu 1 (.box 0),qu 2 (.aK (qb false))]) (.seq (.ai [qf 3 0 1,ql 4 3,qu 5 (.aJ .eql 4 (qi 0)),qm 2 5]) .ret))⟩
def nU{α:Type}(q:α->Bool)(l:List α):Int:=match l.findIdx? q with|some k=>(k:Int)|none=>-1
theorem kW{α:Type}{q:α->Bool}{l:List α}{k:Nat}(h:k<l.length)(hq:q l[k]=true)(hb:∀(j:Nat)s,j<k->l[j]? =some s->q s=false):nU q l=k:=by
 have:l.findIdx? q=some k:=by rw[abc];exact⟨h,hq,λj hj=>by simpa using hb j _ hj (uX om)⟩
 rw[nU,this]
theorem mP{α:Type}{q:α->Bool}{l:List α}(hb:∀(j:Nat)s,l[j]? =some s->q s=false):nU q l= -1:=by
 have:l.findIdx? q=none:=by rw[acj];intro s hs;obtain⟨i,hi⟩:=Xt hs;simpa using hb i s hi
 rw[nU,this]
theorem rM{α:Type}(q:α->Bool)(l:List α):decide (nU q l>=0)=l.any q:=by
 unfold nU;cases h:l.findIdx? q with
 |none=>
  rw[acj]at h;have:l.any q=false:=by simpa using h
  rw[this];rfl
 |some k=>
  obtain⟨h1,h2,_⟩:=abc.1 h;have:l.any q=true:=abm.2 ⟨_,aal h1,h2⟩;rw[this];exact decide_eq_true aC
theorem l111:bu prog f111=some c111:=by kernel_rfl
theorem l121:bu prog f121=some c121:=by kernel_rfl
theorem l138:bu prog f138=some c138:=by kernel_rfl
theorem Ay(l:List Obj)(hb:l.length<=4194304)(F:Nat)(q:Obj->Bool)(hF:∀s,s∈l->∀K:CV->Mem->Prop,K (aE (q s)) []->aq prog F [s.cv] [] K):body prog c121 [cz l,(.rv (.one (.fn F [])))] [] (λr m=>r=an .i64 (nU q l)):=by
 refine bb (λk=>k<=l.length/\∀(j:Nat)s,j<k->l[j]? =some s->q s=false) [0,1,7] (λk=>[(8,an .i64 (k:Nat))]) (λ_=>[]) (λk=>l.length-k) 0 ⟨aaj _,λj s h=>absurd h (abi j)⟩ ?_ (λk hk=>?_)
 .refine View.o1 0 [] [] ?_
  .exact .nil _
 .refine aL (λh=>?_) (λh=>?_)
  .have aD:k<l.length:=by have h:(k:Int)<((l.map Obj.enc).length:Int):=h;rw[ML]at h;omega
   have hg:dx (l.map Obj.enc) (k:Nat)=some (l[k].enc):=by rw[bA,RA,uX aD];rfl
   refine ag hg ?_;refine hF l[k] (aal aD) _ ?_;refine aM (λh=>?_) (λh=>?_)
   .rw[kW aD h hk.2];exact rfl
   .refine⟨k+1,⟨aD,λj s hj hs=>?_⟩,(show l.length-(k+1)<l.length-k by omega),View.o 0 [] [] ?_ ?_⟩
    .rcases aad j k with h5|h5
     .exact hk.2 j s h5 hs
     .have:j=k:=om;subst this;rw[uX aD]at hs;cases hs;exact h
    .repeat(first|exact .nil|refine .ap ?_|refine .put (.aU (aN om).symm) ?_|refine .eq rfl ?_)
    .exact .nil _
  .have d7:¬(k:Int)<((l.map Obj.enc).length:Int):=h;rw[ML]at d7;rw[mP λj s hs=>hk.2 j s (by have:=(I4.1 hs).1;omega) hs]
   exact rfl
theorem EQ(l:List Obj)(hb:l.length<=4194304)(F:Nat)(q:Obj->Bool)(hF:∀s,s∈l->∀K:CV->Mem->Prop,K (aE (q s)) []->aq prog F [s.cv] [] K){m:Mem}{K:CV->Mem->Prop}(h:K (an .i64 (nU q l)) m):aq prog 121 [cz l,.rv (.one (.fn F []))] m K:=
 bv func121 l121 rfl (aae rfl) (Ay l hb F q hF) rfl rfl h
theorem SP(s:Obj)(K:CV->Mem->Prop)(h:K (aE (s.ah==0)) []):aq prog 138 [s.cv] [] K:=
 bv func138 l138 rfl (aae rfl) (show body prog c138 [s.cv] [] (λr m=>r=aE (s.ah==0))from rfl) rfl rfl h
theorem G0(l:List Obj)(hf:lG l){m:Mem}{K:CV->Mem->Prop}(h:K (.rv (.one (.row m.length 9 0 none))) (m++ [.row 9 (af (l.map Obj.enc)),.aS])):aq prog 98 [cz l] m K:=by
 refine wn l hf l.length ?_;have h1:Ax l l.length l.length= .aS:=by
  have:Nat.blt l.length l.length=false:=by
   cases hb:Nat.blt l.length l.length with
   |false=>rfl
   |true=>rw[abL]at hb;omega
  simp only[Ax,this]
 rw[qq _ _ _ _ (.inr om),h1];exact h
def cK(n:Int):RV:= .one (.aa (.val (.int .i64 n)))
def aF(l:List Obj)(o:Obj):List Obj×Int×Int:=
 match l.findIdx? (λx=>x.ah==0)with
 |some k=>(l.set k o,k,0)
 |none=>if l.length>=40 then([],0,15)else(l++ [o],l.length,0)
def Rh(l:List Obj)(o:Obj)(r:CV)(m:Mem):Prop:=
 ((aF l o).2.2=15/\r= .bz [.one .aO,cK (aF l o).2.1,cK (aF l o).2.2]/\m=[])\/
 ((aF l o).2.2=0/\r= .bz [.one (.row 0 9 0 none),cK (aF l o).2.1,cK (aF l o).2.2]/\m=[.row 9 (af ((aF l o).1.map Obj.enc))])
theorem y3(l:List Obj)(k:Nat)(o:Obj):(af (l.map Obj.enc)).set k (o.enc.map .aa)=af ((l.set k o).map Obj.enc):=by simp[af,abE]
theorem y4(l:List Obj){k:Nat}(h:k<l.length):cD (af (l.map Obj.enc)) k=some (l[k].enc.map .aa):=by rw[aT];simp[af,h]
theorem IE(l:List Obj)(hf:lG l)(o:Obj):body prog c111 [cz l,o.cv] [] (λr m=>∃r' m',View 0 ⟨[r],m⟩ ⟨[r'],m'⟩/\Rh l o r' m'):=by
 have hl:=hf.1;refine EQ l hl 138 (λx=>x.ah==0) (λs _ K hs=>SP s K hs) ?_
 have hlen:(af (l.map Obj.enc)).length=l.length:=by simp[af]
 cases hk:l.findIdx? (λx=>x.ah==0)with
 |some k=>
  have hi:nU (λx:Obj=>x.ah==0) l=(k:Int):=by rw[nU,hk]
  have f8:k<l.length:=(abc.1 hk).1;have hm:aF l o=(l.set k o,(k:Int),0):=by rw[aF,hk]
  rw[hi];refine G0 l hf ?_;refine pL (by simp[hlen,lenOf];omega) ?_
  refine ag (cr (k:=k) (by simp[hlen,lenOf];omega)) ?_
  refine ag (x:=l[k].enc.map .aa) (by simpa[ip]using y4 l f8) ?_
  refine⟨.bz [.one (.row 0 9 0 none),cK k,cK 0],[.row 9 (af ((l.set k o).map Obj.enc))],View.o 3 [1] [] ?_ ?_,.inr ?_⟩
  .exact .eq rfl .nil
  .refine .pt rfl rfl (.bI ?_) (.nil _);rw[<-y3];simp[a8,ip,Obj.enc]
  .rw[hm];exact⟨rfl,rfl,rfl⟩
 |none=>
  have hi:nU (λx:Obj=>x.ah==0) l= -1:=by rw[nU,hk]
  rw[hi];refine aL (λh=>?_) (λh=>?_)
  .have h:l.length>=40:=by have h:(((l.map Obj.enc).length:Nat):Int)>=40:=h;rw[ML]at h;omega
   have hm:aF l o=([],0,15):=by rw[aF,hk];simp only;rw[if_pos h]
   refine⟨.bz [.one .aO,cK 0,cK 15],[],View.o 1 [] [] ?_ (.nil _),.inl ?_⟩
   .exact .eq rfl .nil
   .rw[hm];exact⟨rfl,rfl,rfl⟩
  .have h:¬l.length>=40:=by have h:¬(((l.map Obj.enc).length:Nat):Int)>=40:=h;rw[ML]at h;omega
   have hm:aF l o=(l++ [o],(l.length:Int),0):=by rw[aF,hk];simp only;rw[if_neg h]
   refine G0 l hf ?_;refine cA (by simp[hlen,lenOf]) ?_
   refine⟨by simp[hlen,bV];omega,?_⟩
   have Km:(l.map Obj.enc).length=l.length:=aC;refine ag (cr (k:=(l.map Obj.enc).length) (by simp[hlen,lenOf,bV])) ?_
   refine ag (x:=[.aa (.val (.int .i64 0)),.aO,.aO,.aa (.val (.string ⟨#[]⟩)),.aa (.val (.int .i64 0)),.aO,.aa (.val (.int .i64 0)),.aa (.val (.int .i64 0)),.aa (.val (.int .i64 0))]) (by simp[aT,hlen,bV,ip]) ?_
   refine⟨.bz [.one (.row 0 9 0 none),cK (((l.map Obj.enc).length:Nat):Int),cK 0],[.row 9 (af ((l++ [o]).map Obj.enc))],View.o 5 [4] [] ?_ ?_,.inr ?_⟩
   .exact .eq rfl .nil
   .refine .pt rfl rfl (.bI ?_) (.nil _);rw[abw,dj];simp only[a8,ip,bV];rw[Km,<-hlen];rw[acU _ _ (Ts _),ack];rfl
   .rw[hm];refine⟨rfl,?_,rfl⟩;rw[Km]
theorem y5(l:List Obj)(hf:lG l)(o:Obj):aq prog 111 [cz l,o.cv] [] (Rh l o):=
 bG (aY func111 l111 (IE l hf o)) λr m1⟨r',m',hv,hp⟩=>⟨r',m',hv,hp⟩
def mQ(l:List Obj):RV:= .one (.aa (db l))
theorem ma{m:Mem}{a b c d:RV}{x:Int}(h:e7 m a b)(hc:e7 m c d):cQ m (.bz [a,c,cK x]) (.bz [b,d,cK x]):=by
 refine .bz rfl λi r r' h1 h2=>?_
 match i,h1,h2 with
 |0,h1,h2=>cases h1;cases h2;exact h
 |1,h1,h2=>cases h1;cases h2;exact hc
 |2,h1,h2=>cases h1;cases h2;exact e7.self rfl
theorem Az(l:List Obj)(hf:lG l)(o:Obj){m:Mem}{K:CV->Mem->Prop}(h:K (.bz [mQ (aF l o).1,cK (aF l o).2.1,cK (aF l o).2.2]) m):aq prog 111 [cz l,o.cv] m K:=by
 refine bg (y5 l hf o) (by simp[cz,Obj.cv,CV.du,CC.du,RV.du]) λr m1 hp=>?_
 rcases hp with⟨h1,rfl,rfl⟩|⟨h1,rfl,rfl⟩
 .have h2:(aF l o).1=[]:=by
   unfold aF at h1|-;split at h1
   .simp at h1
   .split at h1
    .rename_i hc;rw[if_pos hc]
    .simp at h1
  refine⟨_,ma (.one (.aO 9)) (e7.self rfl),?_⟩;rw[h2]at h;exact h
 .refine⟨_,ma (.one (eT.eU rfl 0 none)) (e7.self rfl),?_⟩;exact h
theorem LW(l:List Obj)(hf:lG l)(o:Obj){m:Mem}{K:CV->Mem->Prop}(h1:(aF l o).2.2=15->K (.bz [.one .aO,cK (aF l o).2.1,cK (aF l o).2.2]) m)(h2:(aF l o).2.2=0->K (.bz [.one (.row m.length 9 0 none),cK (aF l o).2.1,cK (aF l o).2.2]) (m++ [.row 9 (af ((aF l o).1.map Obj.enc))])):aq prog 111 [cz l,o.cv] m K:=by
 refine bq [] m.length rfl rfl rfl rfl rfl (λi b' hi=>by simp at hi) (y5 l hf o) (λr m1 hp=>⟨aaj _,?_⟩)
 rcases hp with⟨e1,rfl,rfl⟩|⟨e1,rfl,rfl⟩
 .have:=h1 e1;show K _ (gh m []);rw[bX,abO];exact this
 .have:=h2 e1;show K _ (gh m [Bk.aU _ _]);rw[bX,Bk.jk];exact this
def c71:LF:= ⟨41,[.tmp 2,.cell true 2 3,.tmp 4],(.seq (.ai [qu 2 (.aK qe),qu 3 (.alloc [qd 0,qd 0]),qu 4 (.aK (qi 0))]) (.seq (.ai [qm 10 0,qu 11 (.build [qd 0,.aO,.aO,(.aa (.val (.string ⟨#[]⟩))),qd 0,.aO,qd 0,qd 0,qd 0] [(0,1,qi 4),(4,1,(qi (-1))),(6,1,(qi (-1)))]),qu 12 (qc 111 [10,11]),qm 9 12,qu 13 (.ext 9 0),qu 14 (.ext 9 1),qu 15 (.ext 9 2),qm 5 13,qm 6 14,qm 7 15]) (.seq (.seq (.ai [qm 16 7,qu 17 (.aJ .neq 16 (qi 0))]) (.cond 17 (.seq (.ai [qu 18 (.build [qd 0,qd 0] []),qm 19 7,qu 2 (.aK qe),qw (.store 2 3 18),qm 4 19]) .ret) .skip)) (.seq (.ai [qm 21 5,qm 22 6,qu 23 (.build [qd 0,.aO,.aO,(.aa (.val (.string ⟨#[]⟩))),qd 0,.aO,qd 0,qd 0,qd 0] [(0,1,qi 4),(4,1,22),(6,1,(qi (-1)))]),qu 24 (qc 111 [21,23]),qm 20 24,qu 25 (.ext 20 0),qu 26 (.ext 20 1),qu 27 (.ext 20 2),qm 5 25,qm 8 26,qm 7 27]) (.seq (.seq (.ai [qm 28 7,qu 29 (.aJ .neq 28 (qi 0))]) (.cond 29 (.seq (.ai [qu 30 (.build [qd 0,qd 0] []),qm 31 7,qu 2 (.aK qe),qw (.store 2 3 30),qm 4 31]) .ret) .skip)) (.seq (.ai [qm 32 5,qm 33 6,qm 34 8,qu 35 (.cw 9 32 33),qf 36 4 35,qw (.store 1 36 34)]) (.seq (.ai [qm 37 5,qm 38 6,qm 39 8,qu 40 (.build [qd 0,qd 0] [(0,1,38),(1,1,39)]),qm 2 37,qw (.store 2 3 40),qu 4 (.aK (qi 0))]) .ret)))))))⟩
theorem G1{l:List Obj}{o:Obj}(h:(aF l o).2.2=0):∃k:Nat,(aF l o).2.1=k/\k<(aF l o).1.length/\(aF l o).1[k]? =some o/\l.length<=(aF l o).1.length/\(∀j,j≠k->j<l.length->(aF l o).1[j]? =l[j]?):=by
 unfold aF at h|-;split
 .rename_i k hk;have f8:k<l.length:=(abc.1 hk).1;exact⟨k,rfl,by simpa using f8,by simp[f8],aC,λj hj na=>by simp[abl,Ne.symm hj]⟩
 .rename_i hk;rw[hk]at h;simp only at h;split at h
  .simp at h
  .rename_i hc;rw[if_neg hc];exact⟨l.length,rfl,aC,aC,aC,λj hj na=>by simp[Yf na]⟩
theorem LX{l:List Obj}{o:Obj}(hf:lG l)(ho:o.nT):lG (aF l o).1:=by
 unfold aF;split
 .refine⟨by simpa using hf.1,λx hx=>?_⟩
  rcases aa2 hx with h|rfl
  .exact hf.2 x h
  .exact ho
 .split
  .exact⟨aC,aC⟩
  .refine⟨by simp;omega,λx hx=>?_⟩
   rcases abD.1 hx with h|h
   .exact hf.2 x h
   .simp at h;subst h;exact ho
def bN(p:Int):Obj:=⟨4,[],[],⟨#[]⟩,p,[],-1,0,0⟩
theorem LY(p:Int):(bN p).nT:=by simp[Obj.nT,bN]
def lV(l:List Obj)(k:Nat)(b:Int):List Obj:=match l[k]? with|some o=>l.set k {o with aG:=b}|none=>l
def fq(l:List Obj):List Obj×(Int×Int)×Int:=
 if(aF l (bN (-1))).2.2≠0 then([],(0,0),(aF l (bN (-1))).2.2)
 else if(aF (aF l (bN (-1))).1 (bN (aF l (bN (-1))).2.1)).2.2≠0 then([],(0,0),(aF (aF l (bN (-1))).1 (bN (aF l (bN (-1))).2.1)).2.2)
 else(lV (aF (aF l (bN (-1))).1 (bN (aF l (bN (-1))).2.1)).1 (aF l (bN (-1))).2.1.toNat (aF (aF l (bN (-1))).1 (bN (aF l (bN (-1))).2.1)).2.1,((aF l (bN (-1))).2.1,(aF (aF l (bN (-1))).1 (bN (aF l (bN (-1))).2.1)).2.1),0)
def V6(x:Int×Int):RV:= .agg [.aa (.val (.int .i64 x.1)),.aa (.val (.int .i64 x.2))]
theorem l71:bu prog f71=some c71:=by kernel_rfl
theorem G2(a b:CV)(p:Int):kV [a,.rv (.agg [.aa (.val (.int .i64 4)),.aO,.aO,.aa (.val (.string ⟨#[]⟩)),.aa (.val (.int .i64 p)),.aO,.aa (.val (.int .i64 (-1))),.aa (.val (.int .i64 0)),.aa (.val (.int .i64 0))])] [a,(bN p).cv]:=
 .dv _ (.agg (.cons (.dv _) (.cons (.aO 1) (.cons (.aO 2) (.cons (.dv _) (.cons (.dv _) (.cons (.aO 4) (.cons (.dv _) (.cons (.dv _) (.cons (.dv _) .nil))))))))) .nil)
theorem IF(l:List Obj)(hf:lG l):body prog c71 [cz l] [] (λr m=>cQ m r (.bz [mQ (fq l).1,V6 (fq l).2.1,cK (fq l).2.2])):=by
 refine mN (G2 _ (.ap) _) (Az l hf (bN (-1)) ?_);have hp:fq l=if(aF l (bN (-1))).2.2≠0 then([],(0,0),(aF l (bN (-1))).2.2)
   else if(aF (aF l (bN (-1))).1 (bN (aF l (bN (-1))).2.1)).2.2≠0 then([],(0,0),(aF (aF l (bN (-1))).1 (bN (aF l (bN (-1))).2.1)).2.2)
   else(lV (aF (aF l (bN (-1))).1 (bN (aF l (bN (-1))).2.1)).1 (aF l (bN (-1))).2.1.toNat (aF (aF l (bN (-1))).1 (bN (aF l (bN (-1))).2.1)).2.1,((aF l (bN (-1))).2.1,(aF (aF l (bN (-1))).1 (bN (aF l (bN (-1))).2.1)).2.1),0):=rfl
 have kn:=LX (o:=bN (-1)) hf (LY _);generalize hx:aF l (bN (-1))=x at hp kn;obtain⟨l1,a,e1⟩:=x;have kn:lG l1:=kn;refine bs (λh=>?_) (λh=>?_)
 .have h:e1≠0:=h;rw[hp];simp only;rw[if_pos h];exact ma (.one (.aO 9)) (e7.self rfl)
 .have h:e1=0:=h;subst h;have EI:=G1 (l:=l) (o:=bN (-1)) (by rw[hx])
  rw[hx]at EI;obtain⟨ka,OB,V7,adJ,adK,_⟩:=EI;have OB:a=(ka:Int):=OB;have V7:ka<l1.length:=V7;subst OB;simp only[ne_eq,not_true,if_false,aac]at hp;refine mN (G2 _ (.ap) _) (LW l1 kn (bN ka) (λh=>?_) (λh=>?_))
  .rw[h]at hp;rw[h,hp];exact ma (.one (.aO 9)) (e7.self rfl)
  .have EI:=G1 (l:=l1) (o:=bN ka) h;generalize hy:aF l1 (bN ka)=y at hp EI h;obtain⟨l2,b,e2⟩:=y;have h:e2=0:=h;subst h;obtain⟨kb,SR,adL,adM,V8,_⟩:=EI;have V8:l1.length<=l2.length:=V8;have aD:ka<l2.length:=om;have hlen:(af (l2.map Obj.enc)).length=l2.length:=by simp[af]
   refine ag (cr (k:=ka) (by simpa[hlen,lenOf]using aD)) ?_
   refine ag (x:=l2[ka].enc.map .aa) (by simpa[ip]using y4 l2 aD) ?_
   have jg:aW (af (l2.map Obj.enc)) (ip 0 ka) (({l2[ka]with aG:=b}:Obj).enc.map .aa)=af ((lV l2 ka b).map Obj.enc):=by rw[a8];simp only[lV,uX aD];rw[<-y3];simp[ip]
   have ei:some (Bk.row 9 (aW (af (l2.map Obj.enc)) (ip 0 ka) (({l2[ka]with aG:=b}:Obj).enc.map .aa)))=some (Bk.row 9 (af ((lV l2 ka b).map Obj.enc))):=by rw[jg]
   rw[hp];exact ma (.one (eT.eU ei 0 none)) (e7.self rfl)
theorem Pm(l:List Obj)(hf:lG l){m:Mem}{K:CV->Mem->Prop}(h:K (.bz [mQ (fq l).1,V6 (fq l).2.1,cK (fq l).2.2]) m):aq prog 71 [cz l] m K:=
 bg (aY func71 l71 (IF l hf)) (by simp[cz,CV.du,CC.du]) λr m1 VX=>⟨_,VX,h⟩
def c74:LF:= ⟨80,[.tmp 6,.tmp 7],(.seq (.ai [qu 5 (.box 2),qu 6 (.aK qe),qu 7 (.aK (qi 0))]) (.seq (.seq (.ai [qm 10 1,qu 11 (.aJ .lss 10 (qi 0)),qm 12 11,qg 13 (.aK 1) 12 false,qg 14 (.aK 0) 12 false,qg 15 (.len 1 14) 12 false,qg 16 (.aJ .geq 13 15) 12 false,qu 17 (.pick 12 (qb true) 16),qm 18 17,qg 19 (.aK 0) 18 false,qg 20 (.aK 1) 18 false,qg 21 (.cw 9 19 20) 18 false,qg 22 (.cj 0 21) 18 false,qg 23 (.load false 1 22) 18 false,qg 24 (.aJ .neq 23 (qi 4)) 18 false,qu 25 (.pick 18 (qb true) 24)]) (.cond 25 (.seq (.ai [qu 6 (.aK qe),qu 7 (.aK (qi 8))]) .ret) .skip)) (.seq (.ai [qm 26 0,qm 27 1,qu 28 (.cw 9 26 27),qf 29 4 28,ql 30 29,qm 8 30]) (.seq (.block 0 (.seq (.ai [qm 32 8,qu 33 (.aJ .lss 32 (qi 0)),qm 34 33,qg 35 (.aK 8) 34 false,qg 36 (.aK 0) 34 false,qg 37 (.len 1 36) 34 false,qg 38 (.aJ .geq 35 37) 34 false,qu 39 (.pick 34 (qb true) 38),qm 40 39,qg 41 (.aK 0) 40 false,qg 42 (.aK 8) 40 false,qg 43 (.cw 9 41 42) 40 false,qg 44 (.cj 0 43) 40 false,qg 45 (.load false 1 44) 40 false,qg 46 (.aJ .neq 45 (qi 4)) 40 false,qu 47 (.pick 40 (qb true) 46),qm 31 47]) (.cond 31 (.seq (.ai [qu 6 (.aK qe),qu 7 (.aK (qi 17))]) .ret) (.seq (.ai [qf 49 0 5,ql 50 49,qu 51 (.len 1 50),qu 52 (.aJ .gtr 51 (qi 60)),qm 48 52]) (.cond 48 (.seq (.ai [qu 6 (.aK qe),qu 7 (.aK (qi 4))]) .ret) (.seq (.ai [qm 54 0,qm 55 8,qu 56 (.cw 9 54 55),qf 57 5 56,ql 58 57,qu 59 (.len 1 58),qu 60 (.aJ .geq 59 (qi 4)),qm 53 60]) (.cond 53 (.seq (.ai [qu 6 (.aK qe),qu 7 (.aK (qi 15))]) .ret) .skip))))))) (.seq (.ai [qm 61 0,qu 62 (qc 98 [61]),qm 9 62]) (.seq (.ai [qf 63 0 5,ql 64 63,qu 65 (qc 97 [64]),qf 66 0 5,qw (.store 1 66 65)]) (.seq (.bR [qm 67 9,qm 68 8,qm 69 9,qm 70 8,qu 71 (.cw 9 69 70),qf 72 5 71,ql 73 72,qL 74 4 5,qu 75 (.nC 4 [.aO,(.aa (.val (.bool false))),qd 0,qd 0] 1 [(0,74)]),qu 76 (.oZ 4 48 73 75),qu 77 (.cw 9 67 68),qf 78 5 77,qw (.store 1 78 76)] [(.cons 0 none (.cons 1 none (.cons 2 none (.cons 3 none (.cons 4 none (.cons 5 none (.cons 6 none (.cons 7 none (.cons 8 (some [6,4]) (.cons 9 (some []) (.cons 10 none (.cons 11 none (.cons 12 (some []) .nil)))))))))))))]) (.seq (.ai [qm 79 9,qm 6 79,qu 7 (.aK (qi 0))]) .ret))))))))⟩
def IG(o:Obj)(c:CC):List CC:=[.aa (.val (.int .i64 o.ah)),.aa (.sl 1 o.data),.aa (.sl 2 o.ak),.aa (.val (.string o.target)),.aa (.val (.int .i64 o.aG)),c,.aa (.val (.int .i64 o.aA)),.aa (.val (.int .i64 o.am)),.aa (.val (.int .i64 o.up))]
theorem Cw{l:List Obj}{p Q:Nat}{q:Obj}(h:l[p]? =some q):cD (ez p Q 0 l) p=some (IG q (.row Q 4 0 none)):=by rw[aT,th,h];simp[rJ,IG]
theorem LZ{l:List Obj}{p:Nat}{q:Obj}(h:l[p]? =some q):Ax l p l.length= .row 4 (af (q.aj.map br.enc)):=by
 have hp:=(I4.1 h).1;have:Nat.blt p l.length=true:=by rw[abL];exact hp
 simp only[Ax,this,ZE,h]
theorem G3{m:Mem}{Z:Nat->Prop}{id p Q:Nat}{l:List Obj}{q:Obj}{c:CC}(hz:Z id)(hb:m[id]? =some (.row 9 (aW (ez p Q 0 l) p (IG q c))))(hc:dO m Z (some id) c (.sl 4 (q.aj.map br.enc))):
  dO m Z none (.row id 9 0 none) (.sl 9 ((l.set p q).map Obj.enc)):=by
 have key:∀(i:Nat)cs es,(aW (ez p Q 0 l) p (IG q c))[i]? =some cs->((l.set p q).map Obj.enc)[i]? =some es->(cs=IG q c/\es=q.enc)\/∃o:Obj,cs=o.enc.map .aa/\es=o.enc:=by
  intro i cs es h1 h2;rw[a8,abl]at h1;rw[RA,abl]at h2;by_cases hi:p=i
  .subst hi;rw[if_pos rfl]at h1 h2;split at h1
   .cases h1;split at h2
    .cases h2;exact .inl ⟨rfl,rfl⟩
    .cases h2
   .cases h1
  .rw[if_neg hi]at h1 h2;rw[th]at h1;cases ho:l[i]? with
   |none=>rw[ho]at h1;cases h1
   |some o=>
    rw[ho]at h1 h2;cases h1;cases h2;refine .inr ⟨o,?_,rfl⟩;simp only[rJ,abb,if_neg (Ne.symm hi)];rfl
 refine .row id 9 0 none _ ((l.set p q).map Obj.enc) hz hb (by rw[a8];simp[mO]) (λi cs es h1 h2=>?_) (λi cs es j cc d h1 h2 h3 h4=>?_)
 .rcases key i cs es h1 h2 with⟨rfl,rfl⟩|⟨o,rfl,rfl⟩
  .rfl
  .simp
 .rcases key i cs es h1 h2 with⟨rfl,rfl⟩|⟨o,rfl,rfl⟩
  .match j,h3,h4 with
   |0,h3,h4=>cases h3;cases h4;exact .aa _
   |1,h3,h4=>cases h3;cases h4;exact .aa _
   |2,h3,h4=>cases h3;cases h4;exact .aa _
   |3,h3,h4=>cases h3;cases h4;exact .aa _
   |4,h3,h4=>cases h3;cases h4;exact .aa _
   |5,h3,h4=>cases h3;cases h4;exact hc
   |6,h3,h4=>cases h3;cases h4;exact .aa _
   |7,h3,h4=>cases h3;cases h4;exact .aa _
   |8,h3,h4=>cases h3;cases h4;exact .aa _
   |n+9,h3,h4=>simp[IG]at h3
  .rw[RA,h4]at h3;cases h3;exact .aa _
def eP(l:List Obj)(e:Int)(m:br):List Obj×Int:=
 if e<0\/e>=l.length then([],8)else match l[e.toNat]? with
 |none=>([],8)
 |some o=>if o.ah≠4 then([],8)else if o.aG<0\/o.aG>=l.length then([],17)else match l[o.aG.toNat]? with
  |none=>([],17)
  |some q=>if q.ah≠4 then([],17)else if m.data.length>60 then([],4)else if q.aj.length>=4 then([],15)else(l.set o.aG.toNat {q with aj:=q.aj++ [m]},0)
def L4(l:List Obj)(e:Int):CV:= .bz [mQ l,cK e]
theorem kq{m:Mem}{a b:RV}{x:Int}(h:e7 m a b):cQ m (.bz [a,cK x]) (.bz [b,cK x]):=by
 refine .bz rfl λi r r' h1 h2=>?_
 match i,h1,h2 with
 |0,h1,h2=>cases h1;cases h2;exact h
 |1,h1,h2=>cases h1;cases h2;exact e7.self rfl
theorem vw2{Y:Nat->Nat}{m:Mem}{Z:Nat->Prop}{a b:RV}{x:Int}(h:xS Y m Z a b):qQ Y m Z (.bz [a,cK x]) (.bz [b,cK x]):=by
 refine .bz rfl λi r r' h1 h2=>?_
 match i,h1,h2 with
 |0,h1,h2=>cases h1;cases h2;exact h
 |1,h1,h2=>cases h1;cases h2;exact .one (.aU (.aa _))
theorem l74:bu prog f74=some c74:=by kernel_rfl
theorem ti(l:List Obj)(hf:lG l)(e:Int)(msg:br)(ZF:msg.data.length<=4194304):body prog c74 [cz l,an .i64 e,msg.cv] [] (λr m=>∃r' m',View 0 ⟨[r],m⟩ ⟨[r'],m'⟩/\r'=L4 (eP l e msg).1 (eP l e msg).2/\m'=[]):=by
 have Km:(((l.map Obj.enc).length:Nat):Int)=(l.length:Int):=aC;have bad:∀(x:Int),eP l e msg=([],x)->∃r' m',View 0 ⟨[CV.bz [.one .aO,cK x]],[.var (msg.enc.map .aa)]⟩ ⟨[r'],m'⟩/\r'=L4 (eP l e msg).1 (eP l e msg).2/\m'=[]:=by intro x hx;refine⟨_,_,View.o 1 [] [] (.put (vw2 (b:=mQ []) (.one (.fy (.aO 9)))) .nil) (.nil _),?_,rfl⟩;rw[hx];rfl
 refine aL (λh=>?_) (λh1=>?_)
 .exact bad 8 (by rw[eP,if_pos (.inl h)])
 refine aL (λh=>?_) (λh2=>?_)
 .exact bad 8 (by rw[eP,if_pos (.inr (by rw[<-Km];exact h))])
 have h2:¬e>=(l.length:Int):=by rw[<-Km];exact h2
 obtain⟨k,rfl⟩:∃k:Nat,e=k:=⟨e.toNat,om⟩;have hk:k<l.length:=om;have hi:=uX hk;have pd:eP l (k:Int) msg=if l[k].ah≠4 then(([],8):List Obj×Int)else if l[k].aG<0\/l[k].aG>=l.length then([],17)else match l[l[k].aG.toNat]? with
   |none=>([],17)
   |some q=>if q.ah≠4 then([],17)else if msg.data.length>60 then([],4)else if q.aj.length>=4 then([],15)else(l.set l[k].aG.toNat {q with aj:=q.aj++ [msg]},0):=by
  rw[eP,if_neg om,aac,hi]
 have hg:dx (l.map Obj.enc) (k:Nat)=some (l[k].enc):=by rw[bA,RA,hi];rfl
 generalize l[k]=o at pd hg;obtain⟨ah,data,ak,target,aG,aj,aA,am,up⟩:=o;have hg:dx (l.map Obj.enc) (k:Nat)=some [.val (.int .i64 ah),.sl 1 data,.sl 2 ak,.val (.string target),.val (.int .i64 aG),.sl 4 (aj.map br.enc),.val (.int .i64 aA),.val (.int .i64 am),.val (.int .i64 up)]:=hg;refine ag hg ?_;refine bs (λh=>?_) (λh3=>?_)
 .exact bad 8 (by rw[pd,if_pos h])
 have h3:ah=4:=h3;rw[if_neg (by simpa using h3)]at pd
 simp only at pd;refine ag hg ?_;refine aL (λh=>?_) (λh4=>?_)
 .exact bad 17 (by rw[pd,if_pos (.inl h)])
 refine aL (λh=>?_) (λh5=>?_)
 .exact bad 17 (by rw[pd,if_pos (.inr (by rw[<-Km];exact h))])
 have h5:¬aG>=(l.length:Int):=by rw[<-Km];exact h5
 have h4:¬aG<0:=h4;obtain⟨p,rfl⟩:∃p:Nat,aG=p:=⟨aG.toNat,om⟩;have hp:p<l.length:=om;have Ri:=uX hp;rw[if_neg om,aac,Ri]at pd;simp only at pd;have BI:dx (l.map Obj.enc) (p:Nat)=some (l[p].enc):=by rw[bA,RA,Ri];rfl
 have ID:=hf.2 _ (aal hp);generalize l[p]=q at pd BI Ri ID;have BI:dx (l.map Obj.enc) (p:Nat)=some [.val (.int .i64 q.ah),.sl 1 q.data,.sl 2 q.ak,.val (.string q.target),.val (.int .i64 q.aG),.sl 4 (q.aj.map br.enc),.val (.int .i64 q.aA),.val (.int .i64 q.am),.val (.int .i64 q.up)]:=BI;refine ag BI ?_;refine bs (λh=>?_) (λh6=>?_)
 .exact bad 17 (by rw[pd,if_pos h])
 rw[if_neg (by simpa using h6)]at pd
 refine aL (λh=>?_) (λh7=>?_)
 .exact bad 4 (by rw[pd,if_pos (by have h:((msg.data.length:Nat):Int)>60:=h;omega)])
 rw[if_neg (by have h:¬((msg.data.length:Nat):Int)>60:=h7;omega)]at pd
 refine ag BI ?_;refine aL (λh=>?_) (λh8=>?_)
 .exact bad 15 (by rw[pd,if_pos (by have h:(((q.aj.map br.enc).length:Nat):Int)>=4:=h;rw[ML]at h;omega)])
 have h8:¬q.aj.length>=4:=by have h:¬(((q.aj.map br.enc).length:Nat):Int)>=4:=h8;rw[ML]at h;omega
 rw[if_neg h8]at pd;refine wn l hf p ?_;rw[LZ Ri];refine ig msg.data ZF ?_;have tj:dN (p:Int) (lenOf (ez p 2 0 l).length 0 none)=some p:=cr (by simp[lenOf,mO];omega)
 have nS:=Cw (Q:=2) Ri;refine ag tj ?_;refine ag nS ?_;refine⟨⟨ag nS rfl,ag tj rfl,trivial⟩,?_⟩;refine⟨?_,?_⟩
 .show((af (q.aj.map br.enc)).length+1)*48<=_;simp[af];omega
 refine⟨trivial,?_⟩;refine ag tj ?_;refine ag nS ?_;refine⟨trivial,?_⟩;refine⟨L4 (l.set p {q with aj:=q.aj++ [msg]}) 0,[],View.o 5 [] [1,4] (.put (vw2 (.one (.fy ?_))) .nil) (.nil _),?_,rfl⟩
 .refine G3 (p:=p) (Q:=2) (l:=l) (q:={q with aj:=q.aj++ [msg]}) (c:= .row 4 4 0 none) rfl (by rw[<-aT];rfl) ?_
  refine dO.eU (Z:=λk=>bw [1,4] k=true) (ds:=(q.aj++ [msg]).map br.enc) rfl ?_ 0 none
  rw[<-aT,abw,dj];rfl
 .rw[pd]
theorem Pn(l:List Obj)(hf:lG l)(e:Int)(msg:br)(ZF:msg.data.length<=4194304){m:Mem}{K:CV->Mem->Prop}(h:K (L4 (eP l e msg).1 (eP l e msg).2) m):aq prog 74 [cz l,an .i64 e,msg.cv] m K:=by
 refine bg (K0:=λr m=>r=L4 (eP l e msg).1 (eP l e msg).2/\m=[]) (bG (aY func74 l74 (ti l hf e msg ZF)) λr m1⟨r',m',hv,hp⟩=>⟨r',m',hv,hp⟩) (by simp[cz,an,br.cv,CV.du,CC.du,RV.du]) λr m1 hr=>?_
 obtain⟨rfl,rfl⟩:=hr;exact⟨_,cQ.self rfl,h⟩
def c115:LF:= ⟨33,[.tmp 6],(.seq (.ai [qu 6 (.aK qe)]) (.seq (.ai [qm 8 0,qm 9 1,qm 10 2,qm 11 0,qu 12 (.len 1 11),qu 13 (.nR 4 8 (some 9) (some 10) (some 12))]) (.seq (.seq (.ai [qm 14 1,qm 15 2,qu 16 (.aJ .eql 14 15)]) (.cond 16 (.seq (.ai [qm 17 0,qm 6 17]) .ret) .skip)) (.seq (.ai [qm 18 0,qu 19 (.len 1 18),qm 7 19]) (.seq (.bR [qm 20 0,qm 21 1,qu 22 (.nR 4 20 none (some 21) none),qm 23 0,qm 24 2,qu 25 (.nR 4 23 (some 24) none none),qu 26 (.oZ 4 48 22 25),qm 0 26] [(.cons 0 none (.cons 1 none (.cons 2 none (.cons 3 none (.cons 4 none (.cons 5 none (.cons 6 (some []) (.cons 7 none .nil))))))))]) (.seq (.ai [qm 27 0,qm 28 0,qu 29 (.len 1 28),qm 30 7,qu 31 (.nR 4 27 (some 29) (some 30) none),qw (.Uc 4 [.aO,(.aa (.val (.bool false))),qd 0,qd 0] 31)]) (.seq (.ai [qm 32 0,qm 6 32]) .ret)))))))⟩
def uC:List CC:=[.aO,.aa (.val (.bool false)),.aa (.val (.int .i64 0)),.aa (.val (.int .i64 0))]
theorem jU:∀ds:List (List Dt),fo (af ds)=true
 | []=>rfl
 |d::r=>by
  have h1:∀e:List Dt,pZ (e.map CC.aa)=true:=by
   intro e
   induction e with
   |nil=>rfl
   |cons x e ih=>simpa[pZ,CC.iY]using ih
  have:=jU r;simp only[af,aa9,fo]at this|-;rw[h1,this];rfl
theorem l115:bu prog f115=some c115:=by kernel_rfl
def fK(x:br)(r:List br):List (List CC):=af (r.map br.enc)++ [uC]
theorem L5(x:br)(r:List br)(hl:r.length<=4194303):body prog c115 [.rv (.one (.row 0 4 0 none)),an .i64 0,an .i64 1] [.row 4 (af ((x::r).map br.enc))] (λv m=>v= .rv (.one (.row 0 4 0 (some r.length)))/\m=[.row 4 (fK x r)]):=by
 have hlen:(af ((x::r).map br.enc)).length=r.length+1:=by simp[af]
 have Rj:(af ((x::r).map br.enc)).drop 1=af (r.map br.enc):=rfl;generalize af ((x::r).map br.enc)=D at hlen Rj;have hL:lenOf D.length 0 none=r.length+1:=by rw[iB,hlen];rfl
 have hE:bV D 1 (some (r.length+1))=af (r.map br.enc):=by rw[jv];simp only;rw[<-hlen,abe,Rj]
 have G4:(af (r.map br.enc)).length=r.length:=by simp[af]
 refine cA ?_ ?_
 .show(Nat.ble 0 1&&(Nat.ble 1 (lenOf D.length 0 none)&&Nat.ble (lenOf D.length 0 none) (bV D 0 none).length))=true;rw[hL];simp[bV,hlen,abn]
 rw[hL];refine cA ?_ ?_
 .show(Nat.ble 1 (lenOf D.length 0 none)&&Nat.ble (lenOf D.length 0 none) (D.length-0))=true;rw[hL,hlen];simp[abn]
 rw[hL];refine cA ?_ ?_
 .show(Nat.beq 0 0&&(Nat.beq 4 4&&(Nat.beq 4 4&&(Nat.ble 1 D.length&&(Nat.ble (0+(bV D 1 (some (r.length+1))).length) D.length&&fo (bV D 1 (some (r.length+1))))))))=true;rw[hE,jU,G4,hlen];simp[abn]
 refine⟨?_,?_⟩
 .rw[hlen];omega
 refine⟨trivial,?_⟩;have Ap:(cP D 0 (af (r.map br.enc))).length=r.length+1:=by rw[vW (by rw[G4,hlen];omega),hlen]
 refine cA ?_ ?_
 .simp only[lO,abb,hE,G4,iB,abC,acb,Ap];simp[abn]
 refine cA ?_ ?_
 .simp only[lO,abb,hE,G4,iB,abC,acb,Ap,p0];simp[abn]
 refine cA ?_ ?_
 .simp only[lO,abb,hE,G4,iB,abC,acb,Ap,p0];simp[abL]
 have ei:cP (cP D 0 (af (r.map br.enc))) r.length (gw 1 uC)=fK x r:=by
  have h1:cP D 0 (af (r.map br.enc))=af (r.map br.enc)++D.drop r.length:=by simp[cP,G4]
  rw[h1];simp only[cP,fH,fK];rw[List.take_append_of_le_length (by rw[G4];exact Ts _),abN (by rw[G4];exact Ts _)]
  congr 1;have:(af (r.map br.enc)++D.drop r.length).length=r.length+1:=by simp[G4,hlen]
  rw[List.drop_of_length_le (by rw[this];simp)]
  rfl
 refine⟨?_,?_⟩
 .show CV.rv (.one (.row 0 4 0 (some (0+(bV D (ip 0 1) (some (ip 0 (r.length+1)))).length))))=_;simp only[lO,abb,hE,G4]
 .rw[<-ei];show [Bk.row 4 (cP (cP D 0 (bV D (ip 0 1) (some (ip 0 (r.length+1))))) _ (gw (_-_) uC))]=_;simp only[lO,abb,hE,G4,iB,abC,acb,Ap,p0,Nat.add_sub_cancel_left]
theorem SS(x:br)(r:List br)(hl:r.length<=4194303){m:Mem}{K:CV->Mem->Prop}(id:Nat)(hb:cD m id=some (.row 4 (af ((x::r).map br.enc))))(h:K (.rv (.one (.row id 4 0 (some r.length)))) (aW m id (.row 4 (fK x r)))):
  aq prog 115 [.rv (.one (.row id 4 0 none)),an .i64 0,an .i64 1] m K:=by
 have hid:id<m.length:=by rw[aT]at hb;exact(I4.1 hb).1
 refine bq [id] m.length rfl rfl rfl (by simp[eG,hid]) (args0:=[.rv (.one (.row 0 4 0 none)),an .i64 0,an .i64 1]) rfl (λi b' hi=>?_) (aY func115 l115 (L5 x r hl)) (λr1 m1 hr=>?_)
 .cases i with
  |zero=>
   simp at hi;subst hi;refine .inr ⟨λh=>h,_,?_,.bI rfl⟩
   rw[aT]at hb;exact hb
  |succ i=>simp at hi
 .obtain⟨rfl,rfl⟩:=hr;refine⟨Ts _,?_⟩;have ZG:(Bk.row 4 (fK x r)).aU (sg [id] m.length)= .row 4 (fK x r):=by simp only[Bk.aU,fK,abw,dp];rfl
  show K (.rv (.one (.row id 4 0 (some r.length)))) (cV m [id] [(Bk.row 4 (fK x r)).aU (sg [id] m.length)]);rw[ZG];simp only[cV,bX,abO];exact h
def c75:LF:= ⟨78,[.tmp 4,.cell true 4 5,.tmp 6],(.seq (.ai [qu 4 (.aK qe),qu 5 (.alloc [.aO,(.aa (.val (.bool false))),qd 0,qd 0]),qu 6 (.aK (qi 0))]) (.seq (.seq (.ai [qm 10 1,qu 11 (.aJ .lss 10 (qi 0)),qm 12 11,qg 13 (.aK 1) 12 false,qg 14 (.aK 0) 12 false,qg 15 (.len 1 14) 12 false,qg 16 (.aJ .geq 13 15) 12 false,qu 17 (.pick 12 (qb true) 16),qm 18 17,qg 19 (.aK 0) 18 false,qg 20 (.aK 1) 18 false,qg 21 (.cw 9 19 20) 18 false,qg 22 (.cj 0 21) 18 false,qg 23 (.load false 1 22) 18 false,qg 24 (.aJ .neq 23 (qi 4)) 18 false,qu 25 (.pick 18 (qb true) 24)]) (.cond 25 (.seq (.ai [qu 26 (.build [.aO,(.aa (.val (.bool false))),qd 0,qd 0] []),qu 4 (.aK qe),qw (.store 4 5 26),qu 6 (.aK (qi 8))]) .ret) .skip)) (.seq (.seq (.ai [qm 27 0,qm 28 1,qu 29 (.cw 9 27 28),qf 30 5 29,ql 31 30,qu 32 (.len 1 31),qu 33 (.aJ .eql 32 (qi 0))]) (.cond 33 (.seq (.seq (.ai [qm 34 0,qm 35 1,qu 36 (.cw 9 34 35),qf 37 4 36,ql 38 37,qm 7 38]) (.seq (.ai [qm 39 7,qu 40 (.aJ .lss 39 (qi 0)),qm 41 40,qg 42 (.aK 7) 41 false,qg 43 (.aK 0) 41 false,qg 44 (.len 1 43) 41 false,qg 45 (.aJ .geq 42 44) 41 false,qu 46 (.pick 41 (qb true) 45),qm 47 46,qg 48 (.aK 0) 47 false,qg 49 (.aK 7) 47 false,qg 50 (.cw 9 48 49) 47 false,qg 51 (.cj 0 50) 47 false,qg 52 (.load false 1 51) 47 false,qg 53 (.aJ .neq 52 (qi 4)) 47 false,qu 54 (.pick 47 (qb true) 53)]) (.cond 54 (.seq (.ai [qu 55 (.build [.aO,(.aa (.val (.bool false))),qd 0,qd 0] []),qu 4 (.aK qe),qw (.store 4 5 55),qu 6 (.aK (qi 17))]) .ret) .skip))) (.seq (.ai [qu 56 (.build [.aO,(.aa (.val (.bool false))),qd 0,qd 0] []),qu 4 (.aK qe),qw (.store 4 5 56),qu 6 (.aK (qi 16))]) .ret)) .skip)) (.seq (.ai [qm 57 0,qu 58 (qc 98 [57]),qm 8 58]) (.seq (.ai [qm 59 8,qm 60 1,qu 61 (.cw 9 59 60),qf 62 5 61,ql 63 62,qu 64 (.cw 4 63 (qi 0)),qL 65 4 64,qu 9 (.alloc [.aO,(.aa (.val (.bool false))),qd 0,qd 0]),qw (.store 4 9 65)]) (.seq (.ai [qm 66 8,qm 67 1,qm 68 8,qm 69 1,qu 70 (.cw 9 68 69),qf 71 5 70,ql 72 71,qu 73 (qc 115 [72,qi 0,qi 1]),qu 74 (.cw 9 66 67),qf 75 5 74,qw (.store 1 75 73)]) (.seq (.bR [qm 76 8,qL 77 4 9,qm 4 76,qw (.store 4 5 77),qu 6 (.aK (qi 0))] [(.cons 0 none (.cons 1 none (.cons 2 none (.cons 3 (some []) (.cons 4 none .nil)))))]) .ret)))))))⟩
def mR:br:=⟨[],false,0,0⟩
def br.rv(m:br):RV:= .agg (m.enc.map .aa)
def fA(l:List Obj)(e:Int):List Obj×br×Int:=
 if e<0\/e>=l.length then([],mR,8)else match l[e.toNat]? with
 |none=>([],mR,8)
 |some o=>if o.ah≠4 then([],mR,8)else match o.aj with
  | []=>if o.aG<0\/o.aG>=l.length then([],mR,17)else match l[o.aG.toNat]? with
   |none=>([],mR,17)
   |some q=>if q.ah≠4 then([],mR,17)else([],mR,16)
  |x::r=>(l.set e.toNat {o with aj:=r},x,0)
def wo(x:List Obj×br×Int):CV:= .bz [mQ x.1,x.2.1.rv,cK x.2.2]
theorem vw3{Y:Nat->Nat}{m:Mem}{Z:Nat->Prop}{a b c d:RV}{x:Int}(h:xS Y m Z a b)(hc:xS Y m Z c d):qQ Y m Z (.bz [a,c,cK x]) (.bz [b,d,cK x]):=by
 refine .bz rfl λi r r' h1 h2=>?_
 match i,h1,h2 with
 |0,h1,h2=>cases h1;cases h2;exact h
 |1,h1,h2=>cases h1;cases h2;exact hc
 |2,h1,h2=>cases h1;cases h2;exact .one (.aU (.aa _))
theorem vwZ{Y:Nat->Nat}{m:Mem}{Z:Nat->Prop}:xS Y m Z (.agg uC) mR.rv:=by
 refine .agg rfl λi c c' h1 h2=>?_
 match i,h1,h2 with
 |0,h1,h2=>cases h1;cases h2;exact .fy (.aO 1)
 |1,h1,h2=>cases h1;cases h2;exact .aU (.aa _)
 |2,h1,h2=>cases h1;cases h2;exact .aU (.aa _)
 |3,h1,h2=>cases h1;cases h2;exact .aU (.aa _)
 |n+4,h1,h2=>simp[uC]at h1
theorem V9{Y:Nat->Nat}{m:Mem}{Z:Nat->Prop}(x:br):xS Y m Z (.agg (x.enc.map .aa)) x.rv:=by
 refine .agg rfl λi c c' h1 h2=>?_
 rw[h1]at h2;cases h2;rw[RA]at h1;cases hd:x.enc[i]? with
 |none=>rw[hd]at h1;cases h1
 |some d=>
  rw[hd]at h1;cases h1;exact .aU (.aa d)
theorem SU{m:Mem}{Z:Nat->Prop}{p:Option Nat}{id:Nat}{x:br}{r:List br}(hz:Z id)(hb:m[id]? =some (.row 4 (fK x r))):dO m Z p (.row id 4 0 (some r.length)) (.sl 4 (r.map br.enc)):=by
 have h:=dO.row (m:=m) (Z:=Z) (p:=p) id 4 0 (some r.length) (fK x r) (r.map br.enc++ [mR.enc]) hz hb (by simp[fK,af]) (λi cs es h1 h2=>?_) (λi cs es j c d h1 h2 h3 h4=>?_)
 .have:bV (r.map br.enc++ [mR.enc]) 0 (some r.length)=r.map br.enc:=by rw[jv];simp
  rw[this]at h;exact h
 .rcases aad i r.length with hi|hi
  .rw[fK,Yf (by simpa[af]using hi),af,RA]at h1
   rw[Yf (by simpa using hi)]at h2
   rw[h2]at h1;cases h1;simp
  .rw[fK,WH (by simpa[af]using hi)]at h1
   rw[WH (by simpa using hi)]at h2
   have e1:(af (r.map br.enc)).length=r.length:=by simp[af]
   have e2:(r.map br.enc).length=r.length:=aC;rw[e1]at h1;rw[e2]at h2;cases hn:i-r.length with
   |zero=>rw[hn]at h1 h2;cases h1;cases h2;rfl
   |succ n=>rw[hn]at h1;simp at h1
 .rcases aad i r.length with hi|hi
  .rw[fK,Yf (by simpa[af]using hi),af,RA]at h1
   rw[Yf (by simpa using hi)]at h2
   rw[h2]at h1;cases h1;rw[RA,h4]at h3;cases h3;exact .aa _
  .rw[fK,WH (by simpa[af]using hi)]at h1
   rw[WH (by simpa using hi)]at h2
   have e1:(af (r.map br.enc)).length=r.length:=by simp[af]
   have e2:(r.map br.enc).length=r.length:=aC;rw[e1]at h1;rw[e2]at h2;cases hn:i-r.length with
   |zero=>
    rw[hn]at h1 h2;cases h1;cases h2
    match j,h3,h4 with
    |0,h3,h4=>cases h3;cases h4;exact .aO 1
    |1,h3,h4=>cases h3;cases h4;exact .aa _
    |2,h3,h4=>cases h3;cases h4;exact .aa _
    |3,h3,h4=>cases h3;cases h4;exact .aa _
    |n+4,h3,h4=>simp[uC]at h3
   |succ n=>rw[hn]at h1;simp at h1
theorem l75:bu prog f75=some c75:=by kernel_rfl
theorem tk(l:List Obj)(hf:lG l)(e:Int):body prog c75 [cz l,an .i64 e] [] (λr m=>∃r' m',View 0 ⟨[r],m⟩ ⟨[r'],m'⟩/\r'=wo (fA l e)/\m'=[]):=by
 have Km:(((l.map Obj.enc).length:Nat):Int)=(l.length:Int):=aC;have bad:∀(x:Int),fA l e=([],mR,x)->∃r' m',View 0 ⟨[CV.bz [.one .aO,.agg uC,cK x]],[.var uC]⟩ ⟨[r'],m'⟩/\r'=wo (fA l e)/\m'=[]:=by intro x hx;refine⟨_,_,View.o 1 [] [] (.put (vw3 (b:=mQ []) (.one (.fy (.aO 9))) vwZ) .nil) (.nil _),?_,rfl⟩;rw[hx];rfl
 refine aL (λh=>?_) (λh1=>?_)
 .exact bad 8 (by rw[fA,if_pos (.inl h)])
 refine aL (λh=>?_) (λh2=>?_)
 .exact bad 8 (by rw[fA,if_pos (.inr (by rw[<-Km];exact h))])
 have h2:¬e>=(l.length:Int):=by rw[<-Km];exact h2
 obtain⟨k,rfl⟩:∃k:Nat,e=k:=⟨e.toNat,om⟩;have hk:k<l.length:=om;have hi:=uX hk;have pd:fA l (k:Int)=if l[k].ah≠4 then(([],mR,8):List Obj×br×Int)else match l[k].aj with
   | []=>if l[k].aG<0\/l[k].aG>=l.length then([],mR,17)else match l[l[k].aG.toNat]? with
    |none=>([],mR,17)
    |some q=>if q.ah≠4 then([],mR,17)else([],mR,16)
   |x::r=>(l.set k {l[k]with aj:=r},x,0):=by
  rw[fA,if_neg om,aac,hi]
 have hg:dx (l.map Obj.enc) (k:Nat)=some (l[k].enc):=by rw[bA,RA,hi];rfl
 have OA:=hf.2 _ (aal hk);generalize l[k]=o at pd hg hi OA;obtain⟨ah,data,ak,target,aG,aj,aA,am,up⟩:=o;have hg:dx (l.map Obj.enc) (k:Nat)=some [.val (.int .i64 ah),.sl 1 data,.sl 2 ak,.val (.string target),.val (.int .i64 aG),.sl 4 (aj.map br.enc),.val (.int .i64 aA),.val (.int .i64 am),.val (.int .i64 up)]:=hg;refine ag hg ?_;refine bs (λh=>?_) (λh3=>?_)
 .exact bad 8 (by rw[pd,if_pos h])
 have h3:ah=4:=h3;rw[if_neg (by simpa using h3)]at pd
 simp only at pd;refine ag hg ?_;cases aj with
 |nil=>
  simp only at pd;refine ag hg ?_;refine aL (λh=>?_) (λh4=>?_)
  .exact bad 17 (by rw[pd,if_pos (.inl h)])
  refine aL (λh=>?_) (λh5=>?_)
  .exact bad 17 (by rw[pd,if_pos (.inr (by rw[<-Km];exact h))])
  have h5:¬aG>=(l.length:Int):=by rw[<-Km];exact h5
  have h4:¬aG<0:=h4;obtain⟨p,rfl⟩:∃p:Nat,aG=p:=⟨aG.toNat,om⟩;have hp:p<l.length:=om;have Ri:=uX hp;rw[if_neg om,aac,Ri]at pd;simp only at pd;have BI:dx (l.map Obj.enc) (p:Nat)=some (l[p].enc):=by rw[bA,RA,Ri];rfl
  generalize l[p]=q at pd BI;have BI:dx (l.map Obj.enc) (p:Nat)=some [.val (.int .i64 q.ah),.sl 1 q.data,.sl 2 q.ak,.val (.string q.target),.val (.int .i64 q.aG),.sl 4 (q.aj.map br.enc),.val (.int .i64 q.aA),.val (.int .i64 q.am),.val (.int .i64 q.up)]:=BI;refine ag BI ?_;refine bs (λh=>?_) (λh6=>?_)
  .exact bad 17 (by rw[pd,if_pos h])
  .exact bad 16 (by rw[pd,if_neg (by simpa using h6)])
 |cons x r=>
  simp only at pd;have G5:(x::r).length<=4194304:=OA.2.2.1;refine wn l hf k ?_;rw[LZ hi];have tj:dN (k:Int) (lenOf (ez k 2 0 l).length 0 none)=some k:=cr (by simp[lenOf,mO];omega)
  have nS:=Cw (Q:=2) hi;refine ag tj ?_;refine ag nS ?_;refine ag tj ?_;refine ag nS ?_;refine SS x r (by simp at G5;omega) 2 rfl ?_
  refine ag tj ?_;refine ag nS ?_;refine⟨trivial,?_⟩;refine⟨wo (fA l k),[],View.o 4 [] [1,2] ?_ (.nil _),rfl,rfl⟩;rw[pd];refine .put (vw3 (.one (.fy ?_)) (V9 x)) .nil;exact G3 (p:=k) (Q:=2) (l:=l) (q:=⟨ah,data,ak,target,aG,r,aA,am,up⟩) (c:= .row 2 4 0 (some r.length)) rfl (by rw[<-aT];rfl) (SU (x:=x) rfl (by rw[<-aT];rfl))
theorem Po(l:List Obj)(hf:lG l)(e:Int){m:Mem}{K:CV->Mem->Prop}(h:K (wo (fA l e)) m):aq prog 75 [cz l,an .i64 e] m K:=by
 refine bg (K0:=λr m=>r=wo (fA l e)/\m=[]) (bG (aY func75 l75 (tk l hf e)) λr m1⟨r',m',hv,hp⟩=>⟨r',m',hv,hp⟩) (by simp[cz,an,CV.du,CC.du,RV.du]) λr m1 hr=>?_
 obtain⟨rfl,rfl⟩:=hr;exact⟨_,cQ.self rfl,h⟩
end Go.Proofs.YtodckkkbiidffaaGreatDoor
namespace Go.Proofs.YtodckkkbiidffaaGreatDoor
open Go.AM Go.ChangeShapes Go.WideShapes Go.ChangeAt Go.RowKit
def i4(l:List Int):List (List Dt):=l.map λb=>[.val (.int .u8 b)]
theorem Cx{m:Mem}{id:Nat}{b:Bk}:cV m [id] [b]=aW m id b:=by simp only[cV,bX,abO]
theorem tm:∀b:List Int,vy ((i4 b).map λds=>ds.map .aa)=some b
 | []=>rfl
 |x::r=>by have:=tm r;simp only[i4,aa9,acX]at this|-;simp only[vy,this]
def fP(e:ByteArray×Int):List Dt:=[.val (.string e.1),.val (.int .i64 e.2)]
def br.Rk(q:br):Prop:=∃b:List Int,q.data=i4 b
def Obj.Rk(o:Obj):Prop:=(∃b:List Int,o.data=i4 b)/\(∃es:List (ByteArray×Int),o.ak=es.map fP)/\∀q,q∈o.aj->q.Rk
theorem AA{l:List Obj}{k:Nat}(h:k<l.length):dx (l.map Obj.enc) (k:Nat)=some [.val (.int .i64 l[k].ah),.sl 1 l[k].data,.sl 2 l[k].ak,.val (.string l[k].target),.val (.int .i64 l[k].aG),.sl 4 (l[k].aj.map br.enc),.val (.int .i64 l[k].aA),.val (.int .i64 l[k].am),.val (.int .i64 l[k].up)]:=by rw[bA,RA,uX h];rfl
inductive pN(Y:Nat->Nat)(m:Mem)(Z:Nat->Prop):List CC->List CC->Prop
 |nil:pN Y m Z [] []
 |cons {c c':CC} {r r':List CC} (h:sK Y m Z none c c') (hr:pN Y m Z r r'):pN Y m Z (c::r) (c'::r')
theorem pN.len{Y:Nat->Nat}{m:Mem}{Z:Nat->Prop}{cs eR:List CC}(h:pN Y m Z cs eR):cs.length=eR.length:=by
 induction h<;>simp[*]
theorem pN.get{Y:Nat->Nat}{m:Mem}{Z:Nat->Prop}{cs eR:List CC}(h:pN Y m Z cs eR):∀(i:Nat)c c',cs[i]? =some c->eR[i]? =some c'->sK Y m Z none c c':=by
 induction h with
 |nil=>intro i c c' h;simp at h
 |cons h hr ih=>
  intro i c c' h1 h2;cases i with
  |zero=>simp at h1 h2;subst h1 h2;exact h
  |succ i=>exact ih i c c' (by simpa using h1) (by simpa using h2)
theorem pN.agg{Y:Nat->Nat}{m:Mem}{Z:Nat->Prop}{cs eR:List CC}(h:pN Y m Z cs eR):qQ Y m Z (.rv (.agg cs)) (.rv (.agg eR)):= .rv (.agg h.len h.get)
structure Obj.sm(o:Obj):Prop where
 t:o.Rk
 d:o.data.length<=64
 e:o.ak.length<=8
 q:o.aj.length<=8
 qd:∀q,q∈o.aj->q.data.length<=64
theorem Obj.sm.nT{o:Obj}(h:o.sm):o.nT:=⟨by have:=h.d;omega,by have:=h.e;omega,by have:=h.q;omega,λq hq=>by have:=h.qd q hq;omega⟩
theorem Pp{es:List (ByteArray×Int)}{k:Nat}(h:k<es.length):dx (es.map fP) (k:Nat)=some [.val (.string es[k].1),.val (.int .i64 es[k].2)]:=by rw[bA,RA,uX h];rfl
structure fk where
 has:Bool
 dP:Int
 b9:Int
def fk.enc(s:fk):List Dt:=[.val (.bool s.has),.val (.int .i64 s.dP),.val (.int .i64 s.b9)]
def yh(l:List fk):Dt:= .sl 3 (l.map fk.enc)
def L6(l:List fk):RV:= .one (.aa (yh l))
def mS(l:List fk):CV:= .rv (.one (.aa (yh l)))
theorem bH{α:Type}(f:α->List Dt)(l:List α){k:Nat}(h:k<l.length):cD (af (l.map f)) k=some ((f l[k]).map .aa):=by rw[aT,af,RA,RA,uX h];rfl
theorem ns{α:Type}(f:α->List Dt)(l:List α)(k:Nat)(x:α):aW (af (l.map f)) k ((f x).map .aa)=af ((l.set k x).map f):=by rw[a8,af,af,abE,abE]
theorem oy:∀a:List UInt8,Op.bytesLess a a=false
 | []=>rfl
 |x::r=>by simp[Op.bytesLess,oy r]
theorem rN:∀{a b c:List UInt8},Op.bytesLess a b=true->Op.bytesLess b c=true->Op.bytesLess a c=true
 |a,[],_,h,_=>by cases a<;>simp[Op.bytesLess]at h
 |_,_::_,[],_,h=>by simp[Op.bytesLess]at h
 | [],_::_,_::_,_,_=>rfl
 |x::a,y::b,z::c,h1,h2=>by
  simp only[Op.bytesLess,abU,aab,decide_eq_true_eq,beq_iff_eq]at h1 h2|-;rcases h1 with h1|⟨rfl,h1⟩
  .rcases h2 with h2|⟨rfl,h2⟩
   .exact .inl (UInt8.lt_trans h1 h2)
   .exact .inl h1
  .rcases h2 with h2|⟨rfl,h2⟩
   .exact .inl h2
   .exact .inr ⟨rfl,rN h1 h2⟩
theorem L7:∀a b:List UInt8,Op.bytesLess a b=true\/a=b\/Op.bytesLess b a=true
 | [],[]=>.inr (.inl rfl)
 | [],_::_=>.inl rfl
 |_::_,[]=>.inr (.inr rfl)
 |x::a,y::b=>by
  simp only[Op.bytesLess,abU,aab,decide_eq_true_eq,beq_iff_eq,List.cons.injEq];by_cases h:x<y
  .exact .inl (.inl h)
  .by_cases h2:y<x
   .exact .inr (.inr (.inl h2))
   .have e:x=y:=by have h3:¬x.toNat<y.toNat:=h;have h4:¬y.toNat<x.toNat:=h2;exact UInt8.toNat_inj.1 om
    subst e;rcases L7 a b with h5|h5|h5
    .exact .inl (.inr ⟨rfl,h5⟩)
    .exact .inr (.inl ⟨rfl,h5⟩)
    .exact .inr (.inr (.inr ⟨rfl,h5⟩))
abbrev NE:=ByteArray×Int
def AB(a b:ByteArray):Prop:=Op.bytesLess a.toList b.toList=true
def ER(es:List NE):Prop:=es.Pairwise λa b=>AB a.1 b.1
def ES(a b:ByteArray):Bool:= !(Op.bytesLess a.toList b.toList||a.toList==b.toList)
theorem Wa{a b:ByteArray}(h:ES a b=true):AB b a:=by
 unfold ES at h;simp only[abP,Bool.or_eq_false_iff,beq_eq_false_iff_ne]at h;rcases L7 a.toList b.toList with h1|h1|h1
 .rw[h.1]at h1;cases h1
 .exact absurd h1 h.2
 .exact h1
theorem SV{a b:ByteArray}(h:ES a b=false)(dt:a.toList≠b.toList):AB a b:=by unfold ES at h;simp only[Bool.not_eq_false',abU,beq_iff_eq]at h;exact h.elim id λh=>absurd h dt
structure L8(es:List NE)(x:NE)(k:Nat)(d:Bool)(cZ:List NE):Prop where
 f:d=false->cZ=es.take k/\∀(j:Nat)e,j<k->es[j]? =some e->ES e.1 x.1=false
 t:d=true->∃i,i<k/\cZ=es.take i++x::(es.take k).drop i/\(∀(j:Nat)e,j<i->es[j]? =some e->ES e.1 x.1=false)/\∃e,es[i]? =some e/\ES e.1 x.1=true
theorem IH{es:List NE}{k:Nat}(h:k<es.length):es.take (k+1)=es.take k++ [es[k]]:=by rw[abI,uX h];rfl
theorem L8.BB{es:List NE}{x:NE}{k:Nat}{cZ:List NE}(h:L8 es x k false cZ)(hk:k<es.length)(hg:ES es[k].1 x.1=true):L8 es x (k+1) true (cZ++ [x,es[k]]):=by
 obtain⟨h1,h2⟩:=h.f rfl;refine⟨λh=>(by cases h),λ_=>⟨k,ab0 k,?_,h2,es[k],uX hk,hg⟩⟩
 rw[IH hk,h1,List.drop_left' (by simp;omega)]
def iG(x:NE):List NE->List NE
 | []=>[x]
 |e::r=>if ES e.1 x.1=true then x::e::r else e::iG x r
theorem Cy{x:NE}:∀{a b:List NE},(∀e,e∈a->ES e.1 x.1=false)->iG x (a++b)=a++iG x b
 | [],_,_=>rfl
 |e::a,b,h=>by
  show iG x (e::(a++b))=_;rw[iG,if_neg (by rw[h e aC];simp),Cy λy hy=>h y (by simp[hy])]
  rfl
theorem Pq{x e:NE}{r:List NE}(h:ES e.1 x.1=true):iG x (e::r)=x::e::r:=by rw[iG,if_pos h]
theorem rO{x:NE}:∀{es:List NE}{e:NE},e∈iG x es->e∈es\/e=x
 | [],e,h=>by simp[iG]at h;exact .inr h
 |y::r,e,h=>by
  rw[iG]at h;split at h
  .rcases aa1.1 h with h|h
   .exact .inr h
   .exact .inl h
  .rcases aa1.1 h with h|h
   .exact .inl (by simp[h])
   .rcases rO h with h|h
    .exact .inl (by simp[h])
    .exact .inr h
theorem Cz{x:NE}:∀es:List NE,(iG x es).length=es.length+1
 | []=>rfl
 |y::r=>by
  rw[iG];split
  .rfl
  .simp[Cz r]
theorem L9{es:List NE}{x:NE}(hs:ER es)(dt:∀e,e∈es->e.1.toList≠x.1.toList):ER (iG x es):=by
 induction es with
 |nil=>exact acd.2 ⟨aC,List.Pairwise.nil⟩
 |cons e r ih=>
  obtain⟨h1,h2⟩:=acd.1 hs;rw[iG];split
  .rename_i hg;have hx:=Wa hg;refine acd.2 ⟨λy hy=>?_,hs⟩
   rcases aa1.1 hy with rfl|hy
   .exact hx
   .exact rN hx (h1 y hy)
  .rename_i hg;rw[acy]at hg;refine acd.2 ⟨λy hy=>?_,ih h2 λy hy=>dt y (by simp[hy])⟩
   rcases rO hy with hy|rfl
   .exact h1 y hy
   .exact SV hg (dt e aC)
def AD(es:List NE)(name:ByteArray)(n:Int):Prop:=(∃e,e∈es/\e.1.toList=name.toList/\n=e.2)\/(n= -1/\∀e,e∈es->e.1.toList≠name.toList)
def fB(es:List NE)(name:ByteArray):Int:=match es.find? (λe=>decide (e.1.toList=name.toList))with
 |some e=>e.2
 |none=>-1
theorem wq{es:List NE}(hs:ER es){a b:NE}(ha:a∈es)(hb:b∈es)(h:a.1.toList=b.1.toList):a=b:=by
 obtain⟨i,hi⟩:=Xt ha;obtain⟨j,hj⟩:=Xt hb;obtain⟨KR,eO⟩:=I4.1 hi;obtain⟨ya,lA⟩:=I4.1 hj;have hp:=abR.1 hs;rcases acO i j with h3|h3|h3
 .have:=hp i j KR ya h3;rw[eO,lA,AB,h,oy]at this;cases this
 .subst h3;rw[hi]at hj;cases hj;rfl
 .have:=hp j i ya KR h3;rw[eO,lA,AB,h,oy]at this;cases this
theorem iH(es:List NE)(name:ByteArray):AD es name (fB es name):=by
 unfold fB;cases h:es.find? (λe=>decide (e.1.toList=name.toList))with
 |some e=>
  have h1:=List.find?_some h;exact .inl ⟨e,List.mem_of_find?_eq_some h,by simpa using h1,rfl⟩
 |none=>exact .inr ⟨rfl,λe he=>by simpa using ac3.1 h e he⟩
theorem uD{es:List NE}(hs:ER es){name:ByteArray}{n k:Int}(h:AD es name n)(h2:AD es name k):n=k:=by
 rcases h with⟨e,he,h3,rfl⟩|⟨rfl,h3⟩
 .rcases h2 with⟨e',mr,h4,rfl⟩|⟨rfl,h4⟩
  .rw[wq hs he mr (h3.trans h4.symm)]
  .exact absurd h3 (h4 e he)
 .rcases h2 with⟨e',mr,h4,rfl⟩|⟨rfl,h4⟩
  .exact absurd h4 (h3 e' mr)
  .rfl
def noD:Dt:= .val (.slice none 0 0)
structure Ob where
 ah:Int
 data:List (List Dt)
 ak:List (List Dt)
 target:ByteArray
 aG:Int
 aj:Dt
 aA:Int
 am:Int
 up:Int
def Ob.enc(o:Ob):List Dt:=[.val (.int .i64 o.ah),.sl 1 o.data,.sl 2 o.ak,.val (.string o.target),.val (.int .i64 o.aG),o.aj,.val (.int .i64 o.aA),.val (.int .i64 o.am),.val (.int .i64 o.up)]
def Ps(l:List Ob):Dt:= .sl 9 (l.map Ob.enc)
def AE(l:List Ob):CV:= .rv (.one (.aa (Ps l)))
def oz(l:List Ob)(k ah:Int):Bool:=decide (k>=0)&&(decide (k<l.length)&&match l[k.toNat]? with|none=>false|some o=>o.ah !=0&&(ah==0||o.ah==ah))
theorem mT{l:List Ob}{k:Nat}(h:k<l.length):dx (l.map Ob.enc) (k:Nat)=some [.val (.int .i64 l[k].ah),.sl 1 l[k].data,.sl 2 l[k].ak,.val (.string l[k].target),.val (.int .i64 l[k].aG),l[k].aj,.val (.int .i64 l[k].aA),.val (.int .i64 l[k].am),.val (.int .i64 l[k].up)]:=by rw[bA,RA,uX h];rfl
theorem Ma{l:List Ob}{k:Int}(h:oz l k 0=true):∃n:Nat,k=n/\n<l.length:=by
 unfold oz at h;by_cases h0:k>=0
 .obtain⟨n,rfl⟩:∃n:Nat,k=n:=⟨k.toNat,om⟩;by_cases hn:n<l.length
  .exact⟨n,rfl,hn⟩
  .simp[hn]at h
 .simp[h0]at h
structure Wb(n:Nat)(ah:Int)(ak:List (List Dt)):Prop where
 ex:∃es:List NE,ak=es.map fP/\ER es/\(∀e,e∈es->0<=e.2/\e.2<(n:Int))/\(ah≠2->es=[])
def nJ:List Dt->NE
 | [.val (.string s),.val (.int .i64 n)]=>(s,n)
 |_=>(⟨#[]⟩,0)
theorem nt:∀es:List NE,(es.map fP).map nJ=es
 | []=>rfl
 |e::r=>by show(nJ (fP e))::((r.map fP).map nJ)=_;rw[nt r];rfl
def Wc:LC->LC
 | .seq a _=>a
 |x=>x
def bL:LC->LC
 | .seq _ b=>b
 |x=>x
def qt:LC->LC
 | .cS a=>a
 |x=>x
structure bD where
 bn:Int
 da:Int
def bD.enc(o:bD):List Dt:=[.val (.int .i64 o.bn),.val (.int .i64 o.da)]
structure bl where
 aQ:Bool
 fenced:Bool
 code:Int
 aV:List fk
def bl.enc(p:bl):List Dt:=[.val (.bool p.aQ),.val (.bool p.fenced),.val (.int .i64 p.code),yh p.aV]
def eN(l:List bD):Dt:= .sl 2 (l.map bD.enc)
def gd(l:List bl):Dt:= .sl 4 (l.map bl.enc)
def d9(l:List Obj)(op:List bD)(ps:List bl):CV:= .rv (.agg [.aa (db l),.aa (eN op),.aa (gd ps)])
inductive fa(Y:Nat->Nat)(m:Mem)(Z:Nat->Prop)(p:Option Nat):List CC->List CC->Prop
 |nil:fa Y m Z p [] []
 |cons {c c':CC} {r r':List CC} (h:sK Y m Z p c c') (hr:fa Y m Z p r r'):fa Y m Z p (c::r) (c'::r')
theorem fa.get{Y:Nat->Nat}{m:Mem}{Z:Nat->Prop}{p:Option Nat}{cs eR:List CC}(h:fa Y m Z p cs eR):∀(i:Nat)c',eR[i]? =some c'->∃c,cs[i]? =some c/\sK Y m Z p c c':=by
 induction h with
 |nil=>intro i c' h;simp at h
 |cons h hr ih=>
  intro i c' h2;cases i with
  |zero=>simp at h2;subst h2;exact⟨_,rfl,h⟩
  |succ i=>simpa using ih i c' (by simpa using h2)
theorem fa.var{Y:Nat->Nat}{m:Mem}{Z:Nat->Prop}{id:Nat}{cs eR:List CC}(h:fa Y m Z (some id) cs eR):l9 Y m Z id (.var cs) (.var eR):= .var h.get
def z3:List CC:=[.aO,.aO,.aO]
theorem be(ds:List (List Dt)):(af ds).length=ds.length:=by simp[af]
theorem dp(Y:Nat->Nat)(ds:List (List Dt)):(af ds).map (λcs=>cs.map (CC.aU Y))=af ds:=by simp[af,acP,CC.aU]
theorem Wd{Y:Nat->Nat}{m:Mem}{Z:Nat->Prop}{id:Nat}(l:List bl)(p:bl){c:CC}{X:List (List CC)}(hc:sK Y m Z (some id) c (.aa (yh p.aV)))(hX:X=af (l.map bl.enc)++ [[.aa (.val (.bool p.aQ)),.aa (.val (.bool p.fenced)),.aa (.val (.int .i64 p.code)),c]]):l9 Y m Z id (.row 4 X) (.row 4 (af ((l++ [p]).map bl.enc))):=by
 subst hX;have e:af ((l++ [p]).map bl.enc)=af (l.map bl.enc)++ [p.enc.map .aa]:=by simp[af]
 rw[e];refine .IB (dp Y _) rfl λj c1 c2 h1 h2=>?_
 match j,h1,h2 with
 |0,h1,h2=>cases h1;cases h2;exact .aU (.aa _)
 |1,h1,h2=>cases h1;cases h2;exact .aU (.aa _)
 |2,h1,h2=>cases h1;cases h2;exact .aU (.aa _)
 |3,h1,h2=>cases h1;cases h2;exact hc
 |n+4,h1,h2=>simp at h1
structure Mk where
 O:List Bool
 P:List Bool
def dg(L:List Bool)(i:Nat):Prop:=L[i]? =some true
def vO(l:List Obj)(z:Int)(i:Nat):Prop:=z=i/\∃o,l[i]? =some o/\o.ah≠0
def vP(ops:List bD)(z:Int)(c:Nat):Prop:=z=c/\c<ops.length
def sE(o:Obj)(z:Int):Prop:=∃nm:ByteArray,fP (nm,z)∈o.ak
def sQ(o:Obj)(z:Int):Prop:=∃q,q∈o.aj/\q.has=true/\q.dP=z
structure Step(l:List Obj)(ops:List bD)(E:Nat->Prop)(a b:Mk):Prop where
 lo:b.O.length=a.O.length
 lp:b.P.length=a.P.length
 mo:∀i,dg a.O i->dg b.O i
 mp:∀c,dg a.P c->dg b.P c
 co:∀i o,dg b.O i->¬dg a.O i->¬E i->l[i]? =some o->(∀z n,sE o z->vO l z n->dg b.O n)/\(∀z c,sQ o z->vP ops z c->dg b.P c)
 cp:∀c o,dg b.P c->¬dg a.P c->ops[c]? =some o->∀n,vO l o.bn n->dg b.O n
structure Cl(l:List Obj)(ops:List bD)(RO RP:Nat->Prop):Prop where
 e:∀i o,RO i->l[i]? =some o->∀z n,sE o z->vO l z n->RO n
 q:∀i o,RO i->l[i]? =some o->∀z c,sQ o z->vP ops z c->RP c
 p:∀c o,RP c->ops[c]? =some o->∀n,vO l o.bn n->RO n
def OC(RO RP:Nat->Prop)(a:Mk):Prop:=(∀i,dg a.O i->RO i)/\(∀c,dg a.P c->RP c)
def dZ(L:List Bool):Nat:=(L.filter (λb=>!b)).length
def Mk.mu(a:Mk):Nat:=dZ a.O+dZ a.P
theorem Step.refl{l:List Obj}{ops:List bD}{E:Nat->Prop}(a:Mk):Step l ops E a a:=
 ⟨rfl,rfl,λ_ h=>h,λ_ h=>h,λ_ _ h h2=>absurd h h2,λ_ _ h h2=>absurd h h2⟩
theorem Step.trans{l:List Obj}{ops:List bD}{E:Nat->Prop}{a b c:Mk}(h1:Step l ops E a b)(h2:Step l ops (λ_=>False) b c):Step l ops E a c:=by
 refine⟨h2.lo.trans h1.lo,h2.lp.trans h1.lp,λi h=>h2.mo i (h1.mo i h),λi h=>h2.mp i (h1.mp i h),λi o hi hn hE ho=>?_,λi o hi hn ho n hv=>?_⟩
 .by_cases hb:dg b.O i
  .obtain⟨k1,k2⟩:=h1.co i o hb hn hE ho;exact⟨λz n hz hv=>h2.mo n (k1 z n hz hv),λz c hz hv=>h2.mp c (k2 z c hz hv)⟩
  .exact h2.co i o hi hb (λh=>h) ho
 .by_cases hb:dg b.P i
  .exact h2.mo n (h1.cp i o hb hn ho n hv)
  .exact h2.cp i o hi hb ho n hv
theorem kM:∀(a b:List Bool),b.length=a.length->(∀i,dg a i->dg b i)->dZ b<=dZ a
 | [],[],_,_=>Ts _
 | [],_::_,h,_=>by simp at h
 |_::_,[],h,_=>by simp at h
 |x::a,y::b,h,hm=>by
  have ih:=kM a b (by simpa using h) (λi hi=>by simpa[dg]using hm (i+1) (by simpa[dg]using hi))
  have h0:x=true->y=true:=λhx=>by simpa[dg]using hm 0 (by simp[dg,hx])
  unfold dZ at ih|-;cases x<;>cases y<;>simp at h0|-<;>omega
theorem qv:∀(a:List Bool)(n:Nat),a[n]? =some false->dZ (a.set n true)+1=dZ a
 | [],n,h=>by simp at h
 |x::a,0,h=>by simp at h;subst h;simp[dZ]
 |x::a,n+1,h=>by
  have ih:=qv a n (by simpa using h)
  unfold dZ at ih|-;cases x<;>simp at ih|-<;>omega
theorem G6{L:List Bool}{n i:Nat}(h:dg L i):dg (L.set n true) i:=by
 unfold dg at h|-;rw[abl];split
 .rename_i e;subst e;have:=(I4.1 h).1;simp[this]
 .exact h
theorem rP{L:List Bool}{n:Nat}(h:n<L.length):dg (L.set n true) n:=by unfold dg;simp[h]
theorem kX{L:List Bool}{n i:Nat}(h:dg (L.set n true) i):dg L i\/i=n:=by
 unfold dg at h|-;rw[abl]at h;split at h
 .rename_i e;exact .inr e.symm
 .exact .inl h
structure PO(l:List Obj)(ops:List bD)(z:Int)(a b:Mk):Prop where
 st:Step l ops (λ_=>False) a b
 on:∀n,vO l z n->dg b.O n
 sd:∀RO RP,Cl l ops RO RP->OC RO RP a->(∀n,vO l z n->RO n)->OC RO RP b
structure PP(l:List Obj)(ops:List bD)(z:Int)(a b:Mk):Prop where
 st:Step l ops (λ_=>False) a b
 on:∀c,vP ops z c->dg b.P c
 sd:∀RO RP,Cl l ops RO RP->OC RO RP a->(∀c,vP ops z c->RP c)->OC RO RP b
theorem PO.none{l:List Obj}{ops:List bD}{z:Int}{a:Mk}(h:∀n,vO l z n->dg a.O n):PO l ops z a a:=⟨.refl a,h,λ_ _ _ h _=>h⟩
theorem PP.none{l:List Obj}{ops:List bD}{z:Int}{a:Mk}(h:∀n,vP ops z n->dg a.P n):PP l ops z a a:=⟨.refl a,h,λ_ _ _ h _=>h⟩
structure y6(l:List Obj)(ops:List bD)(n:Nat)(a b:Mk)(nE nQ:Nat)(es:List (ByteArray×Int))(qs:List br):Prop where
 st:Step l ops (λi=>i=n) a b
 on:dg b.O n
 e:∀j e,j<nE->es[j]? =some e->∀m,vO l e.2 m->dg b.O m
 q:∀j q,j<nQ->qs[j]? =some q->q.has=true->∀c,vP ops q.dP c->dg b.P c
 sd:∀RO RP,Cl l ops RO RP->OC RO RP a->RO n->OC RO RP b
theorem y6.start{l:List Obj}{ops:List bD}{n:Nat}{a:Mk}(hn:n<a.O.length)(es:List (ByteArray×Int))(qs:List br):y6 l ops n a ⟨a.O.set n true,a.P⟩ 0 0 es qs:=by
 refine⟨⟨aC,rfl,λi h=>G6 h,λi h=>h,λi o h h2 h3=>?_,λ_ _ h h2=>absurd h h2⟩,rP hn,λj e h=>absurd h (abi j),λj e h=>absurd h (abi j),λRO RP _ h hr=>⟨λi hi=>?_,h.2⟩⟩
 .rcases kX h with h|h
  .exact absurd h h2
  .exact absurd h h3
 .rcases kX hi with hi|rfl
  .exact h.1 i hi
  .exact hr
theorem y6.We{l:List Obj}{ops:List bD}{n:Nat}{a b c:Mk}{j:Nat}{es:List (ByteArray×Int)}{qs:List br}(h:y6 l ops n a b j 0 es qs){e:ByteArray×Int}(he:es[j]? =some e)(hc:PO l ops e.2 b c){o:Obj}(ho:l[n]? =some o)(nX:o.ak=es.map fP):y6 l ops n a c (j+1) 0 es qs:=by
 have hse:sE o e.2:=⟨e.1,by rw[nX];exact ac0 (RD he)⟩
 refine⟨h.st.trans hc.st,hc.st.mo n h.on,λi x hi hx m hv=>?_,λi x hi=>absurd hi (abi i),λRO RP ib iS hr=>hc.sd RO RP ib (h.sd RO RP ib iS hr) λm hv=>ib.e n o hr ho e.2 m hse hv⟩
 rcases aad i j with rh|rh
 .exact hc.st.mo m (h.e i x rh hx m hv)
 .have:i=j:=om;subst this;rw[he]at hx;cases hx;exact hc.on m hv
theorem y6.Wf{l:List Obj}{ops:List bD}{n:Nat}{a b c:Mk}{k j:Nat}{es:List (ByteArray×Int)}{qs:List br}(h:y6 l ops n a b k j es qs){q:br}(hq:qs[j]? =some q)(hh:q.has=true)(hc:PP l ops q.dP b c){o:Obj}(ho:l[n]? =some o)(ZH:o.aj=qs):y6 l ops n a c k (j+1) es qs:=by
 have hsq:sQ o q.dP:=⟨q,by rw[ZH];exact RD hq,hh,rfl⟩
 refine⟨h.st.trans hc.st,hc.st.mo n h.on,λi x hi hx m hv=>hc.st.mo m (h.e i x hi hx m hv),λi x hi hx Wg m hv=>?_,λRO RP ib iS hr=>hc.sd RO RP ib (h.sd RO RP ib iS hr) λm hv=>ib.q n o hr ho q.dP m hsq hv⟩
 rcases aad i j with rh|rh
 .exact hc.st.mp m (h.q i x rh hx Wg m hv)
 .have:i=j:=om;subst this;rw[hq]at hx;cases hx;exact hc.on m hv
theorem y6.Wh{l:List Obj}{ops:List bD}{n:Nat}{a b:Mk}{k j:Nat}{es:List (ByteArray×Int)}{qs:List br}(h:y6 l ops n a b k j es qs){q:br}(hq:qs[j]? =some q)(hh:q.has=false):y6 l ops n a b k (j+1) es qs:=by
 refine⟨h.st,h.on,h.e,λi x hi hx Wg m hv=>?_,h.sd⟩
 rcases aad i j with rh|rh
 .exact h.q i x rh hx Wg m hv
 .have:i=j:=om;subst this;rw[hq]at hx;cases hx;rw[hh]at Wg;cases Wg
theorem y6.iy{l:List Obj}{ops:List bD}{n:Nat}{a b:Mk}{es:List (ByteArray×Int)}{qs:List br}(h:y6 l ops n a b es.length qs.length es qs){o:Obj}(ho:l[n]? =some o)(hk:o.ah≠0)(nX:o.ak=es.map fP)(ZH:o.aj=qs):PO l ops (n:Int) a b:=by
 refine⟨⟨h.st.lo,h.st.lp,h.st.mo,h.st.mp,λi x hi O8 _ hx=>?_,h.st.cp⟩,λm hv=>?_,λRO RP ib iS hr=>h.sd RO RP ib iS (hr n ⟨rfl,o,ho,hk⟩)⟩
 .by_cases iS:i=n
  .subst iS;rw[ho]at hx;cases hx;refine⟨λz m⟨nm,hm⟩hv=>?_,λz c⟨q,hq,hh,hz⟩hv=>?_⟩
   .rw[nX]at hm;obtain⟨e,he,nr⟩:=aak.1 hm;have:e.2=z:=by simp[fP]at nr;exact nr.2
    subst this;obtain⟨j,hj⟩:=Xt he;exact h.e j e (I4.1 hj).1 hj m hv
   .rw[ZH]at hq;obtain⟨j,hj⟩:=Xt hq;subst hz;exact h.q j q (I4.1 hj).1 hj hh c hv
  .exact h.st.co i x hi O8 iS hx
 .have:m=n:=by have:=hv.1;omega
  subst this;exact h.on
theorem PP.of{l:List Obj}{ops:List bD}{a b:Mk}{c:Nat}(hc:c<a.P.length){o:bD}(ho:ops[c]? =some o)(h:PO l ops o.bn ⟨a.O,a.P.set c true⟩ b):PP l ops (c:Int) a b:=by
 have lw:Step l ops (λ_=>False) a b:=by
  refine⟨h.st.lo,by have:=h.st.lp;simpa using this,h.st.mo,λi hi=>h.st.mp i (G6 hi),λi x hi O8=>h.st.co i x hi O8,λi x hi O8 hx n hv=>?_⟩
  by_cases hic:i=c
  .subst hic;rw[ho]at hx;cases hx;exact h.on n hv
  .exact h.st.cp i x hi (λhs=>(kX hs).elim O8 hic) hx n hv
 refine⟨lw,λd hd=>?_,λRO RP ib iS hr=>?_⟩
 .have:d=c:=by have:=hd.1;omega
  subst this;exact h.st.mp d (rP hc)
 .have hrc:RP c:=hr c ⟨rfl,(I4.1 ho).1⟩;exact h.sd RO RP ib ⟨iS.1,λi hi=>(kX hi).elim (iS.2 i) λe=>e▸hrc⟩ λn hv=>ib.p c o hrc ho n hv
end Go.Proofs.YtodckkkbiidffaaGreatDoor
namespace Go.Proofs.YtodckkkbiidffaaGreatDoor
open Proofs.Tryz
open Go.AM Go.ChangeShapes Go.WideShapes Go.ChangeAt Go.RowKit
def c142:LF:= ⟨88,[],(.seq (.seq (.ai [qm 9 1,qu 10 (.aJ .lss 9 (qi 0)),qm 11 10,qg 12 (.aK 1) 11 false,qg 13 (.aK 0) 11 false,qg 14 (.aP 13) 11 false,qg 15 (.cj 1 14) 11 false,qg 16 (.load false 1 15) 11 false,qg 17 (.len 1 16) 11 false,qg 18 (.aJ .geq 12 17) 11 false,qu 19 (.pick 11 (qb true) 18),qm 20 19,qg 21 (.aK 0) 20 false,qg 22 (.aP 21) 20 false,qg 23 (.cj 1 22) 20 false,qg 24 (.load false 1 23) 20 false,qg 25 (.aK 1) 20 false,qg 26 (.cw 1 24 25) 20 false,qg 27 (.load false 1 26) 20 false,qu 28 (.pick 20 (qb true) 27),qm 29 28,qg 30 (.aK 0) 29 false,qg 31 (.aP 30) 29 false,qg 32 (.cj 0 31) 29 false,qg 33 (.load false 1 32) 29 false,qg 34 (.aP 33) 29 false,qg 35 (.cj 0 34) 29 false,qg 36 (.load false 1 35) 29 false,qg 37 (.aK 1) 29 false,qg 38 (.cw 9 36 37) 29 false,qg 39 (.cj 0 38) 29 false,qg 40 (.load false 1 39) 29 false,qg 41 (.aJ .eql 40 (qi 0)) 29 false,qu 42 (.pick 29 (qb true) 41)]) (.cond 42 .ret .skip)) (.seq (.ai [qm 43 0,qu 44 (.aP 43),qf 45 1 44,ql 46 45,qm 47 1,qu 48 (.cw 1 46 47),qw (.store 1 48 (qb true))]) (.seq (.ai [qm 49 0,qu 50 (.aP 49),qf 51 0 50,ql 52 51,qu 53 (.aP 52),qf 54 0 53,ql 55 54,qm 56 1,qu 57 (.cw 9 55 56),qm 4 57]) (.seq (.seq (.ai [qm 58 4,qu 59 (.aP 58),qf 60 2 59,ql 61 60,qu 62 (.len 1 61),qu 63 (.aK (qi 0))]) (.block 0 (.loop (.seq (.ai [qu 64 (.aJ .lss 63 62)]) (.seq (.cond 64 .skip (.exit 0)) (.seq (.block 1 (.seq (.ai [qu 65 (.cw 2 61 63),qL 66 2 65,qu 6 (.alloc [(.aa (.val (.string ⟨#[]⟩))),qd 0]),qw (.store 2 6 66)]) (.ai [qm 67 0,qf 68 1 6,ql 69 68,qu 70 (qc 142 [67,69])]))) (.ai [qu 71 (.aJ .add 63 (qi 1)),qm 63 71]))))))) (.seq (.ai [qm 72 4,qu 73 (.aP 72),qf 74 5 73,ql 75 74,qu 76 (.len 1 75),qu 77 (.aK (qi 0))]) (.block 2 (.loop (.seq (.ai [qu 78 (.aJ .lss 77 76)]) (.seq (.cond 78 .skip (.exit 2)) (.seq (.block 3 (.seq (.ai [qu 79 (.cw 4 75 77),qL 80 4 79,qu 8 (.alloc [.aO,(.aa (.val (.bool false))),qd 0,qd 0]),qw (.store 4 8 80)]) (.seq (.ai [qf 81 1 8,ql 82 81]) (.cond 82 (.ai [qm 83 0,qf 84 2 8,qL 85 2 84,qu 86 (qc 143 [83,85])]) .skip)))) (.ai [qu 87 (.aJ .add 77 (qi 1)),qm 77 87])))))))))))⟩
def c143:LF:= ⟨48,[],(.seq (.ai [qu 3 (.box 1)]) (.seq (.seq (.bR [qf 4 0 3,ql 5 4,qu 6 (.aJ .lss 5 (qi 0)),qm 7 6,qg 8 (.cj 0 3) 7 false,qg 9 (.load false 1 8) 7 false,qg 10 (.aK 0) 7 false,qg 11 (.aP 10) 7 false,qg 12 (.cj 2 11) 7 false,qg 13 (.load false 1 12) 7 false,qg 14 (.len 1 13) 7 false,qg 15 (.aJ .geq 9 14) 7 false,qu 16 (.pick 7 (qb true) 15),qm 17 16,qg 18 (.aK 0) 17 false,qg 19 (.aP 18) 17 false,qg 20 (.cj 2 19) 17 false,qg 21 (.load false 1 20) 17 false,qg 22 (.cj 0 3) 17 false,qg 23 (.load false 1 22) 17 false,qg 24 (.cw 1 21 23) 17 false,qg 25 (.load false 1 24) 17 false,qu 26 (.pick 17 (qb true) 25)] [(.cons 0 none (.cons 1 none (.cons 2 none (.cons 3 none (.cons 4 none (.cons 5 none (.cons 6 none (.cons 7 none (.cons 8 none (.cons 9 none (.cons 10 none (.cons 11 none (.cons 12 none (.cons 13 none (.cons 14 none (.cons 15 none (.cons 16 none (.cons 17 none (.cons 18 none (.cons 19 none (.cons 20 none (.cons 21 none (.cons 22 none .nil)))))))))))))))))))))))]) (.cond 26 .ret .skip)) (.seq (.bR [qm 27 0,qu 28 (.aP 27),qf 29 2 28,ql 30 29,qf 31 0 3,ql 32 31,qu 33 (.cw 1 30 32),qw (.store 1 33 (qb true))] [(.cons 0 none (.cons 1 none (.cons 2 none (.cons 3 none (.cons 4 none (.cons 5 none (.cons 6 none (.cons 7 (some []) .nil))))))))]) (.bR [qm 34 0,qm 35 0,qu 36 (.aP 35),qf 37 0 36,ql 38 37,qu 39 (.aP 38),qf 40 1 39,ql 41 40,qf 42 0 3,ql 43 42,qu 44 (.cw 2 41 43),qf 45 0 44,ql 46 45,qu 47 (qc 142 [34,46])] [(.cons 0 none (.cons 1 none (.cons 2 none (.cons 3 none (.cons 4 none (.cons 5 none (.cons 6 none (.cons 7 none (.cons 8 none (.cons 9 none (.cons 10 none (.cons 11 none (.cons 12 none (.cons 13 (some []) .nil))))))))))))))]))))⟩
def bE(b:Bool):List Dt:=[.val (.bool b)]
theorem l142:bu prog f142=some c142:=by kernel_rfl
theorem l143:bu prog Tryz.f143=some c143:=by kernel_rfl
def yi(l:List Obj)(ops:List bD)(a:Mk):Prop:=a.O.length=l.length/\a.P.length=ops.length
theorem tn{L:List Bool}{n:Nat}(h:n<L.length):cD (af (L.map bE)) n=some [.aa (.val (.bool L[n]))]:=bH bE L h
theorem y7{L:List Bool}{n:Nat}(h:n<L.length):dN (n:Int) (lenOf (af (L.map bE)).length 0 none)=some n:=cr (by show n<(af (L.map bE)).length;rw[be,ML];exact h)
theorem Mb{L:List Bool}{n:Nat}:aW (af (L.map bE)) n [CC.aa (.val (.bool true))]=af ((L.set n true).map bE):=ns bE L n true
theorem y6.Rl{l:List Obj}{ops:List bD}{n:Nat}{a b:Mk}{k j:Nat}{es:List (ByteArray×Int)}{qs:List br}(h:y6 l ops n a b k j es qs):b.mu<=(⟨a.O.set n true,a.P⟩:Mk).mu:=by
 refine Nat.add_le_add (kM _ _ (by rw[aaY];exact h.st.lo) λi hi=>?_) (kM _ _ h.st.lp h.st.mp)
 rcases kX hi with hi|rfl
 .exact h.st.mo i hi
 .exact h.on
theorem Pu{qs:List br}{k:Nat}(h:k<qs.length):dx (qs.map br.enc) (k:Nat)=some [.sl 1 qs[k].data,.val (.bool qs[k].has),.val (.int .i64 qs[k].dP),.val (.int .i64 qs[k].b9)]:=by rw[bA,RA,uX h];rfl
structure StM where
 j:Nat
 b:Mk
def uV(l:List Obj)(ops:List bD)(ps:List bl)(a:Mk):Mem:=
 [.var [.ptr 1 0,.row 2 1 0 none,.row 3 1 0 none],.var [.row 4 9 0 none,.row 5 2 0 none,.row 6 4 0 none],.row 1 (af (a.O.map bE)),.row 1 (af (a.P.map bE)),.row 9 (af (l.map Obj.enc)),.row 2 (af (ops.map bD.enc)),.row 4 (af (ps.map bl.enc))]
theorem wt{l:List Obj}{ops:List bD}{ps:List bl}{a:Mk}{f:Nat}{args:List CV}{Q:Mk->Prop}(h:aq prog f args (uV l ops ps a) (λr m=>∃b,Q b/\r= .bz []/\m=uV l ops ps b))(x:Bk)(eF:args=args.map (CV.aU (sg [0,1,2,3,4,5,6] 8))){K:CV->Mem->Prop}(hK:∀b,Q b->K (.bz []) [.var [.ptr 1 0,.row 2 1 0 none,.row 3 1 0 none],.var [.row 4 9 0 none,.row 5 2 0 none,.row 6 4 0 none],.row 1 (af (b.O.map bE)),.row 1 (af (b.P.map bE)),.row 9 (af (l.map Obj.enc)),.row 2 (af (ops.map bD.enc)),.row 4 (af (ps.map bl.enc)),x]):
  aq prog f args [.var [.ptr 1 0,.row 2 1 0 none,.row 3 1 0 none],.var [.row 4 9 0 none,.row 5 2 0 none,.row 6 4 0 none],.row 1 (af (a.O.map bE)),.row 1 (af (a.P.map bE)),.row 9 (af (l.map Obj.enc)),.row 2 (af (ops.map bD.enc)),.row 4 (af (ps.map bl.enc)),x] K:=by
 refine bq [0,1,2,3,4,5,6] 8 rfl rfl rfl rfl (args0:=args) eF (λi b' hi=>?_) h (λr m1 hr=>?_)
 .match i,hi with
  |0,hi=>cases hi;exact .inr ⟨λh=>h,_,rfl,.eq rfl aC⟩
  |1,hi=>cases hi;exact .inr ⟨λh=>h,_,rfl,.eq rfl aC⟩
  |2,hi=>cases hi;exact .inr ⟨λh=>h,_,rfl,.bI rfl⟩
  |3,hi=>cases hi;exact .inr ⟨λh=>h,_,rfl,.bI rfl⟩
  |4,hi=>cases hi;exact .inr ⟨λh=>h,_,rfl,.bI rfl⟩
  |5,hi=>cases hi;exact .inr ⟨λh=>h,_,rfl,.bI rfl⟩
  |6,hi=>cases hi;exact .inr ⟨λh=>h,_,rfl,.bI rfl⟩
  |n+7,hi=>simp[uV]at hi
 .obtain⟨b,hb,rfl,rfl⟩:=hr;refine⟨Ts _,?_⟩;have e2:(Bk.row 1 (af (b.O.map bE))).aU (sg [0,1,2,3,4,5,6] 8)= .row 1 (af (b.O.map bE)):=by simp only[Bk.aU,dp]
  have e3:(Bk.row 1 (af (b.P.map bE))).aU (sg [0,1,2,3,4,5,6] 8)= .row 1 (af (b.P.map bE)):=by simp only[Bk.aU,dp]
  show K _ [.var [.ptr 1 0,.row 2 1 0 none,.row 3 1 0 none],.var [.row 4 9 0 none,.row 5 2 0 none,.row 6 4 0 none],(Bk.row 1 (af (b.O.map bE))).aU (sg [0,1,2,3,4,5,6] 8),(Bk.row 1 (af (b.P.map bE))).aU (sg [0,1,2,3,4,5,6] 8),(Bk.row 9 (af (l.map Obj.enc))).aU (sg [0,1,2,3,4,5,6] 8),(Bk.row 2 (af (ops.map bD.enc))).aU (sg [0,1,2,3,4,5,6] 8),(Bk.row 4 (af (ps.map bl.enc))).aU (sg [0,1,2,3,4,5,6] 8),x];have e4:(Bk.row 9 (af (l.map Obj.enc))).aU (sg [0,1,2,3,4,5,6] 8)= .row 9 (af (l.map Obj.enc)):=by simp only[Bk.aU,dp]
  have e5:(Bk.row 2 (af (ops.map bD.enc))).aU (sg [0,1,2,3,4,5,6] 8)= .row 2 (af (ops.map bD.enc)):=by simp only[Bk.aU,dp]
  have e6:(Bk.row 4 (af (ps.map bl.enc))).aU (sg [0,1,2,3,4,5,6] 8)= .row 4 (af (ps.map bl.enc)):=by simp only[Bk.aU,dp]
  rw[e2,e3,e4,e5,e6];exact hK b hb
theorem ET(l:List Obj)(ops:List bD)(ps:List bl)(g:∀o,o∈l->o.sm)(N:Nat)(Us:∀a z,yi l ops a->a.mu<N->aq prog 142 [.rv (.one (.ptr 0 0)),an .i64 z] (uV l ops ps a) (λr m=>∃b,PO l ops z a b/\r= .bz []/\m=uV l ops ps b))(ZI:∀a z w,yi l ops a->a.mu<N->aq prog 143 [.rv (.one (.ptr 0 0)),.rv (.agg [.aa (.val (.int .i64 z)),.aa (.val (.int .i64 w))])] (uV l ops ps a) (λr m=>∃b,PP l ops z a b/\r= .bz []/\m=uV l ops ps b))(a:Mk)(z:Int)(ZJ:yi l ops a)(Wi:a.mu<=N):body prog c142 [.rv (.one (.ptr 0 0)),an .i64 z] (uV l ops ps a) (λr m=>∃b,PO l ops z a b/\r= .bz []/\m=uV l ops ps b):=by
 have hlen:∀L:List Bool,(af (L.map bE)).length=L.length:=λL=>by rw[be,ML]
 obtain⟨hO,hP⟩:=ZJ;refine aL (λh=>?_) (λh0=>?_)
 .exact⟨a,.none λn hv=>by have:=hv.1;have h:z<0:=h;omega,rfl,rfl⟩
 obtain⟨n,rfl⟩:∃n:Nat,z=n:=⟨z.toNat,by have h:¬z<0:=h0;omega⟩
 refine aL (λh=>?_) (λh1=>?_)
 .refine⟨a,.none λm hv=>?_,rfl,rfl⟩
  obtain⟨hz,o,ho,_⟩:=hv;have h:(n:Int)>=((af (a.O.map bE)).length:Int):=h;rw[hlen]at h;have:=(I4.1 ho).1;omega
 have hn:n<a.O.length:=by have h:¬(n:Int)>=((af (a.O.map bE)).length:Int):=h1;rw[hlen]at h;omega
 have jT:n<l.length:=om;refine ag (y7 hn) ?_;refine ag (tn hn) ?_;refine aM (λh2=>?_) (λh2=>?_)
 .refine⟨a,.none λm hv=>?_,rfl,rfl⟩
  have:m=n:=by have:=hv.1;omega
  subst this;exact(uX hn).trans (congrArg some h2)
 have Mc:dN (n:Int) (lenOf (af (l.map Obj.enc)).length 0 none)=some n:=cr (by show n<(af (l.map Obj.enc)).length;rw[be,ML];exact jT)
 have OD:=bH Obj.enc l jT;have Am:=uX jT;have Ej:=g _ (aal jT);generalize l[n]=o at OD Am Ej;obtain⟨ah,data,ak,target,aG,aj,aA,am,up⟩:=o;obtain⟨es,rfl⟩:∃es:List (ByteArray×Int),ak=es.map fP:=Ej.t.2.1;refine ag Mc ?_;refine ag OD ?_;refine bp (λh3=>?_) (λh3=>?_)
 .refine⟨a,.none λm hv=>?_,rfl,rfl⟩
  obtain⟨hz,o2,gV,hk⟩:=hv;have:m=n:=om;subst this;rw[Am]at gV;cases gV;exact absurd h3 hk
 have h3:ah≠0:=h3;have Lz:es.length<=8:=by have:=Ej.e;simpa using this
 have G5:aj.length<=8:=Ej.q;have rQ:=y6.start (l:=l) (ops:=ops) hn es aj;have Wj:(⟨a.O.set n true,a.P⟩:Mk).mu<N:=by have:=qv a.O n ((uX hn).trans (congrArg some h2));have Wi:dZ a.O+dZ a.P<=N:=Wi;show dZ (a.O.set n true)+dZ a.P<N;omega
 refine ag (y7 hn) ?_;refine ag (tn hn) ?_;refine ag Mc ?_;refine ag OD ?_;refine bb (λ(s:StM)=>s.j<=es.length/\y6 l ops n a s.b s.j 0 es aj) [0,4,61,62] (λs=>[(63,an .i64 (s.j:Nat))]) (λs=>[.var [.ptr 1 0,.row 2 1 0 none,.row 3 1 0 none],.var [.row 4 9 0 none,.row 5 2 0 none,.row 6 4 0 none],.row 1 (af (s.b.O.map bE)),.row 1 (af (s.b.P.map bE)),.row 9 (af (l.map Obj.enc)),.row 2 (af (ops.map bD.enc)),.row 4 (af (ps.map bl.enc))]) (λs=>es.length-s.j) ⟨0,_⟩ ⟨aaj _,rQ⟩ ?_ (λs hs=>?_)
 .refine View.o1 7 [0,1,2,3,4,5,6] [] ?_
  .exact .pe rfl rfl rfl (.pe rfl rfl rfl (.pt rfl rfl (.bI Mb) (.pr rfl rfl rfl (.pr rfl rfl rfl (.pr rfl rfl rfl (.pn rfl rfl rfl))))))
 obtain⟨j,b⟩:=s;obtain⟨hj,hM⟩:=hs;have hj:j<=es.length:=hj;have hM:y6 l ops n a b j 0 es aj:=hM;refine aL (λh=>?_) (λh=>?_)
 .have d8:j<es.length:=by have h:(j:Int)<((es.map fP).length:Int):=h;rw[ML]at h;omega
  refine ag (Pp d8) ?_;have VG:=hM.Rl;refine wt (Us b es[j].2 ⟨hM.st.lo.trans hO,hM.st.lp.trans hP⟩ om) _ rfl λc hc=>?_
  refine⟨⟨j+1,c⟩,⟨d8,hM.We (uX d8) hc Am rfl⟩,(show es.length-(j+1)<es.length-j by omega),View.o 8 [0,1,2,3,4,5,6] [] ?_ ?_⟩
  .repeat(first|exact .nil|refine .ap ?_|refine .put (.aU (aN om).symm) ?_|refine .eq rfl ?_)
  .exact .pe rfl rfl rfl (.pe rfl rfl rfl (.pr rfl rfl rfl (.pr rfl rfl rfl (.pr rfl rfl rfl (.pr rfl rfl rfl (.pn rfl rfl rfl))))))
 .have GL:j=es.length:=by have h:¬(j:Int)<((es.map fP).length:Int):=h;rw[ML]at h;omega
  subst GL;refine ag OD ?_;refine bb (λ(s:StM)=>s.j<=aj.length/\y6 l ops n a s.b es.length s.j es aj) [0,75,76] (λs=>[(77,an .i64 (s.j:Nat))]) (λs=>[.var [.ptr 1 0,.row 2 1 0 none,.row 3 1 0 none],.var [.row 4 9 0 none,.row 5 2 0 none,.row 6 4 0 none],.row 1 (af (s.b.O.map bE)),.row 1 (af (s.b.P.map bE)),.row 9 (af (l.map Obj.enc)),.row 2 (af (ops.map bD.enc)),.row 4 (af (ps.map bl.enc))]) (λs=>aj.length-s.j) ⟨0,b⟩ ⟨aaj _,hM⟩ ?_ (λs hs=>?_)
  .refine View.o1 7 [0,1,2,3,4,5,6] [] ?_
   .exact .pe rfl rfl rfl (.pe rfl rfl rfl (.pr rfl rfl rfl (.pr rfl rfl rfl (.pr rfl rfl rfl (.pr rfl rfl rfl (.pn rfl rfl rfl))))))
  clear hM hj h;obtain⟨j,b⟩:=s;obtain⟨hj,hM⟩:=hs;have hj:j<=aj.length:=hj;have hM:y6 l ops n a b es.length j es aj:=hM;refine aL (λh=>?_) (λh=>?_)
  .have d8:j<aj.length:=by have h:(j:Int)<((aj.map br.enc).length:Int):=h;rw[ML]at h;omega
   have SC:=uX d8;refine ag (Pu d8) ?_;have VG:=hM.Rl;refine aM (λhh=>?_) (λhh=>?_)
   .refine wt (ZI b aj[j].dP aj[j].b9 ⟨hM.st.lo.trans hO,hM.st.lp.trans hP⟩ om) _ rfl λc hc=>?_
    refine⟨⟨j+1,c⟩,⟨d8,hM.Wf SC hh hc Am rfl⟩,(show aj.length-(j+1)<aj.length-j by omega),View.o 8 [0,1,2,3,4,5,6] [] ?_ ?_⟩
    .repeat(first|exact .nil|refine .ap ?_|refine .put (.aU (aN om).symm) ?_|refine .eq rfl ?_)
    .exact .pe rfl rfl rfl (.pe rfl rfl rfl (.pr rfl rfl rfl (.pr rfl rfl rfl (.pr rfl rfl rfl (.pr rfl rfl rfl (.pn rfl rfl rfl))))))
   .skip
    refine⟨⟨j+1,b⟩,⟨d8,hM.Wh SC hh⟩,(show aj.length-(j+1)<aj.length-j by omega),View.o 8 [0,1,2,3,4,5,6] [] ?_ ?_⟩
    .repeat(first|exact .nil|refine .ap ?_|refine .put (.aU (aN om).symm) ?_|refine .eq rfl ?_)
    .exact .pe rfl rfl rfl (.pe rfl rfl rfl (.pr rfl rfl rfl (.pr rfl rfl rfl (.pr rfl rfl rfl (.pr rfl rfl rfl (.pn rfl rfl rfl))))))
  .have GL:j=aj.length:=by have h:¬(j:Int)<((aj.map br.enc).length:Int):=h;rw[ML]at h;omega
   subst GL;exact⟨b,hM.iy Am h3 rfl rfl,rfl,rfl⟩
theorem EU(l:List Obj)(ops:List bD)(ps:List bl)(N:Nat)(Us:∀a z,yi l ops a->a.mu<N->aq prog 142 [.rv (.one (.ptr 0 0)),an .i64 z] (uV l ops ps a) (λr m=>∃b,PO l ops z a b/\r= .bz []/\m=uV l ops ps b))(a:Mk)(z w:Int)(ZJ:yi l ops a)(Wi:a.mu<=N):body prog c143 [.rv (.one (.ptr 0 0)),.rv (.agg [.aa (.val (.int .i64 z)),.aa (.val (.int .i64 w))])] (uV l ops ps a) (λr m=>∃b m',PP l ops z a b/\r= .bz []/\m=uV l ops ps b++m'):=by
 have hlen:∀L:List Bool,(af (L.map bE)).length=L.length:=λL=>by rw[be,ML]
 obtain⟨hO,hP⟩:=ZJ;refine aL (λh=>?_) (λh0=>?_)
 .exact⟨a,[_],.none λn hv=>by have:=hv.1;have h:z<0:=h;omega,rfl,rfl⟩
 obtain⟨n,rfl⟩:∃n:Nat,z=n:=⟨z.toNat,by have h:¬z<0:=h0;omega⟩
 refine aL (λh=>?_) (λh1=>?_)
 .refine⟨a,[_],.none λm hv=>?_,rfl,rfl⟩
  obtain⟨hz,ho⟩:=hv;have h:(n:Int)>=((af (a.P.map bE)).length:Int):=h;rw[hlen]at h;omega
 have hn:n<a.P.length:=by have h:¬(n:Int)>=((af (a.P.map bE)).length:Int):=h1;rw[hlen]at h;omega
 have jT:n<ops.length:=om;refine ag (y7 hn) ?_;refine ag (tn hn) ?_;refine aM (λh2=>?_) (λh2=>?_)
 .refine⟨a,[_],.none λm hv=>?_,rfl,rfl⟩
  have:m=n:=by have:=hv.1;omega
  subst this;exact(uX hn).trans (congrArg some h2)
 have Wj:(⟨a.O,a.P.set n true⟩:Mk).mu<N:=by have:=qv a.P n ((uX hn).trans (congrArg some h2));have Wi:dZ a.O+dZ a.P<=N:=Wi;show dZ a.O+dZ (a.P.set n true)<N;omega
 refine ag (y7 hn) ?_;refine ag (tn hn) ?_;refine⟨trivial,?_⟩;have Mc:dN (n:Int) (lenOf (af (ops.map bD.enc)).length 0 none)=some n:=cr (by show n<(af (ops.map bD.enc)).length;rw[be,ML];exact jT)
 refine ag Mc ?_;refine ag (bH bD.enc ops jT) ?_;refine pa (pM:=[.rv (.one (.ptr 0 0)),an .i64 ops[n].bn]) (m':=uV l ops ps ⟨a.O,a.P.set n true⟩ ++ [.var [.aa (.val (.int .i64 (n:Nat))),.aa (.val (.int .i64 w))]]) (View.o 8 [0,1,2,3,4,5,6,7] [] (.eq rfl (.eq rfl .nil))
  (.pe rfl rfl rfl (.pe rfl rfl rfl (.pr rfl rfl rfl (.pt rfl rfl (.bI Mb) (.pr rfl rfl rfl (.pr rfl rfl rfl (.pr rfl rfl rfl (.pm rfl rfl rfl))))))))) ?_
 refine wt (Us ⟨a.O,a.P.set n true⟩ ops[n].bn ⟨hO,by simpa using hP⟩ Wj) _ rfl λc hc=>?_
 exact⟨trivial,c,[_],PP.of hn (uX jT) hc,rfl,rfl⟩
theorem oA(l:List Obj)(ops:List bD)(ps:List bl)(g:∀o,o∈l->o.sm):∀N,
  (∀a z,yi l ops a->a.mu<N->aq prog 142 [.rv (.one (.ptr 0 0)),an .i64 z] (uV l ops ps a) (λr m=>∃b,PO l ops z a b/\r= .bz []/\m=uV l ops ps b))/\
  (∀a z w,yi l ops a->a.mu<N->aq prog 143 [.rv (.one (.ptr 0 0)),.rv (.agg [.aa (.val (.int .i64 z)),.aa (.val (.int .i64 w))])] (uV l ops ps a) (λr m=>∃b,PP l ops z a b/\r= .bz []/\m=uV l ops ps b))
 |0=>⟨λ_ _ _ h=>absurd h (abi _),λ_ _ _ _ h=>absurd h (abi _)⟩
 |N+1=>by
  obtain⟨Us,ZI⟩:=oA l ops ps g N;refine⟨λa z hb hm=>aY func142 l142 (ET l ops ps g N Us ZI a z hb om),λa z w hb hm=>?_⟩
  refine bG (aY func143 l143 (EU l ops ps N Us a z w hb om)) λr m1⟨b,m',hp,hr,H8⟩=>?_
  subst hr H8;refine⟨.bz [],uV l ops ps b,View.of (7+m'.length) [0,1,2,3,4,5,6] [] (by simp[uV];omega) rfl rfl rfl rfl (by simp[eG]<;>omega) (.put (.bz rfl λi r r' h=>by simp at h) .nil) ?_,⟨b,hp,rfl,rfl⟩⟩
  exact .pe rfl rfl rfl (.pe rfl rfl rfl (.pr rfl rfl rfl (.pr rfl rfl rfl (.pr rfl rfl rfl (.pr rfl rfl rfl (.pn rfl rfl rfl))))))
def c119:LF:= ⟨54,[.tmp 2],(.seq (.ai [qu 2 (.aK (.c (.rv (.one (.aa (.val (.pointer none)))))))]) (.seq (.bR [qm 8 0,qm 9 0,qu 10 (.aP 9),qf 11 0 10,ql 12 11,qu 13 (.len 1 12),qu 14 (.o4 1 1 [(.aa (.val (.bool false)))] 13 13),qm 15 0,qu 16 (.aP 15),qf 17 1 16,ql 18 17,qu 19 (.len 1 18),qu 20 (.o4 1 1 [(.aa (.val (.bool false)))] 19 19),qu 21 (.build [(.aa (.val (.pointer none))),.aO,.aO] [(0,1,8),(1,1,14),(2,1,20)]),qu 22 (.box 21),qm 3 22] [(.cons 0 none (.cons 1 none (.cons 2 none (.cons 3 none (.cons 4 none (.cons 5 none (.cons 7 none (.cons 8 none (.cons 9 none (.cons 10 none (.cons 11 none (.vn (.cons 6 (some [11,10]) (.cons 12 (some [5,4]) (.cons 13 none (.cons 14 (some []) (.cons 15 none .nil))))) (.cons 12 (some [5,4]) (.cons 6 (some [11,10]) (.cons 13 none (.cons 14 (some []) (.cons 15 none .nil)))))))))))))))))]) (.cS (.seq (.ai [qm 23 3,qu 24 (qc 142 [23,qi 0])]) (.seq (.seq (.ai [qm 25 0,qu 26 (.aP 25),qf 27 2 26,ql 28 27,qu 29 (.len 1 28),qu 30 (.aK (qi 0))]) (.block 0 (.loop (.seq (.ai [qu 31 (.aJ .lss 30 29)]) (.seq (.cond 31 .skip (.exit 0)) (.seq (.block 1 (.seq (.ai [qu 32 (.cw 4 28 30),qL 33 4 32,qu 5 (.alloc [(.aa (.val (.bool false))),(.aa (.val (.bool false))),qd 0,.aO]),qw (.store 4 5 33)]) (.seq (.ai [qf 34 3 5,ql 35 34,qu 36 (.len 1 35),qu 37 (.aK (qi 0))]) (.block 2 (.loop (.seq (.ai [qu 38 (.aJ .lss 37 36)]) (.seq (.cond 38 .skip (.exit 2)) (.seq (.block 3 (.seq (.ai [qu 39 (.cw 3 35 37),qL 40 3 39,qu 7 (.alloc [(.aa (.val (.bool false))),qd 0,qd 0]),qw (.store 3 7 40)]) (.seq (.ai [qf 41 0 5,ql 42 41,qm 43 42,qg 44 (.cj 0 7) 43 true,qg 45 (.load false 1 44) 43 true,qu 46 (.pick 43 45 (qb false))]) (.cond 46 (.ai [qm 47 3,qf 48 1 7,qL 49 2 48,qu 50 (qc 143 [47,49])]) .skip)))) (.ai [qu 51 (.aJ .add 37 (qi 1)),qm 37 51]))))))))) (.ai [qu 52 (.aJ .add 30 (qi 1)),qm 30 52]))))))) (.seq (.ai [qm 53 3,qm 2 53]) .ret))))))⟩
def G7(l:List Obj)(ops:List bD)(ps:List bl)(RO RP:Nat->Prop):Prop:=
 (∀n,vO l 0 n->RO n)/\∀(p:Nat)pr,ps[p]? =some pr->pr.aQ=true->∀s,s∈pr.aV->s.has=true->∀c,vP ops s.dP c->RP c
structure gJ(l:List Obj)(ops:List bD)(ps:List bl)(b:Mk):Prop where
 len:yi l ops b
 mU:G7 l ops ps (dg b.O) (dg b.P)
 cl:Cl l ops (dg b.O) (dg b.P)
 nK:∀RO RP,Cl l ops RO RP->G7 l ops ps RO RP->OC RO RP b
def y8(l:List Obj)(ops:List bD):Mk:=⟨List.replicate l.length false,List.replicate ops.length false⟩
theorem wu{n i:Nat}:¬dg (List.replicate n false) i:=by
 intro h;unfold dg at h;rw[acJ]at h;split at h<;>cases h
structure dJ(l:List Obj)(ops:List bD)(ps:List bl)(b:Mk)(p j:Nat):Prop where
 st:Step l ops (λ_=>False) (y8 l ops) b
 r0:∀n,vO l 0 n->dg b.O n
 rp:∀(i:Nat)pr,i<p->ps[i]? =some pr->pr.aQ=true->∀s,s∈pr.aV->s.has=true->∀c,vP ops s.dP c->dg b.P c
 rj:∀pr,ps[p]? =some pr->pr.aQ=true->∀(t:Nat)s,t<j->pr.aV[t]? =some s->s.has=true->∀c,vP ops s.dP c->dg b.P c
 nK:∀RO RP,Cl l ops RO RP->G7 l ops ps RO RP->OC RO RP b
theorem dJ.start{l:List Obj}{ops:List bD}{ps:List bl}{b:Mk}(h:PO l ops 0 (y8 l ops) b):dJ l ops ps b 0 0:=
 ⟨h.st,h.on,λi pr h=>absurd h (abi i),λpr _ _ t s h=>absurd h (abi t),λRO RP ib hr=>h.sd RO RP ib ⟨λi hi=>absurd hi wu,λi hi=>absurd hi wu⟩ hr.1⟩
theorem dJ.Rm{l:List Obj}{ops:List bD}{ps:List bl}{b c:Mk}{p j:Nat}(h:dJ l ops ps b p j){pr:bl}(uW:ps[p]? =some pr)(b7:pr.aQ=true){s:fk}(hs:pr.aV[j]? =some s)(hh:s.has=true)(hc:PP l ops s.dP b c):dJ l ops ps c p (j+1):=by
 refine⟨h.st.trans hc.st,λn hn=>hc.st.mo n (h.r0 n hn),λi x hi hx hl y hy OF d hd=>hc.st.mp d (h.rp i x hi hx hl y hy OF d hd),λx hx hl t y ht hy OF d hd=>?_,λRO RP ib hr=>hc.sd RO RP ib (h.nK RO RP ib hr) λd hd=>hr.2 p pr uW b7 s (RD hs) hh d hd⟩
 rcases aad t j with Ko|Ko
 .exact hc.st.mp d (h.rj x hx hl t y Ko hy OF d hd)
 .have:t=j:=om;subst this;rw[uW]at hx;cases hx;rw[hs]at hy;cases hy;exact hc.on d hd
theorem dJ.skip{l:List Obj}{ops:List bD}{ps:List bl}{b:Mk}{p j:Nat}(h:dJ l ops ps b p j){pr:bl}(uW:ps[p]? =some pr){s:fk}(hs:pr.aV[j]? =some s)(hh:pr.aQ=true->s.has=false):dJ l ops ps b p (j+1):=by
 refine⟨h.st,h.r0,h.rp,λx hx hl t y ht hy OF d hd=>?_,h.nK⟩
 rcases aad t j with Ko|Ko
 .exact h.rj x hx hl t y Ko hy OF d hd
 .have:t=j:=om;subst this;rw[uW]at hx;cases hx;rw[hs]at hy;cases hy;rw[hh hl]at OF;cases OF
theorem dJ.next{l:List Obj}{ops:List bD}{ps:List bl}{b:Mk}{p:Nat}{pr:bl}(uW:ps[p]? =some pr)(h:dJ l ops ps b p pr.aV.length):dJ l ops ps b (p+1) 0:=by
 refine⟨h.st,h.r0,λi x hi hx hl y hy OF d hd=>?_,λx _ _ t y ht=>absurd ht (abi t),h.nK⟩
 rcases aad i p with Ut|Ut
 .exact h.rp i x Ut hx hl y hy OF d hd
 .have:i=p:=om;subst this;rw[uW]at hx;cases hx;obtain⟨t,ht⟩:=Xt hy;exact h.rj pr uW hl t y (I4.1 ht).1 ht OF d hd
theorem dJ.iy{l:List Obj}{ops:List bD}{ps:List bl}{b:Mk}(h:dJ l ops ps b ps.length 0):gJ l ops ps b:=by
 refine⟨⟨by have:=h.st.lo;simpa[y8]using this,by have:=h.st.lp;simpa[y8]using this⟩,⟨h.r0,λp pr hp hl s hs hh c hc=>h.rp p pr (I4.1 hp).1 hp hl s hs hh c hc⟩,⟨λi o hi ho z n hz hv=>?_,λi o hi ho z c hz hv=>?_,λc o hc ho n hv=>?_⟩,h.nK⟩
 .exact(h.st.co i o hi wu (λh=>h) ho).1 z n hz hv
 .exact(h.st.co i o hi wu (λh=>h) ho).2 z c hz hv
 .exact h.st.cp c o hc wu ho n hv
theorem rR(n:Nat):(gw n [CC.aa (.val (.bool false))])=af ((List.replicate n false).map bE):=by
 induction n with
 |zero=>rfl
 |succ n ih=>simp only[gw,ih];simp[af,bE,List.replicate_succ]
theorem l119:bu prog f119=some c119.er:=by kernel_rfl
theorem G8{l:List fk}{k:Nat}(h:k<l.length):dx (l.map fk.enc) (k:Nat)=some [.val (.bool l[k].has),.val (.int .i64 l[k].dP),.val (.int .i64 l[k].b9)]:=by rw[bA,RA,uX h];rfl
structure X0 where
 p:Nat
 b:Mk
theorem dz{ps:List bl}{k:Nat}(h:k<ps.length):dx (ps.map bl.enc) (k:Nat)=some [.val (.bool ps[k].aQ),.val (.bool ps[k].fenced),.val (.int .i64 ps[k].code),yh ps[k].aV]:=by rw[bA,RA,uX h];rfl
theorem rS{l:List Obj}{ops:List bD}{ps:List bl}{a:Mk}{f:Nat}{args args0:List CV}{Q:Mk->Prop}(h:aq prog f args0 (uV l ops ps a) (λr m=>∃b,Q b/\r= .bz []/\m=uV l ops ps b))(X:Mem)(eF:args=args0.map (CV.aU (sg [4,0,5,6,1,2,3] (7+X.length)))){K:CV->Mem->Prop}(hK:∀b,Q b->K (.bz []) ([.var [.row 1 9 0 none,.row 2 2 0 none,.row 3 4 0 none],.row 9 (af (l.map Obj.enc)),.row 2 (af (ops.map bD.enc)),.row 4 (af (ps.map bl.enc)),.var [.ptr 0 0,.row 5 1 0 none,.row 6 1 0 none],.row 1 (af (b.O.map bE)),.row 1 (af (b.P.map bE))]++X)):
  aq prog f args ([.var [.row 1 9 0 none,.row 2 2 0 none,.row 3 4 0 none],.row 9 (af (l.map Obj.enc)),.row 2 (af (ops.map bD.enc)),.row 4 (af (ps.map bl.enc)),.var [.ptr 0 0,.row 5 1 0 none,.row 6 1 0 none],.row 1 (af (a.O.map bE)),.row 1 (af (a.P.map bE))]++X) K:=by
 refine bq [4,0,5,6,1,2,3] (7+X.length) (by simp;omega) rfl rfl (by simp[eG]<;>omega) (args0:=args0) eF (λi b' hi=>?_) h (λr m1 hr=>?_)
 .match i,hi with
  |0,hi=>cases hi;exact .inr ⟨λh=>h,_,rfl,.eq rfl aC⟩
  |1,hi=>cases hi;exact .inr ⟨λh=>h,_,rfl,.eq rfl aC⟩
  |2,hi=>cases hi;exact .inr ⟨λh=>h,_,rfl,.bI rfl⟩
  |3,hi=>cases hi;exact .inr ⟨λh=>h,_,rfl,.bI rfl⟩
  |4,hi=>cases hi;exact .inr ⟨λh=>h,_,rfl,.bI rfl⟩
  |5,hi=>cases hi;exact .inr ⟨λh=>h,_,rfl,.bI rfl⟩
  |6,hi=>cases hi;exact .inr ⟨λh=>h,_,rfl,.bI rfl⟩
  |n+7,hi=>simp[uV]at hi
 .obtain⟨b,hb,rfl,rfl⟩:=hr;refine⟨Ts _,?_⟩;have e:∀(s:Nat)(ds:List (List Dt)),(Bk.row s (af ds)).aU (sg [4,0,5,6,1,2,3] (7+X.length))= .row s (af ds):=λs ds=>by simp only[Bk.aU,dp]
  have hk:=hK b hb;have hw:cV ([.var [.row 1 9 0 none,.row 2 2 0 none,.row 3 4 0 none],.row 9 (af (l.map Obj.enc)),.row 2 (af (ops.map bD.enc)),.row 4 (af (ps.map bl.enc)),.var [.ptr 0 0,.row 5 1 0 none,.row 6 1 0 none],.row 1 (af (a.O.map bE)),.row 1 (af (a.P.map bE))]++X) [4,0,5,6,1,2,3] (mL (sg [4,0,5,6,1,2,3] (7+X.length)) (uV l ops ps b))=[.var [.row 1 9 0 none,.row 2 2 0 none,.row 3 4 0 none],.row 9 (af (l.map Obj.enc)),.row 2 (af (ops.map bD.enc)),.row 4 (af (ps.map bl.enc)),.var [.ptr 0 0,.row 5 1 0 none,.row 6 1 0 none],.row 1 (af (b.O.map bE)),.row 1 (af (b.P.map bE))]++X:=by simp only[uV,mL,e,cV,bX,abO];rfl
  rw[hw];exact hk
theorem EV(l:List Obj)(ops:List bD)(ps:List bl)(g:∀o,o∈l->o.sm)(hl:l.length<=4194304)(ho:ops.length<=4194304)(jD:ps.length<=4194304)(pz:∀p,p∈ps->p.aV.length<=10):
  body prog c119 [.rv (.one (.ptr 0 0))] [.var [.row 1 9 0 none,.row 2 2 0 none,.row 3 4 0 none],.row 9 (af (l.map Obj.enc)),.row 2 (af (ops.map bD.enc)),.row 4 (af (ps.map bl.enc))] (λr m=>∃b,gJ l ops ps b/\r= .rv (.one (.ptr 4 0))/\m=[.var [.row 1 9 0 none,.row 2 2 0 none,.row 3 4 0 none],.row 9 (af (l.map Obj.enc)),.row 2 (af (ops.map bD.enc)),.row 4 (af (ps.map bl.enc)),.var [.ptr 0 0,.row 5 1 0 none,.row 6 1 0 none],.row 1 (af (b.O.map bE)),.row 1 (af (b.P.map bE))]):=by
 refine⟨?_,?_⟩
 .skip
  refine cA (acY _) ?_;refine⟨(by show(af (l.map Obj.enc)).length*1<=_;rw[be,ML];omega),⟨rfl,rfl,trivial⟩,?_⟩
  refine cA (acY _) ?_;refine⟨(by show(af (ops.map bD.enc)).length*1<=_;rw[be,ML];omega),⟨rfl,rfl,trivial⟩,?_⟩
  refine⟨trivial,?_⟩;refine gj [0] [(3,.rv (.one (.ptr 4 0)))] ([.var [.row 1 9 0 none,.row 2 2 0 none,.row 3 4 0 none],.row 9 (af (l.map Obj.enc)),.row 2 (af (ops.map bD.enc)),.row 4 (af (ps.map bl.enc)),.var [.ptr 0 0,.row 5 1 0 none,.row 6 1 0 none],.row 1 (af ((y8 l ops).O.map bE)),.row 1 (af ((y8 l ops).P.map bE))]) (View.o1 7 [0,1,2,3,6,4,5] [] ?_) ?_
  .exact(.pe rfl rfl rfl (.pr rfl rfl rfl (.pr rfl rfl rfl (.pr rfl rfl rfl (.pe rfl rfl rfl (.pt rfl rfl (.bI (by show gw (af (l.map Obj.enc)).length _=_;rw[rR,be,ML];rfl)) (.pt rfl rfl (.bI (by show gw (af (ops.map bD.enc)).length _=_;rw[rR,be,ML];rfl)) (.nil _))))))))
  refine rS ((oA l ops ps g ((y8 l ops).mu+1)).1 (y8 l ops) 0 ⟨by simp[y8],by simp[y8]⟩ (ab0 _)) [] rfl λb0 HZ=>?_
  refine bb (λ(s:X0)=>s.p<=ps.length/\dJ l ops ps s.b s.p 0) [3,28,29] (λs=>[(30,an .i64 (s.p:Nat))]) (λs=>[.var [.row 1 9 0 none,.row 2 2 0 none,.row 3 4 0 none],.row 9 (af (l.map Obj.enc)),.row 2 (af (ops.map bD.enc)),.row 4 (af (ps.map bl.enc)),.var [.ptr 0 0,.row 5 1 0 none,.row 6 1 0 none],.row 1 (af (s.b.O.map bE)),.row 1 (af (s.b.P.map bE))]) (λs=>ps.length-s.p) ⟨0,b0⟩ ⟨aaj _,.start HZ⟩ ?_ (λs hs=>?_)
  .refine View.o1 7 [0,1,2,3,4,5,6] [] ?_
   .exact(.pe rfl rfl rfl (.pr rfl rfl rfl (.pr rfl rfl rfl (.pr rfl rfl rfl (.pe rfl rfl rfl (.pr rfl rfl rfl (.pn rfl rfl rfl)))))))
  obtain⟨p,b⟩:=s;obtain⟨hp,hM⟩:=hs;have hp:p<=ps.length:=hp;have hM:dJ l ops ps b p 0:=hM;refine aL (λh=>?_) (λh=>?_)
  .have iU:p<ps.length:=by have h:(p:Int)<((af (ps.map bl.enc)).length:Int):=h;rw[be,ML]at h;omega
   refine ag (cr (k:=p) (by show p<(af (ps.map bl.enc)).length;rw[be,ML];exact iU)) ?_
   refine ag (bH bl.enc ps iU) ?_;have uW:=uX iU;have yK:=pz _ (aal iU);generalize ps[p]=pr at uW yK;refine bb (λ(s:X0)=>s.p<=pr.aV.length/\dJ l ops ps s.b p s.p) [3,5,28,29,30,35,36] (λs=>[(37,an .i64 (s.p:Nat))]) (λs=>[.var [.row 1 9 0 none,.row 2 2 0 none,.row 3 4 0 none],.row 9 (af (l.map Obj.enc)),.row 2 (af (ops.map bD.enc)),.row 4 (af (ps.map bl.enc)),.var [.ptr 0 0,.row 5 1 0 none,.row 6 1 0 none],.row 1 (af (s.b.O.map bE)),.row 1 (af (s.b.P.map bE)),.var (pr.enc.map .aa)]) (λs=>pr.aV.length-s.p) ⟨0,b⟩ ⟨aaj _,hM⟩ ?_ (λs hs=>?_)
   .refine View.o1 8 [0,1,2,3,4,5,6,7] [] ?_
    .exact(.pe rfl rfl rfl (.pr rfl rfl rfl (.pr rfl rfl rfl (.pr rfl rfl rfl (.pe rfl rfl rfl (.pr rfl rfl rfl (.pr rfl rfl rfl (.pm rfl rfl rfl))))))))
   clear hM;obtain⟨j,b⟩:=s;obtain⟨hj,hM⟩:=hs;have hj:j<=pr.aV.length:=hj;have hM:dJ l ops ps b p j:=hM;refine aL (λna=>?_) (λna=>?_)
   .have d8:j<pr.aV.length:=by have h:(j:Int)<((pr.aV.map fk.enc).length:Int):=na;rw[ML]at h;omega
    have II:=uX d8;refine ag (G8 d8) ?_;generalize pr.aV[j]=s at II;refine aM (λb7=>?_) (λb7=>?_)
    .refine aM (λhh=>?_) (λhh=>?_)
     .refine rS ((oA l ops ps g (b.mu+1)).2 b s.dP s.b9 ⟨by have:=hM.st.lo;simpa[y8]using this,by have:=hM.st.lp;simpa[y8]using this⟩ (ab0 _)) [_,_] rfl λc hc=>?_
      refine⟨⟨j+1,c⟩,⟨d8,hM.Rm uW b7 II hh hc⟩,(show pr.aV.length-(j+1)<pr.aV.length-j by omega),View.o 9 [0,1,2,3,4,5,6,7] [] ?_ ?_⟩
      .repeat(first|exact .nil|refine .ap ?_|refine .put (.aU (aN om).symm) ?_|refine .eq rfl ?_)
      .exact(.pe rfl rfl rfl (.pr rfl rfl rfl (.pr rfl rfl rfl (.pr rfl rfl rfl (.pe rfl rfl rfl (.pr rfl rfl rfl (.pr rfl rfl rfl (.pm rfl rfl rfl))))))))
     .skip
      refine⟨⟨j+1,b⟩,⟨d8,hM.skip uW II (λ_=>hh)⟩,(show pr.aV.length-(j+1)<pr.aV.length-j by omega),View.o 9 [0,1,2,3,4,5,6,7] [] ?_ ?_⟩
      .repeat(first|exact .nil|refine .ap ?_|refine .put (.aU (aN om).symm) ?_|refine .eq rfl ?_)
      .exact(.pe rfl rfl rfl (.pr rfl rfl rfl (.pr rfl rfl rfl (.pr rfl rfl rfl (.pe rfl rfl rfl (.pr rfl rfl rfl (.pr rfl rfl rfl (.pm rfl rfl rfl))))))))
    .skip
     refine⟨⟨j+1,b⟩,⟨d8,hM.skip uW II (λh=>absurd (h.symm.trans b7) aC)⟩,(show pr.aV.length-(j+1)<pr.aV.length-j by omega),View.o 9 [0,1,2,3,4,5,6,7] [] ?_ ?_⟩
     .repeat(first|exact .nil|refine .ap ?_|refine .put (.aU (aN om).symm) ?_|refine .eq rfl ?_)
     .exact(.pe rfl rfl rfl (.pr rfl rfl rfl (.pr rfl rfl rfl (.pr rfl rfl rfl (.pe rfl rfl rfl (.pr rfl rfl rfl (.pr rfl rfl rfl (.pm rfl rfl rfl))))))))
   .have GL:j=pr.aV.length:=by have h:¬(j:Int)<((pr.aV.map fk.enc).length:Int):=na;rw[ML]at h;omega
    subst GL;refine⟨⟨p+1,b⟩,⟨iU,hM.next uW⟩,(show ps.length-(p+1)<ps.length-p by omega),View.o 8 [0,1,2,3,4,5,6] [] ?_ ?_⟩
    .repeat(first|exact .nil|refine .ap ?_|refine .put (.aU (aN om).symm) ?_|refine .eq rfl ?_)
    .exact(.pe rfl rfl rfl (.pr rfl rfl rfl (.pr rfl rfl rfl (.pr rfl rfl rfl (.pe rfl rfl rfl (.pr rfl rfl rfl (.pn rfl rfl rfl)))))))
  .have x5:p=ps.length:=by have h:¬(p:Int)<((af (ps.map bl.enc)).length:Int):=h;rw[be,ML]at h;omega
   subst x5;exact⟨b,hM.iy,rfl,rfl⟩
 .skip
  refine cA (acY _) ?_;refine⟨(by show(af (ops.map bD.enc)).length*1<=_;rw[be,ML];omega),⟨rfl,rfl,trivial⟩,?_⟩
  refine cA (acY _) ?_;refine⟨(by show(af (l.map Obj.enc)).length*1<=_;rw[be,ML];omega),⟨rfl,rfl,trivial⟩,?_⟩
  refine⟨trivial,?_⟩;refine gj [0] [(3,.rv (.one (.ptr 4 0)))] ([.var [.row 1 9 0 none,.row 2 2 0 none,.row 3 4 0 none],.row 9 (af (l.map Obj.enc)),.row 2 (af (ops.map bD.enc)),.row 4 (af (ps.map bl.enc)),.var [.ptr 0 0,.row 5 1 0 none,.row 6 1 0 none],.row 1 (af ((y8 l ops).O.map bE)),.row 1 (af ((y8 l ops).P.map bE))]) (View.o1 7 [0,1,2,3,6,5,4] [] ?_) ?_
  .exact(.pe rfl rfl rfl (.pr rfl rfl rfl (.pr rfl rfl rfl (.pr rfl rfl rfl (.pe rfl rfl rfl (.pt rfl rfl (.bI (by show gw (af (l.map Obj.enc)).length _=_;rw[rR,be,ML];rfl)) (.pt rfl rfl (.bI (by show gw (af (ops.map bD.enc)).length _=_;rw[rR,be,ML];rfl)) (.nil _))))))))
  refine rS ((oA l ops ps g ((y8 l ops).mu+1)).1 (y8 l ops) 0 ⟨by simp[y8],by simp[y8]⟩ (ab0 _)) [] rfl λb0 HZ=>?_
  refine bb (λ(s:X0)=>s.p<=ps.length/\dJ l ops ps s.b s.p 0) [3,28,29] (λs=>[(30,an .i64 (s.p:Nat))]) (λs=>[.var [.row 1 9 0 none,.row 2 2 0 none,.row 3 4 0 none],.row 9 (af (l.map Obj.enc)),.row 2 (af (ops.map bD.enc)),.row 4 (af (ps.map bl.enc)),.var [.ptr 0 0,.row 5 1 0 none,.row 6 1 0 none],.row 1 (af (s.b.O.map bE)),.row 1 (af (s.b.P.map bE))]) (λs=>ps.length-s.p) ⟨0,b0⟩ ⟨aaj _,.start HZ⟩ ?_ (λs hs=>?_)
  .refine View.o1 7 [0,1,2,3,4,5,6] [] ?_
   .exact(.pe rfl rfl rfl (.pr rfl rfl rfl (.pr rfl rfl rfl (.pr rfl rfl rfl (.pe rfl rfl rfl (.pr rfl rfl rfl (.pn rfl rfl rfl)))))))
  obtain⟨p,b⟩:=s;obtain⟨hp,hM⟩:=hs;have hp:p<=ps.length:=hp;have hM:dJ l ops ps b p 0:=hM;refine aL (λh=>?_) (λh=>?_)
  .have iU:p<ps.length:=by have h:(p:Int)<((af (ps.map bl.enc)).length:Int):=h;rw[be,ML]at h;omega
   refine ag (cr (k:=p) (by show p<(af (ps.map bl.enc)).length;rw[be,ML];exact iU)) ?_
   refine ag (bH bl.enc ps iU) ?_;have uW:=uX iU;have yK:=pz _ (aal iU);generalize ps[p]=pr at uW yK;refine bb (λ(s:X0)=>s.p<=pr.aV.length/\dJ l ops ps s.b p s.p) [3,5,28,29,30,35,36] (λs=>[(37,an .i64 (s.p:Nat))]) (λs=>[.var [.row 1 9 0 none,.row 2 2 0 none,.row 3 4 0 none],.row 9 (af (l.map Obj.enc)),.row 2 (af (ops.map bD.enc)),.row 4 (af (ps.map bl.enc)),.var [.ptr 0 0,.row 5 1 0 none,.row 6 1 0 none],.row 1 (af (s.b.O.map bE)),.row 1 (af (s.b.P.map bE)),.var (pr.enc.map .aa)]) (λs=>pr.aV.length-s.p) ⟨0,b⟩ ⟨aaj _,hM⟩ ?_ (λs hs=>?_)
   .refine View.o1 8 [0,1,2,3,4,5,6,7] [] ?_
    .exact(.pe rfl rfl rfl (.pr rfl rfl rfl (.pr rfl rfl rfl (.pr rfl rfl rfl (.pe rfl rfl rfl (.pr rfl rfl rfl (.pr rfl rfl rfl (.pm rfl rfl rfl))))))))
   clear hM;obtain⟨j,b⟩:=s;obtain⟨hj,hM⟩:=hs;have hj:j<=pr.aV.length:=hj;have hM:dJ l ops ps b p j:=hM;refine aL (λna=>?_) (λna=>?_)
   .have d8:j<pr.aV.length:=by have h:(j:Int)<((pr.aV.map fk.enc).length:Int):=na;rw[ML]at h;omega
    have II:=uX d8;refine ag (G8 d8) ?_;generalize pr.aV[j]=s at II;refine aM (λb7=>?_) (λb7=>?_)
    .refine aM (λhh=>?_) (λhh=>?_)
     .refine rS ((oA l ops ps g (b.mu+1)).2 b s.dP s.b9 ⟨by have:=hM.st.lo;simpa[y8]using this,by have:=hM.st.lp;simpa[y8]using this⟩ (ab0 _)) [_,_] rfl λc hc=>?_
      refine⟨⟨j+1,c⟩,⟨d8,hM.Rm uW b7 II hh hc⟩,(show pr.aV.length-(j+1)<pr.aV.length-j by omega),View.o 9 [0,1,2,3,4,5,6,7] [] ?_ ?_⟩
      .repeat(first|exact .nil|refine .ap ?_|refine .put (.aU (aN om).symm) ?_|refine .eq rfl ?_)
      .exact(.pe rfl rfl rfl (.pr rfl rfl rfl (.pr rfl rfl rfl (.pr rfl rfl rfl (.pe rfl rfl rfl (.pr rfl rfl rfl (.pr rfl rfl rfl (.pm rfl rfl rfl))))))))
     .skip
      refine⟨⟨j+1,b⟩,⟨d8,hM.skip uW II (λ_=>hh)⟩,(show pr.aV.length-(j+1)<pr.aV.length-j by omega),View.o 9 [0,1,2,3,4,5,6,7] [] ?_ ?_⟩
      .repeat(first|exact .nil|refine .ap ?_|refine .put (.aU (aN om).symm) ?_|refine .eq rfl ?_)
      .exact(.pe rfl rfl rfl (.pr rfl rfl rfl (.pr rfl rfl rfl (.pr rfl rfl rfl (.pe rfl rfl rfl (.pr rfl rfl rfl (.pr rfl rfl rfl (.pm rfl rfl rfl))))))))
    .skip
     refine⟨⟨j+1,b⟩,⟨d8,hM.skip uW II (λh=>absurd (h.symm.trans b7) aC)⟩,(show pr.aV.length-(j+1)<pr.aV.length-j by omega),View.o 9 [0,1,2,3,4,5,6,7] [] ?_ ?_⟩
     .repeat(first|exact .nil|refine .ap ?_|refine .put (.aU (aN om).symm) ?_|refine .eq rfl ?_)
     .exact(.pe rfl rfl rfl (.pr rfl rfl rfl (.pr rfl rfl rfl (.pr rfl rfl rfl (.pe rfl rfl rfl (.pr rfl rfl rfl (.pr rfl rfl rfl (.pm rfl rfl rfl))))))))
   .have GL:j=pr.aV.length:=by have h:¬(j:Int)<((pr.aV.map fk.enc).length:Int):=na;rw[ML]at h;omega
    subst GL;refine⟨⟨p+1,b⟩,⟨iU,hM.next uW⟩,(show ps.length-(p+1)<ps.length-p by omega),View.o 8 [0,1,2,3,4,5,6] [] ?_ ?_⟩
    .repeat(first|exact .nil|refine .ap ?_|refine .put (.aU (aN om).symm) ?_|refine .eq rfl ?_)
    .exact(.pe rfl rfl rfl (.pr rfl rfl rfl (.pr rfl rfl rfl (.pr rfl rfl rfl (.pe rfl rfl rfl (.pr rfl rfl rfl (.pn rfl rfl rfl)))))))
  .have x5:p=ps.length:=by have h:¬(p:Int)<((af (ps.map bl.enc)).length:Int):=h;rw[be,ML]at h;omega
   subst x5;exact⟨b,hM.iy,rfl,rfl⟩
theorem Md(l:List Obj)(ops:List bD)(ps:List bl)(g:∀o,o∈l->o.sm)(hl:l.length<=4194304)(ho:ops.length<=4194304)(jD:ps.length<=4194304)(pz:∀p,p∈ps->p.aV.length<=10):
  aq prog 119 [.rv (.one (.ptr 0 0))] [.var [.row 1 9 0 none,.row 2 2 0 none,.row 3 4 0 none],.row 9 (af (l.map Obj.enc)),.row 2 (af (ops.map bD.enc)),.row 4 (af (ps.map bl.enc))] (λr m=>∃b,gJ l ops ps b/\r= .rv (.one (.ptr 4 0))/\m=[.var [.row 1 9 0 none,.row 2 2 0 none,.row 3 4 0 none],.row 9 (af (l.map Obj.enc)),.row 2 (af (ops.map bD.enc)),.row 4 (af (ps.map bl.enc)),.var [.ptr 0 0,.row 5 1 0 none,.row 6 1 0 none],.row 1 (af (b.O.map bE)),.row 1 (af (b.P.map bE))]):=
 b8 func119 l119 (EV l ops ps g hl ho jD pz)
end Go.Proofs.YtodckkkbiidffaaGreatDoor
namespace Go.Proofs.YtodckkkbiidffaaGreatDoor
open Go.AM Go.ChangeShapes Go.WideShapes Go.ChangeAt Go.RowKit
def nE(k:Nat):List Dt:=[.val (.int .i64 (k:Nat))]
end Go.Proofs.YtodckkkbiidffaaGreatDoor
namespace Go.Proofs.YtodckkkbiidffaaGreatDoor
open Proofs.Tryz
open Go.AM Go.ChangeShapes Go.WideShapes Go.ChangeAt Go.RowKit
def c59:LF:= ⟨32,[.cell true 3 2],(.seq (.ai [qu 1 (.box 0),qu 2 (.alloc [.aO,.aO,.aO])]) (.seq (.bR [qf 6 0 1,ql 7 6,qu 8 (qc 98 [7]),qf 9 1 1,ql 10 9,qu 11 (qc 99 [10]),qu 12 (.build [.aO,.aO,.aO] [(0,1,8),(1,1,11)]),qu 3 (.alloc [.aO,.aO,.aO]),qw (.store 3 3 12)] [(.cons 0 none (.cons 1 none (.cons 3 none (.cons 4 none (.vn (.cons 2 (some [4]) (.vn (.cons 5 (some []) (.cons 6 none (.cons 7 (some [4,1]) (.cons 8 (some []) .nil)))) (.cons 7 (some [4,1]) (.cons 5 (some []) (.cons 6 none (.cons 8 (some []) .nil)))))) (.cons 7 (some [4,1]) (.cons 2 (some [4]) (.cons 5 (some []) (.cons 6 none (.cons 8 (some []) .nil))))))))))]) (.seq (.seq (.ai [qf 13 2 1,ql 14 13,qu 15 (.len 1 14),qu 16 (.aK (qi 0))]) (.block 0 (.loop (.seq (.ai [qu 17 (.aJ .lss 16 15)]) (.seq (.cond 17 .skip (.exit 0)) (.seq (.block 1 (.seq (.ai [qu 18 (.cw 4 14 16),qL 19 4 18,qu 5 (.alloc [(.aa (.val (.bool false))),(.aa (.val (.bool false))),qd 0,.aO]),qw (.store 4 5 19)]) (.seq (.ai [qf 20 3 5,ql 21 20,qu 22 (qc 100 [21]),qf 23 3 5,qw (.store 1 23 22)]) (.ai [qf 24 2 3,ql 25 24,qL 26 4 5,qu 27 (.nC 4 [(.aa (.val (.bool false))),(.aa (.val (.bool false))),qd 0,.aO] 1 [(0,26)]),qu 28 (.oZ 4 40 25 27),qf 29 2 3,qw (.store 1 29 28)])))) (.ai [qu 30 (.aJ .add 16 (qi 1)),qm 16 30]))))))) (.seq (.ai [qL 31 3 3,qw (.store 3 2 31)]) .ret))))⟩
def c99:LF:= ⟨8,[.tmp 2],(.seq (.ai [qu 2 (.aK qe)]) (.seq (.seq (.ai [qm 3 0,qu 4 (.xW false 3)]) (.cond 4 (.seq (.ai [qu 2 (.aK qe)]) .ret) .skip)) (.seq (.ai [qu 5 (.nC 2 [qd 0,qd 0] 0 []),qm 6 0,qu 7 (.oZ 2 16 5 6),qm 2 7]) .ret)))⟩
def c100:LF:= ⟨8,[.tmp 2],(.seq (.ai [qu 2 (.aK qe)]) (.seq (.seq (.ai [qm 3 0,qu 4 (.xW false 3)]) (.cond 4 (.seq (.ai [qu 2 (.aK qe)]) .ret) .skip)) (.seq (.ai [qu 5 (.nC 3 [(.aa (.val (.bool false))),qd 0,qd 0] 0 []),qm 6 0,qu 7 (.oZ 3 24 5 6),qm 2 7]) .ret)))⟩
theorem pf:∀(l:List Obj)(p Q k:Nat),k+l.length<=p->ez p Q k l=af (l.map Obj.enc)
 | [],_,_,_,_=>rfl
 |o::r,p,Q,k,h=>by
  have ih:=pf r p Q (k+1) (by simp at h;omega)
  have hk:¬k=p:=by simp at h;omega
  simp only[ez,ih,rJ,if_neg hk];rfl
theorem CA(l:List Obj):Ax l l.length l.length= .aS:=by
 have:Nat.blt l.length l.length=false:=by
  cases h:Nat.blt l.length l.length
  .rfl
  .rw[abL]at h;omega
 unfold Ax;rw[this]
theorem l99:bu prog f99=some c99:=by kernel_rfl
theorem l100:bu prog f100=some c100:=by kernel_rfl
theorem l59:bu prog f59=some c59:=by kernel_rfl
theorem CB(ops:List bD)(ho:ops.length<=4194304):body prog c99 [.rv (.one (.aa (eN ops)))] [] (λr m=>∃r' m',View 0 ⟨[r],m⟩ ⟨[r'],m'⟩/\r'= .rv (.one (.row 0 2 0 none))/\m'=[.row 2 (af (ops.map bD.enc))]):=by
 have sL:((([]:List (List CC)).length+((ops.map bD.enc).map λds=>ds.map CC.aa).length)*16)<=140737488355328:=by simp;omega
 have iy:∃r' m',View 0 ⟨[CV.rv (.one (.row 1 2 0 none))],[.aS,.row 2 (bV ([]:List (List CC)) 0 none++(ops.map bD.enc).map λds=>ds.map CC.aa)]⟩ ⟨[r'],m'⟩/\r'=CV.rv (.one (.row 0 2 0 none))/\m'=[Bk.row 2 (af (ops.map bD.enc))]:=
  ⟨_,_,View.o 2 [1] [] (.eq rfl .nil) (.pn rfl rfl rfl),rfl,rfl⟩
 refine aM (λh=>?_) (λh=>?_)
 .have hd:ops=[]:=aag (by simpa using aai h)
  refine⟨?_,sL,iy⟩;subst hd;exact⟨_,_,View.aO 0 2 0 rfl rfl rfl,rfl,rfl⟩
 .exact⟨sL,iy⟩
theorem tp(ops:List bD)(ho:ops.length<=4194304){m:Mem}{K:CV->Mem->Prop}(h:K (.rv (.one (.row m.length 2 0 none))) (m++ [.row 2 (af (ops.map bD.enc))])):aq prog 99 [.rv (.one (.aa (eN ops)))] m K:=by
 refine bq [] m.length rfl rfl rfl rfl (args0:=[.rv (.one (.aa (eN ops)))]) rfl (λi b' hi=>by simp at hi) (K0:=λr m=>r= .rv (.one (.row 0 2 0 none))/\m=[.row 2 (af (ops.map bD.enc))]) (bG (aY func99 l99 (CB ops ho)) λr m1 h=>h) (λr m1 hr=>?_)
 obtain⟨rfl,rfl⟩:=hr;refine⟨aaj _,?_⟩;show K (.rv (.one (.row (m.length+(0-0)) 2 0 none))) (gh m [.row 2 ((af (ops.map bD.enc)).map (λcs=>cs.map (CC.aU (sg [] m.length))))])
 rw[dp,bX];exact h
theorem CD(d:List fk)(hb:d.length<=4194304):body prog c100 [mS d] [] (λr m=>cQ m r (mS d)):=by
 have sL:((([]:List (List CC)).length+((d.map fk.enc).map λds=>ds.map CC.aa).length)*24)<=140737488355328:=by simp;omega
 refine aM (λh=>?_) (λh=>?_)
 .have hd:d=[]:=aag (by simpa using aai h)
  subst hd;exact⟨.rv (.one (.aO 3)),sL,.rv (.one (eT.eU rfl 0 none))⟩
 .exact⟨sL,.rv (.one (eT.eU rfl 0 none))⟩
theorem jm(d:List fk)(hb:d.length<=4194304){m:Mem}{K:CV->Mem->Prop}(h:K (mS d) m):aq prog 100 [mS d] m K:=
 bg (aY func100 l100 (CD d hb)) (by simp[mS,yh,CV.du,CC.du]) λr m1 hf=>⟨_,hf,h⟩
structure SX where
 k:Nat
 qs:List bl
theorem IJ(l:List Obj)(ops:List bD)(ps:List bl)(hf:lG l)(ho:ops.length<=4194304)(jD:ps.length<=4194304)(pz:∀p,p∈ps->p.aV.length<=10)(dt:ps≠[]):
  body prog c59 [d9 l ops ps] [] (λr m=>∃r' m',View 0 ⟨[r],m⟩ ⟨[r'],m'⟩/\r'= .rv (.agg [.row 0 9 0 none,.row 1 2 0 none,.row 2 4 0 none])/\m'=[.row 9 (af (l.map Obj.enc)),.row 2 (af (ops.map bD.enc)),.row 4 (af (ps.map bl.enc))]):=by
 refine⟨?_,?_⟩
 .skip
  refine wn l hf l.length ?_;rw[CA];refine⟨⟨rfl,trivial⟩,?_⟩;refine⟨?_,?_⟩
  .refine tp ops ho ?_;refine⟨trivial,⟨rfl,rfl,trivial⟩,trivial,?_⟩;refine bb (λ(a:SX)=>a.k<=ps.length/\a.qs=ps.take a.k) [1,2,14,15] (λa=>[(16,an .i64 (a.k:Nat)),(3,.rv (.one (.ptr 2 0)))]) (λa=>match a.qs with
     | []=>[.var [.aa (db l),.aa (eN ops),.aa (gd ps)],.var z3,.var [.row 3 9 0 none,.row 4 2 0 none,.aO],.row 9 (af (l.map Obj.enc)),.row 2 (af (ops.map bD.enc))]
     |x::r=>[.var [.aa (db l),.aa (eN ops),.aa (gd ps)],.var z3,.var [.row 3 9 0 none,.row 4 2 0 none,.row 5 4 0 none],.row 9 (af (l.map Obj.enc)),.row 2 (af (ops.map bD.enc)),.row 4 (af ((x::r).map bl.enc))]) (λa=>ps.length-a.k) ⟨0,[]⟩ ⟨aaj _,rfl⟩ ?_ (λa ha=>?_)
   .refine View.o1 6 [0,1,5,2,4] [] ?_
    .exact(.pe rfl rfl rfl (.pe rfl rfl rfl (.pe rfl rfl rfl (.pt rfl rfl (.bI (pf l _ _ _ om)) (.pn rfl rfl rfl)))))
   obtain⟨k,qs⟩:=a;obtain⟨hk,hq⟩:=ha;have hk:k<=ps.length:=hk;have hq:qs=ps.take k:=hq;cases qs with
   |nil=>
    refine aL (λh=>?_) (λh=>?_)
    .have aD:k<ps.length:=by have h:(k:Int)<((ps.map bl.enc).length:Int):=h;rw[ML]at h;omega
     refine ag (dz aD) ?_;refine jm ps[k].aV (by have:=pz _ (aal aD);omega) ?_
     refine⟨by simp[bV],?_⟩
     refine⟨⟨k+1,[ps[k]]⟩,⟨aD,(show [ps[k]]=ps.take (k+1) by rw[abI,uX aD,<-hq];rfl)⟩,(show ps.length-(k+1)<ps.length-k by omega),View.o 8 [0,1,2,3,4,7] [] ?_ ?_⟩
     .repeat(first|exact .nil|refine .ap ?_|refine .put (.aU (aN om).symm) ?_|refine .eq rfl ?_)
     .exact(.pe rfl rfl rfl (.pe rfl rfl rfl (.pe rfl rfl rfl (.pr rfl rfl rfl (.pr rfl rfl rfl (.pt rfl rfl (.bI (by simp[bV,af,bl.enc])) (.nil _)))))))
    .have AF:k=ps.length:=by have h:¬(k:Int)<((ps.map bl.enc).length:Int):=h;rw[ML]at h;omega
     subst AF;rw[abe]at hq;exact absurd hq.symm dt
   |cons x r=>
    refine aL (λh=>?_) (λh=>?_)
    .have aD:k<ps.length:=by have h:(k:Int)<((ps.map bl.enc).length:Int):=h;rw[ML]at h;omega
     refine ag (dz aD) ?_;refine jm ps[k].aV (by have:=pz _ (aal aD);omega) ?_
     refine⟨by have e:=be ((x::r).map bl.enc);have e2:=congrArg List.length hq;simp only[ML,aah,aan]at e e2;simp only[bV,aah,abv];omega,?_⟩
     refine⟨⟨k+1,((x::r)++ [ps[k]])⟩,⟨aD,(show((x::r)++ [ps[k]])=ps.take (k+1) by rw[abI,uX aD,<-hq];rfl)⟩,(show ps.length-(k+1)<ps.length-k by omega),View.o 9 [0,1,2,3,4,8] [] ?_ ?_⟩
     .repeat(first|exact .nil|refine .ap ?_|refine .put (.aU (aN om).symm) ?_|refine .eq rfl ?_)
     .exact(.pe rfl rfl rfl (.pe rfl rfl rfl (.pe rfl rfl rfl (.pr rfl rfl rfl (.pr rfl rfl rfl (.pt rfl rfl (.bI (by simp[bV,af,bl.enc])) (.nil _)))))))
    .have AF:k=ps.length:=by have h:¬(k:Int)<((ps.map bl.enc).length:Int):=h;rw[ML]at h;omega
     subst AF;rw[abe]at hq;refine⟨.rv (.agg [.row 0 9 0 none,.row 1 2 0 none,.row 2 4 0 none]),_,View.o 6 [3,4,5] [] (.eq rfl .nil) (.pr rfl rfl rfl (.pr rfl rfl rfl (.pn rfl rfl rfl))),rfl,?_⟩;rw[hq]
  .refine⟨⟨rfl,rfl,trivial⟩,?_⟩;refine tp ops ho ?_;refine⟨trivial,trivial,?_⟩;refine bb (λ(a:SX)=>a.k<=ps.length/\a.qs=ps.take a.k) [1,2,14,15] (λa=>[(16,an .i64 (a.k:Nat)),(3,.rv (.one (.ptr 2 0)))]) (λa=>match a.qs with
     | []=>[.var [.aa (db l),.aa (eN ops),.aa (gd ps)],.var z3,.var [.row 3 9 0 none,.row 4 2 0 none,.aO],.row 9 (af (l.map Obj.enc)),.row 2 (af (ops.map bD.enc))]
     |x::r=>[.var [.aa (db l),.aa (eN ops),.aa (gd ps)],.var z3,.var [.row 3 9 0 none,.row 4 2 0 none,.row 5 4 0 none],.row 9 (af (l.map Obj.enc)),.row 2 (af (ops.map bD.enc)),.row 4 (af ((x::r).map bl.enc))]) (λa=>ps.length-a.k) ⟨0,[]⟩ ⟨aaj _,rfl⟩ ?_ (λa ha=>?_)
   .refine View.o1 6 [0,1,4,2,5] [] ?_
    .exact(.pe rfl rfl rfl (.pe rfl rfl rfl (.pe rfl rfl rfl (.pt rfl rfl (.bI (pf l _ _ _ om)) (.pn rfl rfl rfl)))))
   obtain⟨k,qs⟩:=a;obtain⟨hk,hq⟩:=ha;have hk:k<=ps.length:=hk;have hq:qs=ps.take k:=hq;cases qs with
   |nil=>
    refine aL (λh=>?_) (λh=>?_)
    .have aD:k<ps.length:=by have h:(k:Int)<((ps.map bl.enc).length:Int):=h;rw[ML]at h;omega
     refine ag (dz aD) ?_;refine jm ps[k].aV (by have:=pz _ (aal aD);omega) ?_
     refine⟨by simp[bV],?_⟩
     refine⟨⟨k+1,[ps[k]]⟩,⟨aD,(show [ps[k]]=ps.take (k+1) by rw[abI,uX aD,<-hq];rfl)⟩,(show ps.length-(k+1)<ps.length-k by omega),View.o 8 [0,1,2,3,4,7] [] ?_ ?_⟩
     .repeat(first|exact .nil|refine .ap ?_|refine .put (.aU (aN om).symm) ?_|refine .eq rfl ?_)
     .exact(.pe rfl rfl rfl (.pe rfl rfl rfl (.pe rfl rfl rfl (.pr rfl rfl rfl (.pr rfl rfl rfl (.pt rfl rfl (.bI (by simp[bV,af,bl.enc])) (.nil _)))))))
    .have AF:k=ps.length:=by have h:¬(k:Int)<((ps.map bl.enc).length:Int):=h;rw[ML]at h;omega
     subst AF;rw[abe]at hq;exact absurd hq.symm dt
   |cons x r=>
    refine aL (λh=>?_) (λh=>?_)
    .have aD:k<ps.length:=by have h:(k:Int)<((ps.map bl.enc).length:Int):=h;rw[ML]at h;omega
     refine ag (dz aD) ?_;refine jm ps[k].aV (by have:=pz _ (aal aD);omega) ?_
     refine⟨by have e:=be ((x::r).map bl.enc);have e2:=congrArg List.length hq;simp only[ML,aah,aan]at e e2;simp only[bV,aah,abv];omega,?_⟩
     refine⟨⟨k+1,((x::r)++ [ps[k]])⟩,⟨aD,(show((x::r)++ [ps[k]])=ps.take (k+1) by rw[abI,uX aD,<-hq];rfl)⟩,(show ps.length-(k+1)<ps.length-k by omega),View.o 9 [0,1,2,3,4,8] [] ?_ ?_⟩
     .repeat(first|exact .nil|refine .ap ?_|refine .put (.aU (aN om).symm) ?_|refine .eq rfl ?_)
     .exact(.pe rfl rfl rfl (.pe rfl rfl rfl (.pe rfl rfl rfl (.pr rfl rfl rfl (.pr rfl rfl rfl (.pt rfl rfl (.bI (by simp[bV,af,bl.enc])) (.nil _)))))))
    .have AF:k=ps.length:=by have h:¬(k:Int)<((ps.map bl.enc).length:Int):=h;rw[ML]at h;omega
     subst AF;rw[abe]at hq;refine⟨.rv (.agg [.row 0 9 0 none,.row 1 2 0 none,.row 2 4 0 none]),_,View.o 6 [3,4,5] [] (.eq rfl .nil) (.pr rfl rfl rfl (.pr rfl rfl rfl (.pn rfl rfl rfl))),rfl,?_⟩;rw[hq]
 .refine⟨⟨rfl,rfl,trivial⟩,?_⟩;refine wn l hf l.length ?_;rw[CA];refine⟨⟨rfl,trivial⟩,?_⟩;refine tp ops ho ?_;refine⟨trivial,trivial,?_⟩;refine bb (λ(a:SX)=>a.k<=ps.length/\a.qs=ps.take a.k) [1,2,14,15] (λa=>[(16,an .i64 (a.k:Nat)),(3,.rv (.one (.ptr 2 0)))]) (λa=>match a.qs with
    | []=>[.var [.aa (db l),.aa (eN ops),.aa (gd ps)],.var z3,.var [.row 3 9 0 none,.row 4 2 0 none,.aO],.row 9 (af (l.map Obj.enc)),.row 2 (af (ops.map bD.enc))]
    |x::r=>[.var [.aa (db l),.aa (eN ops),.aa (gd ps)],.var z3,.var [.row 3 9 0 none,.row 4 2 0 none,.row 5 4 0 none],.row 9 (af (l.map Obj.enc)),.row 2 (af (ops.map bD.enc)),.row 4 (af ((x::r).map bl.enc))]) (λa=>ps.length-a.k) ⟨0,[]⟩ ⟨aaj _,rfl⟩ ?_ (λa ha=>?_)
  .refine View.o1 6 [0,1,2,3,5] [] ?_
   .exact(.pe rfl rfl rfl (.pe rfl rfl rfl (.pe rfl rfl rfl (.pt rfl rfl (.bI (pf l _ _ _ om)) (.pn rfl rfl rfl)))))
  obtain⟨k,qs⟩:=a;obtain⟨hk,hq⟩:=ha;have hk:k<=ps.length:=hk;have hq:qs=ps.take k:=hq;cases qs with
  |nil=>
   refine aL (λh=>?_) (λh=>?_)
   .have aD:k<ps.length:=by have h:(k:Int)<((ps.map bl.enc).length:Int):=h;rw[ML]at h;omega
    refine ag (dz aD) ?_;refine jm ps[k].aV (by have:=pz _ (aal aD);omega) ?_
    refine⟨by simp[bV],?_⟩
    refine⟨⟨k+1,[ps[k]]⟩,⟨aD,(show [ps[k]]=ps.take (k+1) by rw[abI,uX aD,<-hq];rfl)⟩,(show ps.length-(k+1)<ps.length-k by omega),View.o 8 [0,1,2,3,4,7] [] ?_ ?_⟩
    .repeat(first|exact .nil|refine .ap ?_|refine .put (.aU (aN om).symm) ?_|refine .eq rfl ?_)
    .exact(.pe rfl rfl rfl (.pe rfl rfl rfl (.pe rfl rfl rfl (.pr rfl rfl rfl (.pr rfl rfl rfl (.pt rfl rfl (.bI (by simp[bV,af,bl.enc])) (.nil _)))))))
   .have AF:k=ps.length:=by have h:¬(k:Int)<((ps.map bl.enc).length:Int):=h;rw[ML]at h;omega
    subst AF;rw[abe]at hq;exact absurd hq.symm dt
  |cons x r=>
   refine aL (λh=>?_) (λh=>?_)
   .have aD:k<ps.length:=by have h:(k:Int)<((ps.map bl.enc).length:Int):=h;rw[ML]at h;omega
    refine ag (dz aD) ?_;refine jm ps[k].aV (by have:=pz _ (aal aD);omega) ?_
    refine⟨by have e:=be ((x::r).map bl.enc);have e2:=congrArg List.length hq;simp only[ML,aah,aan]at e e2;simp only[bV,aah,abv];omega,?_⟩
    refine⟨⟨k+1,((x::r)++ [ps[k]])⟩,⟨aD,(show((x::r)++ [ps[k]])=ps.take (k+1) by rw[abI,uX aD,<-hq];rfl)⟩,(show ps.length-(k+1)<ps.length-k by omega),View.o 9 [0,1,2,3,4,8] [] ?_ ?_⟩
    .repeat(first|exact .nil|refine .ap ?_|refine .put (.aU (aN om).symm) ?_|refine .eq rfl ?_)
    .exact(.pe rfl rfl rfl (.pe rfl rfl rfl (.pe rfl rfl rfl (.pr rfl rfl rfl (.pr rfl rfl rfl (.pt rfl rfl (.bI (by simp[bV,af,bl.enc])) (.nil _)))))))
   .have AF:k=ps.length:=by have h:¬(k:Int)<((ps.map bl.enc).length:Int):=h;rw[ML]at h;omega
    subst AF;rw[abe]at hq;refine⟨.rv (.agg [.row 0 9 0 none,.row 1 2 0 none,.row 2 4 0 none]),_,View.o 6 [3,4,5] [] (.eq rfl .nil) (.pr rfl rfl rfl (.pr rfl rfl rfl (.pn rfl rfl rfl))),rfl,?_⟩;rw[hq]
theorem iI(l:List Obj)(ops:List bD)(ps:List bl)(hf:lG l)(ho:ops.length<=4194304)(jD:ps.length<=4194304)(pz:∀p,p∈ps->p.aV.length<=10)(dt:ps≠[]){m:Mem}{K:CV->Mem->Prop}(h:K (.rv (.agg [.row m.length 9 0 none,.row (m.length+1) 2 0 none,.row (m.length+2) 4 0 none])) (m++ [.row 9 (af (l.map Obj.enc)),.row 2 (af (ops.map bD.enc)),.row 4 (af (ps.map bl.enc))])):aq prog 59 [d9 l ops ps] m K:=by
 refine bq [] m.length rfl rfl rfl rfl (args0:=[d9 l ops ps]) rfl (λi b' hi=>by simp at hi) (K0:=λr m=>r= .rv (.agg [.row 0 9 0 none,.row 1 2 0 none,.row 2 4 0 none])/\m=[.row 9 (af (l.map Obj.enc)),.row 2 (af (ops.map bD.enc)),.row 4 (af (ps.map bl.enc))])
  (bG (aY func59 l59 (IJ l ops ps hf ho jD pz dt)) λr m1 h=>h) (λr m1 hr=>?_)
 obtain⟨rfl,rfl⟩:=hr;refine⟨aaj _,?_⟩;show K (.rv (.agg [.row (m.length+(0-0)) 9 0 none,.row (m.length+(1-0)) 2 0 none,.row (m.length+(2-0)) 4 0 none])) (gh m [.row 9 ((af (l.map Obj.enc)).map (λcs=>cs.map (CC.aU (sg [] m.length)))),.row 2 ((af (ops.map bD.enc)).map (λcs=>cs.map (CC.aU (sg [] m.length)))),.row 4 ((af (ps.map bl.enc)).map (λcs=>cs.map (CC.aU (sg [] m.length))))])
 rw[dp,dp,dp,bX];exact h
def c80:LF:= ⟨9,[.tmp 4],(.seq (.ai [qu 4 (.aK (qb false))]) (.seq (.ai [qm 5 0,qm 6 1,qu 7 (qc 121 [5,6]),qu 8 (.aJ .geq 7 (qi 0)),qm 4 8]) .ret))⟩
def c81:LF:= ⟨13,[.tmp 3],(.seq (.ai [qu 2 (.box 0),qu 3 (.aK (qb false))]) (.seq (.ai [qf 4 0 2,ql 5 4,qu 6 (.aJ .eql 5 (qi 5)),qm 7 6,qg 8 (.cj 6 2) 7 true,qg 9 (.load false 1 8) 7 true,qg 10 (.load false 1 1) 7 true,qg 11 (.aJ .eql 9 10) 7 true,qu 12 (.pick 7 11 (qb false)),qm 3 12]) .ret))⟩
def c120:LF:= ⟨13,[.tmp 3],(.seq (.ai [qu 2 (.box 0),qu 3 (.aK (qb false))]) (.seq (.ai [qf 4 0 2,ql 5 4,qu 6 (.aJ .eql 5 (qi 5)),qm 7 6,qg 8 (.cj 6 2) 7 true,qg 9 (.load false 1 8) 7 true,qg 10 (.load false 1 1) 7 true,qg 11 (.aJ .eql 9 10) 7 true,qu 12 (.pick 7 11 (qb false)),qm 3 12]) .ret))⟩
def dC(p:Int)(o:Obj):Bool:=o.ah==5&&o.aA==p
theorem l120:bu prog f120=some c120:=by kernel_rfl
theorem l81:bu prog f81=some c81:=by kernel_rfl
theorem l80:bu prog f80=some c80:=by kernel_rfl
theorem CE(o:Obj)(p:Int):body prog c120 [o.cv,.rv (.one (.ptr 0 0))] [.var ([Dt.val (.int .i64 p)].map .aa)] (λr m=>r=aE (dC p o)/\∃ex,m= .var ([Dt.val (.int .i64 p)].map .aa)::ex):=by
 refine aM (λh=>?_) (λh=>?_)
 .refine⟨?_,_,rfl⟩;show aE _=aE _;rw[dC,h];rfl
 .refine⟨?_,_,rfl⟩;show aE _=aE _;rw[dC,h];rfl
theorem SY(o:Obj)(p:Int)(K:CV->Mem->Prop)(h:K (aE (dC p o)) [.var ([Dt.val (.int .i64 p)].map .aa)]):aq prog 120 [o.cv,.rv (.one (.ptr 0 0))] [.var ([Dt.val (.int .i64 p)].map .aa)] K:=
 eH rfl (aY func120 l120 (CE o p)) h
theorem CF(o:Obj)(p:Int):body prog c81 [o.cv,.rv (.one (.ptr 0 0))] [.var ([Dt.val (.int .i64 p)].map .aa)] (λr m=>r=aE (dC p o)/\∃ex,m= .var ([Dt.val (.int .i64 p)].map .aa)::ex):=by
 refine aM (λh=>?_) (λh=>?_)
 .refine⟨?_,_,rfl⟩;show aE _=aE _;rw[dC,h];rfl
 .refine⟨?_,_,rfl⟩;show aE _=aE _;rw[dC,h];rfl
theorem SZ(o:Obj)(p:Int)(K:CV->Mem->Prop)(h:K (aE (dC p o)) [.var ([Dt.val (.int .i64 p)].map .aa)]):aq prog 81 [o.cv,.rv (.one (.ptr 0 0))] [.var ([Dt.val (.int .i64 p)].map .aa)] K:=
 eH rfl (aY func81 l81 (CF o p)) h
theorem y9{l:List Obj}{n:Nat}(h:n<l.length):dN (n:Int) (lenOf (af (l.map Obj.enc)).length 0 none)=some n:=cr (by show n<(af (l.map Obj.enc)).length;rw[be,ML];exact h)
theorem IK(l:List Obj)(hb:l.length<=4194304)(F:Nat)(cs:List Dt)(q:Obj->Bool)(hF:∀s,∀K:CV->Mem->Prop,K (aE (q s)) [.var (cs.map .aa)]->aq prog F [s.cv,.rv (.one (.ptr 0 0))] [.var (cs.map .aa)] K):
  body prog c121 [.rv (.one (.row 0 9 0 none)),.rv (.one (.fn F [1]))] [.row 9 (af (l.map Obj.enc)),.var (cs.map .aa)] (λr m=>r=an .i64 (nU q l)/\m=[.row 9 (af (l.map Obj.enc)),.var (cs.map .aa)]):=by
 refine bb (λk=>k<=l.length/\∀(j:Nat)s,j<k->l[j]? =some s->q s=false) [0,1,7] (λk=>[(8,an .i64 (k:Nat))]) (λ_=>[.row 9 (af (l.map Obj.enc)),.var (cs.map .aa)]) (λk=>l.length-k) 0 ⟨aaj _,λj s h=>absurd h (abi j)⟩ ?_ (λk hk=>?_)
 .refine View.o1 2 [0,1] [] ?_
  .exact .pr rfl rfl rfl (.pt rfl rfl (.lU rfl) (.nil _))
 .refine aL (λh=>?_) (λh=>?_)
  .have aD:k<l.length:=by have h:(k:Int)<((af (l.map Obj.enc)).length:Int):=h;rw[be,ML]at h;omega
   refine ag (y9 aD) ?_;refine ag (bH Obj.enc l aD) ?_;have hi:=uX aD;have Wk:=kW (q:=q) aD;generalize l[k]=o at hi Wk;refine ff (args0:=[o.cv,.rv (.one (.ptr 0 0))]) (cs:=cs) 1 rfl rfl (r0:=aE (q o)) rfl (λK hK=>hF o K hK) ?_
   refine aM (λHa=>?_) (λHa=>?_)
   .rw[Wk Ha hk.2];exact⟨rfl,rfl⟩
   .refine⟨k+1,⟨aD,λj s hj hs=>?_⟩,(show l.length-(k+1)<l.length-k by omega),View.o 2 [0,1] [] ?_ ?_⟩
    .rcases aad j k with h5|h5
     .exact hk.2 j s h5 hs
     .have:j=k:=om;subst this;rw[hi]at hs;cases hs;exact Ha
    .repeat(first|exact .nil|refine .ap ?_|refine .put (.aU (aN om).symm) ?_|refine .eq rfl ?_)
    .exact .pr rfl rfl rfl (.pt rfl rfl (.lU rfl) (.nil _))
  .have d7:¬(k:Int)<((af (l.map Obj.enc)).length:Int):=h;rw[be,ML]at d7;rw[mP λj s hs=>hk.2 j s (by have:=(I4.1 hs).1;omega) hs]
   exact⟨rfl,rfl⟩
theorem EW(l:List Obj)(hb:l.length<=4194304)(F:Nat)(cs:List Dt)(q:Obj->Bool)(hF:∀s,∀K:CV->Mem->Prop,K (aE (q s)) [.var (cs.map .aa)]->aq prog F [s.cv,.rv (.one (.ptr 0 0))] [.var (cs.map .aa)] K):
  body prog c80 [.rv (.one (.row 0 9 0 none)),.rv (.one (.fn F [1]))] [.row 9 (af (l.map Obj.enc)),.var (cs.map .aa)] (λr m=>r=aE (l.any q)/\m=[.row 9 (af (l.map Obj.enc)),.var (cs.map .aa)]):=by
 refine(aY func121 l121 (IK l hb F cs q hF)).mono λr m⟨hr,hm⟩=>?_
 subst hr hm;refine⟨?_,rfl⟩;show aE _=aE _;rw[<-rM]
theorem Me(l:List Obj)(hb:l.length<=4194304)(F:Nat)(cs:List Dt)(q:Obj->Bool)(hF:∀s,∀K:CV->Mem->Prop,K (aE (q s)) [.var (cs.map .aa)]->aq prog F [s.cv,.rv (.one (.ptr 0 0))] [.var (cs.map .aa)] K):
  aq prog 80 [.rv (.one (.row 0 9 0 none)),.rv (.one (.fn F [1]))] [.row 9 (af (l.map Obj.enc)),.var (cs.map .aa)] (λr m=>r=aE (l.any q)/\m=[.row 9 (af (l.map Obj.enc)),.var (cs.map .aa)]):=
 aY func80 l80 (EW l hb F cs q hF)
end Go.Proofs.YtodckkkbiidffaaGreatDoor
namespace Go.Proofs.YtodckkkbiidffaaGreatDoor
open Go.AM Go.ChangeShapes Go.WideShapes Go.ChangeAt Go.RowKit
def c79:LF:= ⟨146,[.tmp 2],(.seq (.ai [qu 2 (.aK (qb false))]) (.seq (.ai [qm 10 0,qu 11 (qc 119 [10]),qm 3 11]) (.seq (.seq (.ai [qm 12 0,qu 13 (.aP 12),qf 14 0 13,ql 15 14,qu 16 (.len 1 15),qu 17 (.aK (qi 0))]) (.block 0 (.loop (.seq (.ai [qu 18 (.aJ .lss 17 16)]) (.seq (.cond 18 .skip (.exit 0)) (.seq (.block 1 (.seq (.ai [qm 19 17,qm 4 19]) (.seq (.seq (.ai [qm 20 3,qu 21 (.aP 20),qf 22 1 21,ql 23 22,qm 24 4,qu 25 (.cw 1 23 24),ql 26 25,qm 27 26,qg 28 (.aK 0) 27 false,qg 29 (.aP 28) 27 false,qg 30 (.cj 0 29) 27 false,qg 31 (.load false 1 30) 27 false,qg 32 (.aK 4) 27 false,qg 33 (.cw 9 31 32) 27 false,qg 34 (.cj 0 33) 27 false,qg 35 (.load false 1 34) 27 false,qg 36 (.aJ .eql 35 (qi 0)) 27 false,qu 37 (.pick 27 (qb true) 36)]) (.cond 37 (.exit 1) .skip)) (.seq (.seq (.ai [qm 38 0,qu 39 (.aP 38),qf 40 0 39,ql 41 40,qu 42 (.len 1 41),qu 43 (.aK (qi 0))]) (.block 2 (.loop (.seq (.ai [qu 44 (.aJ .lss 43 42)]) (.seq (.cond 44 .skip (.exit 2)) (.seq (.block 3 (.seq (.ai [qm 45 43,qm 5 45]) (.seq (.ai [qm 46 0,qu 47 (.aP 46),qf 48 0 47,ql 49 48,qm 50 5,qu 51 (.cw 9 49 50),qf 52 0 51,ql 53 52,qu 54 (.aJ .eql 53 (qi 4)),qm 55 54,qg 56 (.aK 0) 55 true,qg 57 (.aP 56) 55 true,qg 58 (.cj 0 57) 55 true,qg 59 (.load false 1 58) 55 true,qg 60 (.aK 5) 55 true,qg 61 (.cw 9 59 60) 55 true,qg 62 (.cj 4 61) 55 true,qg 63 (.load false 1 62) 55 true,qg 64 (.aK 4) 55 true,qg 65 (.aJ .eql 63 64) 55 true,qu 66 (.pick 55 65 (qb false))]) (.cond 66 (.ai [qm 67 0,qu 68 (.aP 67),qf 69 0 68,ql 70 69,qm 71 5,qu 72 (.cw 9 70 71),qf 73 4 72,qw (.store 1 73 (qi (-1)))]) .skip)))) (.ai [qu 74 (.aJ .add 43 (qi 1)),qm 43 74]))))))) (.ai [qm 75 0,qu 76 (.aP 75),qf 77 0 76,ql 78 77,qm 79 4,qu 80 (.build [qd 0,.aO,.aO,(.aa (.val (.string ⟨#[]⟩))),qd 0,.aO,qd 0,qd 0,qd 0] []),qu 81 (.cw 9 78 79),qw (.store 9 81 80)]))))) (.ai [qu 82 (.aJ .add 17 (qi 1)),qm 17 82]))))))) (.seq (.seq (.ai [qm 83 0,qu 84 (.aP 83),qf 85 1 84,ql 86 85,qu 87 (.len 1 86),qu 88 (.aK (qi 0))]) (.block 4 (.loop (.seq (.ai [qu 89 (.aJ .lss 88 87)]) (.seq (.cond 89 .skip (.exit 4)) (.seq (.block 5 (.seq (.ai [qm 90 88,qm 6 90]) (.seq (.ai [qm 91 3,qu 92 (.aP 91),qf 93 2 92,ql 94 93,qm 95 6,qu 96 (.cw 1 94 95),ql 97 96,qu 98 (.un .not 97)]) (.cond 98 (.ai [qm 99 0,qu 100 (.aP 99),qf 101 1 100,ql 102 101,qm 103 6,qu 104 (.build [qd 0,qd 0] [(0,1,(qi (-1)))]),qu 105 (.cw 2 102 103),qw (.store 2 105 104)]) .skip)))) (.ai [qu 106 (.aJ .add 88 (qi 1)),qm 88 106]))))))) (.seq (.ai [qu 7 (.aK (qb false))]) (.seq (.seq (.ai [qm 107 0,qu 108 (.aP 107),qf 109 2 108,ql 110 109,qu 111 (.len 1 110),qu 112 (.aK (qi 0))]) (.block 6 (.loop (.seq (.ai [qu 113 (.aJ .lss 112 111)]) (.seq (.cond 113 .skip (.exit 6)) (.seq (.block 7 (.seq (.ai [qm 114 112,qu 8 (.alloc [qd 0]),qw (.store 1 8 114)]) (.seq (.ai [qm 115 0,qu 116 (.aP 115),qf 117 0 116,ql 118 117,qu 119 (.fn 120 [8]),qu 120 (qc 80 [118,119]),qm 9 120]) (.seq (.bR [ql 121 8,qu 122 (.aJ .gtr 121 (qi 0)),qm 123 122,qg 124 (.aK 0) 123 true,qg 125 (.aP 124) 123 true,qg 126 (.cj 2 125) 123 true,qg 127 (.load false 1 126) 123 true,qg 128 (.load false 1 8) 123 true,qg 129 (.cw 4 127 128) 123 true,qg 130 (.cj 0 129) 123 true,qg 131 (.load false 1 130) 123 true,qu 132 (.pick 123 131 (qb false)),qm 133 132,qg 134 (.aK 9) 133 true,qg 135 (.un .not 134) 133 true,qu 136 (.pick 133 135 (qb false))] [(.cons 0 none (.cons 1 none (.cons 2 none (.cons 3 none (.cons 4 none (.cons 5 none (.cons 6 none (.cons 7 none (.cons 8 none (.cons 9 none (.cons 10 none (.cons 11 none (.cons 12 none (.cons 13 none (.cons 14 none (.cons 15 none .nil))))))))))))))))]) (.cond 136 (.seq (.bR [qm 137 0,qu 138 (.aP 137),qf 139 2 138,ql 140 139,ql 141 8,qu 142 (.build [(.aa (.val (.bool false))),(.aa (.val (.bool false))),qd 0,.aO] []),qu 143 (.cw 4 140 141),qw (.store 4 143 142)] [(.cons 0 none (.cons 1 none (.cons 2 none (.cons 3 none (.cons 4 none (.cons 5 none (.cons 6 none (.cons 7 (some []) .nil))))))))]) (.ai [qu 7 (.aK (qb true))])) .skip))))) (.ai [qu 144 (.aJ .add 112 (qi 1)),qm 112 144]))))))) (.seq (.ai [qm 145 7,qm 2 145]) .ret)))))))⟩
def Pt{α:Type}(l L:List α)(f:Nat->α->α):Prop:=L.length=l.length/\∀(t:Nat)o,l[t]? =some o->L[t]? =some (f t o)
theorem Pt.refl{α:Type}(l:List α):Pt l l λ_ o=>o:=⟨rfl,λ_ _ h=>h⟩
theorem Pt.congr{α:Type}{l L:List α}{f g:Nat->α->α}(h:Pt l L f)(hfg:∀(t:Nat)o,l[t]? =some o->f t o=g t o):Pt l L g:=
 ⟨h.1,λt o ho=>by rw[<-hfg t o ho];exact h.2 t o ho⟩
theorem Pt.set{α:Type}{l L:List α}{f g:Nat->α->α}(h:Pt l L f){j:Nat}{x:α}(hx:∀o,l[j]? =some o->g j o=x)(ho:∀(t:Nat)o,t≠j->l[t]? =some o->g t o=f t o):Pt l (L.set j x) g:=by
 refine⟨by simpa using h.1,λt o AG=>?_⟩
 have aD:t<L.length:=by rw[h.1];exact(I4.1 AG).1
 by_cases Ko:t=j
 .subst Ko;rw[hx o AG];simp[aD]
 .rw[WE (λe=>Ko e.symm),ho t o Ko AG]
  exact h.2 t o AG
theorem Pt.at{α:Type}{l L:List α}{f:Nat->α->α}(h:Pt l L f){j:Nat}(hj:j<l.length):∃hL:j<L.length,L[j]=f j l[j]:=by
 have hL:j<L.length:=by rw[h.1];exact hj
 have:=h.2 j l[j] (uX hj);rw[uX hL]at this;exact⟨hL,by simpa using this⟩
theorem l9.Mf{Y:Nat->Nat}{m:Mem}{Z:Nat->Prop}{id s:Nat}(ds:List (List Dt))(i:Nat){cs:List CC}{d:List Dt}(hl:cs.length=d.length)(h:∀(j:Nat)c c',cs[j]? =some c->(d.map CC.aa)[j]? =some c'->sK Y m Z (some id) c c'):l9 Y m Z id (.row s (aW (af ds) i cs)) (.row s (af (ds.set i d))):=by
 rw[a8];have e:af (ds.set i d)=(af ds).set i (d.map .aa):=by simp[af,abE]
 rw[e];refine .row s aC (λt xs ys h1 h2=>?_) (λt xs ys j c c' h1 h2 h3 h4=>?_)
 .rw[abl]at h1 h2;split at h1
  .rename_i LL;rw[if_pos LL]at h2;split at h1
   .rename_i aD;rw[if_pos aD]at h2;cases h1;cases h2;simpa using hl
   .cases h1
  .rename_i LL;rw[if_neg LL]at h2;rw[h1]at h2;cases h2;rfl
 .rw[abl]at h1 h2;split at h1
  .rename_i LL;rw[if_pos LL]at h2;split at h1
   .rename_i aD;rw[if_pos aD]at h2;cases h1;cases h2;exact h j c c' h3 h4
   .cases h1
  .rename_i LL;rw[if_neg LL]at h2;rw[h1]at h2;cases h2;rw[h3]at h4;cases h4;have hd:∃d,c= .aa d:=by rw[af,RA]at h1;obtain⟨es,_,rfl⟩:=aao.1 h1;rw[RA]at h3;obtain⟨d,_,rfl⟩:=aao.1 h3;exact⟨d,rfl⟩
   obtain⟨d,rfl⟩:=hd;exact .aU (.aa d)
def gR:Obj:=⟨0,[],[],⟨#[]⟩,0,[],0,0,0⟩
def Rn:List CC:=[.aa (.val (.int .i64 0)),.aO,.aO,.aa (.val (.string ⟨#[]⟩)),.aa (.val (.int .i64 0)),.aO,.aa (.val (.int .i64 0)),.aa (.val (.int .i64 0)),.aa (.val (.int .i64 0))]
theorem ZK{Y:Nat->Nat}{m:Mem}{Z:Nat->Prop}{id:Nat}(L:List Obj)(i:Nat):l9 Y m Z id (.row 9 (aW (af (L.map Obj.enc)) i Rn)) (.row 9 (af ((L.set i gR).map Obj.enc))):=by
 rw[abE];refine l9.Mf (L.map Obj.enc) i rfl λj c c' h1 h2=>?_
 match j,h1,h2 with
 |0,h1,h2=>cases h1;cases h2;exact .aU (.aa _)
 |1,h1,h2=>cases h1;cases h2;exact .fy (.aO 1)
 |2,h1,h2=>cases h1;cases h2;exact .fy (.aO 2)
 |3,h1,h2=>cases h1;cases h2;exact .aU (.aa _)
 |4,h1,h2=>cases h1;cases h2;exact .aU (.aa _)
 |5,h1,h2=>cases h1;cases h2;exact .fy (.aO 4)
 |6,h1,h2=>cases h1;cases h2;exact .aU (.aa _)
 |7,h1,h2=>cases h1;cases h2;exact .aU (.aa _)
 |8,h1,h2=>cases h1;cases h2;exact .aU (.aa _)
 |n+9,h1,h2=>simp[Rn]at h1
def f9:bl:=⟨false,false,0,[]⟩
theorem Ro{Y:Nat->Nat}{m:Mem}{Z:Nat->Prop}{id:Nat}(L:List bl)(i:Nat):l9 Y m Z id (.row 4 (aW (af (L.map bl.enc)) i [.aa (.val (.bool false)),.aa (.val (.bool false)),.aa (.val (.int .i64 0)),.aO])) (.row 4 (af ((L.set i f9).map bl.enc))):=by
 rw[abE];refine l9.Mf (L.map bl.enc) i rfl λj c c' h1 h2=>?_
 match j,h1,h2 with
 |0,h1,h2=>cases h1;cases h2;exact .aU (.aa _)
 |1,h1,h2=>cases h1;cases h2;exact .aU (.aa _)
 |2,h1,h2=>cases h1;cases h2;exact .aU (.aa _)
 |3,h1,h2=>cases h1;cases h2;exact .fy (.aO 3)
 |n+4,h1,h2=>simp at h1
def eI(b:Mk)(l:List Obj)(i:Nat):Bool:=match l[i]? with
 |some o=>!(b.O[i]? ==some true)&&o.ah !=0
 |none=>false
def lW(b:Mk)(l:List Obj)(k:Nat)(z:Int):Bool:=decide (0<=z/\z.toNat<k)&&eI b l z.toNat
def cC(b:Mk)(l:List Obj)(k:Nat)(j:Nat)(o:Obj):Obj:=if(eI b l j&&decide (j<k))=true then gR else if(o.ah==4&&lW b l k o.aG)=true then {o with aG:= -1}else o
def jn(i:Nat)(o:Obj):Obj:=if(o.ah==4&&o.aG==(i:Int))=true then {o with aG:= -1}else o
theorem wv(b:Mk)(l:List Obj)(i:Nat)(z:Int):lW b l (i+1) z=(lW b l i z||(z==(i:Int)&&eI b l i)):=by
 unfold lW;by_cases h:z=(i:Int)
 .subst h;simp
 .have h1:(z==(i:Int))=false:=by simpa using h
  rw[h1];have:decide (0<=z/\z.toNat<i+1)=decide (0<=z/\z.toNat<i):=by
   apply decide_eq_decide.2;constructor<;>intro⟨h2,h3⟩<;>exact⟨h2,om⟩
  rw[this];simp
theorem IL{b:Mk}{l:List Obj}{i:Nat}(h:eI b l i=false)(j:Nat)(o:Obj):cC b l i j o=cC b l (i+1) j o:=by
 have h1:(eI b l j&&decide (j<i+1))=(eI b l j&&decide (j<i)):=by
  by_cases hj:j=i
  .subst hj;rw[h];simp
  .have:decide (j<i+1)=decide (j<i):=decide_eq_decide.2 om;rw[this]
 unfold cC;rw[h1,wv,h];simp
theorem EX{b:Mk}{l:List Obj}{i:Nat}(h:eI b l i=true){j:Nat}(hj:j≠i)(o:Obj):jn i (cC b l i j o)=cC b l (i+1) j o:=by
 have h1:(eI b l j&&decide (j<i+1))=(eI b l j&&decide (j<i)):=by have:decide (j<i+1)=decide (j<i):=decide_eq_decide.2 om;rw[this]
 unfold cC;rw[h1,wv,h];by_cases hd:(eI b l j&&decide (j<i))=true
 .rw[if_pos hd,if_pos hd];rfl
 .rw[if_neg hd,if_neg hd];by_cases hk:(o.ah==4)=true
  .by_cases hz:lW b l i o.aG=true
   .rw[hk,hz];simp[jn]
   .rw[acy]at hz;rw[hk,hz];by_cases hp:(o.aG==(i:Int))=true
    .simp[jn,hk,hp]
    .rw[acy]at hp;simp[jn,hp]
  .rw[acy]at hk;rw[hk];simp[jn,hk]
theorem CG{b:Mk}{l:List Obj}{i:Nat}(h:eI b l i=true)(o:Obj):cC b l (i+1) i o=gR:=by unfold cC;rw[h];simp
theorem CH(b:Mk)(l:List Obj)(j:Nat)(o:Obj):cC b l 0 j o=o:=by
 unfold cC;have:lW b l 0 o.aG=false:=by simp[lW]
 rw[this];simp
theorem CI{b:Mk}{l:List Obj}{i:Nat}(o:Obj):(cC b l i i o).ah=o.ah:=by
 unfold cC;simp;split<;>rfl
end Go.Proofs.YtodckkkbiidffaaGreatDoor
namespace Go.Proofs.YtodckkkbiidffaaGreatDoor
open Proofs.Tryz
open Go.AM Go.ChangeShapes Go.WideShapes Go.ChangeAt Go.RowKit
def iu(L:List Obj)(t:Nat)(o:bl):Bool:=decide (0<t)&&(o.aQ&& !(L.any (dC (t:Int))))
def BJ(b:Mk)(k:Nat)(t:Nat)(o:bD):bD:=if(decide (t<k)&& !(b.P[t]? ==some true))=true then⟨-1,0⟩else o
def xT(L:List Obj)(k:Nat)(t:Nat)(o:bl):bl:=if(decide (t<k)&&iu L t o)=true then f9 else o
def i5(L:List Obj)(ps:List bl)(k:Nat):Bool:=(List.range k).any λt=>match ps[t]? with
 |some o=>iu L t o
 |none=>false
structure cT(l:List Obj)(ops:List bD)(ps:List bl)(L:List Obj)(L2:List bD)(L3:List bl)(en:Bool):Prop where
 ex:∃b,gJ l ops ps b/\Pt l L (cC b l l.length)/\Pt ops L2 (BJ b ops.length)
 pr:Pt ps L3 (xT L ps.length)
 en:en=i5 L ps ps.length
structure StL where
 i:Nat
 L:List Obj
structure ZL where
 i:Nat
 L:List bD
structure St3 where
 i:Nat
 L:List bl
 en:Bool
theorem AH{l:List bD}{n:Nat}(h:n<l.length):dN (n:Int) (lenOf (af (l.map bD.enc)).length 0 none)=some n:=cr (by show n<(af (l.map bD.enc)).length;rw[be,ML];exact h)
theorem mc{l:List bl}{n:Nat}(h:n<l.length):dN (n:Int) (lenOf (af (l.map bl.enc)).length 0 none)=some n:=cr (by show n<(af (l.map bl.enc)).length;rw[be,ML];exact h)
theorem ww{α:Type}{f:α->List Dt}{l:List α}{k:Nat}(h:(k:Int)<(((af (l.map f)).length:Nat):Int)):k<l.length:=by rw[be,ML]at h;omega
theorem wx{α:Type}{f:α->List Dt}{l:List α}{k:Nat}(h:¬(k:Int)<(((af (l.map f)).length:Nat):Int)):l.length<=k:=by rw[be,ML]at h;omega
theorem EY{L:List Obj}{ps:List bl}{p:Nat}(h:p<ps.length):i5 L ps (p+1)=(i5 L ps p||iu L p ps[p]):=by
 unfold i5;rw[List.range_succ,List.any_append,uX h|>λe=>(by simp[e]:(List.any [p] λt=>match ps[t]? with|some o=>iu L t o|none=>false)=iu L p ps[p])]
theorem EZ(L:List Obj)(L2:List bD)(L3:List bl)(b:Mk)(p:Nat)(hl:L.length<=4194304){K:CV->Mem->Prop}(h:K (aE (L.any (dC (p:Int)))) [.var [.row 1 9 0 none,.row 2 2 0 none,.row 3 4 0 none],.row 9 (af (L.map Obj.enc)),.row 2 (af (L2.map bD.enc)),.row 4 (af (L3.map bl.enc)),.var [.ptr 0 0,.row 5 1 0 none,.row 6 1 0 none],.row 1 (af (b.O.map bE)),.row 1 (af (b.P.map bE)),.var [.aa (.val (.int .i64 (p:Nat)))]]):aq prog 80 [.rv (.one (.row 1 9 0 none)),.rv (.one (.fn 120 [7]))] [.var [.row 1 9 0 none,.row 2 2 0 none,.row 3 4 0 none],.row 9 (af (L.map Obj.enc)),.row 2 (af (L2.map bD.enc)),.row 4 (af (L3.map bl.enc)),.var [.ptr 0 0,.row 5 1 0 none,.row 6 1 0 none],.row 1 (af (b.O.map bE)),.row 1 (af (b.P.map bE)),.var [.aa (.val (.int .i64 (p:Nat)))]] K:=by
 refine bq [1,7] 8 rfl rfl rfl rfl (args0:=[.rv (.one (.row 0 9 0 none)),.rv (.one (.fn 120 [1]))]) rfl (λi b' hi=>?_) (Me L hl 120 [.val (.int .i64 (p:Nat))] (dC (p:Int)) (λs K hK=>SY s p K hK)) (λr m1 hr=>?_)
 .match i,hi with
  |0,hi=>cases hi;exact .inr ⟨λh=>h,_,rfl,.bI rfl⟩
  |1,hi=>cases hi;exact .inr ⟨λh=>h,_,rfl,.lU rfl⟩
  |n+2,hi=>simp at hi
 .obtain⟨rfl,rfl⟩:=hr;refine⟨Ts _,?_⟩;have e:(Bk.row 9 (af (L.map Obj.enc))).aU (sg [1,7] 8)= .row 9 (af (L.map Obj.enc)):=by simp only[Bk.aU,dp]
  show K _ [.var [.row 1 9 0 none,.row 2 2 0 none,.row 3 4 0 none],(Bk.row 9 (af (L.map Obj.enc))).aU (sg [1,7] 8),.row 2 (af (L2.map bD.enc)),.row 4 (af (L3.map bl.enc)),.var [.ptr 0 0,.row 5 1 0 none,.row 6 1 0 none],.row 1 (af (b.O.map bE)),.row 1 (af (b.P.map bE)),.var [.aa (.val (.int .i64 (p:Nat)))]];rw[e];exact h
theorem l79:bu prog f79=some c79:=by kernel_rfl
theorem IM(l:List Obj)(ops:List bD)(ps:List bl)(g:∀o,o∈l->o.sm)(hl:l.length<=4194304)(ho:ops.length<=4194304)(jD:ps.length<=4194304)(pz:∀p,p∈ps->p.aV.length<=10):
  body prog c79 [.rv (.one (.ptr 0 0))] [.var [.row 1 9 0 none,.row 2 2 0 none,.row 3 4 0 none],.row 9 (af (l.map Obj.enc)),.row 2 (af (ops.map bD.enc)),.row 4 (af (ps.map bl.enc))]
   (λr m=>∃r' m',View 4 ⟨[r],m⟩ ⟨[r'],m'⟩/\∃L L2 L3 en,cT l ops ps L L2 L3 en/\r'=aE en/\m'=[.var [.row 1 9 0 none,.row 2 2 0 none,.row 3 4 0 none],.row 9 (af (L.map Obj.enc)),.row 2 (af (L2.map bD.enc)),.row 4 (af (L3.map bl.enc))]):=by
 refine(Md l ops ps g hl ho jD pz).mono λr m⟨b,hb,hr,hm⟩=>?_
 subst hr hm;have hbO:=hb.len.1;have hbP:=hb.len.2;refine bb (λ(s:StL)=>s.i<=l.length/\Pt l s.L (cC b l s.i)) [0,3,16] (λs=>[(17,an .i64 (s.i:Nat))]) (λs=>[.var [.row 1 9 0 none,.row 2 2 0 none,.row 3 4 0 none],.row 9 (af (s.L.map Obj.enc)),.row 2 (af (ops.map bD.enc)),.row 4 (af (ps.map bl.enc)),.var [.ptr 0 0,.row 5 1 0 none,.row 6 1 0 none],.row 1 (af (b.O.map bE)),.row 1 (af (b.P.map bE))]) (λs=>l.length-s.i) ⟨0,l⟩ ⟨aaj _,(Pt.refl l).congr λt o _=>(CH b l t o).symm⟩ ?_ (λs hs=>?_)
 .refine View.o1 7 [0,1,2,3,4,5,6] [] ?_
  .exact(.pe rfl rfl rfl (.pr rfl rfl rfl (.pr rfl rfl rfl (.pr rfl rfl rfl (.pe rfl rfl rfl (.pr rfl rfl rfl (.pn rfl rfl rfl)))))))
 obtain⟨i,L⟩:=s;obtain⟨hi,zc⟩:=hs;have hi:i<=l.length:=hi;have zc:Pt l L (cC b l i):=zc;refine aL (λh=>?_) (λh=>?_)
 .have aD:i<l.length:=ww h;have X1:i<b.O.length:=om;refine ag (y7 X1) ?_;refine ag (tn X1) ?_;have py:∀(hd:eI b l i=false),Pt l L (cC b l (i+1)):=λhd=>zc.congr λt o _=>IL hd t o
  refine aM (λh2=>?_) (λh2=>?_)
  .have hd:eI b l i=false:=by unfold eI;rw[uX aD,uX X1,h2];simp
   refine⟨⟨i+1,L⟩,⟨aD,py hd⟩,(show l.length-(i+1)<l.length-i by omega),View.o 7 [0,1,2,3,4,5,6] [] ?_ ?_⟩
   .repeat(first|exact .nil|refine .ap ?_|refine .put (.aU (aN om).symm) ?_|refine .eq rfl ?_)
   .exact(.pe rfl rfl rfl (.pr rfl rfl rfl (.pr rfl rfl rfl (.pr rfl rfl rfl (.pe rfl rfl rfl (.pr rfl rfl rfl (.pn rfl rfl rfl)))))))
  .obtain⟨hL,hLi⟩:=zc.at aD;have Oz:L[i].ah=l[i].ah:=by rw[hLi,CI]
   refine ag (y9 hL) ?_;refine ag (bH Obj.enc L hL) ?_;refine bp (λh3=>?_) (λh3=>?_)
   .have h3:L[i].ah=0:=h3;have hd:eI b l i=false:=by unfold eI;rw[uX aD];show(!(b.O[i]? ==some true)&&l[i].ah !=0)=false;rw[<-Oz,h3];simp
    refine⟨⟨i+1,L⟩,⟨aD,py hd⟩,(show l.length-(i+1)<l.length-i by omega),View.o 7 [0,1,2,3,4,5,6] [] ?_ ?_⟩
    .repeat(first|exact .nil|refine .ap ?_|refine .put (.aU (aN om).symm) ?_|refine .eq rfl ?_)
    .exact(.pe rfl rfl rfl (.pr rfl rfl rfl (.pr rfl rfl rfl (.pr rfl rfl rfl (.pe rfl rfl rfl (.pr rfl rfl rfl (.pn rfl rfl rfl)))))))
   .have h3:L[i].ah≠0:=h3;have hd:eI b l i=true:=by unfold eI;rw[uX aD,uX X1,h2];simp[<-Oz,h3]
    have hLl:=zc.1;refine bb (λ(s:StL)=>s.i<=l.length/\Pt l s.L (λt o=>if t<s.i then jn i (cC b l i t o)else cC b l i t o)) [0,3,4,16,17,42] (λs=>[(43,an .i64 (s.i:Nat))]) (λs=>[.var [.row 1 9 0 none,.row 2 2 0 none,.row 3 4 0 none],.row 9 (af (s.L.map Obj.enc)),.row 2 (af (ops.map bD.enc)),.row 4 (af (ps.map bl.enc)),.var [.ptr 0 0,.row 5 1 0 none,.row 6 1 0 none],.row 1 (af (b.O.map bE)),.row 1 (af (b.P.map bE))]) (λs=>l.length-s.i) ⟨0,L⟩ ⟨aaj _,zc.congr λt o _=>aC⟩ ?_ (λs hs=>?_)
    .refine View.o1 7 [0,1,2,3,4,5,6] [] ?_
     .exact(.pe rfl rfl rfl (.pr rfl rfl rfl (.pr rfl rfl rfl (.pr rfl rfl rfl (.pe rfl rfl rfl (.pr rfl rfl rfl (.pn rfl rfl rfl)))))))
    clear zc py;obtain⟨j,M⟩:=s;obtain⟨hj,zc⟩:=hs;have hj:j<=l.length:=hj;have zc:Pt l M (λt o=>if t<j then jn i (cC b l i t o)else cC b l i t o):=zc
    have hMl:=zc.1;refine aL (λna=>?_) (λna=>?_)
    .have d8:j<L.length:=ww na;have IN:j<l.length:=om;obtain⟨hM,Uu⟩:=zc.at IN;simp only[Nat.lt_irrefl,if_false]at Uu;have jg:=λx=>zc.set (j:=j) (x:=x) (g:=λt o=>if t<j+1 then jn i (cC b l i t o)else cC b l i t o)
     have rn:=λ(hh:jn i M[j]=M[j])=>zc.congr (g:=λt o=>if t<j+1 then jn i (cC b l i t o)else cC b l i t o) λt o ho=>by
      by_cases Ko:t=j
      .subst Ko;rw[uX IN]at ho;cases ho;simp only[Nat.lt_irrefl,if_false,ab0,if_true];rw[<-Uu,hh]
      .have e1:(t<j+1)↔(t<j):=om;simp only[e1]
     refine ag (y9 hM) ?_;refine ag (bH Obj.enc M hM) ?_;have Vt:=bH Obj.enc M hM;generalize hx:M[j]=x at Uu rn Vt;refine bp (λh4=>?_) (λh4=>?_)
     .have h4:x.ah=4:=h4;refine ag (y9 hM) ?_;refine ag Vt ?_;refine bp (λh5=>?_) (λh5=>?_)
      .have h5:x.aG=(i:Int):=h5;refine ag (y9 hM) ?_;refine ag Vt ?_;have hs:=jg {x with aG:= -1} (λo ho=>by
        rw[uX IN]at ho;cases ho;simp only[ab0,if_true];rw[<-Uu];simp[jn,h4,h5]) (λt o Ko _=>by
        have e1:(t<j+1)↔(t<j):=om;simp only[e1])
       refine⟨⟨j+1,M.set j {x with aG:= -1}⟩,⟨IN,hs⟩,(show l.length-(j+1)<l.length-j by omega),View.o 7 [0,1,2,3,4,5,6] [] ?_ ?_⟩
       .repeat(first|exact .nil|refine .ap ?_|refine .put (.aU (aN om).symm) ?_|refine .eq rfl ?_)
       .exact(.pe rfl rfl rfl (.pt rfl rfl (.bI (ns Obj.enc M j {x with aG:= -1})) (.pr rfl rfl rfl (.pr rfl rfl rfl (.pe rfl rfl rfl (.pr rfl rfl rfl (.pn rfl rfl rfl)))))))
      .have h5:x.aG≠(i:Int):=h5;refine⟨⟨j+1,M⟩,⟨IN,rn (by simp[jn,h5])⟩,(show l.length-(j+1)<l.length-j by omega),View.o 7 [0,1,2,3,4,5,6] [] ?_ ?_⟩
       .repeat(first|exact .nil|refine .ap ?_|refine .put (.aU (aN om).symm) ?_|refine .eq rfl ?_)
       .exact(.pe rfl rfl rfl (.pr rfl rfl rfl (.pr rfl rfl rfl (.pr rfl rfl rfl (.pe rfl rfl rfl (.pr rfl rfl rfl (.pn rfl rfl rfl)))))))
     .have h4:x.ah≠4:=h4;refine⟨⟨j+1,M⟩,⟨IN,rn (by simp[jn,h4])⟩,(show l.length-(j+1)<l.length-j by omega),View.o 7 [0,1,2,3,4,5,6] [] ?_ ?_⟩
      .repeat(first|exact .nil|refine .ap ?_|refine .put (.aU (aN om).symm) ?_|refine .eq rfl ?_)
      .exact(.pe rfl rfl rfl (.pr rfl rfl rfl (.pr rfl rfl rfl (.pr rfl rfl rfl (.pe rfl rfl rfl (.pr rfl rfl rfl (.pn rfl rfl rfl)))))))
    .have GL:L.length<=j:=wx na;have hM:i<M.length:=om;refine ag (y9 hM) ?_;refine ag (bH Obj.enc M hM) ?_;have hs:=zc.set (j:=i) (x:=gR) (g:=cC b l (i+1)) (λo _=>CG hd o) (λt o LL ht=>by
      have:t<j:=by have:=(I4.1 ht).1;omega
      rw[if_pos this,EX hd LL])
     refine⟨⟨i+1,M.set i gR⟩,⟨aD,hs⟩,(show l.length-(i+1)<l.length-i by omega),View.o 7 [0,1,2,3,4,5,6] [] ?_ ?_⟩
     .repeat(first|exact .nil|refine .ap ?_|refine .put (.aU (aN om).symm) ?_|refine .eq rfl ?_)
     .exact(.pe rfl rfl rfl (.pt rfl rfl (ZK M i) (.pr rfl rfl rfl (.pr rfl rfl rfl (.pe rfl rfl rfl (.pr rfl rfl rfl (.pn rfl rfl rfl)))))))
 .have h9:l.length<=i:=wx h;have m9:i=l.length:=om;subst m9;have hLl:=zc.1;refine bb (λ(s:ZL)=>s.i<=ops.length/\Pt ops s.L (BJ b s.i)) [0,3,87] (λs=>[(88,an .i64 (s.i:Nat))]) (λs=>[.var [.row 1 9 0 none,.row 2 2 0 none,.row 3 4 0 none],.row 9 (af (L.map Obj.enc)),.row 2 (af (s.L.map bD.enc)),.row 4 (af (ps.map bl.enc)),.var [.ptr 0 0,.row 5 1 0 none,.row 6 1 0 none],.row 1 (af (b.O.map bE)),.row 1 (af (b.P.map bE))]) (λs=>ops.length-s.i) ⟨0,ops⟩ ⟨aaj _,(Pt.refl ops).congr λt o _=>by simp[BJ]⟩ ?_ (λs hs=>?_)
  .refine View.o1 7 [0,1,2,3,4,5,6] [] ?_
   .exact(.pe rfl rfl rfl (.pr rfl rfl rfl (.pr rfl rfl rfl (.pr rfl rfl rfl (.pe rfl rfl rfl (.pr rfl rfl rfl (.pn rfl rfl rfl)))))))
  obtain⟨k,L2⟩:=s;obtain⟨hk,BK⟩:=hs;have hk:k<=ops.length:=hk;have BK:Pt ops L2 (BJ b k):=BK;have adV:=BK.1;refine aL (λh=>?_) (λh=>?_)
  .have LB:k<ops.length:=ww h;have X2:k<b.P.length:=om;refine ag (y7 X2) ?_;refine ag (tn X2) ?_;have jS:∀t,t≠k->decide (t<k+1)=decide (t<k):=λt ht=>decide_eq_decide.2 om
   refine aM (λh2=>?_) (λh2=>?_)
   .have h2:b.P[k]=false:=by simpa using h2
    have hL2:k<L2.length:=om;refine ag (AH hL2) ?_;refine ag (bH bD.enc L2 hL2) ?_;have hs:=BK.set (j:=k) (x:=⟨-1,0⟩) (g:=BJ b (k+1)) (λo _=>by simp[BJ,uX X2,h2]) (λt o Rp _=>by unfold BJ;rw[jS t Rp])
    refine⟨⟨k+1,L2.set k ⟨-1,0⟩⟩,⟨LB,hs⟩,(show ops.length-(k+1)<ops.length-k by omega),View.o 7 [0,1,2,3,4,5,6] [] ?_ ?_⟩
    .repeat(first|exact .nil|refine .ap ?_|refine .put (.aU (aN om).symm) ?_|refine .eq rfl ?_)
    .exact(.pe rfl rfl rfl (.pr rfl rfl rfl (.pt rfl rfl (.bI (ns bD.enc L2 k ⟨-1,0⟩)) (.pr rfl rfl rfl (.pe rfl rfl rfl (.pr rfl rfl rfl (.pn rfl rfl rfl)))))))
   .have h2:b.P[k]=true:=by simpa using h2
    have hs:=BK.congr (g:=BJ b (k+1)) λt o _=>by
     by_cases Rp:t=k
     .subst Rp;simp[BJ,uX X2,h2]
     .unfold BJ;rw[jS t Rp]
    refine⟨⟨k+1,L2⟩,⟨LB,hs⟩,(show ops.length-(k+1)<ops.length-k by omega),View.o 7 [0,1,2,3,4,5,6] [] ?_ ?_⟩
    .repeat(first|exact .nil|refine .ap ?_|refine .put (.aU (aN om).symm) ?_|refine .eq rfl ?_)
    .exact(.pe rfl rfl rfl (.pr rfl rfl rfl (.pr rfl rfl rfl (.pr rfl rfl rfl (.pe rfl rfl rfl (.pr rfl rfl rfl (.pn rfl rfl rfl)))))))
  .have h9:ops.length<=k:=wx h;have AF:k=ops.length:=om;subst AF;refine bb (λ(s:St3)=>s.i<=ps.length/\Pt ps s.L (xT L s.i)/\s.en=i5 L ps s.i) [0,3,111] (λs=>[(112,an .i64 (s.i:Nat)),(7,aE s.en)]) (λs=>[.var [.row 1 9 0 none,.row 2 2 0 none,.row 3 4 0 none],.row 9 (af (L.map Obj.enc)),.row 2 (af (L2.map bD.enc)),.row 4 (af (s.L.map bl.enc)),.var [.ptr 0 0,.row 5 1 0 none,.row 6 1 0 none],.row 1 (af (b.O.map bE)),.row 1 (af (b.P.map bE))]) (λs=>ps.length-s.i) ⟨0,ps,false⟩ ⟨aaj _,(Pt.refl ps).congr λt o _=>by simp[xT],rfl⟩ ?_ (λs hs=>?_)
   .refine View.o1 7 [0,1,2,3,4,5,6] [] ?_
    .exact(.pe rfl rfl rfl (.pr rfl rfl rfl (.pr rfl rfl rfl (.pr rfl rfl rfl (.pe rfl rfl rfl (.pr rfl rfl rfl (.pn rfl rfl rfl)))))))
   obtain⟨p,L3,en⟩:=s;obtain⟨hp,S0,pO⟩:=hs;have hp:p<=ps.length:=hp;have S0:Pt ps L3 (xT L p):=S0;have pO:en=i5 L ps p:=pO;have adW:=S0.1;refine aL (λh=>?_) (λh=>?_)
   .have iU:p<ps.length:=ww h;obtain⟨X3,Pv⟩:=S0.at iU;have Pv:L3[p]=ps[p]:=by rw[Pv];simp[xT]
    have jS:∀t,t≠p->decide (t<p+1)=decide (t<p):=λt ht=>decide_eq_decide.2 om
    have Wl:=EY (L:=L) iU;have pP:iu L p ps[p]=false->Pt ps L3 (xT L (p+1))/\en=i5 L ps (p+1):=λhf=>⟨S0.congr λt o AG=>by
     by_cases Pw:t=p
     .subst Pw;rw[uX iU]at AG;cases AG;simp[xT,hf]
     .unfold xT;rw[jS t Pw],by rw[Wl,hf,pO];simp⟩
    refine EZ L L2 L3 b p om ?_;refine aL (λyj=>?_) (λyj=>?_)
    .have yj:0<p:=by have h:(p:Int)>0:=yj;omega
     refine ag (mc X3) ?_;refine ag (bH bl.enc L3 X3) ?_;refine aM (λb7=>?_) (λb7=>?_)
     .refine aM (λDR=>?_) (λDR=>?_)
      .refine ag (mc X3) ?_;refine ag (bH bl.enc L3 X3) ?_;refine⟨trivial,?_⟩;have he:iu L p ps[p]=true:=by rw[Pv]at b7;unfold iu;rw[b7,DR];simp[yj]
       have hs:=S0.set (j:=p) (x:=f9) (g:=xT L (p+1)) (λo AG=>by rw[uX iU]at AG;cases AG;simp[xT,he]) (λt o Pw _=>by unfold xT;rw[jS t Pw])
       refine⟨⟨p+1,L3.set p f9,true⟩,⟨iU,hs,(by rw[Wl,he];simp)⟩,(show ps.length-(p+1)<ps.length-p by omega),View.o 8 [0,1,2,3,4,5,6] [] ?_ ?_⟩
       .repeat(first|exact .nil|refine .ap ?_|refine .put (.aU (aN om).symm) ?_|refine .eq rfl ?_)
       .exact(.pe rfl rfl rfl (.pr rfl rfl rfl (.pr rfl rfl rfl (.pt rfl rfl (Ro L3 p) (.pe rfl rfl rfl (.pr rfl rfl rfl (.pn rfl rfl rfl)))))))
      .skip
       refine⟨⟨p+1,L3,en⟩,⟨iU,(pP (by unfold iu;rw[DR];simp)).1,(pP (by unfold iu;rw[DR];simp)).2⟩,(show ps.length-(p+1)<ps.length-p by omega),View.o 8 [0,1,2,3,4,5,6] [] ?_ ?_⟩
       .repeat(first|exact .nil|refine .ap ?_|refine .put (.aU (aN om).symm) ?_|refine .eq rfl ?_)
       .exact(.pe rfl rfl rfl (.pr rfl rfl rfl (.pr rfl rfl rfl (.pr rfl rfl rfl (.pe rfl rfl rfl (.pr rfl rfl rfl (.pn rfl rfl rfl)))))))
     .rw[Pv]at b7;refine⟨⟨p+1,L3,en⟩,⟨iU,(pP (by unfold iu;rw[b7];simp)).1,(pP (by unfold iu;rw[b7];simp)).2⟩,(show ps.length-(p+1)<ps.length-p by omega),View.o 8 [0,1,2,3,4,5,6] [] ?_ ?_⟩
      .repeat(first|exact .nil|refine .ap ?_|refine .put (.aU (aN om).symm) ?_|refine .eq rfl ?_)
      .exact(.pe rfl rfl rfl (.pr rfl rfl rfl (.pr rfl rfl rfl (.pr rfl rfl rfl (.pe rfl rfl rfl (.pr rfl rfl rfl (.pn rfl rfl rfl)))))))
    .have yj:p=0:=by have h:¬(p:Int)>0:=yj;omega
     refine⟨⟨p+1,L3,en⟩,⟨iU,(pP (by simp[iu,yj])).1,(pP (by simp[iu,yj])).2⟩,(show ps.length-(p+1)<ps.length-p by omega),View.o 8 [0,1,2,3,4,5,6] [] ?_ ?_⟩
     .repeat(first|exact .nil|refine .ap ?_|refine .put (.aU (aN om).symm) ?_|refine .eq rfl ?_)
     .exact(.pe rfl rfl rfl (.pr rfl rfl rfl (.pr rfl rfl rfl (.pr rfl rfl rfl (.pe rfl rfl rfl (.pr rfl rfl rfl (.pn rfl rfl rfl)))))))
   .have h9:ps.length<=p:=wx h;have x5:p=ps.length:=om;subst x5;refine⟨aE en,_,View.o 7 [0,1,2,3] [] (.eq rfl .nil) (.pe rfl rfl rfl (.pr rfl rfl rfl (.pr rfl rfl rfl (.pn rfl rfl rfl)))),L,L2,L3,en,⟨⟨b,hb,zc,BK⟩,S0,pO⟩,rfl,rfl⟩
theorem Px(l:List Obj)(ops:List bD)(ps:List bl)(g:∀o,o∈l->o.sm)(hl:l.length<=4194304)(ho:ops.length<=4194304)(jD:ps.length<=4194304)(pz:∀p,p∈ps->p.aV.length<=10):
  aq prog 79 [.rv (.one (.ptr 0 0))] [.var [.row 1 9 0 none,.row 2 2 0 none,.row 3 4 0 none],.row 9 (af (l.map Obj.enc)),.row 2 (af (ops.map bD.enc)),.row 4 (af (ps.map bl.enc))]
   (λr m=>∃L L2 L3 en,cT l ops ps L L2 L3 en/\r=aE en/\m=[.var [.row 1 9 0 none,.row 2 2 0 none,.row 3 4 0 none],.row 9 (af (L.map Obj.enc)),.row 2 (af (L2.map bD.enc)),.row 4 (af (L3.map bl.enc))]):=
 bG (aY func79 l79 (IM l ops ps g hl ho jD pz)) λr m1 h=>h
structure dF(l:List Obj)(ops:List bD)(ps:List bl):Prop where
 sm:∀o,o∈l->o.sm
 ll:l.length<=4194304
 lo:ops.length<=4194304
 lp:ps.length<=4194304
 sl:∀p,p∈ps->p.aV.length<=10
 ne:ps≠[]
theorem Mg:gR.sm:=⟨⟨⟨[],rfl⟩,⟨[],rfl⟩,λq hq=>by simp[gR]at hq⟩,by simp[gR],by simp[gR],by simp[gR],λq hq=>by simp[gR]at hq⟩
theorem Pt.all{α:Type}{l L:List α}{f:Nat->α->α}(h:Pt l L f){Q:α->Prop}(hf:∀(t:Nat)o,l[t]? =some o->Q (f t o)):∀x,x∈L->Q x:=by
 intro x hx;obtain⟨t,ht⟩:=Xt hx;have aD:t<l.length:=by have:=(I4.1 ht).1;rw[h.1]at this;exact this
 have:=h.2 t l[t] (uX aD);rw[ht]at this;cases this;exact hf t _ (uX aD)
theorem cT.kr{l:List Obj}{ops:List bD}{ps:List bl}{L:List Obj}{L2:List bD}{L3:List bl}{en:Bool}(h:cT l ops ps L L2 L3 en)(k:dF l ops ps):dF L L2 L3:=by
 obtain⟨b,hb,hP,BK⟩:=h.ex;refine⟨hP.all λt o ho=>?_,by rw[hP.1];exact k.ll,by rw[BK.1];exact k.lo,by rw[h.pr.1];exact k.lp,h.pr.all (Q:=λp=>p.aV.length<=10) λt o ho=>?_,λe=>k.ne (aag (by rw[<-h.pr.1,e];rfl))⟩
 .have hs:=k.sm o (RD ho);unfold cC;split
  .exact Mg
  .split
   .exact⟨⟨hs.t.1,hs.t.2.1,hs.t.2.2⟩,hs.d,hs.e,hs.q,hs.qd⟩
   .exact hs
 .unfold xT;split
  .simp[f9]
  .exact k.sl o (RD ho)
def kY(ps:List bl):Nat:=(ps.filter λp=>p.aQ).length
theorem CJ:∀(a b:List bl),b.length=a.length->(∀(t:Nat)x y,a[t]? =some x->b[t]? =some y->y.aQ=true->x.aQ=true)->kY b<=kY a/\((∃(t:Nat)(x y:bl),a[t]? =some x/\b[t]? =some y/\x.aQ=true/\y.aQ=false)->kY b<kY a)
 | [],[],_,_=>⟨Ts _,λ⟨t,x,y,h,_⟩=>by simp at h⟩
 | [],_::_,h,_=>by simp at h
 |_::_,[],h,_=>by simp at h
 |x::a,y::b,h,hm=>by
  obtain⟨ih1,ih2⟩:=CJ a b (by simpa using h) (λt u v hu hv=>hm (t+1) u v (by simpa using hu) (by simpa using hv))
  have h0:=hm 0 x y aC aC;refine⟨?_,λ⟨t,u,v,hu,hv,hul,x9⟩=>?_⟩
  .unfold kY at ih1|-;cases hx:x.aQ<;>cases hy:y.aQ<;>simp[hx,hy]at h0|-<;>omega
  .cases t with
   |zero=>
    simp at hu hv;subst hu hv;unfold kY at ih1|-;simp[hul,x9];omega
   |succ t=>
    have:=ih2 ⟨t,u,v,by simpa using hu,by simpa using hv,hul,x9⟩
    unfold kY at this|-;cases hx:x.aQ<;>cases hy:y.aQ<;>simp[hx,hy]at h0|-<;>omega
theorem cT.kY{l:List Obj}{ops:List bD}{ps:List bl}{L:List Obj}{L2:List bD}{L3:List bl}(h:cT l ops ps L L2 L3 true):kY L3<Go.Proofs.YtodckkkbiidffaaGreatDoor.kY ps:=by
 have pO:=h.en;unfold i5 at pO;have pO:=pO.symm;rw[abm]at pO;obtain⟨t,ht,AI⟩:=pO;have GM:t<ps.length:=by simpa using ht
 rw[uX GM]at AI;have AI:iu L t ps[t]=true:=AI;refine(CJ ps L3 h.pr.1 (λi x y hx hy hl=>?_)).2 ⟨t,ps[t],f9,uX GM,?_,?_,rfl⟩
 .have:=h.pr.2 i x hx;rw[hy]at this;cases this;unfold xT at hl;split at hl
  .simp[f9]at hl
  .exact hl
 .have:=h.pr.2 t _ (uX GM);rw[this];simp[xT,AI,GM]
 .unfold iu at AI;simp at AI;exact AI.2.1
structure Kr where
 l:List Obj
 ops:List bD
 ps:List bl
inductive iv(k:Kr):Kr->Prop
 |refl:iv k k
 |step {a b:Kr} (h:iv k a) (ho:cT a.l a.ops a.ps b.l b.ops b.ps true):iv k b
theorem Mh{Y:Nat->Nat}{m:Mem}{Z:Nat->Prop}{p:Option Nat}{a b:Dt}(h:a=b):sK Y m Z p (.aa a) (.aa b):=h▸ .aU (.aa a)
theorem E0(a:Kr)(ha:dF a.l a.ops a.ps){K:CV->Mem->Prop}(x0:Bk)(h:∀(c:Kr)en,cT a.l a.ops a.ps c.l c.ops c.ps en->K (aE en) [x0,.var z3,.var [.row 3 9 0 none,.row 4 2 0 none,.row 5 4 0 none],.row 9 (af (c.l.map Obj.enc)),.row 2 (af (c.ops.map bD.enc)),.row 4 (af (c.ps.map bl.enc))]):
  aq prog 79 [.rv (.one (.ptr 2 0))] [x0,.var z3,.var [.row 3 9 0 none,.row 4 2 0 none,.row 5 4 0 none],.row 9 (af (a.l.map Obj.enc)),.row 2 (af (a.ops.map bD.enc)),.row 4 (af (a.ps.map bl.enc))] K:=by
 refine bq [2,3,4,5] 6 rfl rfl rfl rfl (args0:=[.rv (.one (.ptr 0 0))]) rfl (λi b' hi=>?_) (Px a.l a.ops a.ps ha.sm ha.ll ha.lo ha.lp ha.sl) (λr m1 hr=>?_)
 .match i,hi with
  |0,hi=>cases hi;exact .inr ⟨λh=>h,_,rfl,.eq rfl aC⟩
  |1,hi=>cases hi;exact .inr ⟨λh=>h,_,rfl,.bI rfl⟩
  |2,hi=>cases hi;exact .inr ⟨λh=>h,_,rfl,.bI rfl⟩
  |3,hi=>cases hi;exact .inr ⟨λh=>h,_,rfl,.bI rfl⟩
  |n+4,hi=>simp at hi
 .obtain⟨L,L2,L3,en,ho,rfl,rfl⟩:=hr;refine⟨Ts _,?_⟩;have e:∀(s:Nat)(ds:List (List Dt)),(Bk.row s (af ds)).aU (sg [2,3,4,5] 6)= .row s (af ds):=λs ds=>by simp only[Bk.aU,dp]
  show K _ [x0,.var z3,.var [.row 3 9 0 none,.row 4 2 0 none,.row 5 4 0 none],(Bk.row 9 (af (L.map Obj.enc))).aU (sg [2,3,4,5] 6),(Bk.row 2 (af (L2.map bD.enc))).aU (sg [2,3,4,5] 6),(Bk.row 4 (af (L3.map bl.enc))).aU (sg [2,3,4,5] 6)];rw[e,e,e];exact h ⟨L,L2,L3⟩ en ho
def c82:LF:= ⟨16,[.tmp 3],(.seq (.ai [qu 2 (.box 0),qu 3 (.aK (qb false))]) (.seq (.ai [qf 4 0 2,ql 5 4,qu 6 (.aJ .eql 5 (qi 5)),qm 7 6,qg 8 (.cj 6 2) 7 true,qg 9 (.load false 1 8) 7 true,qg 10 (.cj 2 1) 7 true,qg 11 (.load false 1 10) 7 true,qg 12 (.len 1 11) 7 true,qg 13 (.aJ .sub 12 (qi 1)) 7 true,qg 14 (.aJ .eql 9 13) 7 true,qu 15 (.pick 7 14 (qb false)),qm 3 15]) .ret))⟩
theorem l82:bu prog f82=some c82:=by kernel_rfl
theorem E3(l:List Obj)(hb:l.length<=4194304)(F:Nat)(cs:List Dt)(q:Obj->Bool)(hF:∀s,∀K:CV->Mem->Prop,K (aE (q s)) [.var (cs.map .aa)]->aq prog F [s.cv,.rv (.one (.ptr 0 0))] [.var (cs.map .aa)] K):
  body prog c121 [cz l,.rv (.one (.fn F [0]))] [.var (cs.map .aa)] (λr m=>r=an .i64 (nU q l)/\m=[.var (cs.map .aa)]):=by
 refine bb (λk=>k<=l.length/\∀(j:Nat)s,j<k->l[j]? =some s->q s=false) [0,1,7] (λk=>[(8,an .i64 (k:Nat))]) (λ_=>[.var (cs.map .aa)]) (λk=>l.length-k) 0 ⟨aaj _,λj s h=>absurd h (abi j)⟩ ?_ (λk hk=>?_)
 .refine View.o1 1 [0] [] ?_
  .exact .pt rfl rfl (.lU rfl) (.nil _)
 .refine aL (λh=>?_) (λh=>?_)
  .have aD:k<l.length:=by have h:(k:Int)<((l.map Obj.enc).length:Int):=h;rw[ML]at h;omega
   refine ag (AA aD) ?_;have hi:=uX aD;have Wk:=kW (q:=q) aD;generalize l[k]=o at hi Wk;refine hF o _ ?_;refine aM (λHa=>?_) (λHa=>?_)
   .rw[Wk Ha hk.2];exact⟨rfl,rfl⟩
   .refine⟨k+1,⟨aD,λj s hj hs=>?_⟩,(show l.length-(k+1)<l.length-k by omega),View.o 1 [0] [] ?_ ?_⟩
    .rcases aad j k with h5|h5
     .exact hk.2 j s h5 hs
     .have:j=k:=om;subst this;rw[hi]at hs;cases hs;exact Ha
    .repeat(first|exact .nil|refine .ap ?_|refine .put (.aU (aN om).symm) ?_|refine .eq rfl ?_)
    .exact .pt rfl rfl (.lU rfl) (.nil _)
  .have d7:¬(k:Int)<((l.map Obj.enc).length:Int):=h;rw[ML]at d7;rw[mP λj s hs=>hk.2 j s (by have:=(I4.1 hs).1;omega) hs]
   exact⟨rfl,rfl⟩
theorem CK(l:List Obj)(hb:l.length<=4194304)(F:Nat)(cs:List Dt)(q:Obj->Bool)(hF:∀s,∀K:CV->Mem->Prop,K (aE (q s)) [.var (cs.map .aa)]->aq prog F [s.cv,.rv (.one (.ptr 0 0))] [.var (cs.map .aa)] K):
  body prog c80 [cz l,.rv (.one (.fn F [0]))] [.var (cs.map .aa)] (λr m=>r=aE (l.any q)/\m=[.var (cs.map .aa)]):=by
 refine(aY func121 l121 (E3 l hb F cs q hF)).mono λr m⟨hr,hm⟩=>?_
 subst hr hm;refine⟨?_,rfl⟩;show aE _=aE _;rw[<-rM]
theorem tq(l:List Obj)(hb:l.length<=4194304)(F:Nat)(cs:List Dt)(q:Obj->Bool)(hF:∀s,∀K:CV->Mem->Prop,K (aE (q s)) [.var (cs.map .aa)]->aq prog F [s.cv,.rv (.one (.ptr 0 0))] [.var (cs.map .aa)] K)(K:CV->Mem->Prop)(h:K (aE (l.any q)) [.var (cs.map .aa)]):
  aq prog 80 [cz l,.rv (.one (.fn F [0]))] [.var (cs.map .aa)] K:=
 (aY func80 l80 (CK l hb F cs q hF)).mono λr m⟨hr,hm⟩=>by subst hr hm;exact h
def c41:LF:= ⟨120,[.cell true 3 2],(.seq (.ai [qu 1 (.box 0),qu 2 (.alloc [.aO,.aO,.aO])]) (.seq (.ai [qL 6 3 1,qu 7 (qc 59 [6]),qu 3 (.alloc [.aO,.aO,.aO]),qw (.store 3 3 7)]) (.seq (.block 0 (.loop (.seq (.seq (.ai [qu 8 (qc 79 [3])]) (.cond 8 .skip (.exit 0))) (.block 1 .skip)))) (.seq (.block 2 (.loop (.seq (.seq (.ai [qf 9 0 3,ql 10 9,qu 11 (.len 1 10),qu 12 (.aJ .gtr 11 (qi 1)),qm 13 12,qg 14 (.cj 0 3) 13 true,qg 15 (.load false 1 14) 13 true,qg 16 (.cj 0 3) 13 true,qg 17 (.load false 1 16) 13 true,qg 18 (.len 1 17) 13 true,qg 19 (.aJ .sub 18 (qi 1)) 13 true,qg 20 (.cw 9 15 19) 13 true,qg 21 (.cj 0 20) 13 true,qg 22 (.load false 1 21) 13 true,qg 23 (.aJ .eql 22 (qi 0)) 13 true,qu 24 (.pick 13 23 (qb false))]) (.cond 24 .skip (.exit 2))) (.block 3 (.ai [qf 25 0 3,ql 26 25,qf 27 0 3,ql 28 27,qu 29 (.len 1 28),qu 30 (.aJ .sub 29 (qi 1)),qu 31 (.nR 9 26 none (some 30) none),qf 32 0 3,qw (.store 1 32 31)]))))) (.cS (.seq (.block 4 (.loop (.seq (.seq (.ai [qf 33 1 3,ql 34 33,qu 35 (.len 1 34),qu 36 (.aJ .gtr 35 (qi 0)),qm 37 36,qg 38 (.cj 1 3) 37 true,qg 39 (.load false 1 38) 37 true,qg 40 (.cj 1 3) 37 true,qg 41 (.load false 1 40) 37 true,qg 42 (.len 1 41) 37 true,qg 43 (.aJ .sub 42 (qi 1)) 37 true,qg 44 (.cw 2 39 43) 37 true,qg 45 (.cj 0 44) 37 true,qg 46 (.load false 1 45) 37 true,qg 47 (.aJ .lss 46 (qi 0)) 37 true,qu 48 (.pick 37 47 (qb false))]) (.cond 48 .skip (.exit 4))) (.block 5 (.ai [qf 49 1 3,ql 50 49,qf 51 1 3,ql 52 51,qu 53 (.len 1 52),qu 54 (.aJ .sub 53 (qi 1)),qu 55 (.nR 2 50 none (some 54) none),qf 56 1 3,qw (.store 1 56 55)]))))) (.seq (.cS (.seq (.ai [qf 57 2 3,ql 58 57,qu 59 (.len 1 58),qu 60 (.aK (qi 0))]) (.block 6 (.loop (.seq (.ai [qu 61 (.aJ .lss 60 59)]) (.seq (.cond 61 .skip (.exit 6)) (.seq (.block 7 (.seq (.ai [qm 62 60,qu 4 (.alloc [qd 0]),qw (.store 1 4 62)]) (.seq (.ai [qf 63 0 3,ql 64 63,qu 65 (.fn 81 [4]),qu 66 (qc 80 [64,65]),qm 5 66]) (.seq (.ai [ql 67 4,qu 68 (.aJ .gtr 67 (qi 0)),qm 69 68,qg 70 (.cj 2 3) 69 true,qg 71 (.load false 1 70) 69 true,qg 72 (.load false 1 4) 69 true,qg 73 (.cw 4 71 72) 69 true,qg 74 (.cj 0 73) 69 true,qg 75 (.load false 1 74) 69 true,qg 76 (.un .not 75) 69 true,qu 77 (.pick 69 76 (qb false)),qm 78 77,qg 79 (.aK 5) 78 true,qg 80 (.un .not 79) 78 true,qu 81 (.pick 78 80 (qb false))]) (.cond 81 (.ai [qf 82 2 3,ql 83 82,ql 84 4,qu 85 (.build [(.aa (.val (.bool false))),(.aa (.val (.bool false))),qd 0,.aO] []),qu 86 (.cw 4 83 84),qw (.store 4 86 85)]) .skip))))) (.ai [qu 87 (.aJ .add 60 (qi 1)),qm 60 87])))))))) (.cS (.seq (.block 8 (.loop (.seq (.seq (.ai [qf 88 2 3,ql 89 88,qu 90 (.len 1 89),qu 91 (.aJ .gtr 90 (qi 1)),qm 92 91,qg 93 (.cj 2 3) 92 true,qg 94 (.load false 1 93) 92 true,qg 95 (.cj 2 3) 92 true,qg 96 (.load false 1 95) 92 true,qg 97 (.len 1 96) 92 true,qg 98 (.aJ .sub 97 (qi 1)) 92 true,qg 99 (.cw 4 94 98) 92 true,qg 100 (.cj 0 99) 92 true,qg 101 (.load false 1 100) 92 true,qg 102 (.un .not 101) 92 true,qu 103 (.pick 92 102 (qb false)),qm 104 103,qg 105 (.cj 0 3) 104 true,qg 106 (.load false 1 105) 104 true,qg 107 (.fn 82 [3]) 104 true,qg 108 (qc 80 [106,107]) 104 true,qg 109 (.un .not 108) 104 true,qu 110 (.pick 104 109 (qb false))]) (.cond 110 .skip (.exit 8))) (.block 9 (.ai [qf 111 2 3,ql 112 111,qf 113 2 3,ql 114 113,qu 115 (.len 1 114),qu 116 (.aJ .sub 115 (qi 1)),qu 117 (.nR 4 112 none (some 116) none),qf 118 2 3,qw (.store 1 118 117)]))))) (.seq (.ai [qL 119 3 3,qw (.store 3 2 119)]) .ret))))))))))⟩
theorem l41:bu prog f41=some c41.er:=by kernel_rfl
theorem CL(o:Obj)(a c:Dt)(ps:List bl):body prog c82 [o.cv,.rv (.one (.ptr 0 0))] [.var ([a,c,gd ps].map .aa)] (λr m=>r=aE (dC (IntKind.i64.wrap (((ps.map bl.enc).length:Int)-1)) o)/\∃ex,m= .var ([a,c,gd ps].map .aa)::ex):=by
 refine aM (λh=>?_) (λh=>?_)
 .refine⟨?_,_,rfl⟩;show aE _=aE _;rw[dC,h];rfl
 .refine⟨?_,_,rfl⟩;show aE _=aE _;rw[dC,h];rfl
theorem S3(o:Obj)(a c:Dt)(ps:List bl)(K:CV->Mem->Prop)(h:K (aE (dC (IntKind.i64.wrap (((ps.map bl.enc).length:Int)-1)) o)) [.var ([a,c,gd ps].map .aa)]):aq prog 82 [o.cv,.rv (.one (.ptr 0 0))] [.var ([a,c,gd ps].map .aa)] K:=
 eH rfl (aY func82 l82 (CL o a c ps)) h
structure CM{α:Type}(q:Nat->α->Bool)(mn:Nat)(L:List α)(n:Nat):Prop where
 le:n<=L.length
 mn:min mn L.length<=n
 dr:∀(t:Nat)o,n<=t->L[t]? =some o->q t o=true
structure pA{α:Type}(q:Nat->α->Bool)(mn:Nat)(L:List α)(n:Nat):Prop where
 t:CM q mn L n
 e:n<=mn\/∃o,L[n-1]? =some o/\q (n-1) o=false
theorem CM.start{α:Type}(q:Nat->α->Bool)(mn:Nat)(L:List α):CM q mn L L.length:=
 ⟨Ts _,Nat.min_le_right _ _,λt o h ho=>by have:=(I4.1 ho).1;omega⟩
theorem CM.step{α:Type}{q:Nat->α->Bool}{mn:Nat}{L:List α}{n:Nat}(h:CM q mn L n)(hn:mn<n)(hl:n-1<L.length)(hq:q (n-1) L[n-1]=true):CM q mn L (n-1):=
 ⟨om,om,λt o ht ho=>by
  rcases aad t n with h1|h1
  .have:t=n-1:=om;subst this;rw[uX hl]at ho;cases ho;exact hq
  .exact h.dr t o h1 ho⟩
theorem gS{α:Type}{L:List α}{n:Nat}(h:n<=L.length):(L.take n).length=n:=by rw[aan];omega
theorem wy{α:Type}(f:α->List Dt)(L:List α){n:Nat}(h:n<=L.length):(((L.take n).map f).take (n-1)).drop 0=(L.take (n-1)).map f:=by rw[acI,<-aci,List.take_take,acr om]
theorem wz{α:Type}(f:α->List Dt)(L:List α){n:Nat}(h1:0<n)(h:n<=L.length):dx ((L.take n).map f) ((n-1:Nat):Int)=some (f (L[n-1]'(by omega))):=by rw[bA,RA,abT om,uX om];rfl
def qO(_:Nat)(o:Obj):Bool:=o.ah==0
def qP(_:Nat)(o:bD):Bool:=decide (o.bn<0)
def qZ(O:List Obj)(t:Nat)(o:bl):Bool:=decide (0<t)&&(!o.aQ&& !(O.any (dC (t:Int))))
def sM(O:List Obj)(k:Nat)(t:Nat)(o:bl):bl:=if(decide (t<k)&&qZ O t o)=true then f9 else o
def qR(O:List Obj)(t:Nat)(o:bl):Bool:= !o.aQ&& !(O.any (dC (t:Int)))
structure gC(c:Kr)(d:Kr):Prop where
 ex:∃(n1 n2 n3:Nat)(P:List bl),pA qO 1 c.l n1/\pA qP 0 c.ops n2/\Pt c.ps P (sM (c.l.take n1) c.ps.length)/\pA (qR (c.l.take n1)) 1 P n3/\d=⟨c.l.take n1,c.ops.take n2,P.take n3⟩
def KS(k:Kr)(r:CV)(m:Mem):Prop:=∃a c d,iv k a/\cT a.l a.ops a.ps c.l c.ops c.ps false/\gC c d/\cQ m r (d9 d.l d.ops d.ps)
def ZM(k:Kr):Ex->St->Prop:=oc prog c41.lK (KS k)
def T4:LC:=qt (bL (bL (bL (bL c41.code))))
def T57:LC:=qt (Wc (bL T4))
def R8:LC:=bL (bL T4)
def ZN:List CV:=km 120 [(2,.rv (.one (.ptr 1 0))),(3,.rv (.one (.ptr 2 0)))]
theorem ZO(m:Mem)(d:Kr):cQ m (.rv (.agg [.aa (db d.l),.aa (eN d.ops),.aa (gd d.ps)])) (d9 d.l d.ops d.ps):=cQ.self rfl
theorem ZP(k a c:Kr)(ha:iv k a)(hc:cT a.l a.ops a.ps c.l c.ops c.ps false)(hk:dF c.l c.ops c.ps)(n1 n2:Nat)(h1:pA qO 1 c.l n1)(h2:pA qP 0 c.ops n2)(P:List bl)(O:List Obj)(hO:O=c.l.take n1)(hP:Pt c.ps P (sM (c.l.take n1) c.ps.length)):aw prog 0 (qt R8) (ZM k) ⟨ZN,[.aS,.var z3,.var [.aa (db O),.aa (eN (c.ops.take n2)),.aa (gd P)]]⟩:=by
 have X4:P.length<=4194304:=by rw[hP.1];exact hk.lp
 have X5:O.length<=4194304:=by rw[hO,aan];have:=hk.ll;omega
 have S4:∀(n:Nat)(m:Mem),CM (qR O) 1 P n->(n<=1\/∃o,P[n-1]? =some o/\qR O (n-1) o=false)->KS k (.rv (.agg [.aa (db O),.aa (eN (c.ops.take n2)),.aa (gd (P.take n))])) m:=λn m hn he=>
  ⟨a,c,⟨O,c.ops.take n2,P.take n⟩,ha,hc,⟨n1,n2,n,P,h1,h2,hP,by rw[<-hO];exact⟨hn,he⟩,by rw[hO]⟩,ZO m ⟨O,c.ops.take n2,P.take n⟩⟩
 refine bb (λn=>CM (qR O) 1 P n) [2,3] (λ_=>[]) (λn=>[.aS,.var z3,.var [.aa (db O),.aa (eN (c.ops.take n2)),.aa (gd (P.take n))]]) (λn=>n) P.length (.start _ _ _) ?_ (λn hn=>?_)
 .refine View.o1 3 [0,1,2] [] ?_
  .exact(.aS (.pe rfl rfl rfl (.pt rfl rfl (fa.var (.cons (.aU (.aa _)) (.cons (.aU (.aa _)) (.cons (Mh (by rw[abe])) .nil)))) (.nil _))))
 have hn:CM (qR O) 1 P n:=hn;have jT:=hn.le;refine aL (λh=>?_) (λh=>?_)
 .have p8:1<n:=by have h:(((P.take n).map bl.enc).length:Int)>1:=h;rw[ML,gS jT]at h;omega
  have hz:IntKind.i64.wrap ((((P.take n).map bl.enc).length:Int)-1)=((n-1:Nat):Int):=by rw[ML,gS jT,ic om om];omega
  have aD:n-1<P.length:=om;have hg:=wz bl.enc P om jT;rw[<-hz]at hg;have lX:=uX aD;have nH:=hn.step om aD;generalize P[n-1]=x at hg lX nH;have hg:dx ((P.take n).map bl.enc) (IntKind.i64.wrap ((((P.take n).map bl.enc).length:Int)-1))=some [.val (.bool x.aQ),.val (.bool x.fenced),.val (.int .i64 x.code),yh x.aV]:=hg;refine ag hg ?_;refine aM (λb7=>?_) (λb7=>?_)
  .refine ff (args0:=[cz O,.rv (.one (.fn 82 [0]))]) (cs:=[db O,eN (c.ops.take n2),gd (P.take n)]) 2 rfl rfl (r0:=aE (O.any (dC (IntKind.i64.wrap ((((P.take n).map bl.enc).length:Int)-1))))) rfl (λK hK=>tq O X5 82 _ _ (λs K hK=>S3 s _ _ _ K hK) K hK) ?_
   rw[hz];refine aM (λDR=>?_) (λDR=>?_)
   .have hq:qR O (n-1) x=true:=by unfold qR;rw[b7,DR];rfl
    refine ag (x:=n-1) (by show p4 (an .i64 (IntKind.i64.wrap ((((P.take n).map bl.enc).length:Int)-1)))=_;rw[hz];rfl) ?_
    refine cA (by simp[abn];omega) ?_
    refine⟨n-1,nH hq,(show n-1<n by omega),View.o1 3 [0,1,2] [] ?_⟩
    .exact(.aS (.pe rfl rfl rfl (.pt rfl rfl (fa.var (.cons (.aU (.aa _)) (.cons (.aU (.aa _)) (.cons (Mh (congrArg (Dt.sl 4) (wy bl.enc P jT))) .nil)))) (.nil _))))
   .have hq:qR O (n-1) x=false:=by unfold qR;rw[b7,DR];rfl
    exact S4 n _ hn (.inr ⟨x,lX,hq⟩)
  .have hq:qR O (n-1) x=false:=by unfold qR;rw[b7];rfl
   exact S4 n _ hn (.inr ⟨x,lX,hq⟩)
 .have p8:n<=1:=by have h:¬(((P.take n).map bl.enc).length:Int)>1:=h;rw[ML,gS jT]at h;omega
  exact S4 n _ hn (.inl p8)
structure StZ where
 p:Nat
 P:List bl
theorem dF.ZQ{l:List Obj}{ops:List bD}{ps:List bl}(h:dF l ops ps)(n:Nat):(l.take n).length<=4194304:=by rw[aan];have:=h.ll;omega
theorem Rq(k a c:Kr)(ha:iv k a)(hc:cT a.l a.ops a.ps c.l c.ops c.ps false)(hk:dF c.l c.ops c.ps)(n1 n2:Nat)(h1:pA qO 1 c.l n1)(h2:pA qP 0 c.ops n2):
  aw prog 0 T57 (R9 (aw prog 0 R8) (ZM k)) ⟨ZN,[.aS,.var z3,.var [.aa (db (c.l.take n1)),.aa (eN (c.ops.take n2)),.row 3 4 0 none],.row 4 (af (c.ps.map bl.enc))]⟩:=by
 have jD:=hk.lp;have X5:=hk.ZQ n1;generalize hO:c.l.take n1=O at X5;refine bb (λ(s:StZ)=>s.p<=c.ps.length/\Pt c.ps s.P (sM O s.p)) [2,3,59] (λs=>[(60,an .i64 (s.p:Nat))]) (λs=>[.aS,.var z3,.var [.aa (db O),.aa (eN (c.ops.take n2)),.row 3 4 0 none],.row 4 (af (s.P.map bl.enc))]) (λs=>c.ps.length-s.p) ⟨0,c.ps⟩ ⟨aaj _,(Pt.refl c.ps).congr λt o _=>by simp[sM]⟩ ?_ (λs hs=>?_)
 .refine View.o1 4 [0,1,2,3] [] ?_
  .exact(.aS (.pe rfl rfl rfl (.pt rfl rfl (fa.var (.cons (.aU (.aa _)) (.cons (.aU (.aa _)) (.cons (.aU (.row 3 4 0 none)) .nil)))) (.pn rfl rfl rfl))))
 obtain⟨p,P⟩:=s;obtain⟨hp,hP⟩:=hs;have hp:p<=c.ps.length:=hp;have hP:Pt c.ps P (sM O p):=hP;have X4:=hP.1;refine aL (λh=>?_) (λh=>?_)
 .have iU:p<c.ps.length:=ww h;obtain⟨X6,Rr⟩:=hP.at iU;have Rr:P[p]=c.ps[p]:=by rw[Rr];simp[sM]
  have jS:∀t,t≠p->decide (t<p+1)=decide (t<p):=λt ht=>decide_eq_decide.2 om
  have pP:qZ O p c.ps[p]=false->Pt c.ps P (sM O (p+1)):=λhf=>hP.congr λt o AG=>by
   by_cases Pw:t=p
   .subst Pw;rw[uX iU]at AG;cases AG;simp[sM,hf]
   .unfold sM;rw[jS t Pw]
  refine ff (args0:=[cz O,.rv (.one (.fn 81 [0]))]) (cs:=[.val (.int .i64 (p:Nat))]) 4 rfl rfl (r0:=aE (O.any (dC (p:Int)))) rfl (λK hK=>tq O X5 81 _ _ (λs K hK=>SZ s _ K hK) K hK) ?_
  refine aL (λyj=>?_) (λyj=>?_)
  .have yj:0<p:=by have h:(p:Int)>0:=yj;omega
   refine ag (mc X6) ?_;refine ag (bH bl.enc P X6) ?_;refine aM (λb7=>?_) (λb7=>?_)
   .rw[Rr]at b7;refine aM (λDR=>?_) (λDR=>?_)
    .refine ag (mc X6) ?_;refine ag (bH bl.enc P X6) ?_;have he:qZ O p c.ps[p]=true:=by unfold qZ;rw[b7,DR];simp[yj]
     have hs:=hP.set (j:=p) (x:=f9) (g:=sM O (p+1)) (λo AG=>by rw[uX iU]at AG;cases AG;simp[sM,he]) (λt o Pw _=>by unfold sM;rw[jS t Pw])
     refine⟨⟨p+1,P.set p f9⟩,⟨iU,hs⟩,(show c.ps.length-(p+1)<c.ps.length-p by omega),View.o 5 [0,1,2,3] [] ?_ ?_⟩
     .repeat(first|exact .nil|refine .ap ?_|refine .put (.aU (aN om).symm) ?_|refine .eq rfl ?_)
     .exact(.aS (.pe rfl rfl rfl (.pt rfl rfl (fa.var (.cons (.aU (.aa _)) (.cons (.aU (.aa _)) (.cons (.aU (.row 3 4 0 none)) .nil)))) (.pt rfl rfl (Ro P p) (.nil _)))))
    .skip
     refine⟨⟨p+1,P⟩,⟨iU,pP (by unfold qZ;rw[DR];simp)⟩,(show c.ps.length-(p+1)<c.ps.length-p by omega),View.o 5 [0,1,2,3] [] ?_ ?_⟩
     .repeat(first|exact .nil|refine .ap ?_|refine .put (.aU (aN om).symm) ?_|refine .eq rfl ?_)
     .exact(.aS (.pe rfl rfl rfl (.pt rfl rfl (fa.var (.cons (.aU (.aa _)) (.cons (.aU (.aa _)) (.cons (.aU (.row 3 4 0 none)) .nil)))) (.pn rfl rfl rfl))))
   .rw[Rr]at b7;refine⟨⟨p+1,P⟩,⟨iU,pP (by unfold qZ;rw[b7];simp)⟩,(show c.ps.length-(p+1)<c.ps.length-p by omega),View.o 5 [0,1,2,3] [] ?_ ?_⟩
    .repeat(first|exact .nil|refine .ap ?_|refine .put (.aU (aN om).symm) ?_|refine .eq rfl ?_)
    .exact(.aS (.pe rfl rfl rfl (.pt rfl rfl (fa.var (.cons (.aU (.aa _)) (.cons (.aU (.aa _)) (.cons (.aU (.row 3 4 0 none)) .nil)))) (.pn rfl rfl rfl))))
  .have yj:p=0:=by have h:¬(p:Int)>0:=yj;omega
   refine⟨⟨p+1,P⟩,⟨iU,pP (by simp[qZ,yj])⟩,(show c.ps.length-(p+1)<c.ps.length-p by omega),View.o 5 [0,1,2,3] [] ?_ ?_⟩
   .repeat(first|exact .nil|refine .ap ?_|refine .put (.aU (aN om).symm) ?_|refine .eq rfl ?_)
   .exact(.aS (.pe rfl rfl rfl (.pt rfl rfl (fa.var (.cons (.aU (.aa _)) (.cons (.aU (.aa _)) (.cons (.aU (.row 3 4 0 none)) .nil)))) (.pn rfl rfl rfl))))
 .have h9:c.ps.length<=p:=wx h;have x5:p=c.ps.length:=om;subst x5;rw[<-hO]at hP;refine gj [2,3] [] ([.aS,.var z3,.var [.aa (db O),.aa (eN (c.ops.take n2)),.aa (gd P)]]) (View.o1 4 [0,1,2] [3] ?_) ?_
  .exact(.aS (.pe rfl rfl rfl (.pt rfl rfl (fa.var (.cons (.aU (.aa _)) (.cons (.aU (.aa _)) (.cons (.fy (dO.eU (Z:=λk=>bw [3] k=true) rfl rfl 0 none)) .nil)))) (.nil _))))
  exact ZP k a c ha hc hk n1 n2 h1 h2 P O hO.symm hP
theorem Rs(k a c:Kr)(ha:iv k a)(hc:cT a.l a.ops a.ps c.l c.ops c.ps false)(hk:dF c.l c.ops c.ps)(n1:Nat)(h1:pA qO 1 c.l n1):
  aw prog 0 T4 (ZM k) ⟨ZN,[.aS,.var z3,.var [.aa (db (c.l.take n1)),.aa (eN c.ops),.row 3 4 0 none],.row 4 (af (c.ps.map bl.enc))]⟩:=by
 have gY:=hk.lo;refine bb (λn=>CM qP 0 c.ops n) [2,3] (λ_=>[]) (λn=>[.aS,.var z3,.var [.aa (db (c.l.take n1)),.aa (eN (c.ops.take n)),.row 3 4 0 none],.row 4 (af (c.ps.map bl.enc))]) (λn=>n) c.ops.length (.start _ _ _) ?_ (λn hn=>?_)
 .refine View.o1 4 [0,1,2,3] [] ?_
  .exact(.aS (.pe rfl rfl rfl (.pt rfl rfl (fa.var (.cons (.aU (.aa _)) (.cons (Mh (by rw[abe])) (.cons (.aU (.row 3 4 0 none)) .nil)))) (.pn rfl rfl rfl))))
 have hn:CM qP 0 c.ops n:=hn;have jT:=hn.le;refine aL (λh=>?_) (λh=>?_)
 .have p8:0<n:=by have h:(((c.ops.take n).map bD.enc).length:Int)>0:=h;rw[ML,gS jT]at h;omega
  have hz:IntKind.i64.wrap ((((c.ops.take n).map bD.enc).length:Int)-1)=((n-1:Nat):Int):=by rw[ML,gS jT,ic om om];omega
  have aD:n-1<c.ops.length:=om;have hg:=wz bD.enc c.ops om jT;rw[<-hz]at hg;have lX:=uX aD;have nH:=hn.step om aD;generalize c.ops[n-1]=x at hg lX nH;have hg:dx ((c.ops.take n).map bD.enc) (IntKind.i64.wrap ((((c.ops.take n).map bD.enc).length:Int)-1))=some [.val (.int .i64 x.bn),.val (.int .i64 x.da)]:=hg;refine ag hg ?_;refine aL (λhx=>?_) (λhx=>?_)
  .have hq:qP (n-1) x=true:=decide_eq_true hx;refine ag (x:=n-1) (by show p4 (an .i64 (IntKind.i64.wrap ((((c.ops.take n).map bD.enc).length:Int)-1)))=_;rw[hz];rfl) ?_
   refine cA (by simp[abn];omega) ?_
   refine⟨n-1,nH hq,(show n-1<n by omega),View.o1 4 [0,1,2,3] [] ?_⟩
   .exact(.aS (.pe rfl rfl rfl (.pt rfl rfl (fa.var (.cons (.aU (.aa _)) (.cons (Mh (congrArg (Dt.sl 2) (wy bD.enc c.ops jT))) (.cons (.aU (.row 3 4 0 none)) .nil)))) (.pn rfl rfl rfl))))
  .have hq:qP (n-1) x=false:=decide_eq_false hx;refine gj [2,3] [] ([.aS,.var z3,.var [.aa (db (c.l.take n1)),.aa (eN (c.ops.take n)),.row 3 4 0 none],.row 4 (af (c.ps.map bl.enc))]) (View.o1 4 [0,1,2,3] [] ?_) ?_
   .exact(.aS (.pe rfl rfl rfl (.pt rfl rfl (fa.var (.cons (.aU (.aa _)) (.cons (.aU (.aa _)) (.cons (.aU (.row 3 4 0 none)) .nil)))) (.pn rfl rfl rfl))))
   exact Rq k a c ha hc hk n1 n h1 ⟨hn,(.inr ⟨x,lX,hq⟩)⟩
 .have p8:n<=0:=by have h:¬(((c.ops.take n).map bD.enc).length:Int)>0:=h;rw[ML,gS jT]at h;omega
  refine gj [2,3] [] ([.aS,.var z3,.var [.aa (db (c.l.take n1)),.aa (eN (c.ops.take n)),.row 3 4 0 none],.row 4 (af (c.ps.map bl.enc))]) (View.o1 4 [0,1,2,3] [] ?_) ?_
  .exact(.aS (.pe rfl rfl rfl (.pt rfl rfl (fa.var (.cons (.aU (.aa _)) (.cons (.aU (.aa _)) (.cons (.aU (.row 3 4 0 none)) .nil)))) (.pn rfl rfl rfl))))
  exact Rq k a c ha hc hk n1 n h1 ⟨hn,.inl p8⟩
theorem E4(k:Kr)(hk:dF k.l k.ops k.ps):body prog c41 [d9 k.l k.ops k.ps] [] (KS k):=by
 refine iI k.l k.ops k.ps ⟨hk.ll,λo ho=>(hk.sm o ho).nT⟩ hk.lo hk.lp hk.sl hk.ne ?_
 refine bb (λ(a:Kr)=>iv k a/\dF a.l a.ops a.ps) [2] (λ_=>[(3,.rv (.one (.ptr 2 0)))]) (λa=>[.aS,.var z3,.var [.row 3 9 0 none,.row 4 2 0 none,.row 5 4 0 none],.row 9 (af (a.l.map Obj.enc)),.row 2 (af (a.ops.map bD.enc)),.row 4 (af (a.ps.map bl.enc))]) (λa=>kY a.ps) k ⟨.refl,hk⟩ ?_ (λa ha=>?_)
 .refine View.o1 6 [0,1,5,2,3,4] [] ?_
  .exact(.aS (.pe rfl rfl rfl (.pe rfl rfl rfl (.pr rfl rfl rfl (.pr rfl rfl rfl (.pn rfl rfl rfl))))))
 obtain⟨ha,OB⟩:=ha;refine E0 a OB .aS λc en ho=>?_
 refine aM (λhe=>?_) (λhe=>?_)
 .subst he;refine⟨c,⟨.step ha ho,ho.kr OB⟩,ho.kY,View.o1 6 [0,1,2,3,4,5] [] ?_⟩
  .exact(.aS (.pe rfl rfl rfl (.pe rfl rfl rfl (.pr rfl rfl rfl (.pr rfl rfl rfl (.pn rfl rfl rfl))))))
 .subst he;have hc:=ho;have OQ:=ho.kr OB;have Vl:=OQ.ll;refine bb (λn=>CM qO 1 c.l n) [2,3] (λ_=>[]) (λn=>[.aS,.var z3,.var [.aa (db (c.l.take n)),.aa (eN c.ops),.row 3 4 0 none],.row 4 (af (c.ps.map bl.enc))]) (λn=>n) c.l.length (.start _ _ _) ?_ (λn hn=>?_)
  .refine View.o1 6 [0,1,2,5] [3,4] ?_
   .exact(.aS (.pe rfl rfl rfl (.pt rfl rfl (fa.var (.cons (by rw[abe];exact .fy (dO.eU (Z:=λk=>bw [3,4] k=true) rfl rfl 0 none)) (.cons (.fy (dO.eU (Z:=λk=>bw [3,4] k=true) rfl rfl 0 none)) (.cons (.aU (.row 3 4 0 none)) .nil)))) (.pn rfl rfl rfl))))
  have hn:CM qO 1 c.l n:=hn;have jT:=hn.le;refine aL (λh=>?_) (λh=>?_)
  .have p8:1<n:=by have h:(((c.l.take n).map Obj.enc).length:Int)>1:=h;rw[ML,gS jT]at h;omega
   have hz:IntKind.i64.wrap ((((c.l.take n).map Obj.enc).length:Int)-1)=((n-1:Nat):Int):=by rw[ML,gS jT,ic om om];omega
   have aD:n-1<c.l.length:=om;have hg:=wz Obj.enc c.l om jT;rw[<-hz]at hg;have lX:=uX aD;have nH:=hn.step om aD;generalize c.l[n-1]=x at hg lX nH;have hg:dx ((c.l.take n).map Obj.enc) (IntKind.i64.wrap ((((c.l.take n).map Obj.enc).length:Int)-1))=some [.val (.int .i64 x.ah),.sl 1 x.data,.sl 2 x.ak,.val (.string x.target),.val (.int .i64 x.aG),.sl 4 (x.aj.map br.enc),.val (.int .i64 x.aA),.val (.int .i64 x.am),.val (.int .i64 x.up)]:=hg;refine ag hg ?_;refine bp (λhx=>?_) (λhx=>?_)
   .have hq:qO (n-1) x=true:=(by unfold qO;simpa using hx)
    refine ag (x:=n-1) (by show p4 (an .i64 (IntKind.i64.wrap ((((c.l.take n).map Obj.enc).length:Int)-1)))=_;rw[hz];rfl) ?_
    refine cA (by simp[abn];omega) ?_
    refine⟨n-1,nH hq,(show n-1<n by omega),View.o1 4 [0,1,2,3] [] ?_⟩
    .exact(.aS (.pe rfl rfl rfl (.pt rfl rfl (fa.var (.cons (Mh (congrArg (Dt.sl 9) (wy Obj.enc c.l jT))) (.cons (.aU (.aa _)) (.cons (.aU (.row 3 4 0 none)) .nil)))) (.pn rfl rfl rfl))))
   .have hq:qO (n-1) x=false:=(by unfold qO;simpa using hx)
    refine gj [2,3] [] ([.aS,.var z3,.var [.aa (db (c.l.take n)),.aa (eN c.ops),.row 3 4 0 none],.row 4 (af (c.ps.map bl.enc))]) (View.o1 4 [0,1,2,3] [] ?_) ?_
    .exact(.aS (.pe rfl rfl rfl (.pt rfl rfl (fa.var (.cons (.aU (.aa _)) (.cons (.aU (.aa _)) (.cons (.aU (.row 3 4 0 none)) .nil)))) (.pn rfl rfl rfl))))
    exact Rs k a c ha hc OQ n ⟨hn,(.inr ⟨x,lX,hq⟩)⟩
  .have p8:n<=1:=by have h:¬(((c.l.take n).map Obj.enc).length:Int)>1:=h;rw[ML,gS jT]at h;omega
   refine gj [2,3] [] ([.aS,.var z3,.var [.aa (db (c.l.take n)),.aa (eN c.ops),.row 3 4 0 none],.row 4 (af (c.ps.map bl.enc))]) (View.o1 4 [0,1,2,3] [] ?_) ?_
   .exact(.aS (.pe rfl rfl rfl (.pt rfl rfl (fa.var (.cons (.aU (.aa _)) (.cons (.aU (.aa _)) (.cons (.aU (.row 3 4 0 none)) .nil)))) (.pn rfl rfl rfl))))
   exact Rs k a c ha hc OQ n ⟨hn,.inl p8⟩
theorem Mi(k:Kr)(hk:dF k.l k.ops k.ps){m:Mem}{K:CV->Mem->Prop}(h:∀a c d,iv k a->cT a.l a.ops a.ps c.l c.ops c.ps false->gC c d->K (d9 d.l d.ops d.ps) m):aq prog 41 [d9 k.l k.ops k.ps] m K:=by
 refine bg (K0:=KS k) (b8 func41 l41 (E4 k hk)) (by simp[d9,db,eN,gd,CV.du,CC.du,RV.du]) λr m1 hr=>?_
 obtain⟨a,c,d,h1,h2,h3,hf⟩:=hr;exact⟨_,hf,h a c d h1 h2 h3⟩
end Go.Proofs.YtodckkkbiidffaaGreatDoor
namespace Go.Proofs.YtodckkkbiidffaaGreatDoor
open Go.AM Go.ChangeShapes Go.WideShapes Go.ChangeAt Go.RowKit
def jw(l L:List Obj):Prop:=L.length<=l.length/\∀(i:Nat)o,L[i]? =some o->o.ah≠0->∃o':Obj,l[i]? =some o'/\o={o' with aG:=o.aG}
def jx(p P:List bl):Prop:=P.length<=p.length/\∀(i:Nat)x,P[i]? =some x->x.aQ=true->p[i]? =some x
theorem jw.refl(l:List Obj):jw l l:=⟨Ts _,λi o h _=>⟨o,h,rfl⟩⟩
theorem jw.trans{a b c:List Obj}(h1:jw a b)(h2:jw b c):jw a c:=by
 refine⟨abH h2.1 h1.1,λi o ho hk=>?_⟩
 obtain⟨o',fj,e⟩:=h2.2 i o ho hk;have fU:o'.ah≠0:=by rw[e]at hk;exact hk
 obtain⟨o2,gV,e2⟩:=h1.2 i o' fj fU;refine⟨o2,gV,?_⟩;rw[e,e2]
theorem jx.refl(l:List bl):jx l l:=⟨Ts _,λi o h _=>h⟩
theorem jx.trans{a b c:List bl}(h1:jx a b)(h2:jx b c):jx a c:=
 ⟨abH h2.1 h1.1,λi x hx hl=>h1.2 i x (h2.2 i x hx hl) hl⟩
theorem Pt.get{α:Type}{l L:List α}{f:Nat->α->α}(h:Pt l L f){i:Nat}{x:α}(hx:L[i]? =some x):∃o,l[i]? =some o/\x=f i o:=by
 have aD:i<l.length:=by have:=(I4.1 hx).1;rw[h.1]at this;exact this
 have:=h.2 i l[i] (uX aD);rw[hx]at this;cases this;exact⟨_,uX aD,rfl⟩
theorem cT.eE{l:List Obj}{ops:List bD}{ps:List bl}{L:List Obj}{L2:List bD}{L3:List bl}{en:Bool}(h:cT l ops ps L L2 L3 en):jw l L/\jx ps L3:=by
 obtain⟨b,hb,hP,BK⟩:=h.ex;refine⟨⟨by rw[hP.1];exact Ts _,λi o ho hk=>?_⟩,by rw[h.pr.1];exact Ts _,λi x hx hl=>?_⟩
 .obtain⟨o',fj,e⟩:=hP.get ho;refine⟨o',fj,?_⟩;unfold cC at e;split at e
  .rw[e]at hk;exact absurd rfl hk
  .split at e
   .rw[e]
   .rw[e]
 .obtain⟨y,hy,e⟩:=h.pr.get hx;unfold xT at e;split at e
  .rw[e]at hl;simp[f9]at hl
  .rw[e];exact hy
theorem iv.eE{k a:Kr}(h:iv k a):jw k.l a.l/\jx k.ps a.ps:=by
 induction h with
 |refl=>exact⟨.refl _,.refl _⟩
 |step h ho ih=>exact⟨ih.1.trans ho.eE.1,ih.2.trans ho.eE.2⟩
theorem iv.kr{k a:Kr}(h:iv k a)(hk:dF k.l k.ops k.ps):dF a.l a.ops a.ps:=by
 induction h with
 |refl=>exact hk
 |step h ho ih=>exact ho.kr ih
theorem gC.eE{c d:Kr}(h:gC c d):jw c.l d.l/\jx c.ps d.ps:=by
 obtain⟨n1,n2,n3,P,h1,h2,hP,h3,rfl⟩:=h.ex;refine⟨⟨by simp[aan];omega,λi o ho _=>?_⟩,by simp[aan];have:=hP.1;omega,λi x hx hl=>?_⟩
 .have ho:(c.l.take n1)[i]? =some o:=ho;rw[aa8]at ho;split at ho
  .exact⟨o,ho,rfl⟩
  .cases ho
 .have hx:(P.take n3)[i]? =some x:=hx;rw[aa8]at hx;split at hx
  .obtain⟨y,hy,e⟩:=hP.get hx;unfold sM at e;split at e
   .rw[e]at hl;simp[f9]at hl
   .rw[e];exact hy
  .cases hx
theorem gC.one{c d:Kr}(h:gC c d)(hc:c.ps≠[]):1<=d.ps.length:=by obtain⟨n1,n2,n3,P,h1,h2,hP,h3,rfl⟩:=h.ex;have hl:0<c.ps.length:=ac1.2 hc;have:=h3.t.mn;rw[hP.1]at this;have h4:=h3.t.le;show 1<=(P.take n3).length;rw[aan];omega
theorem E5{k a c d:Kr}(hk:dF k.l k.ops k.ps)(h1:iv k a)(h2:cT a.l a.ops a.ps c.l c.ops c.ps false)(h3:gC c d):jw k.l d.l/\jx k.ps d.ps/\1<=d.ps.length:=
 ⟨(h1.eE.1.trans h2.eE.1).trans h3.eE.1,(h1.eE.2.trans h2.eE.2).trans h3.eE.2,h3.one (h2.kr (h1.kr hk)).ne⟩
theorem gJ.ah{l:List Obj}{ops:List bD}{ps:List bl}{b:Mk}(h:gJ l ops ps b){i:Nat}(hi:dg b.O i):∃o,l[i]? =some o/\o.ah≠0:=by refine(h.nK (λi=>∃o,l[i]? =some o/\o.ah≠0) (λc=>c<ops.length) ⟨λi o _ _ z n _ hv=>hv.2,λi o _ _ z c _ hv=>hv.2,λc o _ _ n hv=>hv.2⟩ ⟨λn hv=>hv.2,λp pr _ _ s _ _ c hv=>hv.2⟩).1 i hi
theorem gC.kr{c d:Kr}(h:gC c d)(k:dF c.l c.ops c.ps):dF d.l d.ops d.ps:=by
 have h1:=h.one k.ne;obtain⟨n1,n2,n3,P,t1,t2,hP,t3,rfl⟩:=h.ex;refine⟨λo ho=>k.sm o (abq ho),?_,?_,?_,λp hp=>?_,λe=>?_⟩
 .show(c.l.take n1).length<=_;rw[aan];have:=k.ll;omega
 .show(c.ops.take n2).length<=_;rw[aan];have:=k.lo;omega
 .show(P.take n3).length<=_;rw[aan,hP.1];have:=k.lp;omega
 .refine hP.all (Q:=λp=>p.aV.length<=10) (λt o ho=>?_) p (abq hp)
  unfold sM;split
  .simp[f9]
  .exact k.sl o (RD ho)
 .have h1:1<=(P.take n3).length:=h1;have e:P.take n3=[]:=e;rw[e]at h1;simp at h1
theorem CM.S5{α:Type}{q:Nat->α->Bool}{mn n n':Nat}{L:List α}(h:pA q mn L n)(h':pA q mn (L.take n) n'):n'=(L.take n).length:=by
 have hn:=h.t.le;have e:(L.take n).length=n:=gS hn;have Ol:=h'.t.le;have Sj:=h'.t.mn;rw[e]at Ol Sj|-;rcases aad n' n with aD|d7
 .exfalso;rcases h.e with h1|⟨o,ho,hq⟩
  .omega
  .have h2:(L.take n)[n-1]? =some o:=by rw[abT om];exact ho
   have:=h'.t.dr (n-1) o om h2;rw[hq]at this;cases this
 .omega
theorem CN{L:List Obj}{ps:List bl}(h:false=i5 L ps ps.length){t:Nat}{x:bl}(hx:ps[t]? =some x):iu L t x=false:=by
 cases he:iu L t x with
 |false=>rfl
 |true=>
  have:i5 L ps ps.length=true:=by
   unfold i5;rw[abm];exact⟨t,by simpa using(I4.1 hx).1,by rw[hx];exact he⟩
  rw[this]at h;cases h
theorem Pt.id{α:Type}{l L:List α}{f:Nat->α->α}(h:Pt l L f)(hf:∀(t:Nat)o,l[t]? =some o->f t o=o):L=l:=by
 apply abF;intro t;cases ht:l[t]? with
 |some o=>rw[h.2 t o ht,hf t o ht]
 |none=>
  have:l.length<=t:=by simpa using ht
  simp[h.1,this]
theorem wA{p:Int}{o:Obj}(h:dC p o=true):o.ah≠0:=by intro h0;simp[dC,h0]at h
structure Left(c:Kr)(b:Mk):Prop where
 ok:gJ c.l c.ops c.ps b
 all:∀(i:Nat)o,c.l[i]? =some o->o.ah≠0->dg b.O i
 ops:∀(i:Nat)o,c.ops[i]? =some o->¬dg b.P i->o=⟨-1,0⟩
 prs:∀(t:Nat)x,c.ps[t]? =some x->iu c.l t x=false
theorem cT.left{a c:Kr}(h:cT a.l a.ops a.ps c.l c.ops c.ps false):∃b,Left c b:=by
 obtain⟨b,hb,hP,BK⟩:=h.ex;have pz:c.ps=a.ps:=h.pr.id λt o ho=>by have:=CN h.en ho;simp[xT,this]
 have hlen:=hP.1;have uk:=BK.1;have zd:∀(i:Nat)o',a.l[i]? =some o'->dg b.O i->∃o,c.l[i]? =some o/\o.ah=o'.ah/\o.ak=o'.ak/\o.aj=o'.aj:=λi o' fj hi=>by
  refine⟨_,hP.2 i o' fj,?_⟩;have hd:eI b a.l i=false:=by unfold eI;rw[fj];have:b.O[i]? =some true:=hi;simp[this]
  unfold cC;rw[hd];simp only[Bool.false_and,abQ,if_false];split<;>exact⟨rfl,rfl,rfl⟩
 have Rt:∀(i:Nat)o,c.l[i]? =some o->o.ah≠0->dg b.O i/\∃o',a.l[i]? =some o'/\o.ah=o'.ah/\o.ak=o'.ak/\o.aj=o'.aj:=λi o ho hk=>by
  obtain⟨o',fj,e⟩:=hP.get ho;have x4:i<a.l.length:=(I4.1 fj).1;unfold cC at e;split at e
  .rw[e]at hk;exact absurd rfl hk
  .rename_i lB;have hko:o.ah=o'.ah:=by split at e<;>rw[e]
   refine⟨?_,o',fj,hko,by split at e<;>rw[e],by split at e<;>rw[e]⟩
   have hd:eI b a.l i=false:=by
    cases OW:eI b a.l i with
    |false=>rfl
    |true=>exact absurd (by rw[OW];simpa using x4) lB
   unfold eI at hd;rw[fj]at hd;have fU:(o'.ah !=0)=true:=by rw[<-hko];simpa using hk
   simp only[fU,Bool.and_true]at hd;simpa[dg]using hd
 have Vk:∀z n,vO c.l z n->dg b.O n/\vO a.l z n:=λz n hv=>by
  obtain⟨hz,o,ho,hk⟩:=hv;obtain⟨h1,o',fj,fU,_⟩:=Rt n o ho hk;exact⟨h1,hz,o',fj,by rw[<-fU];exact hk⟩
 have Sl:∀z n,vO a.l z n->dg b.O n->vO c.l z n:=λz n hv hn=>by
  obtain⟨hz,o',fj,hk⟩:=hv;obtain⟨o,ho,fU,_⟩:=zd n o' fj hn;exact⟨hz,o,ho,by rw[fU];exact hk⟩
 have X7:∀z n,vP c.ops z n↔vP a.ops z n:=λz n=>by unfold vP;rw[uk]
 have ad0:∀(i:Nat)o,c.ops[i]? =some o->dg b.P i->a.ops[i]? =some o:=λi o ho hi=>by obtain⟨o',fj,e⟩:=BK.get ho;have:b.P[i]? =some true:=hi;rw[e];simpa[BJ,this]using fj
 refine⟨b,⟨⟨by rw[hlen];exact hb.len.1,by rw[uk];exact hb.len.2⟩,⟨λn hv=>(Vk 0 n hv).1,λp pr hp hl s hs hh cc hv=>?_⟩,⟨λi o hi ho z n hz hv=>(Vk z n hv).1,λi o hi ho z cc hz hv=>?_,λcc o hc ho n hv=>(Vk _ n hv).1⟩,λRO RP ib hr=>?_⟩,λi o ho hk=>(Rt i o ho hk).1,λi o ho hn=>?_,λt x hx=>?_⟩
 .rw[pz]at hp;exact hb.mU.2 p pr hp hl s hs hh cc ((X7 _ _).1 hv)
 .obtain⟨o',fj,e⟩:=hP.get ho;obtain⟨o2,gV,_,_,hq⟩:=zd i o' fj hi;rw[ho]at gV;cases gV;obtain⟨q,Ha,OG,ZR⟩:=hz;exact hb.cl.q i o' hi fj z cc ⟨q,by rw[<-hq];exact Ha,OG,ZR⟩ ((X7 _ _).1 hv)
 ·
  have iS:=hb.nK (λi=>RO i/\dg b.O i) (λcc=>RP cc/\dg b.P cc) ⟨λi o' hi fj z n hz hv=>?_,λi o' hi fj z cc hz hv=>?_,λcc o' hc fj n hv=>?_⟩ ⟨λn hv=>?_,λp pr hp hl s hs hh cc hv=>?_⟩
  .exact⟨λi hi=>(iS.1 i hi).1,λi hi=>(iS.2 i hi).1⟩
  .have hn:=hb.cl.e i o' hi.2 fj z n hz hv;obtain⟨o,ho,_,he,_⟩:=zd i o' fj hi.2;obtain⟨nm,hm⟩:=hz;exact⟨ib.e i o hi.1 ho z n ⟨nm,by rw[he];exact hm⟩ (Sl z n hv hn),hn⟩
  .have hn:=hb.cl.q i o' hi.2 fj z cc hz hv;obtain⟨o,ho,_,_,hq⟩:=zd i o' fj hi.2;obtain⟨q,Ha,OG,ZR⟩:=hz;exact⟨ib.q i o hi.1 ho z cc ⟨q,by rw[hq];exact Ha,OG,ZR⟩ ((X7 _ _).2 hv),hn⟩
  .have hn:=hb.cl.p cc o' hc.2 fj n hv;have hco:c.ops[cc]? =some o':=by have:=BK.2 cc o' fj;have Mj:b.P[cc]? =some true:=hc.2;simpa[BJ,Mj]using this
   exact⟨ib.p cc o' hc.1 hco n (Sl _ n hv hn),hn⟩
  .have hn:=hb.mU.1 n hv;exact⟨hr.1 n (Sl 0 n hv hn),hn⟩
  .exact⟨hr.2 p pr (by rw[pz];exact hp) hl s hs hh cc ((X7 _ _).2 hv),hb.mU.2 p pr hp hl s hs hh cc hv⟩
 .obtain⟨o',fj,e⟩:=BK.get ho;have aD:i<a.ops.length:=(I4.1 fj).1;have hn:(b.P[i]? ==some true)=false:=by simpa[dg]using hn
  rw[e];simp[BJ,hn,aD]
 .rw[pz]at hx;exact CN h.en hx
theorem gC.Ml{c d:Kr}{b bd:Mk}(hl:Left c b)(hf:gC c d)(hd:gJ d.l d.ops d.ps bd):(∀(i:Nat)o,d.l[i]? =some o->o.ah≠0->dg bd.O i)/\(∀(i:Nat)o,d.ops[i]? =some o->¬dg bd.P i->o=⟨-1,0⟩):=by
 obtain⟨n1,n2,n3,P,t1,t2,hP,t3,rfl⟩:=hf.ex;have hd:gJ (c.l.take n1) (c.ops.take n2) (P.take n3) bd:=hd;have h1:∀(i:Nat)o,c.l[i]? =some o->o.ah≠0->(c.l.take n1)[i]? =some o:=λi o ho hk=>by
  rcases aad i n1 with h|h
  .rw[abT h];exact ho
  .have:=t1.t.dr i o h ho;simp[qO]at this;exact absurd this hk
 have ZS:∀z n,vO c.l z n->vO (c.l.take n1) z n:=λz n⟨hz,o,ho,hk⟩=>⟨hz,o,h1 n o ho hk,hk⟩
 have iS:=hl.ok.nK (λi=>dg bd.O i) (λcc=>dg bd.P cc\/n2<=cc) ⟨λi o hi ho z n hz hv=>?_,λi o hi ho z cc hz hv=>?_,λcc o hc ho n hv=>?_⟩ ⟨λn hv=>?_,λp pr hp b7 s hs hh cc hv=>?_⟩
 .refine⟨λi o ho hk=>?_,λi o ho hn=>?_⟩
  .have ho:(c.l.take n1)[i]? =some o:=ho;rw[aa8]at ho;split at ho
   .exact iS.1 i (hl.all i o ho hk)
   .cases ho
  .have ho:(c.ops.take n2)[i]? =some o:=ho;rw[aa8]at ho;split at ho
   .rename_i aD;refine hl.ops i o ho λhb=>?_
    rcases iS.2 i hb with h|h
    .exact hn h
    .omega
   .cases ho
 .obtain⟨o',fj,hk⟩:=hd.ah hi;have:(c.l.take n1)[i]? =some o:=by
   rw[aa8]at fj|-;split at fj
   .rename_i aD;rw[if_pos aD];exact ho
   .cases fj
  exact hd.cl.e i o hi this z n hz (ZS z n hv)
 .obtain⟨o',fj,hk⟩:=hd.ah hi;have:(c.l.take n1)[i]? =some o:=by
   rw[aa8]at fj|-;split at fj
   .rename_i aD;rw[if_pos aD];exact ho
   .cases fj
  rcases aad cc n2 with h|h
  .exact .inl (hd.cl.q i o hi this z cc hz ⟨hv.1,by have:=hv.2;rw[aan];omega⟩)
  .exact .inr h
 .rcases hc with hc|hc
  .have aD:cc<n2:=by have h2:=(I4.1 hc).1;rw[hd.len.2,aan]at h2;omega
   exact hd.cl.p cc o hc (by rw[abT aD];exact ho) n (ZS _ n hv)
  .have:=t2.t.dr cc o hc ho;simp[qP]at this;have:=hv.1;omega
 .exact hd.mU.1 n (ZS 0 n hv)
 .rcases aad cc n2 with h|h
  .refine .inl (hd.mU.2 p pr ?_ b7 s hs hh cc ⟨hv.1,by have:=hv.2;rw[aan];omega⟩)
   have hnz:sM (c.l.take n1) c.ps.length p pr=pr:=by unfold sM qZ;simp[b7]
   have Rr:=hP.2 p pr hp;rw[hnz]at Rr;rcases aad p n3 with h3|h3
   .rw[abT h3];exact Rr
   .have:=t3.t.dr p pr h3 Rr;simp[qR,b7]at this
  .exact .inr h
theorem gC.IP{c d:Kr}{b:Mk}(hl:Left c b)(hf:gC c d){L:List Obj}{L2:List bD}{L3:List bl}{en:Bool}(h:cT d.l d.ops d.ps L L2 L3 en):L=d.l/\L2=d.ops/\L3=d.ps/\en=false:=by
 obtain⟨bd,ZT,ZU,BK⟩:=h.ex;obtain⟨m1,m2⟩:=hf.Ml hl ZT;have i3:∀i,eI bd d.l i=false:=λi=>by
  unfold eI;cases hi:d.l[i]? with
  |none=>rfl
  |some o=>
   by_cases hk:o.ah=0
   .simp[hk]
   .have:bd.O[i]? =some true:=m1 i o hi hk;simp[this]
 have Pd:∀(t:Nat)x,d.ps[t]? =some x->iu d.l t x=false:=λt x hx=>by
  obtain⟨n1,n2,n3,P,t1,t2,hP,t3,rfl⟩:=hf.ex;have hx:(P.take n3)[t]? =some x:=hx;rw[aa8]at hx;split at hx
  .obtain⟨y,hy,e⟩:=hP.get hx;cases b7:x.aQ with
   |false=>simp[iu,b7]
   |true=>
    have Ir:x=y:=by
     unfold sM at e;split at e
     .rw[e]at b7;simp[f9]at b7
     .exact e
    subst Ir;have he:=hl.prs t x hy;cases h0:iu (c.l.take n1) t x with
    |false=>rfl
    |true=>
     unfold iu at he h0;simp[b7]at he h0;obtain⟨o,ho,hh⟩:=he h0.1;obtain⟨i,hi⟩:=Xt ho;have hk:=wA hh;have iD:o∈c.l.take n1:=by
      rcases aad i n1 with h|h
      .exact RD (by rw[abT h];exact hi)
      .have:=t1.t.dr i o h hi;simp[qO]at this;exact absurd this hk
     have:=h0.2 o iD;rw[hh]at this;cases this
  .cases hx
 have hL:L=d.l:=ZU.id λt o _=>by
  unfold cC;rw[i3 t];have:lW bd d.l d.l.length o.aG=false:=by unfold lW;rw[i3];simp
  rw[this];simp
 have uW:=h.pr;have pO:=h.en;rw[hL]at uW pO;refine⟨hL,BK.id λt o ho=>?_,uW.id λt o ho=>?_,?_⟩
 .unfold BJ;split
  .rename_i hh;have hn:¬dg bd.P t:=by intro Mj;have Mj:bd.P[t]? =some true:=Mj;simp[Mj]at hh
   exact(m2 t o ho hn).symm
  .rfl
 .simp[xT,Pd t o ho]
 .rw[pO];cases he:i5 d.l d.ps d.ps.length with
  |false=>rfl
  |true=>
   unfold i5 at he;rw[abm]at he;obtain⟨t,ht,AI⟩:=he;have GM:t<d.ps.length:=by simpa using ht
   rw[uX GM]at AI;have AI:iu d.l t d.ps[t]=true:=AI;rw[Pd t _ (uX GM)]at AI;cases AI
theorem gC.Mm{c d a2 c2 d2:Kr}{b:Mk}(hl:Left c b)(hf:gC c d)(h1:iv d a2)(h2:cT a2.l a2.ops a2.ps c2.l c2.ops c2.ps false)(h3:gC c2 d2):d2=d:=by
 have ha:a2=d:=by
  clear h2 h3
  induction h1 with
  |refl=>rfl
  |step h ho ih=>
   subst ih;exact absurd (hf.IP hl ho).2.2.2 aC
 subst ha;obtain⟨e1,e2,e3,_⟩:=hf.IP hl h2;obtain⟨n1,n2,n3,P,t1,t2,hP,t3,he⟩:=hf.ex;obtain⟨m1,m2,m3,P',s1,s2,Uv,s3,rfl⟩:=h3.ex;rw[e1]at s1 Uv s3|-;rw[e2]at s2|-;rw[e3]at Uv;obtain⟨dl,uL,dps⟩:=a2;cases he;have k1:=CM.S5 t1 s1;have k2:=CM.S5 t2 s2;have q1:(c.l.take n1).take m1=c.l.take n1:=by rw[k1,abe]
 have q2:(c.ops.take n2).take m2=c.ops.take n2:=by rw[k2,abe]
 have hid:P'=P.take n3:=by
  have Uv:Pt (P.take n3) P' (sM ((c.l.take n1).take m1) (P.take n3).length):=Uv;rw[q1]at Uv;refine Uv.id λt x hx=>?_
  rw[aa8]at hx;split at hx
  .obtain⟨y,hy,e⟩:=hP.get hx;have X8:t<c.ps.length:=(I4.1 hy).1;by_cases hq:qZ (c.l.take n1) t y=true
   .have:x=f9:=by rw[e];simp[sM,hq,X8]
    subst this;unfold sM;split<;>rfl
   .have Ir:x=y:=by rw[e];simp[sM,hq]
    subst Ir;simp[sM,hq]
  .cases hx
 subst hid;have s3:pA (qR ((c.l.take n1).take m1)) 1 (P.take n3) m3:=s3;rw[q1]at s3;have k3:=CM.S5 t3 s3;show Kr.mk ((c.l.take n1).take m1) ((c.ops.take n2).take m2) ((P.take n3).take m3)=Kr.mk (c.l.take n1) (c.ops.take n2) (P.take n3);rw[q1,q2,k3,abe]
end Go.Proofs.YtodckkkbiidffaaGreatDoor
