/- Part 12 of 16. -/
import Derived.Test.YtodckkkbiidffaaGreatDoorJ11
import Derived.Sort.Grow
import Derived.Test.YtodckkkbiidffaaGreatDoorRows
set_option linter.unusedVariables false
set_option linter.unusedSimpArgs false
set_option maxRecDepth 100000
set_option maxHeartbeats 0
namespace Go.AM
section
variable {P:Program} {ρ:bJ} {m:Mem} {w:World}
theorem y6(w:World)(Ni:Nat)(f:Array Value->Array Value){b:Nat}(h:b≠Ni):(Sort.mapBlock w Ni f).heap[b]? =w.heap[b]? :=by simp only[Sort.mapBlock,abf];rw[if_neg (λe=>h e.symm)]
theorem y7(w:World)(n Ni off:Nat)(F:Array Value):eV w (Sort.putRow id (Sort.ahead w n) Ni off F) Ni:=
 ⟨λb hb=>y6 _ _ _ hb,by simp[Sort.putRow,Sort.mapBlock,Sort.ahead],rfl,rfl,rfl⟩
theorem FT{mk:Prop}{w:World}{Ni off:Nat}{cur:Array Value}(F:Array Value)(n:Nat)(h:mE mk w Ni cur):mE mk (Sort.putRow id (Sort.ahead w n) Ni off F) Ni (Sort.putCells id off F cur):=by
 obtain⟨ty,fr,hb,h1,h2,h3⟩:=h;refine⟨ty,fr,?_,h1,λi hi=>h2 i (by simpa[Sort.putCells]using hi),by simpa[Sort.putCells]using h3⟩
 have aD:Ni<w.heap.size:=(aaF.1 hb).1;have e:(Sort.ahead w n).heap[Ni]? =some (.cells cur ty fr):=hb;simp only[Sort.putRow,Sort.mapBlock,abf,if_true,e,aaG,Sort.onCells]
theorem JQ(hM:aA ρ m w){id esz:Nat}{rows m4:List (List CC)}{F:Array Value}(hb:m[id]? =some (.row esz rows))(cJ:0<rows.length)(hlen:m4.length=rows.length)(dq:∀cs,cs∈m4->cs.length=esz)(hF:F.size=rows.length*esz)(QS:∀cs,cs∈m4->∀c,c∈cs->∃d,c= .ah d)(cr:∀(i:Nat)cs(j:Nat)c,m4[i]? =some cs->cs[j]? =some c->bm ρ w .none c F[i*esz+j]!)(n:Nat)(os:Array Obj):
  aA ρ (m.set id (.row esz m4)) (Sort.grow (Sort.putRow _root_.id (Sort.ahead w n) (ρ.aI (.aj id)).b (ρ.aI (.aj id)).ar F) os)/\
  Ext ρ m w ρ (m.set id (.row esz m4)) (Sort.grow (Sort.putRow _root_.id (Sort.ahead w n) (ρ.aI (.aj id)).b (ρ.aI (.aj id)).ar F) os):=by
 have hid:id<m.length:=(Ki.1 hb).1;obtain⟨h2,h3,h4,h5,Cp⟩:=hM.bk id _ hb;have bg:0<(ρ.aI (.aj id)).cap:=om;obtain⟨cur,b8,h1,hd⟩:=Cp bg;have hmul:rows.length*esz<=(ρ.aI (.aj id)).cap*esz:=aa8 _ om;have XL:∀{i' j' rP e},dZ (m.set id (.row esz m4)) id i' j' rP e->False:=by rintro i' j' rP e ⟨b2,fK,ib⟩;rw[TK hid]at fK;cases fK;obtain⟨Zt,eW,l4⟩:=ib.yL;obtain⟨d,hd⟩:=QS _ (Tu eW) _ (Tu l4);cases hd
 obtain⟨jl,hX⟩:=hM.LA (zo:= .row esz m4) (w':=Sort.putRow _root_.id (Sort.ahead w n) (ρ.aI (.aj id)).b (ρ.aI (.aj id)).ar F) hb ⟨_,hb,aC,λ_=>bg⟩ (y7 w n _ _ F)
  (λg=>⟨by rw[hlen];exact h2,h3,h4,dq,λ_=>⟨_,FT F n b8,by simpa[Sort.putCells]using h1,λi cs j c hi hj=>by
   have kM:j<esz:=by rw[<-dq cs (Tu hi)];exact(Ki.1 hj).1
   have vI:i<rows.length:=by rw[<-hlen];exact(Ki.1 hi).1
   have p5:i*esz+j<rows.length*esz:=by have:(i+1)*esz<=rows.length*esz:=aa8 _ om;rw[abk,ab4]at this;omega
   have cz:=cr i cs j c hi hj;refine⟨F[i*esz+j]!,?_,(bm.cn g aC cz).wF _⟩;have hc:(ρ.aI (.aj id)).ar+i*esz+j<cur.size:=om;simp only[Sort.putCells,Array.getElem?_mapIdx,abI hc,aaG];rw[if_pos om];congr 2;show F[_]! =_;congr 1;omega⟩⟩)
  (λi j e1 e2 h=>(XL h).elim)
 have hW:eP (Sort.putRow _root_.id (Sort.ahead w n) (ρ.aI (.aj id)).b (ρ.aI (.aj id)).ar F) (Sort.grow (Sort.putRow _root_.id (Sort.ahead w n) (ρ.aI (.aj id)).b (ρ.aI (.aj id)).ar F) os):=
  ⟨λb hb=>Sort.heap_grow_old _ os hb,by simp[Sort.grow],rfl,rfl,rfl⟩
 obtain⟨FH,o7⟩:=jl.M9 hW;exact⟨FH,hX.trans o7⟩
end
section
variable {P:Program}
theorem View.abl{n0:Nat}{e:List CV}{m:Mem}(id j esz n:Nat){cs:List CC}(hn:m.length=n)(hb:cF m id=some (.var cs))(hj:cF cs j=some .aM)(h0:Nat.ble n0 n=true):
  View n0 ⟨e,m⟩ ⟨e,gI (aX m id (.var (aX cs j (.row n esz 0 none)))) [.row esz []]⟩:=by
 subst hn;have h0:=aap h0;rw[aV]at hb hj;rw[bb,bb,cg];have hid:id<m.length:=(Ki.1 hb).1;have kM:j<cs.length:=(Ki.1 hj).1;refine⟨by simp;omega,rfl,λρ w hM=>?_⟩
 have hn:ρ.n=m.length:=hM.n;let U':bJ:={n:=m.length+1,aI:=λk=>if k.id=m.length then⟨0,0,0,0⟩else ρ.aI k,S:=ρ.S}
 have bQ:∀k:gv,k.id<ρ.n->U'.aI k=ρ.aI k:=λk hk=>by simp only[U'];rw[if_neg om]
 have g:iM ρ w U' w:=⟨by show ρ.n<=m.length+1;omega,bQ,λ_ h=>h,λ_ _=>rfl⟩
 have get:∀(k:Nat)b,(m.set id (.var (cs.set j (.row m.length esz 0 none)))++ [Bk.row esz []])[k]? =some b->(k<m.length/\k≠id/\m[k]? =some b)\/(k=id/\b= .var (cs.set j (.row m.length esz 0 none)))\/(k=m.length/\b= .row esz []):=by
  intro k b hk;rcases aag k m.length with h|h
  .rw[aad (by simpa using h)]at hk
   by_cases EU:k=id
   .subst EU;rw[TK hid]at hk;cases hk;exact .inr (.inl ⟨rfl,rfl⟩)
   .rw[U9 (λe=>EU e.symm)]at hk
    exact .inl ⟨h,EU,hk⟩
  .have aD:=(Ki.1 hk).1;simp at aD;have:k=m.length:=om;subst this;rw[Y5 aC]at hk;simp at hk;exact .inr (.inr ⟨rfl,hk.symm⟩)
 have b9:∀k,Live U' (m.set id (.var (cs.set j (.row m.length esz 0 none)))++ [.row esz []]) k->Live ρ m k:=by
  intro k hk;cases k with
  |aj i=>
   obtain⟨bk,df,l5,bg⟩:=hk;rcases get i bk df with⟨h1,h2,h3⟩|⟨rfl,rfl⟩|⟨rfl,rfl⟩
   .rw[bQ (.aj i) (by simp only[gv.id];omega)]at bg
    exact⟨bk,h3,l5,bg⟩
   .exact⟨_,hb,aC,aC⟩
   .have:=bg ⟨_,_,rfl⟩;simp[U',gv.id]at this
  |sub i x y=>
   obtain⟨⟨s,el,b2,df,ho⟩,bg⟩:=hk;rcases get i _ df with⟨h1,h2,h3⟩|⟨rfl,h⟩|⟨rfl,h⟩
   .rw[bQ (.sub i x y) (by simp only[gv.id];omega)]at bg
    exact⟨⟨s,el,b2,h3,ho⟩,bg⟩
   .subst h;cases ho
   .subst h;obtain⟨c2,hi,oB⟩:=ho.yL;simp at hi
 have j8:∀k,Live ρ m k->U'.aI k=ρ.aI k:=λk hk=>bQ k (by rw[hn];exact hk.eT)
 refine⟨U',⟨by simp[U'],hM.S,λk hk=>?_,λk k' hk gh nT=>?_,λi b hbi=>?_,λi x y s el ho bg=>?_⟩,⟨λi hi=>bQ (.aj i) (by simp only[gv.id];omega),λ_ h=>h,λ_ h=>.inl h,λk hk=>⟨k,b9 k hk,(by rw[j8 k (b9 k hk)])⟩⟩,λi c' hi=>⟨c',hi,λv hd=>cf.cn g hd⟩⟩
 .rw[j8 k (b9 k hk)];exact hM.aO k (b9 k hk)
 .rw[j8 k (b9 k hk),j8 k' (b9 k' gh)]at nT;exact hM.inj k k' (b9 k hk) (b9 k' gh) nT
 .rcases get i b hbi with⟨h1,h2,h3⟩|⟨rfl,rfl⟩|⟨rfl,rfl⟩
  .exact(hM.bk i b h3).cn g om λ_ _=>rfl
  .obtain⟨cur,b8,hc⟩:=hM.bk i _ hb;rw[show cK U' w i (.var (cs.set j (.row m.length esz 0 none)))=(∃cur,mE True w (U'.aI (.aj i)).b cur/\∀(j':Nat)c,(cs.set j (.row m.length esz 0 none))[j']? =some c->∃u,cur[(U'.aI (.aj i)).ar+j']? =some u/\bm U' w .none c u)from rfl,bQ (.aj i) (by simp only[gv.id];omega)]
   refine⟨cur,b8,λj' c oB=>?_⟩
   rw[abb]at oB;split at oB
   .rename_i hjj;subst hjj;cases oB;obtain⟨u,hu,hd⟩:=hc j _ hj;obtain⟨a,rfl⟩:=hd;exact⟨_,hu,by simp[bm,U',gv.id]⟩
   .obtain⟨u,hu,hd⟩:=hc j' c oB;exact⟨u,hu,bm.cn g aC hd⟩
  .simp[cK,U',gv.id]
 .have hk:Live ρ m (.sub i x y):=b9 (.sub i x y) ⟨⟨_,_,ho⟩,bg⟩;have p4:=hk.eT;simp only[gv.id]at p4;rw[j8 _ hk]at bg|-;obtain⟨b2,df,ho⟩:=ho;rcases get i _ df with⟨h1,h2,h3⟩|⟨rfl,h⟩|⟨rfl,h⟩
  .obtain⟨cur,hc,q1,q2,q3⟩:=hM.ei i x y s el ⟨b2,h3,ho⟩ bg;exact⟨cur,hc,q1,q2,q3⟩
  .subst h;cases ho
  .subst h;obtain⟨c2,hi,oB⟩:=ho.yL;simp at hi
end
end Go.AM
namespace Go.Proofs.YtodckkkbiidffaaGreatDoor
open Proofs.Tryz
open Go.AM Go.ChangeShapes Go.WideShapes Go.ChangeAt Go.RowKit
def c97:LF:= ⟨8,[.tmp 2],(.seq (.ai [qu 2 (.aN qe)]) (.seq (.seq (.ai [qm 3 0,qu 4 (.yM false 3)]) (.cond 4 (.seq (.ai [qu 2 (.aN qe)]) .ret) .skip)) (.seq (.ai [qu 5 (.nI 1 [(.ah (.val (.int .u8 (0))))] 0 []),qm 6 0,qu 7 (.oL 1 1 5 6),qm 2 7]) .ret)))⟩
def c128:LF:= ⟨8,[.tmp 2],(.seq (.ai [qu 2 (.aN qe)]) (.seq (.seq (.ai [qm 3 0,qu 4 (.yM false 3)]) (.cond 4 (.seq (.ai [qu 2 (.aN qe)]) .ret) .skip)) (.seq (.ai [qu 5 (.nI 2 [(.ah (.val (.string ⟨#[]⟩))),qd 0] 0 []),qm 6 0,qu 7 (.oL 2 24 5 6),qm 2 7]) .ret)))⟩
theorem iD{n:Int}(h1: -9223372036854775808<=n)(h2:n<=9223372036854775807):IntKind.i64.wrap n=n:=IntWalk.i64_in n om
structure dn where
 data:List (List Dt)
 has:Bool
 dG:Int
 bX:Int
def dn.enc(m:dn):List Dt:=[.sl 1 m.data,.val (.bool m.has),.val (.int .i64 m.dG),.val (.int .i64 m.bX)]
structure Obj where
 ag:Int
 data:List (List Dt)
 ak:List (List Dt)
 target:ByteArray
 bs:Int
 ax:List dn
 be:Int
 am:Int
 up:Int
def Obj.enc(o:Obj):List Dt:=[.val (.int .i64 o.ag),.sl 1 o.data,.sl 2 o.ak,.val (.string o.target),.val (.int .i64 o.bs),.sl 4 (o.ax.map dn.enc),.val (.int .i64 o.be),.val (.int .i64 o.am),.val (.int .i64 o.up)]
abbrev dD(o:Obj)(c:CC)(L U:Int):List CC:=[.ah (.val (.int .i64 o.ag)),.ah (.sl 1 o.data),c,.ah (.val (.string o.target)),.ah (.val (.int .i64 o.bs)),.ah (.sl 4 (o.ax.map dn.enc)),.ah (.val (.int .i64 o.be)),.ah (.val (.int .i64 L)),.ah (.val (.int .i64 U))]
def dn.cv(m:dn):CV:= .rv (.agg (m.enc.map .ah))
def Obj.cv(o:Obj):CV:= .rv (.agg (o.enc.map .ah))
def dt(l:List Obj):Dt:= .sl 9 (l.map Obj.enc)
def cC(l:List Obj):CV:= .rv (.one (.ah (dt l)))
def Obj.oD(o:Obj):Prop:=o.data.length<=4194304/\o.ak.length<=4194304/\o.ax.length<=4194304/\∀q,q∈o.ax->q.data.length<=4194304
def l9(l:List Obj):Prop:=l.length<=4194304/\∀o,o∈l->o.oD
theorem l97:bz prog f97=some c97:=by kernel_rfl
theorem l128:bz prog f128=some c128:=by kernel_rfl
def sC(esz:Nat)(d:List (List Dt)):CV:= .rv (.one (.ah (.sl esz d)))
theorem Dk(d:List (List Dt))(hb:d.length<=4194304):body prog c97 [sC 1 d] [] (λr m=>cN m r (sC 1 d)):=by
 have tw:((([]:List (List CC)).length+(d.map λds=>ds.map CC.ah).length)*1)<=140737488355328:=by simp;omega
 refine aJ (λh=>?_) (λh=>?_)
 .have hd:d=[]:=aaq (by simpa using aau h)
  subst hd;exact⟨.rv (.one (.aM 1)),tw,.rv (.one (ff.fg rfl 0 none))⟩
 .exact⟨tw,.rv (.one (ff.fg rfl 0 none))⟩
theorem iE(d:List (List Dt))(hb:d.length<=4194304){m:Mem}{K:CV->Mem->Prop}(h:K (sC 1 d) m):aq prog 97 [sC 1 d] m K:=
 bi (bc func97 l97 (Dk d hb)) (by simp[sC,CV.dC,CC.dC]) λr m1 hf=>⟨_,hf,h⟩
theorem Dl(d:List (List Dt))(hb:d.length<=4194304):body prog c128 [sC 2 d] [] (λr m=>cN m r (sC 2 d)):=by
 have tw:((([]:List (List CC)).length+(d.map λds=>ds.map CC.ah).length)*24)<=140737488355328:=by simp;omega
 refine aJ (λh=>?_) (λh=>?_)
 .have hd:d=[]:=aaq (by simpa using aau h)
  subst hd;exact⟨.rv (.one (.aM 2)),tw,.rv (.one (ff.fg rfl 0 none))⟩
 .exact⟨tw,.rv (.one (ff.fg rfl 0 none))⟩
theorem tV(d:List (List Dt))(hb:d.length<=4194304){m:Mem}{K:CV->Mem->Prop}(h:K (sC 2 d) m):aq prog 128 [sC 2 d] m K:=
 bi (bc func128 l128 (Dl d hb)) (by simp[sC,CV.dC,CC.dC]) λr m1 hf=>⟨_,hf,h⟩
def sD(p Q k:Nat)(o:Obj):List CC:=[.ah (.val (.int .i64 o.ag)),.ah (.sl 1 o.data),.ah (.sl 2 o.ak),.ah (.val (.string o.target)),.ah (.val (.int .i64 o.bs)),
 (if k=p then .row Q 4 0 none else .ah (.sl 4 (o.ax.map dn.enc))),.ah (.val (.int .i64 o.be)),.ah (.val (.int .i64 o.am)),.ah (.val (.int .i64 o.up))]
def eS(p Q:Nat):Nat->List Obj->List (List CC)
 |_,[]=>[]
 |k,o::r=>sD p Q k o::eS p Q (k+1) r
theorem sF(p Q:Nat):∀(a:List Obj)(k:Nat)(b:List Obj),eS p Q k (a++b)=eS p Q k a++eS p Q (k+a.length) b
 | [],k,b=>rfl
 |o::r,k,b=>by simp[eS,sF p Q r (k+1) b,abh,Nat.add_comm 1]
theorem nk(p Q:Nat):∀(l:List Obj)(k:Nat),(eS p Q k l).length=l.length
 | [],_=>rfl
 |o::r,k=>by simp[eS,nk p Q r (k+1)]
theorem rb(p Q:Nat):∀(l:List Obj)(k:Nat),(p<k\/k+l.length<=p)->eS p Q k l=aa (l.map Obj.enc)
 | [],_,_=>rfl
 |o::r,k,h=>by simp only[aar]at h;have hk:¬k=p:=om;simp only[eS,sD,if_neg hk,rb p Q r (k+1) om];rfl
theorem tW(p Q:Nat):∀(l:List Obj)(k i:Nat),(eS p Q k l)[i]? =(l[i]?).map (sD p Q (k+i))
 | [],k,i=>by simp[eS]
 |o::r,k,0=>by simp[eS]
 |o::r,k,i+1=>by
  simp only[eS,abv,tW p Q r (k+1) i];rw[show k+1+i=k+(i+1) by omega]
theorem Nj{Y:Nat->Nat}{p Q k:Nat}(o:Obj):(sD p Q k o).map (CC.bh Y)=sD p (Y Q) k o:=by
 by_cases h:k=p<;>simp[sD,h,CC.bh]
theorem li{Y:Nat->Nat}(p Q:Nat):∀(l:List Obj)(k:Nat),(eS p Q k l).map (λcs=>cs.map (CC.bh Y))=eS p (Y Q) k l
 | [],_=>rfl
 |o::r,k=>by simp only[eS,aaR,li p Q r (k+1)];rw[Nj]
def c98:LF:= ⟨47,[.tmp 2],(.seq (.ai [qu 2 (.aN qe)]) (.seq (.ai [qu 3 (.aN qe)]) (.seq (.seq (.ai [qm 9 0,qu 10 (.len 1 9),qu 11 (.aN (qi 0))]) (.block 0 (.loop (.seq (.ai [qu 12 (.aL .lss 11 10)]) (.seq (.cond 12 .skip (.exit 0)) (.seq (.block 1 (.seq (.ai [qu 13 (.cw 9 9 11),qL 14 9 13,qu 5 (.alloc [qd 0,.aM,.aM,(.ah (.val (.string ⟨#[]⟩))),qd 0,.aM,qd 0,qd 0,qd 0]),qw (.store 9 5 14)]) (.seq (.bV [qf 15 1 5,ql 16 15,qu 17 (qc 97 [16]),qf 18 2 5,ql 19 18,qu 20 (qc 128 [19]),qf 21 1 5,qw (.store 1 21 17),qf 22 2 5,qw (.store 1 22 20)] [(.cons 0 none (.cons 1 none (.cons 3 none (.cons 4 none (.cons 2 (some [4]) (.cons 6 none (.cons 5 (some []) (.cons 7 (some []) (.cons 8 none (.cons 9 (some []) .nil))))))))))]) (.seq (.ai [qu 6 (.aN qe)]) (.seq (.seq (.ai [qf 23 5 5,ql 24 23,qu 25 (.len 1 24),qu 26 (.aN (qi 0))]) (.block 2 (.loop (.seq (.ai [qu 27 (.aL .lss 26 25)]) (.seq (.cond 27 .skip (.exit 2)) (.seq (.block 3 (.seq (.ai [qu 28 (.cw 4 24 26),qL 29 4 28,qu 8 (.alloc [.aM,(.ah (.val (.bool false))),qd 0,qd 0]),qw (.store 4 8 29)]) (.seq (.ai [qf 30 0 8,ql 31 30,qu 32 (qc 97 [31]),qf 33 0 8,qw (.store 1 33 32)]) (.ai [qm 34 6,qL 35 4 8,qu 36 (.nI 4 [.aM,(.ah (.val (.bool false))),qd 0,qd 0] 1 [(0,35)]),qu 37 (.oL 4 48 34 36),qm 6 37])))) (.ai [qu 38 (.aL .add 26 (qi 1)),qm 26 38]))))))) (.seq (.ai [qm 39 6,qf 40 5 5,qw (.store 1 40 39)]) (.ai [qm 41 3,qL 42 9 5,qu 43 (.nI 9 [qd 0,.aM,.aM,(.ah (.val (.string ⟨#[]⟩))),qd 0,.aM,qd 0,qd 0,qd 0] 1 [(0,42)]),qu 44 (.oL 9 128 41 43),qm 3 44]))))))) (.ai [qu 45 (.aL .add 11 (qi 1)),qm 11 45]))))))) (.seq (.ai [qm 46 3,qm 2 46]) .ret))))⟩
def quO(l:List Obj)(p:Nat):List dn:=match l[p]? with|some o=>o.ax|none=>[]
def Bb(l:List Obj)(p k:Nat):Bk:=match Nat.blt p k with|true=>.row 4 (aa ((quO l p).map dn.enc))|false=>.aU
theorem we{Y:Nat->Nat}(l:List Obj)(p k:Nat):(Bb l p k).bh Y=Bb l p k:=by
 unfold Bb;split
 .exact Bk.jG _ _
 .rfl
theorem qy{α:Type}{l:List α}{i:Nat}{s:α}(h:l[i]? =some s):l.take (i+1)=l.take i++ [s]:=by rw[abG,h];rfl
theorem dg(a b:List (List Dt)):aa (a++b)=aa a++aa b:=by simp[aa]
theorem xi{p Q:Nat}{l:List Obj}{k:Nat}{o:Obj}(h:l[k]? =some o):eS p Q 0 (l.take (k+1))=eS p Q 0 (l.take k)++ [sD p Q k o]:=by have hk:=(Ki.1 h).1;rw[qy h,sF,aaE,ads om,aa6];rfl
theorem l98:bz prog f98=some c98:=by kernel_rfl
theorem Nk(l:List Obj)(hf:l9 l)(p:Nat):body prog c98 [cC l] [] (λr m=>r= .rv (.one (.row 0 9 0 none))/\m=[.row 9 (eS p 1 0 l),Bb l p l.length]):=by
 obtain⟨hl,VQ⟩:=hf;refine ba (λk=>k<=l.length) [0,9,10] (λk=>[(11,an .i64 (k:Nat)),(3,.rv (.one (.row 0 9 0 none)))]) (λk=>[.row 9 (eS p 1 0 (l.take k)),Bb l p k]) (λk=>l.length-k) 0 (aav _) ?_ (λk hk=>?_)
 .refine View.trans (View.aM 2 4 0 rfl rfl rfl) (View.trans (View.aM 3 9 1 rfl rfl rfl) (View.o1 2 [1,0] [] ?_))
  .exact .put (by simp[bD]) rfl (.eq rfl aC) (.aU (.nil _))
 .refine aP (λh=>?_) (λh=>?_)
  .have aD:k<l.length:=by have h:(k:Int)<((l.map Obj.enc).length:Int):=h;rw[N7]at h;omega
   have hi:=vR aD;have Nl:=VQ _ (aay aD);have hg:dA (l.map Obj.enc) (k:Nat)=some (l[k].enc):=by rw[bG,Tr,vR aD];rfl
   generalize l[k]=o at hi Nl hg;obtain⟨ag,data,ak,target,bs,ax,be,am,up⟩:=o;obtain⟨Nm,LP,S7,LQ⟩:=Nl;have Nm:data.length<=4194304:=Nm;have LP:ak.length<=4194304:=LP;have S7:ax.length<=4194304:=S7;have LQ:∀q,q∈ax->q.data.length<=4194304:=LQ;have hg:dA (l.map Obj.enc) (k:Nat)=some [.val (.int .i64 ag),.sl 1 data,.sl 2 ak,.val (.string target),.val (.int .i64 bs),.sl 4 (ax.map dn.enc),.val (.int .i64 be),.val (.int .i64 am),.val (.int .i64 up)]:=hg;refine af hg ?_;refine iE data Nm ?_;refine⟨⟨rfl,trivial⟩,?_⟩;refine tV ak LP ?_;refine⟨trivial,?_⟩;refine⟨trivial,?_⟩;refine⟨trivial,?_⟩;refine ba (λj=>j<=ax.length) [0,3,5,9,10,11,24,25] (λj=>[(26,an .i64 (j:Nat)),(6,.rv (.one (.row 3 4 0 none)))])
    (λj=>[.row 9 (eS p 1 0 (l.take k)),Bb l p k,.var ((⟨ag,data,ak,target,bs,ax,be,am,up⟩:Obj).enc.map .ah),.row 4 (aa ((ax.take j).map dn.enc))]) (λj=>ax.length-j) 0 (aav _) ?_ (λj hj=>?_)
   .refine View.trans (View.aM 6 4 3 rfl rfl rfl) (View.o1 4 [0,1,2,3] [] ?_)
    .exact .pt rfl rfl (.eq (congrArg (Bk.row 9) (li p 1 _ _)) aC) (.gk (dI rfl) rfl (we l p k) (.pe rfl rfl rfl (.pn rfl rfl rfl)))
   .have hj:j<=ax.length:=hj;refine aP (λh=>?_) (λh=>?_)
    .have ez:j<ax.length:=by have h:(j:Int)<((ax.map dn.enc).length:Int):=h;rw[N7]at h;omega
     have y4:=vR ez;have JR:=LQ _ (aay ez);generalize ax[j]=q at y4 JR;obtain⟨qd,qh,qo,qr⟩:=q;have Cv:dA (ax.map dn.enc) (j:Nat)=some [.sl 1 qd,.val (.bool qh),.val (.int .i64 qo),.val (.int .i64 qr)]:=by rw[bG,Tr,y4];rfl
     refine af Cv ?_;refine iE qd JR ?_;refine⟨?_,?_⟩
     .show((aa ((ax.take j).map dn.enc)).length+1)*48<=_;simp[aa];omega
     refine⟨j+1,ez,(show ax.length-(j+1)<ax.length-j by omega),View.o2 7 [0,1,2,6] [] ?_⟩
     .refine .pt rfl rfl (.eq (congrArg (Bk.row 9) (li p 1 _ _)) aC) (.gk (dI rfl) rfl (we l p k) (.pe rfl rfl rfl (.pt rfl rfl (.bM ?_) (.nil _))));rw[qy y4,abn,dg];rfl
    .have eG:¬(j:Int)<((ax.map dn.enc).length:Int):=h;rw[N7]at eG;have hq:ax.take j=ax:=abT om;refine⟨?_,?_⟩
     .show((eS p 1 0 (l.take k)).length+1)*128<=_;rw[nk];simp;omega
     by_cases EP:k=p
     .subst EP;have hR:∀Q,eS k Q 0 (l.take k)=aa ((l.take k).map Obj.enc):=λQ=>rb k Q _ 0 (.inr (by simp;omega))
      have UA:Bb l k (k+1)= .row 4 (aa ((ax.take j).map dn.enc)):=by
       have:Nat.blt k (k+1)=true:=by rw[abK];omega
       simp only[Bb,this,quO,hi,hq]
      refine⟨k+1,aD,(show l.length-(k+1)<l.length-k by omega),View.o2 6 [5,3] [] ?_⟩
      .rw[xi hi,UA];refine .pt rfl rfl (.JP ?_ rfl ?_) (.pn rfl rfl rfl)
       .rw[li,hR,hR];rfl
       .intro j c c' h1 h2;have e5:sD k 1 k ⟨ag,data,ak,target,bs,ax,be,am,up⟩=[.ah (.val (.int .i64 ag)),.ah (.sl 1 data),.ah (.sl 2 ak),.ah (.val (.string target)),.ah (.val (.int .i64 bs)),.row 1 4 0 none,.ah (.val (.int .i64 be)),.ah (.val (.int .i64 am)),.ah (.val (.int .i64 up))]:=by simp[sD]
        rw[e5]at h2
        match j,h1,h2 with
        |0,h1,h2=>cases h1;cases h2;exact .bh (.ah _)
        |1,h1,h2=>cases h1;cases h2;exact .bh (.ah _)
        |2,h1,h2=>cases h1;cases h2;exact .bh (.ah _)
        |3,h1,h2=>cases h1;cases h2;exact .bh (.ah _)
        |4,h1,h2=>cases h1;cases h2;exact .bh (.ah _)
        |5,h1,h2=>cases h1;cases h2;exact .bh (.row 1 4 0 none)
        |6,h1,h2=>cases h1;cases h2;exact .bh (.ah _)
        |7,h1,h2=>cases h1;cases h2;exact .bh (.ah _)
        |8,h1,h2=>cases h1;cases h2;exact .bh (.ah _)
        |n+9,h1,h2=>simp at h1
     .have UA:Bb l p (k+1)=Bb l p k:=by
       have:Nat.blt p (k+1)=Nat.blt p k:=by rw[adM,abK,abK];omega
       simp only[Bb,this]
      refine⟨k+1,aD,(show l.length-(k+1)<l.length-k by omega),View.o2 6 [5,1] [3] ?_⟩
      .rw[xi hi,UA];refine .pt rfl rfl (.JP (li p 1 _ _) rfl ?_) (.gk (dI rfl) rfl (we l p k) (.nil _));intro j' c c' h1 h2;have e5:sD p 1 k ⟨ag,data,ak,target,bs,ax,be,am,up⟩=[.ah (.val (.int .i64 ag)),.ah (.sl 1 data),.ah (.sl 2 ak),.ah (.val (.string target)),.ah (.val (.int .i64 bs)),.ah (.sl 4 ((ax.take j).map dn.enc)),.ah (.val (.int .i64 be)),.ah (.val (.int .i64 am)),.ah (.val (.int .i64 up))]:=by simp[sD,EP,hq]
       rw[e5]at h2
       match j',h1,h2 with
       |0,h1,h2=>cases h1;cases h2;exact .bh (.ah _)
       |1,h1,h2=>cases h1;cases h2;exact .bh (.ah _)
       |2,h1,h2=>cases h1;cases h2;exact .bh (.ah _)
       |3,h1,h2=>cases h1;cases h2;exact .bh (.ah _)
       |4,h1,h2=>cases h1;cases h2;exact .bh (.ah _)
       |5,h1,h2=>cases h1;cases h2;exact .fT (d6.fg (Z:=λk=>bD [3] k=true) rfl (by rw[<-aV];rfl) 0 none)
       |6,h1,h2=>cases h1;cases h2;exact .bh (.ah _)
       |7,h1,h2=>cases h1;cases h2;exact .bh (.ah _)
       |8,h1,h2=>cases h1;cases h2;exact .bh (.ah _)
       |n+9,h1,h2=>simp at h1
  .have eG:¬(k:Int)<((l.map Obj.enc).length:Int):=h;rw[N7]at eG;have gA:k=l.length:=by have:k<=l.length:=hk;omega
   subst gA;rw[aaZ];exact⟨rfl,rfl⟩
theorem xj(l:List Obj)(hf:l9 l)(p:Nat){m:Mem}{K:CV->Mem->Prop}(h:K (.rv (.one (.row m.length 9 0 none))) (m++ [.row 9 (eS p (m.length+1) 0 l),Bb l p l.length])):aq prog 98 [cC l] m K:=by
 refine bw [] m.length rfl rfl rfl rfl rfl (λi b' hi=>by simp at hi) (bc func98 l98 (Nk l hf p)) (λr m1 hr=>?_)
 obtain⟨h1,h2⟩:=hr;subst h1;subst h2;refine⟨aav _,?_⟩;show K (.rv (.one (.row (m.length+(0-0)) 9 0 none))) (gI m [.row 9 ((eS p 1 0 l).map (λcs=>cs.map (CC.bh (sg [] m.length)))),(Bb l p l.length).bh (sg [] m.length)])
 rw[li,we,cg];exact h
def c111:LF:= ⟨34,[.tmp 4,.tmp 5,.tmp 6],(.seq (.ai [qu 3 (.box 1),qu 4 (.aN qe),qu 5 (.aN (qi 0)),qu 6 (.aN (qi 0))]) (.seq (.ai [qm 9 0,qu 10 (qc 121 [9,(.c (.rv (.one (.fn 138 []))))]),qm 7 10]) (.seq (.seq (.ai [qm 11 7,qu 12 (.aL .lss 11 (qi 0))]) (.cond 12 (.seq (.seq (.ai [qm 13 0,qu 14 (.len 1 13),qu 15 (.aL .geq 14 (qi 40))]) (.cond 15 (.seq (.ai [qu 4 (.aN qe),qu 5 (.aN (qi 0)),qu 6 (.aN (qi 15))]) .ret) .skip)) (.ai [qm 16 0,qu 17 (.len 1 16),qm 7 17])) .skip)) (.seq (.ai [qm 18 0,qu 19 (qc 98 [18]),qm 8 19]) (.seq (.seq (.ai [qm 20 7,qm 21 8,qu 22 (.len 1 21),qu 23 (.aL .eql 20 22)]) (.cond 23 (.ai [qm 24 8,qu 25 (.build [qd 0,.aM,.aM,(.ah (.val (.string ⟨#[]⟩))),qd 0,.aM,qd 0,qd 0,qd 0] []),qu 26 (.nI 9 [qd 0,.aM,.aM,(.ah (.val (.string ⟨#[]⟩))),qd 0,.aM,qd 0,qd 0,qd 0] 1 [(0,25)]),qu 27 (.oL 9 128 24 26),qm 8 27]) .skip)) (.seq (.ai [qm 28 8,qm 29 7,qL 30 9 3,qu 31 (.cw 9 28 29),qw (.store 9 31 30)]) (.seq (.ai [qm 32 8,qm 33 7,qm 4 32,qm 5 33,qu 6 (.aN (qi 0))]) .ret)))))))⟩
def c121:LF:= ⟨19,[.tmp 4],(.seq (.ai [qu 4 (.aN (qi 0))]) (.seq (.seq (.ai [qm 6 0,qu 7 (.len 1 6),qu 8 (.aN (qi 0))]) (.block 0 (.loop (.seq (.ai [qu 9 (.aL .lss 8 7)]) (.seq (.cond 9 .skip (.exit 0)) (.seq (.block 1 (.seq (.ai [qm 10 8,qm 5 10]) (.seq (.ai [qm 11 1,qm 12 0,qm 13 5,qu 14 (.cw 9 12 13),qL 15 9 14,qu 16 (.call 11 [15])]) (.cond 16 (.seq (.ai [qm 17 5,qm 4 17]) .ret) .skip)))) (.ai [qu 18 (.aL .add 8 (qi 1)),qm 8 18]))))))) (.seq (.ai [qu 4 (.aN (qi (-1)))]) .ret)))⟩
def c138:LF:= ⟨6,[.tmp 2],(.seq (.ai [qu 1 (.box 0),qu 2 (.aN (qb false))]) (.seq (.ai [qf 3 0 1,ql 4 3,qu 5 (.aL .eql 4 (qi 0)),qm 2 5]) .ret))⟩
def oF{α:Type}(q:α->Bool)(l:List α):Int:=match l.findIdx? q with|some k=>(k:Int)|none=>-1
theorem lD{α:Type}{q:α->Bool}{l:List α}{k:Nat}(h:k<l.length)(hq:q l[k]=true)(hb:∀(j:Nat)s,j<k->l[j]? =some s->q s=false):oF q l=k:=by
 have:l.findIdx? q=some k:=by rw[aaV];exact⟨h,hq,λj hj=>by simpa using hb j _ hj (vR om)⟩
 rw[oF,this]
theorem nq{α:Type}{q:α->Bool}{l:List α}(hb:∀(j:Nat)s,l[j]? =some s->q s=false):oF q l= -1:=by
 have:l.findIdx? q=none:=by rw[ac5];intro s hs;obtain⟨i,hi⟩:=aab hs;simpa using hb i s hi
 rw[oF,this]
theorem sG{α:Type}(q:α->Bool)(l:List α):decide (oF q l>=0)=l.any q:=by
 unfold oF;cases h:l.findIdx? q with
 |none=>
  rw[ac5]at h;have:l.any q=false:=by simpa using h
  rw[this];rfl
 |some k=>
  obtain⟨h1,h2,_⟩:=aaV.1 h;have:l.any q=true:=abc.2 ⟨_,aay h1,h2⟩;rw[this];exact decide_eq_true aC
theorem l111:bz prog f111=some c111:=by kernel_rfl
theorem l121:bz prog f121=some c121:=by kernel_rfl
theorem l138:bz prog f138=some c138:=by kernel_rfl
theorem Bc(l:List Obj)(hb:l.length<=4194304)(F:Nat)(q:Obj->Bool)(hF:∀s,s∈l->∀K:CV->Mem->Prop,K (aF (q s)) []->aq prog F [s.cv] [] K):body prog c121 [cC l,(.rv (.one (.fn F [])))] [] (λr m=>r=an .i64 (oF q l)):=by
 refine ba (λk=>k<=l.length/\∀(j:Nat)s,j<k->l[j]? =some s->q s=false) [0,1,7] (λk=>[(8,an .i64 (k:Nat))]) (λ_=>[]) (λk=>l.length-k) 0 ⟨aav _,λj s h=>absurd h (aa9 j)⟩ ?_ (λk hk=>?_)
 .refine View.o1 0 [] [] ?_
  .exact .nil _
 .refine aP (λh=>?_) (λh=>?_)
  .have aD:k<l.length:=by have h:(k:Int)<((l.map Obj.enc).length:Int):=h;rw[N7]at h;omega
   have hg:dA (l.map Obj.enc) (k:Nat)=some (l[k].enc):=by rw[bG,Tr,vR aD];rfl
   refine af hg ?_;refine hF l[k] (aay aD) _ ?_;refine aJ (λh=>?_) (λh=>?_)
   .rw[lD aD h hk.2];exact rfl
   .refine⟨k+1,⟨aD,λj s hj hs=>?_⟩,(show l.length-(k+1)<l.length-k by omega),View.o 0 [] [] ?_ ?_⟩
    .rcases aag j k with h5|h5
     .exact hk.2 j s h5 hs
     .have:j=k:=om;subst this;rw[vR aD]at hs;cases hs;exact h
    .repeat(first|exact .nil|refine .aH ?_|refine .put (.bh (cR om).symm) ?_|refine .eq rfl ?_)
    .exact .nil _
  .have eG:¬(k:Int)<((l.map Obj.enc).length:Int):=h;rw[N7]at eG;rw[nq λj s hs=>hk.2 j s (by have:=(Ki.1 hs).1;omega) hs]
   exact rfl
theorem FU(l:List Obj)(hb:l.length<=4194304)(F:Nat)(q:Obj->Bool)(hF:∀s,s∈l->∀K:CV->Mem->Prop,K (aF (q s)) []->aq prog F [s.cv] [] K){m:Mem}{K:CV->Mem->Prop}(h:K (an .i64 (oF q l)) m):aq prog 121 [cC l,.rv (.one (.fn F []))] m K:=
 bC func121 l121 rfl (aap rfl) (Bc l hb F q hF) rfl rfl h
theorem UB(s:Obj)(K:CV->Mem->Prop)(h:K (aF (s.ag==0)) []):aq prog 138 [s.cv] [] K:=
 bC func138 l138 rfl (aap rfl) (show body prog c138 [s.cv] [] (λr m=>r=aF (s.ag==0))from rfl) rfl rfl h
theorem H5(l:List Obj)(hf:l9 l){m:Mem}{K:CV->Mem->Prop}(h:K (.rv (.one (.row m.length 9 0 none))) (m++ [.row 9 (aa (l.map Obj.enc)),.aU])):aq prog 98 [cC l] m K:=by
 refine xj l hf l.length ?_;have h1:Bb l l.length l.length= .aU:=by
  have:Nat.blt l.length l.length=false:=by
   cases hb:Nat.blt l.length l.length with
   |false=>rfl
   |true=>rw[abK]at hb;omega
  simp only[Bb,this]
 rw[rb _ _ _ _ (.inr om),h1];exact h
def cG(n:Int):RV:= .one (.ah (.val (.int .i64 n)))
def aG(l:List Obj)(o:Obj):List Obj×Int×Int:=
 match l.findIdx? (λx=>x.ag==0)with
 |some k=>(l.set k o,k,0)
 |none=>if l.length>=40 then([],0,15)else(l++ [o],l.length,0)
def S8(l:List Obj)(o:Obj)(r:CV)(m:Mem):Prop:=
 ((aG l o).2.2=15/\r= .bx [.one .aM,cG (aG l o).2.1,cG (aG l o).2.2]/\m=[])\/
 ((aG l o).2.2=0/\r= .bx [.one (.row 0 9 0 none),cG (aG l o).2.1,cG (aG l o).2.2]/\m=[.row 9 (aa ((aG l o).1.map Obj.enc))])
theorem zR(l:List Obj)(k:Nat)(o:Obj):(aa (l.map Obj.enc)).set k (o.enc.map .ah)=aa ((l.set k o).map Obj.enc):=by simp[aa,abB]
theorem zS(l:List Obj){k:Nat}(h:k<l.length):cF (aa (l.map Obj.enc)) k=some (l[k].enc.map .ah):=by rw[aV];simp[aa,h]
theorem JS(l:List Obj)(hf:l9 l)(o:Obj):body prog c111 [cC l,o.cv] [] (λr m=>∃r' m',View 0 ⟨[r],m⟩ ⟨[r'],m'⟩/\S8 l o r' m'):=by
 have hl:=hf.1;refine FU l hl 138 (λx=>x.ag==0) (λs _ K hs=>UB s K hs) ?_
 have hlen:(aa (l.map Obj.enc)).length=l.length:=by simp[aa]
 cases hk:l.findIdx? (λx=>x.ag==0)with
 |some k=>
  have hi:oF (λx:Obj=>x.ag==0) l=(k:Int):=by rw[oF,hk]
  have gA:k<l.length:=(aaV.1 hk).1;have hm:aG l o=(l.set k o,(k:Int),0):=by rw[aG,hk]
  rw[hi];refine H5 l hf ?_;refine si (by simp[hlen,lenOf];omega) ?_
  refine af (cy (k:=k) (by simp[hlen,lenOf];omega)) ?_
  refine af (x:=l[k].enc.map .ah) (by simpa[iN]using zS l gA) ?_
  refine⟨.bx [.one (.row 0 9 0 none),cG k,cG 0],[.row 9 (aa ((l.set k o).map Obj.enc))],View.o 3 [1] [] ?_ ?_,.inr ?_⟩
  .exact .eq rfl .nil
  .refine .pt rfl rfl (.bM ?_) (.nil _);rw[<-zR];simp[bb,iN,Obj.enc]
  .rw[hm];exact⟨rfl,rfl,rfl⟩
 |none=>
  have hi:oF (λx:Obj=>x.ag==0) l= -1:=by rw[oF,hk]
  rw[hi];refine aP (λh=>?_) (λh=>?_)
  .have h:l.length>=40:=by have h:(((l.map Obj.enc).length:Nat):Int)>=40:=h;rw[N7]at h;omega
   have hm:aG l o=([],0,15):=by rw[aG,hk];simp only;rw[if_pos h]
   refine⟨.bx [.one .aM,cG 0,cG 15],[],View.o 1 [] [] ?_ (.nil _),.inl ?_⟩
   .exact .eq rfl .nil
   .rw[hm];exact⟨rfl,rfl,rfl⟩
  .have h:¬l.length>=40:=by have h:¬(((l.map Obj.enc).length:Nat):Int)>=40:=h;rw[N7]at h;omega
   have hm:aG l o=(l++ [o],(l.length:Int),0):=by rw[aG,hk];simp only;rw[if_neg h]
   refine H5 l hf ?_;refine cM (by simp[hlen,lenOf]) ?_
   refine⟨by simp[hlen,b7];omega,?_⟩
   have LR:(l.map Obj.enc).length=l.length:=aC;refine af (cy (k:=(l.map Obj.enc).length) (by simp[hlen,lenOf,b7])) ?_
   refine af (x:=[.ah (.val (.int .i64 0)),.aM,.aM,.ah (.val (.string ⟨#[]⟩)),.ah (.val (.int .i64 0)),.aM,.ah (.val (.int .i64 0)),.ah (.val (.int .i64 0)),.ah (.val (.int .i64 0))]) (by simp[aV,hlen,b7,iN]) ?_
   refine⟨.bx [.one (.row 0 9 0 none),cG (((l.map Obj.enc).length:Nat):Int),cG 0],[.row 9 (aa ((l++ [o]).map Obj.enc))],View.o 5 [4] [] ?_ ?_,.inr ?_⟩
   .exact .eq rfl .nil
   .refine .pt rfl rfl (.bM ?_) (.nil _);rw[abn,dg];simp only[bb,iN,b7];rw[LR,<-hlen];rw[adG _ _ (Yj _),ac6];rfl
   .rw[hm];refine⟨rfl,?_,rfl⟩;rw[LR]
theorem zT(l:List Obj)(hf:l9 l)(o:Obj):aq prog 111 [cC l,o.cv] [] (S8 l o):=
 bL (bc func111 l111 (JS l hf o)) λr m1⟨r',m',hv,hp⟩=>⟨r',m',hv,hp⟩
def nr(l:List Obj):RV:= .one (.ah (dt l))
theorem mI{m:Mem}{a b c d:RV}{x:Int}(h:eZ m a b)(hc:eZ m c d):cN m (.bx [a,c,cG x]) (.bx [b,d,cG x]):=by
 refine .bx rfl λi r r' h1 h2=>?_
 match i,h1,h2 with
 |0,h1,h2=>cases h1;cases h2;exact h
 |1,h1,h2=>cases h1;cases h2;exact hc
 |2,h1,h2=>cases h1;cases h2;exact eZ.self rfl
theorem Bd(l:List Obj)(hf:l9 l)(o:Obj){m:Mem}{K:CV->Mem->Prop}(h:K (.bx [nr (aG l o).1,cG (aG l o).2.1,cG (aG l o).2.2]) m):aq prog 111 [cC l,o.cv] m K:=by
 refine bi (zT l hf o) (by simp[cC,Obj.cv,CV.dC,CC.dC,RV.dC]) λr m1 hp=>?_
 rcases hp with⟨h1,rfl,rfl⟩|⟨h1,rfl,rfl⟩
 .have h2:(aG l o).1=[]:=by
   unfold aG at h1|-;split at h1
   .simp at h1
   .split at h1
    .rename_i hc;rw[if_pos hc]
    .simp at h1
  refine⟨_,mI (.one (.aM 9)) (eZ.self rfl),?_⟩;rw[h2]at h;exact h
 .refine⟨_,mI (.one (ff.fg rfl 0 none)) (eZ.self rfl),?_⟩;exact h
theorem Nn(l:List Obj)(hf:l9 l)(o:Obj){m:Mem}{K:CV->Mem->Prop}(h1:(aG l o).2.2=15->K (.bx [.one .aM,cG (aG l o).2.1,cG (aG l o).2.2]) m)(h2:(aG l o).2.2=0->K (.bx [.one (.row m.length 9 0 none),cG (aG l o).2.1,cG (aG l o).2.2]) (m++ [.row 9 (aa ((aG l o).1.map Obj.enc))])):aq prog 111 [cC l,o.cv] m K:=by
 refine bw [] m.length rfl rfl rfl rfl rfl (λi b' hi=>by simp at hi) (zT l hf o) (λr m1 hp=>⟨aav _,?_⟩)
 rcases hp with⟨e1,rfl,rfl⟩|⟨e1,rfl,rfl⟩
 .have:=h1 e1;show K _ (gI m []);rw[cg,abV];exact this
 .have:=h2 e1;show K _ (gI m [Bk.bh _ _]);rw[cg,Bk.jG];exact this
def c71:LF:= ⟨41,[.tmp 2,.cell true 2 3,.tmp 4],(.seq (.ai [qu 2 (.aN qe),qu 3 (.alloc [qd 0,qd 0]),qu 4 (.aN (qi 0))]) (.seq (.ai [qm 10 0,qu 11 (.build [qd 0,.aM,.aM,(.ah (.val (.string ⟨#[]⟩))),qd 0,.aM,qd 0,qd 0,qd 0] [(0,1,qi 4),(4,1,(qi (-1))),(6,1,(qi (-1)))]),qu 12 (qc 111 [10,11]),qm 9 12,qu 13 (.ext 9 0),qu 14 (.ext 9 1),qu 15 (.ext 9 2),qm 5 13,qm 6 14,qm 7 15]) (.seq (.seq (.ai [qm 16 7,qu 17 (.aL .neq 16 (qi 0))]) (.cond 17 (.seq (.ai [qu 18 (.build [qd 0,qd 0] []),qm 19 7,qu 2 (.aN qe),qw (.store 2 3 18),qm 4 19]) .ret) .skip)) (.seq (.ai [qm 21 5,qm 22 6,qu 23 (.build [qd 0,.aM,.aM,(.ah (.val (.string ⟨#[]⟩))),qd 0,.aM,qd 0,qd 0,qd 0] [(0,1,qi 4),(4,1,22),(6,1,(qi (-1)))]),qu 24 (qc 111 [21,23]),qm 20 24,qu 25 (.ext 20 0),qu 26 (.ext 20 1),qu 27 (.ext 20 2),qm 5 25,qm 8 26,qm 7 27]) (.seq (.seq (.ai [qm 28 7,qu 29 (.aL .neq 28 (qi 0))]) (.cond 29 (.seq (.ai [qu 30 (.build [qd 0,qd 0] []),qm 31 7,qu 2 (.aN qe),qw (.store 2 3 30),qm 4 31]) .ret) .skip)) (.seq (.ai [qm 32 5,qm 33 6,qm 34 8,qu 35 (.cw 9 32 33),qf 36 4 35,qw (.store 1 36 34)]) (.seq (.ai [qm 37 5,qm 38 6,qm 39 8,qu 40 (.build [qd 0,qd 0] [(0,1,38),(1,1,39)]),qm 2 37,qw (.store 2 3 40),qu 4 (.aN (qi 0))]) .ret)))))))⟩
theorem H6{l:List Obj}{o:Obj}(h:(aG l o).2.2=0):∃k:Nat,(aG l o).2.1=k/\k<(aG l o).1.length/\(aG l o).1[k]? =some o/\l.length<=(aG l o).1.length/\(∀j,j≠k->j<l.length->(aG l o).1[j]? =l[j]?):=by
 unfold aG at h|-;split
 .rename_i k hk;have gA:k<l.length:=(aaV.1 hk).1;exact⟨k,rfl,by simpa using gA,by simp[gA],aC,λj hj kM=>by simp[abb,Ne.symm hj]⟩
 .rename_i hk;rw[hk]at h;simp only at h;split at h
  .simp at h
  .rename_i hc;rw[if_neg hc];exact⟨l.length,rfl,aC,aC,aC,λj hj kM=>by simp[aad kM]⟩
theorem No{l:List Obj}{o:Obj}(hf:l9 l)(ho:o.oD):l9 (aG l o).1:=by
 unfold aG;split
 .refine⟨by simpa using hf.1,λx hx=>?_⟩
  rcases aaQ hx with h|rfl
  .exact hf.2 x h
  .exact ho
 .split
  .exact⟨aC,aC⟩
  .refine⟨by simp;omega,λx hx=>?_⟩
   rcases abD.1 hx with h|h
   .exact hf.2 x h
   .simp at h;subst h;exact ho
def bR(p:Int):Obj:=⟨4,[],[],⟨#[]⟩,p,[],-1,0,0⟩
theorem Np(p:Int):(bR p).oD:=by simp[Obj.oD,bR]
def mz(l:List Obj)(k:Nat)(b:Int):List Obj:=match l[k]? with|some o=>l.set k {o with bs:=b}|none=>l
def fG(l:List Obj):List Obj×(Int×Int)×Int:=
 if(aG l (bR (-1))).2.2≠0 then([],(0,0),(aG l (bR (-1))).2.2)
 else if(aG (aG l (bR (-1))).1 (bR (aG l (bR (-1))).2.1)).2.2≠0 then([],(0,0),(aG (aG l (bR (-1))).1 (bR (aG l (bR (-1))).2.1)).2.2)
 else(mz (aG (aG l (bR (-1))).1 (bR (aG l (bR (-1))).2.1)).1 (aG l (bR (-1))).2.1.toNat (aG (aG l (bR (-1))).1 (bR (aG l (bR (-1))).2.1)).2.1,((aG l (bR (-1))).2.1,(aG (aG l (bR (-1))).1 (bR (aG l (bR (-1))).2.1)).2.1),0)
def XM(x:Int×Int):RV:= .agg [.ah (.val (.int .i64 x.1)),.ah (.val (.int .i64 x.2))]
theorem l71:bz prog f71=some c71:=by kernel_rfl
theorem H7(a b:CV)(p:Int):lC [a,.rv (.agg [.ah (.val (.int .i64 4)),.aM,.aM,.ah (.val (.string ⟨#[]⟩)),.ah (.val (.int .i64 p)),.aM,.ah (.val (.int .i64 (-1))),.ah (.val (.int .i64 0)),.ah (.val (.int .i64 0))])] [a,(bR p).cv]:=
 .dH _ (.agg (.cons (.dH _) (.cons (.aM 1) (.cons (.aM 2) (.cons (.dH _) (.cons (.dH _) (.cons (.aM 4) (.cons (.dH _) (.cons (.dH _) (.cons (.dH _) .nil))))))))) .nil)
theorem JT(l:List Obj)(hf:l9 l):body prog c71 [cC l] [] (λr m=>cN m r (.bx [nr (fG l).1,XM (fG l).2.1,cG (fG l).2.2])):=by
 refine nj (H7 _ (.aH) _) (Bd l hf (bR (-1)) ?_);have hp:fG l=if(aG l (bR (-1))).2.2≠0 then([],(0,0),(aG l (bR (-1))).2.2)
   else if(aG (aG l (bR (-1))).1 (bR (aG l (bR (-1))).2.1)).2.2≠0 then([],(0,0),(aG (aG l (bR (-1))).1 (bR (aG l (bR (-1))).2.1)).2.2)
   else(mz (aG (aG l (bR (-1))).1 (bR (aG l (bR (-1))).2.1)).1 (aG l (bR (-1))).2.1.toNat (aG (aG l (bR (-1))).1 (bR (aG l (bR (-1))).2.1)).2.1,((aG l (bR (-1))).2.1,(aG (aG l (bR (-1))).1 (bR (aG l (bR (-1))).2.1)).2.1),0):=rfl
 have kU:=No (o:=bR (-1)) hf (Np _);generalize hx:aG l (bR (-1))=x at hp kU;obtain⟨l1,a,e1⟩:=x;have kU:l9 l1:=kU;refine bv (λh=>?_) (λh=>?_)
 .have h:e1≠0:=h;rw[hp];simp only;rw[if_pos h];exact mI (.one (.aM 9)) (eZ.self rfl)
 .have h:e1=0:=h;subst h;have FM:=H6 (l:=l) (o:=bR (-1)) (by rw[hx])
  rw[hx]at FM;obtain⟨ka,Qb,XN,afw,afx,_⟩:=FM;have Qb:a=(ka:Int):=Qb;have XN:ka<l1.length:=XN;subst Qb;simp only[ne_eq,not_true,if_false,ZW]at hp;refine nj (H7 _ (.aH) _) (Nn l1 kU (bR ka) (λh=>?_) (λh=>?_))
  .rw[h]at hp;rw[h,hp];exact mI (.one (.aM 9)) (eZ.self rfl)
  .have FM:=H6 (l:=l1) (o:=bR ka) h;generalize hy:aG l1 (bR ka)=y at hp FM h;obtain⟨l2,b,e2⟩:=y;have h:e2=0:=h;subst h;obtain⟨kb,UC,afy,afz,XO,_⟩:=FM;have XO:l1.length<=l2.length:=XO;have aD:ka<l2.length:=om;have hlen:(aa (l2.map Obj.enc)).length=l2.length:=by simp[aa]
   refine af (cy (k:=ka) (by simpa[hlen,lenOf]using aD)) ?_
   refine af (x:=l2[ka].enc.map .ah) (by simpa[iN]using zS l2 aD) ?_
   have jC:aX (aa (l2.map Obj.enc)) (iN 0 ka) (({l2[ka]with bs:=b}:Obj).enc.map .ah)=aa ((mz l2 ka b).map Obj.enc):=by rw[bb];simp only[mz,vR aD];rw[<-zR];simp[iN]
   have d9:some (Bk.row 9 (aX (aa (l2.map Obj.enc)) (iN 0 ka) (({l2[ka]with bs:=b}:Obj).enc.map .ah)))=some (Bk.row 9 (aa ((mz l2 ka b).map Obj.enc))):=by rw[jC]
   rw[hp];exact mI (.one (ff.fg d9 0 none)) (eZ.self rfl)
theorem QU(l:List Obj)(hf:l9 l){m:Mem}{K:CV->Mem->Prop}(h:K (.bx [nr (fG l).1,XM (fG l).2.1,cG (fG l).2.2]) m):aq prog 71 [cC l] m K:=
 bi (bc func71 l71 (JT l hf)) (by simp[cC,CV.dC,CC.dC]) λr m1 XE=>⟨_,XE,h⟩
def c74:LF:= ⟨80,[.tmp 6,.tmp 7],(.seq (.ai [qu 5 (.box 2),qu 6 (.aN qe),qu 7 (.aN (qi 0))]) (.seq (.seq (.ai [qm 10 1,qu 11 (.aL .lss 10 (qi 0)),qm 12 11,qg 13 (.aN 1) 12 false,qg 14 (.aN 0) 12 false,qg 15 (.len 1 14) 12 false,qg 16 (.aL .geq 13 15) 12 false,qu 17 (.pick 12 (qb true) 16),qm 18 17,qg 19 (.aN 0) 18 false,qg 20 (.aN 1) 18 false,qg 21 (.cw 9 19 20) 18 false,qg 22 (.bY 0 21) 18 false,qg 23 (.load false 1 22) 18 false,qg 24 (.aL .neq 23 (qi 4)) 18 false,qu 25 (.pick 18 (qb true) 24)]) (.cond 25 (.seq (.ai [qu 6 (.aN qe),qu 7 (.aN (qi 8))]) .ret) .skip)) (.seq (.ai [qm 26 0,qm 27 1,qu 28 (.cw 9 26 27),qf 29 4 28,ql 30 29,qm 8 30]) (.seq (.block 0 (.seq (.ai [qm 32 8,qu 33 (.aL .lss 32 (qi 0)),qm 34 33,qg 35 (.aN 8) 34 false,qg 36 (.aN 0) 34 false,qg 37 (.len 1 36) 34 false,qg 38 (.aL .geq 35 37) 34 false,qu 39 (.pick 34 (qb true) 38),qm 40 39,qg 41 (.aN 0) 40 false,qg 42 (.aN 8) 40 false,qg 43 (.cw 9 41 42) 40 false,qg 44 (.bY 0 43) 40 false,qg 45 (.load false 1 44) 40 false,qg 46 (.aL .neq 45 (qi 4)) 40 false,qu 47 (.pick 40 (qb true) 46),qm 31 47]) (.cond 31 (.seq (.ai [qu 6 (.aN qe),qu 7 (.aN (qi 17))]) .ret) (.seq (.ai [qf 49 0 5,ql 50 49,qu 51 (.len 1 50),qu 52 (.aL .gtr 51 (qi 60)),qm 48 52]) (.cond 48 (.seq (.ai [qu 6 (.aN qe),qu 7 (.aN (qi 4))]) .ret) (.seq (.ai [qm 54 0,qm 55 8,qu 56 (.cw 9 54 55),qf 57 5 56,ql 58 57,qu 59 (.len 1 58),qu 60 (.aL .geq 59 (qi 4)),qm 53 60]) (.cond 53 (.seq (.ai [qu 6 (.aN qe),qu 7 (.aN (qi 15))]) .ret) .skip))))))) (.seq (.ai [qm 61 0,qu 62 (qc 98 [61]),qm 9 62]) (.seq (.ai [qf 63 0 5,ql 64 63,qu 65 (qc 97 [64]),qf 66 0 5,qw (.store 1 66 65)]) (.seq (.bV [qm 67 9,qm 68 8,qm 69 9,qm 70 8,qu 71 (.cw 9 69 70),qf 72 5 71,ql 73 72,qL 74 4 5,qu 75 (.nI 4 [.aM,(.ah (.val (.bool false))),qd 0,qd 0] 1 [(0,74)]),qu 76 (.oL 4 48 73 75),qu 77 (.cw 9 67 68),qf 78 5 77,qw (.store 1 78 76)] [(eE 8 0 (.cons 8 (some [6,4]) (.cons 9 (some []) (.cons 10 none (.cons 11 none (.cons 12 (some []) .nil))))))]) (.seq (.ai [qm 79 9,qm 6 79,qu 7 (.aN (qi 0))]) .ret))))))))⟩
def JU(o:Obj)(c:CC):List CC:=[.ah (.val (.int .i64 o.ag)),.ah (.sl 1 o.data),.ah (.sl 2 o.ak),.ah (.val (.string o.target)),.ah (.val (.int .i64 o.bs)),c,.ah (.val (.int .i64 o.be)),.ah (.val (.int .i64 o.am)),.ah (.val (.int .i64 o.up))]
theorem Dm{l:List Obj}{p Q:Nat}{q:Obj}(h:l[p]? =some q):cF (eS p Q 0 l) p=some (JU q (.row Q 4 0 none)):=by rw[aV,tW,h];simp[sD,JU]
theorem Nq{l:List Obj}{p:Nat}{q:Obj}(h:l[p]? =some q):Bb l p l.length= .row 4 (aa (q.ax.map dn.enc)):=by
 have hp:=(Ki.1 h).1;have:Nat.blt p l.length=true:=by rw[abK];exact hp
 simp only[Bb,this,quO,h]
theorem H8{m:Mem}{Z:Nat->Prop}{id p Q:Nat}{l:List Obj}{q:Obj}{c:CC}(hz:Z id)(hb:m[id]? =some (.row 9 (aX (eS p Q 0 l) p (JU q c))))(hc:d6 m Z (some id) c (.sl 4 (q.ax.map dn.enc))):
  d6 m Z none (.row id 9 0 none) (.sl 9 ((l.set p q).map Obj.enc)):=by
 have key:∀(i:Nat)cs es,(aX (eS p Q 0 l) p (JU q c))[i]? =some cs->((l.set p q).map Obj.enc)[i]? =some es->(cs=JU q c/\es=q.enc)\/∃o:Obj,cs=o.enc.map .ah/\es=o.enc:=by
  intro i cs es h1 h2;rw[bb,abb]at h1;rw[Tr,abb]at h2;by_cases hi:p=i
  .subst hi;rw[if_pos rfl]at h1 h2;split at h1
   .cases h1;split at h2
    .cases h2;exact .inl ⟨rfl,rfl⟩
    .cases h2
   .cases h1
  .rw[if_neg hi]at h1 h2;rw[tW]at h1;cases ho:l[i]? with
   |none=>rw[ho]at h1;cases h1
   |some o=>
    rw[ho]at h1 h2;cases h1;cases h2;refine .inr ⟨o,?_,rfl⟩;simp only[sD,aa6,if_neg (Ne.symm hi)];rfl
 refine .row id 9 0 none _ ((l.set p q).map Obj.enc) hz hb (by rw[bb];simp[nk]) (λi cs es h1 h2=>?_) (λi cs es j cc d h1 h2 h3 h4=>?_)
 .rcases key i cs es h1 h2 with⟨rfl,rfl⟩|⟨o,rfl,rfl⟩
  .rfl
  .simp
 .rcases key i cs es h1 h2 with⟨rfl,rfl⟩|⟨o,rfl,rfl⟩
  .match j,h3,h4 with
   |0,h3,h4=>cases h3;cases h4;exact .ah _
   |1,h3,h4=>cases h3;cases h4;exact .ah _
   |2,h3,h4=>cases h3;cases h4;exact .ah _
   |3,h3,h4=>cases h3;cases h4;exact .ah _
   |4,h3,h4=>cases h3;cases h4;exact .ah _
   |5,h3,h4=>cases h3;cases h4;exact hc
   |6,h3,h4=>cases h3;cases h4;exact .ah _
   |7,h3,h4=>cases h3;cases h4;exact .ah _
   |8,h3,h4=>cases h3;cases h4;exact .ah _
   |n+9,h3,h4=>simp[JU]at h3
  .rw[Tr,h4]at h3;cases h3;exact .ah _
def fj(l:List Obj)(e:Int)(m:dn):List Obj×Int:=
 if e<0\/e>=l.length then([],8)else match l[e.toNat]? with
 |none=>([],8)
 |some o=>if o.ag≠4 then([],8)else if o.bs<0\/o.bs>=l.length then([],17)else match l[o.bs.toNat]? with
  |none=>([],17)
  |some q=>if q.ag≠4 then([],17)else if m.data.length>60 then([],4)else if q.ax.length>=4 then([],15)else(l.set o.bs.toNat {q with ax:=q.ax++ [m]},0)
def Nr(l:List Obj)(e:Int):CV:= .bx [nr l,cG e]
theorem kX{m:Mem}{a b:RV}{x:Int}(h:eZ m a b):cN m (.bx [a,cG x]) (.bx [b,cG x]):=by
 refine .bx rfl λi r r' h1 h2=>?_
 match i,h1,h2 with
 |0,h1,h2=>cases h1;cases h2;exact h
 |1,h1,h2=>cases h1;cases h2;exact eZ.self rfl
theorem vw2{Y:Nat->Nat}{m:Mem}{Z:Nat->Prop}{a b:RV}{x:Int}(h:yH Y m Z a b):rJ Y m Z (.bx [a,cG x]) (.bx [b,cG x]):=by
 refine .bx rfl λi r r' h1 h2=>?_
 match i,h1,h2 with
 |0,h1,h2=>cases h1;cases h2;exact h
 |1,h1,h2=>cases h1;cases h2;exact .one (.bh (.ah _))
theorem l74:bz prog f74=some c74:=by kernel_rfl
theorem tX(l:List Obj)(hf:l9 l)(e:Int)(msg:dn)(hmf:msg.data.length<=4194304):body prog c74 [cC l,an .i64 e,msg.cv] [] (λr m=>∃r' m',View 0 ⟨[r],m⟩ ⟨[r'],m'⟩/\r'=Nr (fj l e msg).1 (fj l e msg).2/\m'=[]):=by
 have LR:(((l.map Obj.enc).length:Nat):Int)=(l.length:Int):=aC;have bad:∀(x:Int),fj l e msg=([],x)->∃r' m',View 0 ⟨[CV.bx [.one .aM,cG x]],[.var (msg.enc.map .ah)]⟩ ⟨[r'],m'⟩/\r'=Nr (fj l e msg).1 (fj l e msg).2/\m'=[]:=by intro x hx;refine⟨_,_,View.o 1 [] [] (.put (vw2 (b:=nr []) (.one (.fT (.aM 9)))) .nil) (.nil _),?_,rfl⟩;rw[hx];rfl
 refine aP (λh=>?_) (λh1=>?_)
 .exact bad 8 (by rw[fj,if_pos (.inl h)])
 refine aP (λh=>?_) (λh2=>?_)
 .exact bad 8 (by rw[fj,if_pos (.inr (by rw[<-LR];exact h))])
 have h2:¬e>=(l.length:Int):=by rw[<-LR];exact h2
 obtain⟨k,rfl⟩:∃k:Nat,e=k:=⟨e.toNat,om⟩;have hk:k<l.length:=om;have hi:=vR hk;have pT:fj l (k:Int) msg=if l[k].ag≠4 then(([],8):List Obj×Int)else if l[k].bs<0\/l[k].bs>=l.length then([],17)else match l[l[k].bs.toNat]? with
   |none=>([],17)
   |some q=>if q.ag≠4 then([],17)else if msg.data.length>60 then([],4)else if q.ax.length>=4 then([],15)else(l.set l[k].bs.toNat {q with ax:=q.ax++ [msg]},0):=by
  rw[fj,if_neg om,ZW,hi]
 have hg:dA (l.map Obj.enc) (k:Nat)=some (l[k].enc):=by rw[bG,Tr,hi];rfl
 generalize l[k]=o at pT hg;obtain⟨ag,data,ak,target,bs,ax,be,am,up⟩:=o;have hg:dA (l.map Obj.enc) (k:Nat)=some [.val (.int .i64 ag),.sl 1 data,.sl 2 ak,.val (.string target),.val (.int .i64 bs),.sl 4 (ax.map dn.enc),.val (.int .i64 be),.val (.int .i64 am),.val (.int .i64 up)]:=hg;refine af hg ?_;refine bv (λh=>?_) (λh3=>?_)
 .exact bad 8 (by rw[pT,if_pos h])
 have h3:ag=4:=h3;rw[if_neg (by simpa using h3)]at pT
 simp only at pT;refine af hg ?_;refine aP (λh=>?_) (λh4=>?_)
 .exact bad 17 (by rw[pT,if_pos (.inl h)])
 refine aP (λh=>?_) (λh5=>?_)
 .exact bad 17 (by rw[pT,if_pos (.inr (by rw[<-LR];exact h))])
 have h5:¬bs>=(l.length:Int):=by rw[<-LR];exact h5
 have h4:¬bs<0:=h4;obtain⟨p,rfl⟩:∃p:Nat,bs=p:=⟨bs.toNat,om⟩;have hp:p<l.length:=om;have S9:=vR hp;rw[if_neg om,ZW,S9]at pT;simp only at pT;have Cv:dA (l.map Obj.enc) (p:Nat)=some (l[p].enc):=by rw[bG,Tr,S9];rfl
 have JR:=hf.2 _ (aay hp);generalize l[p]=q at pT Cv S9 JR;have Cv:dA (l.map Obj.enc) (p:Nat)=some [.val (.int .i64 q.ag),.sl 1 q.data,.sl 2 q.ak,.val (.string q.target),.val (.int .i64 q.bs),.sl 4 (q.ax.map dn.enc),.val (.int .i64 q.be),.val (.int .i64 q.am),.val (.int .i64 q.up)]:=Cv;refine af Cv ?_;refine bv (λh=>?_) (λh6=>?_)
 .exact bad 17 (by rw[pT,if_pos h])
 rw[if_neg (by simpa using h6)]at pT
 refine aP (λh=>?_) (λh7=>?_)
 .exact bad 4 (by rw[pT,if_pos (by have h:((msg.data.length:Nat):Int)>60:=h;omega)])
 rw[if_neg (by have h:¬((msg.data.length:Nat):Int)>60:=h7;omega)]at pT
 refine af Cv ?_;refine aP (λh=>?_) (λh8=>?_)
 .exact bad 15 (by rw[pT,if_pos (by have h:(((q.ax.map dn.enc).length:Nat):Int)>=4:=h;rw[N7]at h;omega)])
 have h8:¬q.ax.length>=4:=by have h:¬(((q.ax.map dn.enc).length:Nat):Int)>=4:=h8;rw[N7]at h;omega
 rw[if_neg h8]at pT;refine xj l hf p ?_;rw[Nq S9];refine iE msg.data hmf ?_;have tY:d5 (p:Int) (lenOf (eS p 2 0 l).length 0 none)=some p:=cy (by simp[lenOf,nk];omega)
 have oC:=Dm (Q:=2) S9;refine af tY ?_;refine af oC ?_;refine⟨⟨af oC rfl,af tY rfl,trivial⟩,?_⟩;refine⟨?_,?_⟩
 .show((aa (q.ax.map dn.enc)).length+1)*48<=_;simp[aa];omega
 refine⟨trivial,?_⟩;refine af tY ?_;refine af oC ?_;refine⟨trivial,?_⟩;refine⟨Nr (l.set p {q with ax:=q.ax++ [msg]}) 0,[],View.o 5 [] [1,4] (.put (vw2 (.one (.fT ?_))) .nil) (.nil _),?_,rfl⟩
 .refine H8 (p:=p) (Q:=2) (l:=l) (q:={q with ax:=q.ax++ [msg]}) (c:= .row 4 4 0 none) rfl (by rw[<-aV];rfl) ?_
  refine d6.fg (Z:=λk=>bD [1,4] k=true) (ds:=(q.ax++ [msg]).map dn.enc) rfl ?_ 0 none
  rw[<-aV,abn,dg];rfl
 .rw[pT]
theorem QW(l:List Obj)(hf:l9 l)(e:Int)(msg:dn)(hmf:msg.data.length<=4194304){m:Mem}{K:CV->Mem->Prop}(h:K (Nr (fj l e msg).1 (fj l e msg).2) m):aq prog 74 [cC l,an .i64 e,msg.cv] m K:=by
 refine bi (K0:=λr m=>r=Nr (fj l e msg).1 (fj l e msg).2/\m=[]) (bL (bc func74 l74 (tX l hf e msg hmf)) λr m1⟨r',m',hv,hp⟩=>⟨r',m',hv,hp⟩) (by simp[cC,an,dn.cv,CV.dC,CC.dC,RV.dC]) λr m1 hr=>?_
 obtain⟨rfl,rfl⟩:=hr;exact⟨_,cN.self rfl,h⟩
def c115:LF:= ⟨33,[.tmp 6],(.seq (.ai [qu 6 (.aN qe)]) (.seq (.ai [qm 8 0,qm 9 1,qm 10 2,qm 11 0,qu 12 (.len 1 11),qu 13 (.oI 4 8 (some 9) (some 10) (some 12))]) (.seq (.seq (.ai [qm 14 1,qm 15 2,qu 16 (.aL .eql 14 15)]) (.cond 16 (.seq (.ai [qm 17 0,qm 6 17]) .ret) .skip)) (.seq (.ai [qm 18 0,qu 19 (.len 1 18),qm 7 19]) (.seq (.bV [qm 20 0,qm 21 1,qu 22 (.oI 4 20 none (some 21) none),qm 23 0,qm 24 2,qu 25 (.oI 4 23 (some 24) none none),qu 26 (.oL 4 48 22 25),qm 0 26] [(eE 6 0 (.cons 6 (some []) (.cons 7 none .nil)))]) (.seq (.ai [qm 27 0,qm 28 0,qu 29 (.len 1 28),qm 30 7,qu 31 (.oI 4 27 (some 29) (some 30) none),qw (.VP 4 [.aM,(.ah (.val (.bool false))),qd 0,qd 0] 31)]) (.seq (.ai [qm 32 0,qm 6 32]) .ret)))))))⟩
def vn:List CC:=[.aM,.ah (.val (.bool false)),.ah (.val (.int .i64 0)),.ah (.val (.int .i64 0))]
theorem kD:∀ds:List (List Dt),fJ (aa ds)=true
 | []=>rfl
 |d::r=>by
  have h1:∀e:List Dt,qN (e.map CC.ah)=true:=by
   intro e
   induction e with
   |nil=>rfl
   |cons x e ih=>simpa[qN,CC.jq]using ih
  have:=kD r;simp only[aa,aaR,fJ]at this|-;rw[h1,this];rfl
theorem l115:bz prog f115=some c115:=by kernel_rfl
def f8(x:dn)(r:List dn):List (List CC):=aa (r.map dn.enc)++ [vn]
theorem Ns(x:dn)(r:List dn)(hl:r.length<=4194303):body prog c115 [.rv (.one (.row 0 4 0 none)),an .i64 0,an .i64 1] [.row 4 (aa ((x::r).map dn.enc))] (λv m=>v= .rv (.one (.row 0 4 0 (some r.length)))/\m=[.row 4 (f8 x r)]):=by
 have hlen:(aa ((x::r).map dn.enc)).length=r.length+1:=by simp[aa]
 have Ta:(aa ((x::r).map dn.enc)).drop 1=aa (r.map dn.enc):=rfl;generalize aa ((x::r).map dn.enc)=D at hlen Ta;have hL:lenOf D.length 0 none=r.length+1:=by rw[iW,hlen];rfl
 have hE:b7 D 1 (some (r.length+1))=aa (r.map dn.enc):=by rw[jS];simp only;rw[<-hlen,aaZ,Ta]
 have H9:(aa (r.map dn.enc)).length=r.length:=by simp[aa]
 refine cM ?_ ?_
 .show(Nat.ble 0 1&&(Nat.ble 1 (lenOf D.length 0 none)&&Nat.ble (lenOf D.length 0 none) (b7 D 0 none).length))=true;rw[hL];simp[b7,hlen,abe]
 rw[hL];refine cM ?_ ?_
 .show(Nat.ble 1 (lenOf D.length 0 none)&&Nat.ble (lenOf D.length 0 none) (D.length-0))=true;rw[hL,hlen];simp[abe]
 rw[hL];refine cM ?_ ?_
 .show(Nat.beq 0 0&&(Nat.beq 4 4&&(Nat.beq 4 4&&(Nat.ble 1 D.length&&(Nat.ble (0+(b7 D 1 (some (r.length+1))).length) D.length&&fJ (b7 D 1 (some (r.length+1))))))))=true;rw[hE,kD,H9,hlen];simp[abe]
 refine⟨?_,?_⟩
 .rw[hlen];omega
 refine⟨trivial,?_⟩;have A4:(cV D 0 (aa (r.map dn.enc))).length=r.length+1:=by rw[wW (by rw[H9,hlen];omega),hlen]
 refine cM ?_ ?_
 .simp only[mi,aa6,hE,H9,iW,abA,acW,A4];simp[abe]
 refine cM ?_ ?_
 .simp only[mi,aa6,hE,H9,iW,abA,acW,A4,qQ];simp[abe]
 refine cM ?_ ?_
 .simp only[mi,aa6,hE,H9,iW,abA,acW,A4,qQ];simp[abK]
 have d9:cV (cV D 0 (aa (r.map dn.enc))) r.length (gH 1 vn)=f8 x r:=by
  have h1:cV D 0 (aa (r.map dn.enc))=aa (r.map dn.enc)++D.drop r.length:=by simp[cV,H9]
  rw[h1];simp only[cV,fZ,f8];rw[List.take_append_of_le_length (by rw[H9];exact Yj _),abT (by rw[H9];exact Yj _)]
  congr 1;have:(aa (r.map dn.enc)++D.drop r.length).length=r.length+1:=by simp[H9,hlen]
  rw[List.drop_of_length_le (by rw[this];simp)]
  rfl
 refine⟨?_,?_⟩
 .show CV.rv (.one (.row 0 4 0 (some (0+(b7 D (iN 0 1) (some (iN 0 (r.length+1)))).length))))=_;simp only[mi,aa6,hE,H9]
 .rw[<-d9];show [Bk.row 4 (cV (cV D 0 (b7 D (iN 0 1) (some (iN 0 (r.length+1))))) _ (gH (_-_) vn))]=_;simp only[mi,aa6,hE,H9,iW,abA,acW,A4,qQ,Nat.add_sub_cancel_left]
theorem UD(x:dn)(r:List dn)(hl:r.length<=4194303){m:Mem}{K:CV->Mem->Prop}(id:Nat)(hb:cF m id=some (.row 4 (aa ((x::r).map dn.enc))))(h:K (.rv (.one (.row id 4 0 (some r.length)))) (aX m id (.row 4 (f8 x r)))):
  aq prog 115 [.rv (.one (.row id 4 0 none)),an .i64 0,an .i64 1] m K:=by
 have hid:id<m.length:=by rw[aV]at hb;exact(Ki.1 hb).1
 refine bw [id] m.length rfl rfl rfl (by simp[eR,hid]) (args0:=[.rv (.one (.row 0 4 0 none)),an .i64 0,an .i64 1]) rfl (λi b' hi=>?_) (bc func115 l115 (Ns x r hl)) (λr1 m1 hr=>?_)
 .cases i with
  |zero=>
   simp at hi;subst hi;refine .inr ⟨λh=>h,_,?_,.bM rfl⟩
   rw[aV]at hb;exact hb
  |succ i=>simp at hi
 .obtain⟨rfl,rfl⟩:=hr;refine⟨Yj _,?_⟩;have abo:(Bk.row 4 (f8 x r)).bh (sg [id] m.length)= .row 4 (f8 x r):=by simp only[Bk.bh,f8,abn,dF];rfl
  show K (.rv (.one (.row id 4 0 (some r.length)))) (c9 m [id] [(Bk.row 4 (f8 x r)).bh (sg [id] m.length)]);rw[abo];simp only[c9,cg,abV];exact h
def c75:LF:= ⟨78,[.tmp 4,.cell true 4 5,.tmp 6],(.seq (.ai [qu 4 (.aN qe),qu 5 (.alloc [.aM,(.ah (.val (.bool false))),qd 0,qd 0]),qu 6 (.aN (qi 0))]) (.seq (.seq (.ai [qm 10 1,qu 11 (.aL .lss 10 (qi 0)),qm 12 11,qg 13 (.aN 1) 12 false,qg 14 (.aN 0) 12 false,qg 15 (.len 1 14) 12 false,qg 16 (.aL .geq 13 15) 12 false,qu 17 (.pick 12 (qb true) 16),qm 18 17,qg 19 (.aN 0) 18 false,qg 20 (.aN 1) 18 false,qg 21 (.cw 9 19 20) 18 false,qg 22 (.bY 0 21) 18 false,qg 23 (.load false 1 22) 18 false,qg 24 (.aL .neq 23 (qi 4)) 18 false,qu 25 (.pick 18 (qb true) 24)]) (.cond 25 (.seq (.ai [qu 26 (.build [.aM,(.ah (.val (.bool false))),qd 0,qd 0] []),qu 4 (.aN qe),qw (.store 4 5 26),qu 6 (.aN (qi 8))]) .ret) .skip)) (.seq (.seq (.ai [qm 27 0,qm 28 1,qu 29 (.cw 9 27 28),qf 30 5 29,ql 31 30,qu 32 (.len 1 31),qu 33 (.aL .eql 32 (qi 0))]) (.cond 33 (.seq (.seq (.ai [qm 34 0,qm 35 1,qu 36 (.cw 9 34 35),qf 37 4 36,ql 38 37,qm 7 38]) (.seq (.ai [qm 39 7,qu 40 (.aL .lss 39 (qi 0)),qm 41 40,qg 42 (.aN 7) 41 false,qg 43 (.aN 0) 41 false,qg 44 (.len 1 43) 41 false,qg 45 (.aL .geq 42 44) 41 false,qu 46 (.pick 41 (qb true) 45),qm 47 46,qg 48 (.aN 0) 47 false,qg 49 (.aN 7) 47 false,qg 50 (.cw 9 48 49) 47 false,qg 51 (.bY 0 50) 47 false,qg 52 (.load false 1 51) 47 false,qg 53 (.aL .neq 52 (qi 4)) 47 false,qu 54 (.pick 47 (qb true) 53)]) (.cond 54 (.seq (.ai [qu 55 (.build [.aM,(.ah (.val (.bool false))),qd 0,qd 0] []),qu 4 (.aN qe),qw (.store 4 5 55),qu 6 (.aN (qi 17))]) .ret) .skip))) (.seq (.ai [qu 56 (.build [.aM,(.ah (.val (.bool false))),qd 0,qd 0] []),qu 4 (.aN qe),qw (.store 4 5 56),qu 6 (.aN (qi 16))]) .ret)) .skip)) (.seq (.ai [qm 57 0,qu 58 (qc 98 [57]),qm 8 58]) (.seq (.ai [qm 59 8,qm 60 1,qu 61 (.cw 9 59 60),qf 62 5 61,ql 63 62,qu 64 (.cw 4 63 (qi 0)),qL 65 4 64,qu 9 (.alloc [.aM,(.ah (.val (.bool false))),qd 0,qd 0]),qw (.store 4 9 65)]) (.seq (.ai [qm 66 8,qm 67 1,qm 68 8,qm 69 1,qu 70 (.cw 9 68 69),qf 71 5 70,ql 72 71,qu 73 (qc 115 [72,qi 0,qi 1]),qu 74 (.cw 9 66 67),qf 75 5 74,qw (.store 1 75 73)]) (.seq (.bV [qm 76 8,qL 77 4 9,qm 4 76,qw (.store 4 5 77),qu 6 (.aN (qi 0))] [(eE 3 0 (.cons 3 (some []) (.cons 4 none .nil)))]) .ret)))))))⟩
def ns:dn:=⟨[],false,0,0⟩
def dn.rv(m:dn):RV:= .agg (m.enc.map .ah)
def fM(l:List Obj)(e:Int):List Obj×dn×Int:=
 if e<0\/e>=l.length then([],ns,8)else match l[e.toNat]? with
 |none=>([],ns,8)
 |some o=>if o.ag≠4 then([],ns,8)else match o.ax with
  | []=>if o.bs<0\/o.bs>=l.length then([],ns,17)else match l[o.bs.toNat]? with
   |none=>([],ns,17)
   |some q=>if q.ag≠4 then([],ns,17)else([],ns,16)
  |x::r=>(l.set e.toNat {o with ax:=r},x,0)
def xk(x:List Obj×dn×Int):CV:= .bx [nr x.1,x.2.1.rv,cG x.2.2]
theorem vw3{Y:Nat->Nat}{m:Mem}{Z:Nat->Prop}{a b c d:RV}{x:Int}(h:yH Y m Z a b)(hc:yH Y m Z c d):rJ Y m Z (.bx [a,c,cG x]) (.bx [b,d,cG x]):=by
 refine .bx rfl λi r r' h1 h2=>?_
 match i,h1,h2 with
 |0,h1,h2=>cases h1;cases h2;exact h
 |1,h1,h2=>cases h1;cases h2;exact hc
 |2,h1,h2=>cases h1;cases h2;exact .one (.bh (.ah _))
theorem vwZ{Y:Nat->Nat}{m:Mem}{Z:Nat->Prop}:yH Y m Z (.agg vn) ns.rv:=by
 refine .agg rfl λi c c' h1 h2=>?_
 match i,h1,h2 with
 |0,h1,h2=>cases h1;cases h2;exact .fT (.aM 1)
 |1,h1,h2=>cases h1;cases h2;exact .bh (.ah _)
 |2,h1,h2=>cases h1;cases h2;exact .bh (.ah _)
 |3,h1,h2=>cases h1;cases h2;exact .bh (.ah _)
 |n+4,h1,h2=>simp[vn]at h1
theorem XP{Y:Nat->Nat}{m:Mem}{Z:Nat->Prop}(x:dn):yH Y m Z (.agg (x.enc.map .ah)) x.rv:=by
 refine .agg rfl λi c c' h1 h2=>?_
 rw[h1]at h2;cases h2;rw[Tr]at h1;cases hd:x.enc[i]? with
 |none=>rw[hd]at h1;cases h1
 |some d=>
  rw[hd]at h1;cases h1;exact .bh (.ah d)
theorem UE{m:Mem}{Z:Nat->Prop}{p:Option Nat}{id:Nat}{x:dn}{r:List dn}(hz:Z id)(hb:m[id]? =some (.row 4 (f8 x r))):d6 m Z p (.row id 4 0 (some r.length)) (.sl 4 (r.map dn.enc)):=by
 have h:=d6.row (m:=m) (Z:=Z) (p:=p) id 4 0 (some r.length) (f8 x r) (r.map dn.enc++ [ns.enc]) hz hb (by simp[f8,aa]) (λi cs es h1 h2=>?_) (λi cs es j c d h1 h2 h3 h4=>?_)
 .have:b7 (r.map dn.enc++ [ns.enc]) 0 (some r.length)=r.map dn.enc:=by rw[jS];simp
  rw[this]at h;exact h
 .rcases aag i r.length with hi|hi
  .rw[f8,aad (by simpa[aa]using hi),aa,Tr]at h1
   rw[aad (by simpa using hi)]at h2
   rw[h2]at h1;cases h1;simp
  .rw[f8,Y5 (by simpa[aa]using hi)]at h1
   rw[Y5 (by simpa using hi)]at h2
   have e1:(aa (r.map dn.enc)).length=r.length:=by simp[aa]
   have e2:(r.map dn.enc).length=r.length:=aC;rw[e1]at h1;rw[e2]at h2;cases hn:i-r.length with
   |zero=>rw[hn]at h1 h2;cases h1;cases h2;rfl
   |succ n=>rw[hn]at h1;simp at h1
 .rcases aag i r.length with hi|hi
  .rw[f8,aad (by simpa[aa]using hi),aa,Tr]at h1
   rw[aad (by simpa using hi)]at h2
   rw[h2]at h1;cases h1;rw[Tr,h4]at h3;cases h3;exact .ah _
  .rw[f8,Y5 (by simpa[aa]using hi)]at h1
   rw[Y5 (by simpa using hi)]at h2
   have e1:(aa (r.map dn.enc)).length=r.length:=by simp[aa]
   have e2:(r.map dn.enc).length=r.length:=aC;rw[e1]at h1;rw[e2]at h2;cases hn:i-r.length with
   |zero=>
    rw[hn]at h1 h2;cases h1;cases h2
    match j,h3,h4 with
    |0,h3,h4=>cases h3;cases h4;exact .aM 1
    |1,h3,h4=>cases h3;cases h4;exact .ah _
    |2,h3,h4=>cases h3;cases h4;exact .ah _
    |3,h3,h4=>cases h3;cases h4;exact .ah _
    |n+4,h3,h4=>simp[vn]at h3
   |succ n=>rw[hn]at h1;simp at h1
theorem l75:bz prog f75=some c75:=by kernel_rfl
theorem tZ(l:List Obj)(hf:l9 l)(e:Int):body prog c75 [cC l,an .i64 e] [] (λr m=>∃r' m',View 0 ⟨[r],m⟩ ⟨[r'],m'⟩/\r'=xk (fM l e)/\m'=[]):=by
 have LR:(((l.map Obj.enc).length:Nat):Int)=(l.length:Int):=aC;have bad:∀(x:Int),fM l e=([],ns,x)->∃r' m',View 0 ⟨[CV.bx [.one .aM,.agg vn,cG x]],[.var vn]⟩ ⟨[r'],m'⟩/\r'=xk (fM l e)/\m'=[]:=by intro x hx;refine⟨_,_,View.o 1 [] [] (.put (vw3 (b:=nr []) (.one (.fT (.aM 9))) vwZ) .nil) (.nil _),?_,rfl⟩;rw[hx];rfl
 refine aP (λh=>?_) (λh1=>?_)
 .exact bad 8 (by rw[fM,if_pos (.inl h)])
 refine aP (λh=>?_) (λh2=>?_)
 .exact bad 8 (by rw[fM,if_pos (.inr (by rw[<-LR];exact h))])
 have h2:¬e>=(l.length:Int):=by rw[<-LR];exact h2
 obtain⟨k,rfl⟩:∃k:Nat,e=k:=⟨e.toNat,om⟩;have hk:k<l.length:=om;have hi:=vR hk;have pT:fM l (k:Int)=if l[k].ag≠4 then(([],ns,8):List Obj×dn×Int)else match l[k].ax with
   | []=>if l[k].bs<0\/l[k].bs>=l.length then([],ns,17)else match l[l[k].bs.toNat]? with
    |none=>([],ns,17)
    |some q=>if q.ag≠4 then([],ns,17)else([],ns,16)
   |x::r=>(l.set k {l[k]with ax:=r},x,0):=by
  rw[fM,if_neg om,ZW,hi]
 have hg:dA (l.map Obj.enc) (k:Nat)=some (l[k].enc):=by rw[bG,Tr,hi];rfl
 have Nl:=hf.2 _ (aay hk);generalize l[k]=o at pT hg hi Nl;obtain⟨ag,data,ak,target,bs,ax,be,am,up⟩:=o;have hg:dA (l.map Obj.enc) (k:Nat)=some [.val (.int .i64 ag),.sl 1 data,.sl 2 ak,.val (.string target),.val (.int .i64 bs),.sl 4 (ax.map dn.enc),.val (.int .i64 be),.val (.int .i64 am),.val (.int .i64 up)]:=hg;refine af hg ?_;refine bv (λh=>?_) (λh3=>?_)
 .exact bad 8 (by rw[pT,if_pos h])
 have h3:ag=4:=h3;rw[if_neg (by simpa using h3)]at pT
 simp only at pT;refine af hg ?_;cases ax with
 |nil=>
  simp only at pT;refine af hg ?_;refine aP (λh=>?_) (λh4=>?_)
  .exact bad 17 (by rw[pT,if_pos (.inl h)])
  refine aP (λh=>?_) (λh5=>?_)
  .exact bad 17 (by rw[pT,if_pos (.inr (by rw[<-LR];exact h))])
  have h5:¬bs>=(l.length:Int):=by rw[<-LR];exact h5
  have h4:¬bs<0:=h4;obtain⟨p,rfl⟩:∃p:Nat,bs=p:=⟨bs.toNat,om⟩;have hp:p<l.length:=om;have S9:=vR hp;rw[if_neg om,ZW,S9]at pT;simp only at pT;have Cv:dA (l.map Obj.enc) (p:Nat)=some (l[p].enc):=by rw[bG,Tr,S9];rfl
  generalize l[p]=q at pT Cv;have Cv:dA (l.map Obj.enc) (p:Nat)=some [.val (.int .i64 q.ag),.sl 1 q.data,.sl 2 q.ak,.val (.string q.target),.val (.int .i64 q.bs),.sl 4 (q.ax.map dn.enc),.val (.int .i64 q.be),.val (.int .i64 q.am),.val (.int .i64 q.up)]:=Cv;refine af Cv ?_;refine bv (λh=>?_) (λh6=>?_)
  .exact bad 17 (by rw[pT,if_pos h])
  .exact bad 16 (by rw[pT,if_neg (by simpa using h6)])
 |cons x r=>
  simp only at pT;have Ia:(x::r).length<=4194304:=Nl.2.2.1;refine xj l hf k ?_;rw[Nq hi];have tY:d5 (k:Int) (lenOf (eS k 2 0 l).length 0 none)=some k:=cy (by simp[lenOf,nk];omega)
  have oC:=Dm (Q:=2) hi;refine af tY ?_;refine af oC ?_;refine af tY ?_;refine af oC ?_;refine UD x r (by simp at Ia;omega) 2 rfl ?_
  refine af tY ?_;refine af oC ?_;refine⟨trivial,?_⟩;refine⟨xk (fM l k),[],View.o 4 [] [1,2] ?_ (.nil _),rfl,rfl⟩;rw[pT];refine .put (vw3 (.one (.fT ?_)) (XP x)) .nil;exact H8 (p:=k) (Q:=2) (l:=l) (q:=⟨ag,data,ak,target,bs,r,be,am,up⟩) (c:= .row 2 4 0 (some r.length)) rfl (by rw[<-aV];rfl) (UE (x:=x) rfl (by rw[<-aV];rfl))
theorem QX(l:List Obj)(hf:l9 l)(e:Int){m:Mem}{K:CV->Mem->Prop}(h:K (xk (fM l e)) m):aq prog 75 [cC l,an .i64 e] m K:=by
 refine bi (K0:=λr m=>r=xk (fM l e)/\m=[]) (bL (bc func75 l75 (tZ l hf e)) λr m1⟨r',m',hv,hp⟩=>⟨r',m',hv,hp⟩) (by simp[cC,an,CV.dC,CC.dC,RV.dC]) λr m1 hr=>?_
 obtain⟨rfl,rfl⟩:=hr;exact⟨_,cN.self rfl,h⟩
def jv(l:List Int):List (List Dt):=l.map λb=>[.val (.int .u8 b)]
theorem Dn{m:Mem}{id:Nat}{b:Bk}:c9 m [id] [b]=aX m id b:=by simp only[c9,cg,abV]
theorem t6:∀b:List Int,ww ((jv b).map λds=>ds.map .ah)=some b
 | []=>rfl
 |x::r=>by have:=t6 r;simp only[jv,aaR,adK]at this|-;simp only[ww,this]
def gl(e:ByteArray×Int):List Dt:=[.val (.string e.1),.val (.int .i64 e.2)]
def dn.Tc(q:dn):Prop:=∃b:List Int,q.data=jv b
def Obj.Tc(o:Obj):Prop:=(∃b:List Int,o.data=jv b)/\(∃es:List (ByteArray×Int),o.ak=es.map gl)/\∀q,q∈o.ax->q.Tc
theorem Be{l:List Obj}{k:Nat}(h:k<l.length):dA (l.map Obj.enc) (k:Nat)=some [.val (.int .i64 l[k].ag),.sl 1 l[k].data,.sl 2 l[k].ak,.val (.string l[k].target),.val (.int .i64 l[k].bs),.sl 4 (l[k].ax.map dn.enc),.val (.int .i64 l[k].be),.val (.int .i64 l[k].am),.val (.int .i64 l[k].up)]:=by rw[bG,Tr,vR h];rfl
inductive qz(Y:Nat->Nat)(m:Mem)(Z:Nat->Prop):List CC->List CC->Prop
 |nil:qz Y m Z [] []
 |cons {c c':CC} {r r':List CC} (h:tv Y m Z none c c') (hr:qz Y m Z r r'):qz Y m Z (c::r) (c'::r')
theorem qz.len{Y:Nat->Nat}{m:Mem}{Z:Nat->Prop}{cs fk:List CC}(h:qz Y m Z cs fk):cs.length=fk.length:=by
 induction h<;>simp[*]
theorem qz.get{Y:Nat->Nat}{m:Mem}{Z:Nat->Prop}{cs fk:List CC}(h:qz Y m Z cs fk):∀(i:Nat)c c',cs[i]? =some c->fk[i]? =some c'->tv Y m Z none c c':=by
 induction h with
 |nil=>intro i c c' h;simp at h
 |cons h hr ih=>
  intro i c c' h1 h2;cases i with
  |zero=>simp at h1 h2;subst h1 h2;exact h
  |succ i=>exact ih i c c' (by simpa using h1) (by simpa using h2)
theorem qz.agg{Y:Nat->Nat}{m:Mem}{Z:Nat->Prop}{cs fk:List CC}(h:qz Y m Z cs fk):rJ Y m Z (.rv (.agg cs)) (.rv (.agg fk)):= .rv (.agg h.len h.get)
structure Obj.sm(o:Obj):Prop where
 t:o.Tc
 d:o.data.length<=64
 e:o.ak.length<=8
 q:o.ax.length<=8
 qd:∀q,q∈o.ax->q.data.length<=64
theorem Obj.sm.oD{o:Obj}(h:o.sm):o.oD:=⟨by have:=h.d;omega,by have:=h.e;omega,by have:=h.q;omega,λq hq=>by have:=h.qd q hq;omega⟩
theorem QY{es:List (ByteArray×Int)}{k:Nat}(h:k<es.length):dA (es.map gl) (k:Nat)=some [.val (.string es[k].1),.val (.int .i64 es[k].2)]:=by rw[bG,Tr,vR h];rfl
structure eA where
 has:Bool
 dG:Int
 bX:Int
def eA.enc(s:eA):List Dt:=[.val (.bool s.has),.val (.int .i64 s.dG),.val (.int .i64 s.bX)]
def y8(l:List eA):Dt:= .sl 3 (l.map eA.enc)
def Nt(l:List eA):RV:= .one (.ah (y8 l))
def ma(l:List eA):CV:= .rv (.one (.ah (y8 l)))
theorem bN{α:Type}(f:α->List Dt)(l:List α){k:Nat}(h:k<l.length):cF (aa (l.map f)) k=some ((f l[k]).map .ah):=by rw[aV,aa,Tr,Tr,vR h];rfl
theorem nU{α:Type}(f:α->List Dt)(l:List α)(k:Nat)(x:α):aX (aa (l.map f)) k ((f x).map .ah)=aa ((l.set k x).map f):=by rw[bb,aa,aa,abB,abB]
theorem o9:∀a:List UInt8,Op.bytesLess a a=false
 | []=>rfl
 |x::r=>by simp[Op.bytesLess,o9 r]
theorem sH:∀{a b c:List UInt8},Op.bytesLess a b=true->Op.bytesLess b c=true->Op.bytesLess a c=true
 |a,[],_,h,_=>by cases a<;>simp[Op.bytesLess]at h
 |_,_::_,[],_,h=>by simp[Op.bytesLess]at h
 | [],_::_,_::_,_,_=>rfl
 |x::a,y::b,z::c,h1,h2=>by
  simp only[Op.bytesLess,ab0,aae,decide_eq_true_eq,beq_iff_eq]at h1 h2|-;rcases h1 with h1|⟨rfl,h1⟩
  .rcases h2 with h2|⟨rfl,h2⟩
   .exact .inl (UInt8.lt_trans h1 h2)
   .exact .inl h1
  .rcases h2 with h2|⟨rfl,h2⟩
   .exact .inl h2
   .exact .inr ⟨rfl,sH h1 h2⟩
theorem Nu:∀a b:List UInt8,Op.bytesLess a b=true\/a=b\/Op.bytesLess b a=true
 | [],[]=>.inr (.inl rfl)
 | [],_::_=>.inl rfl
 |_::_,[]=>.inr (.inr rfl)
 |x::a,y::b=>by
  simp only[Op.bytesLess,ab0,aae,decide_eq_true_eq,beq_iff_eq,aea];by_cases h:x<y
  .exact .inl (.inl h)
  .by_cases h2:y<x
   .exact .inr (.inr (.inl h2))
   .have e:x=y:=by have h3:¬x.toNat<y.toNat:=h;have h4:¬y.toNat<x.toNat:=h2;exact UInt8.toNat_inj.1 om
    subst e;rcases Nu a b with h5|h5|h5
    .exact .inl (.inr ⟨rfl,h5⟩)
    .exact .inr (.inl ⟨rfl,h5⟩)
    .exact .inr (.inr (.inr ⟨rfl,h5⟩))
abbrev NE:=ByteArray×Int
def Bf(a b:ByteArray):Prop:=Op.bytesLess a.toList b.toList=true
def FV(es:List NE):Prop:=es.Pairwise λa b=>Bf a.1 b.1
def FW(a b:ByteArray):Bool:= !(Op.bytesLess a.toList b.toList||a.toList==b.toList)
theorem XQ{a b:ByteArray}(h:FW a b=true):Bf b a:=by
 unfold FW at h;simp only[abU,Bool.or_eq_false_iff,beq_eq_false_iff_ne]at h;rcases Nu a.toList b.toList with h1|h1|h1
 .rw[h.1]at h1;cases h1
 .exact absurd h1 h.2
 .exact h1
theorem UF{a b:ByteArray}(h:FW a b=false)(dy:a.toList≠b.toList):Bf a b:=by unfold FW at h;simp only[Bool.not_eq_false',ab0,beq_iff_eq]at h;exact h.elim id λh=>absurd h dy
structure Nv(es:List NE)(x:NE)(k:Nat)(d:Bool)(de:List NE):Prop where
 f:d=false->de=es.take k/\∀(j:Nat)e,j<k->es[j]? =some e->FW e.1 x.1=false
 t:d=true->∃i,i<k/\de=es.take i++x::(es.take k).drop i/\(∀(j:Nat)e,j<i->es[j]? =some e->FW e.1 x.1=false)/\∃e,es[i]? =some e/\FW e.1 x.1=true
theorem JV{es:List NE}{k:Nat}(h:k<es.length):es.take (k+1)=es.take k++ [es[k]]:=by rw[abG,vR h];rfl
theorem Nv.Co{es:List NE}{x:NE}{k:Nat}{de:List NE}(h:Nv es x k false de)(hk:k<es.length)(hg:FW es[k].1 x.1=true):Nv es x (k+1) true (de++ [x,es[k]]):=by
 obtain⟨h1,h2⟩:=h.f rfl;refine⟨λh=>(by cases h),λ_=>⟨k,ab6 k,?_,h2,es[k],vR hk,hg⟩⟩
 rw[JV hk,h1,List.drop_left' (by simp;omega)]
def iZ(x:NE):List NE->List NE
 | []=>[x]
 |e::r=>if FW e.1 x.1=true then x::e::r else e::iZ x r
theorem Dp{x:NE}:∀{a b:List NE},(∀e,e∈a->FW e.1 x.1=false)->iZ x (a++b)=a++iZ x b
 | [],_,_=>rfl
 |e::a,b,h=>by
  show iZ x (e::(a++b))=_;rw[iZ,if_neg (by rw[h e aC];simp),Dp λy hy=>h y (by simp[hy])]
  rfl
theorem QZ{x e:NE}{r:List NE}(h:FW e.1 x.1=true):iZ x (e::r)=x::e::r:=by rw[iZ,if_pos h]
theorem sI{x:NE}:∀{es:List NE}{e:NE},e∈iZ x es->e∈es\/e=x
 | [],e,h=>by simp[iZ]at h;exact .inr h
 |y::r,e,h=>by
  rw[iZ]at h;split at h
  .rcases aaL.1 h with h|h
   .exact .inr h
   .exact .inl h
  .rcases aaL.1 h with h|h
   .exact .inl (by simp[h])
   .rcases sI h with h|h
    .exact .inl (by simp[h])
    .exact .inr h
theorem Dq{x:NE}:∀es:List NE,(iZ x es).length=es.length+1
 | []=>rfl
 |y::r=>by
  rw[iZ];split
  .rfl
  .simp[Dq r]
theorem Nw{es:List NE}{x:NE}(hs:FV es)(dy:∀e,e∈es->e.1.toList≠x.1.toList):FV (iZ x es):=by
 induction es with
 |nil=>exact acX.2 ⟨aC,List.Pairwise.nil⟩
 |cons e r ih=>
  obtain⟨h1,h2⟩:=acX.1 hs;rw[iZ];split
  .rename_i hg;have hx:=XQ hg;refine acX.2 ⟨λy hy=>?_,hs⟩
   rcases aaL.1 hy with rfl|hy
   .exact hx
   .exact sH hx (h1 y hy)
  .rename_i hg;rw[ado]at hg;refine acX.2 ⟨λy hy=>?_,ih h2 λy hy=>dy y (by simp[hy])⟩
   rcases sI hy with hy|rfl
   .exact h1 y hy
   .exact UF hg (dy e aC)
def Bg(es:List NE)(name:ByteArray)(n:Int):Prop:=(∃e,e∈es/\e.1.toList=name.toList/\n=e.2)\/(n= -1/\∀e,e∈es->e.1.toList≠name.toList)
def fW(es:List NE)(name:ByteArray):Int:=match es.find? (λe=>decide (e.1.toList=name.toList))with
 |some e=>e.2
 |none=>-1
theorem xl{es:List NE}(hs:FV es){a b:NE}(ha:a∈es)(hb:b∈es)(h:a.1.toList=b.1.toList):a=b:=by
 obtain⟨i,hi⟩:=aab ha;obtain⟨j,hj⟩:=aab hb;obtain⟨Je,eW⟩:=Ki.1 hi;obtain⟨yX,l4⟩:=Ki.1 hj;have hp:=abW.1 hs;rcases adj i j with h3|h3|h3
 .have:=hp i j Je yX h3;rw[eW,l4,Bf,h,o9]at this;cases this
 .subst h3;rw[hi]at hj;cases hj;rfl
 .have:=hp j i yX Je h3;rw[eW,l4,Bf,h,o9]at this;cases this
theorem i3(es:List NE)(name:ByteArray):Bg es name (fW es name):=by
 unfold fW;cases h:es.find? (λe=>decide (e.1.toList=name.toList))with
 |some e=>
  have h1:=List.find?_some h;exact .inl ⟨e,List.mem_of_find?_eq_some h,by simpa using h1,rfl⟩
 |none=>exact .inr ⟨rfl,λe he=>by simpa using adT.1 h e he⟩
theorem vo{es:List NE}(hs:FV es){name:ByteArray}{n k:Int}(h:Bg es name n)(h2:Bg es name k):n=k:=by
 rcases h with⟨e,he,h3,rfl⟩|⟨rfl,h3⟩
 .rcases h2 with⟨e',mT,h4,rfl⟩|⟨rfl,h4⟩
  .rw[xl hs he mT (h3.trans h4.symm)]
  .exact absurd h3 (h4 e he)
 .rcases h2 with⟨e',mT,h4,rfl⟩|⟨rfl,h4⟩
  .exact absurd h4 (h3 e' mT)
  .rfl
def noD:Dt:= .val (.slice none 0 0)
structure Ob where
 ag:Int
 data:List (List Dt)
 ak:List (List Dt)
 target:ByteArray
 bs:Int
 ax:Dt
 be:Int
 am:Int
 up:Int
def Ob.enc(o:Ob):List Dt:=[.val (.int .i64 o.ag),.sl 1 o.data,.sl 2 o.ak,.val (.string o.target),.val (.int .i64 o.bs),o.ax,.val (.int .i64 o.be),.val (.int .i64 o.am),.val (.int .i64 o.up)]
def Q0(l:List Ob):Dt:= .sl 9 (l.map Ob.enc)
def Bh(l:List Ob):CV:= .rv (.one (.ah (Q0 l)))
def pa(l:List Ob)(k ag:Int):Bool:=decide (k>=0)&&(decide (k<l.length)&&match l[k.toNat]? with|none=>false|some o=>o.ag !=0&&(ag==0||o.ag==ag))
theorem nt{l:List Ob}{k:Nat}(h:k<l.length):dA (l.map Ob.enc) (k:Nat)=some [.val (.int .i64 l[k].ag),.sl 1 l[k].data,.sl 2 l[k].ak,.val (.string l[k].target),.val (.int .i64 l[k].bs),l[k].ax,.val (.int .i64 l[k].be),.val (.int .i64 l[k].am),.val (.int .i64 l[k].up)]:=by rw[bG,Tr,vR h];rfl
theorem Nx{l:List Ob}{k:Int}(h:pa l k 0=true):∃n:Nat,k=n/\n<l.length:=by
 unfold pa at h;by_cases h0:k>=0
 .obtain⟨n,rfl⟩:∃n:Nat,k=n:=⟨k.toNat,om⟩;by_cases hn:n<l.length
  .exact⟨n,rfl,hn⟩
  .simp[hn]at h
 .simp[h0]at h
structure XR(n:Nat)(ag:Int)(ak:List (List Dt)):Prop where
 ex:∃es:List NE,ak=es.map gl/\FV es/\(∀e,e∈es->0<=e.2/\e.2<(n:Int))/\(ag≠2->es=[])
def ou:List Dt->NE
 | [.val (.string s),.val (.int .i64 n)]=>(s,n)
 |_=>(⟨#[]⟩,0)
theorem nV:∀es:List NE,(es.map gl).map ou=es
 | []=>rfl
 |e::r=>by show(ou (gl e))::((r.map gl).map ou)=_;rw[nV r];rfl
def XS:LC->LC
 | .seq a _=>a
 |x=>x
def bP:LC->LC
 | .seq _ b=>b
 |x=>x
def rc:LC->LC
 | .cX a=>a
 |x=>x
structure bI where
 bp:Int
 dp:Int
def bI.enc(o:bI):List Dt:=[.val (.int .i64 o.bp),.val (.int .i64 o.dp)]
structure bl where
 aO:Bool
 fenced:Bool
 code:Int
 aQ:List eA
def bl.enc(p:bl):List Dt:=[.val (.bool p.aO),.val (.bool p.fenced),.val (.int .i64 p.code),y8 p.aQ]
def fh(l:List bI):Dt:= .sl 2 (l.map bI.enc)
def gE(l:List bl):Dt:= .sl 4 (l.map bl.enc)
def eJ(l:List Obj)(op:List bI)(ps:List bl):CV:= .rv (.agg [.ah (dt l),.ah (fh op),.ah (gE ps)])
inductive fv(Y:Nat->Nat)(m:Mem)(Z:Nat->Prop)(p:Option Nat):List CC->List CC->Prop
 |nil:fv Y m Z p [] []
 |cons {c c':CC} {r r':List CC} (h:tv Y m Z p c c') (hr:fv Y m Z p r r'):fv Y m Z p (c::r) (c'::r')
theorem fv.get{Y:Nat->Nat}{m:Mem}{Z:Nat->Prop}{p:Option Nat}{cs fk:List CC}(h:fv Y m Z p cs fk):∀(i:Nat)c',fk[i]? =some c'->∃c,cs[i]? =some c/\tv Y m Z p c c':=by
 induction h with
 |nil=>intro i c' h;simp at h
 |cons h hr ih=>
  intro i c' h2;cases i with
  |zero=>simp at h2;subst h2;exact⟨_,rfl,h⟩
  |succ i=>simpa using ih i c' (by simpa using h2)
theorem fv.var{Y:Nat->Nat}{m:Mem}{Z:Nat->Prop}{id:Nat}{cs fk:List CC}(h:fv Y m Z (some id) cs fk):mH Y m Z id (.var cs) (.var fk):= .var h.get
def z3:List CC:=[.aM,.aM,.aM]
theorem bj(ds:List (List Dt)):(aa ds).length=ds.length:=by simp[aa]
theorem dF(Y:Nat->Nat)(ds:List (List Dt)):(aa ds).map (λcs=>cs.map (CC.bh Y))=aa ds:=by simp[aa,adA,CC.bh]
theorem XT{Y:Nat->Nat}{m:Mem}{Z:Nat->Prop}{id:Nat}(l:List bl)(p:bl){c:CC}{X:List (List CC)}(hc:tv Y m Z (some id) c (.ah (y8 p.aQ)))(hX:X=aa (l.map bl.enc)++ [[.ah (.val (.bool p.aO)),.ah (.val (.bool p.fenced)),.ah (.val (.int .i64 p.code)),c]]):mH Y m Z id (.row 4 X) (.row 4 (aa ((l++ [p]).map bl.enc))):=by
 subst hX;have e:aa ((l++ [p]).map bl.enc)=aa (l.map bl.enc)++ [p.enc.map .ah]:=by simp[aa]
 rw[e];refine .JP (dF Y _) rfl λj c1 c2 h1 h2=>?_
 match j,h1,h2 with
 |0,h1,h2=>cases h1;cases h2;exact .bh (.ah _)
 |1,h1,h2=>cases h1;cases h2;exact .bh (.ah _)
 |2,h1,h2=>cases h1;cases h2;exact .bh (.ah _)
 |3,h1,h2=>cases h1;cases h2;exact hc
 |n+4,h1,h2=>simp at h1
structure Mk where
 O:List Bool
 P:List Bool
def dz(L:List Bool)(i:Nat):Prop:=L[i]? =some true
def vO(l:List Obj)(z:Int)(i:Nat):Prop:=z=i/\∃o,l[i]? =some o/\o.ag≠0
def vP(ops:List bI)(z:Int)(c:Nat):Prop:=z=c/\c<ops.length
def sE(o:Obj)(z:Int):Prop:=∃nm:ByteArray,gl (nm,z)∈o.ak
def sQ(o:Obj)(z:Int):Prop:=∃q,q∈o.ax/\q.has=true/\q.dG=z
structure Step(l:List Obj)(ops:List bI)(E:Nat->Prop)(a b:Mk):Prop where
 lo:b.O.length=a.O.length
 lp:b.P.length=a.P.length
 mo:∀i,dz a.O i->dz b.O i
 mp:∀c,dz a.P c->dz b.P c
 co:∀i o,dz b.O i->¬dz a.O i->¬E i->l[i]? =some o->(∀z n,sE o z->vO l z n->dz b.O n)/\(∀z c,sQ o z->vP ops z c->dz b.P c)
 cp:∀c o,dz b.P c->¬dz a.P c->ops[c]? =some o->∀n,vO l o.bp n->dz b.O n
structure Cl(l:List Obj)(ops:List bI)(RO RP:Nat->Prop):Prop where
 e:∀i o,RO i->l[i]? =some o->∀z n,sE o z->vO l z n->RO n
 q:∀i o,RO i->l[i]? =some o->∀z c,sQ o z->vP ops z c->RP c
 p:∀c o,RP c->ops[c]? =some o->∀n,vO l o.bp n->RO n
def Qc(RO RP:Nat->Prop)(a:Mk):Prop:=(∀i,dz a.O i->RO i)/\(∀c,dz a.P c->RP c)
def eB(L:List Bool):Nat:=(L.filter (λb=>!b)).length
def Mk.mu(a:Mk):Nat:=eB a.O+eB a.P
theorem Step.refl{l:List Obj}{ops:List bI}{E:Nat->Prop}(a:Mk):Step l ops E a a:=
 ⟨rfl,rfl,λ_ h=>h,λ_ h=>h,λ_ _ h h2=>absurd h h2,λ_ _ h h2=>absurd h h2⟩
theorem Step.trans{l:List Obj}{ops:List bI}{E:Nat->Prop}{a b c:Mk}(h1:Step l ops E a b)(h2:Step l ops (λ_=>False) b c):Step l ops E a c:=by
 refine⟨h2.lo.trans h1.lo,h2.lp.trans h1.lp,λi h=>h2.mo i (h1.mo i h),λi h=>h2.mp i (h1.mp i h),λi o hi hn hE ho=>?_,λi o hi hn ho n hv=>?_⟩
 .by_cases hb:dz b.O i
  .obtain⟨k1,k2⟩:=h1.co i o hb hn hE ho;exact⟨λz n hz hv=>h2.mo n (k1 z n hz hv),λz c hz hv=>h2.mp c (k2 z c hz hv)⟩
  .exact h2.co i o hi hb (λh=>h) ho
 .by_cases hb:dz b.P i
  .exact h2.mo n (h1.cp i o hb hn ho n hv)
  .exact h2.cp i o hi hb ho n hv
theorem lj:∀(a b:List Bool),b.length=a.length->(∀i,dz a i->dz b i)->eB b<=eB a
 | [],[],_,_=>Yj _
 | [],_::_,h,_=>by simp at h
 |_::_,[],h,_=>by simp at h
 |x::a,y::b,h,hm=>by
  have ih:=lj a b (by simpa using h) (λi hi=>by simpa[dz]using hm (i+1) (by simpa[dz]using hi))
  have h0:x=true->y=true:=λhx=>by simpa[dz]using hm 0 (by simp[dz,hx])
  unfold eB at ih|-;cases x<;>cases y<;>simp at h0|-<;>omega
theorem rd:∀(a:List Bool)(n:Nat),a[n]? =some false->eB (a.set n true)+1=eB a
 | [],n,h=>by simp at h
 |x::a,0,h=>by simp at h;subst h;simp[eB]
 |x::a,n+1,h=>by
  have ih:=rd a n (by simpa using h)
  unfold eB at ih|-;cases x<;>simp at ih|-<;>omega
theorem Ib{L:List Bool}{n i:Nat}(h:dz L i):dz (L.set n true) i:=by
 unfold dz at h|-;rw[abb];split
 .rename_i e;subst e;have:=(Ki.1 h).1;simp[this]
 .exact h
theorem sJ{L:List Bool}{n:Nat}(h:n<L.length):dz (L.set n true) n:=by unfold dz;simp[h]
theorem lE{L:List Bool}{n i:Nat}(h:dz (L.set n true) i):dz L i\/i=n:=by
 unfold dz at h|-;rw[abb]at h;split at h
 .rename_i e;exact .inr e.symm
 .exact .inl h
structure PO(l:List Obj)(ops:List bI)(z:Int)(a b:Mk):Prop where
 st:Step l ops (λ_=>False) a b
 on:∀n,vO l z n->dz b.O n
 sd:∀RO RP,Cl l ops RO RP->Qc RO RP a->(∀n,vO l z n->RO n)->Qc RO RP b
structure PP(l:List Obj)(ops:List bI)(z:Int)(a b:Mk):Prop where
 st:Step l ops (λ_=>False) a b
 on:∀c,vP ops z c->dz b.P c
 sd:∀RO RP,Cl l ops RO RP->Qc RO RP a->(∀c,vP ops z c->RP c)->Qc RO RP b
theorem PO.none{l:List Obj}{ops:List bI}{z:Int}{a:Mk}(h:∀n,vO l z n->dz a.O n):PO l ops z a a:=⟨.refl a,h,λ_ _ _ h _=>h⟩
theorem PP.none{l:List Obj}{ops:List bI}{z:Int}{a:Mk}(h:∀n,vP ops z n->dz a.P n):PP l ops z a a:=⟨.refl a,h,λ_ _ _ h _=>h⟩
structure zU(l:List Obj)(ops:List bI)(n:Nat)(a b:Mk)(nE nQ:Nat)(es:List (ByteArray×Int))(qs:List dn):Prop where
 st:Step l ops (λi=>i=n) a b
 on:dz b.O n
 e:∀j e,j<nE->es[j]? =some e->∀m,vO l e.2 m->dz b.O m
 q:∀j q,j<nQ->qs[j]? =some q->q.has=true->∀c,vP ops q.dG c->dz b.P c
 sd:∀RO RP,Cl l ops RO RP->Qc RO RP a->RO n->Qc RO RP b
theorem zU.start{l:List Obj}{ops:List bI}{n:Nat}{a:Mk}(hn:n<a.O.length)(es:List (ByteArray×Int))(qs:List dn):zU l ops n a ⟨a.O.set n true,a.P⟩ 0 0 es qs:=by
 refine⟨⟨aC,rfl,λi h=>Ib h,λi h=>h,λi o h h2 h3=>?_,λ_ _ h h2=>absurd h h2⟩,sJ hn,λj e h=>absurd h (aa9 j),λj e h=>absurd h (aa9 j),λRO RP _ h hr=>⟨λi hi=>?_,h.2⟩⟩
 .rcases lE h with h|h
  .exact absurd h h2
  .exact absurd h h3
 .rcases lE hi with hi|rfl
  .exact h.1 i hi
  .exact hr
theorem zU.XU{l:List Obj}{ops:List bI}{n:Nat}{a b c:Mk}{j:Nat}{es:List (ByteArray×Int)}{qs:List dn}(h:zU l ops n a b j 0 es qs){e:ByteArray×Int}(he:es[j]? =some e)(hc:PO l ops e.2 b c){o:Obj}(ho:l[n]? =some o)(ol:o.ak=es.map gl):zU l ops n a c (j+1) 0 es qs:=by
 have hse:sE o e.2:=⟨e.1,by rw[ol];exact adP (Tu he)⟩
 refine⟨h.st.trans hc.st,hc.st.mo n h.on,λi x hi hx m hv=>?_,λi x hi=>absurd hi (aa9 i),λRO RP iB iU hr=>hc.sd RO RP iB (h.sd RO RP iB iU hr) λm hv=>iB.e n o hr ho e.2 m hse hv⟩
 rcases aag i j with p5|p5
 .exact hc.st.mo m (h.e i x p5 hx m hv)
 .have:i=j:=om;subst this;rw[he]at hx;cases hx;exact hc.on m hv
theorem zU.XV{l:List Obj}{ops:List bI}{n:Nat}{a b c:Mk}{k j:Nat}{es:List (ByteArray×Int)}{qs:List dn}(h:zU l ops n a b k j es qs){q:dn}(hq:qs[j]? =some q)(hh:q.has=true)(hc:PP l ops q.dG b c){o:Obj}(ho:l[n]? =some o)(hqs:o.ax=qs):zU l ops n a c k (j+1) es qs:=by
 have hsq:sQ o q.dG:=⟨q,by rw[hqs];exact Tu hq,hh,rfl⟩
 refine⟨h.st.trans hc.st,hc.st.mo n h.on,λi x hi hx m hv=>hc.st.mo m (h.e i x hi hx m hv),λi x hi hx XW m hv=>?_,λRO RP iB iU hr=>hc.sd RO RP iB (h.sd RO RP iB iU hr) λm hv=>iB.q n o hr ho q.dG m hsq hv⟩
 rcases aag i j with p5|p5
 .exact hc.st.mp m (h.q i x p5 hx XW m hv)
 .have:i=j:=om;subst this;rw[hq]at hx;cases hx;exact hc.on m hv
theorem zU.XX{l:List Obj}{ops:List bI}{n:Nat}{a b:Mk}{k j:Nat}{es:List (ByteArray×Int)}{qs:List dn}(h:zU l ops n a b k j es qs){q:dn}(hq:qs[j]? =some q)(hh:q.has=false):zU l ops n a b k (j+1) es qs:=by
 refine⟨h.st,h.on,h.e,λi x hi hx XW m hv=>?_,h.sd⟩
 rcases aag i j with p5|p5
 .exact h.q i x p5 hx XW m hv
 .have:i=j:=om;subst this;rw[hq]at hx;cases hx;rw[hh]at XW;cases XW
theorem zU.iu{l:List Obj}{ops:List bI}{n:Nat}{a b:Mk}{es:List (ByteArray×Int)}{qs:List dn}(h:zU l ops n a b es.length qs.length es qs){o:Obj}(ho:l[n]? =some o)(hk:o.ag≠0)(ol:o.ak=es.map gl)(hqs:o.ax=qs):PO l ops (n:Int) a b:=by
 refine⟨⟨h.st.lo,h.st.lp,h.st.mo,h.st.mp,λi x hi QG _ hx=>?_,h.st.cp⟩,λm hv=>?_,λRO RP iB iU hr=>h.sd RO RP iB iU (hr n ⟨rfl,o,ho,hk⟩)⟩
 .by_cases iU:i=n
  .subst iU;rw[ho]at hx;cases hx;refine⟨λz m⟨nm,hm⟩hv=>?_,λz c⟨q,hq,hh,hz⟩hv=>?_⟩
   .rw[ol]at hm;obtain⟨e,he,nT⟩:=aaz.1 hm;have:e.2=z:=by simp[gl]at nT;exact nT.2
    subst this;obtain⟨j,hj⟩:=aab he;exact h.e j e (Ki.1 hj).1 hj m hv
   .rw[hqs]at hq;obtain⟨j,hj⟩:=aab hq;subst hz;exact h.q j q (Ki.1 hj).1 hj hh c hv
  .exact h.st.co i x hi QG iU hx
 .have:m=n:=by have:=hv.1;omega
  subst this;exact h.on
theorem PP.of{l:List Obj}{ops:List bI}{a b:Mk}{c:Nat}(hc:c<a.P.length){o:bI}(ho:ops[c]? =some o)(h:PO l ops o.bp ⟨a.O,a.P.set c true⟩ b):PP l ops (c:Int) a b:=by
 have lZ:Step l ops (λ_=>False) a b:=by
  refine⟨h.st.lo,by have:=h.st.lp;simpa using this,h.st.mo,λi hi=>h.st.mp i (Ib hi),λi x hi QG=>h.st.co i x hi QG,λi x hi QG hx n hv=>?_⟩
  by_cases hic:i=c
  .subst hic;rw[ho]at hx;cases hx;exact h.on n hv
  .exact h.st.cp i x hi (λhs=>(lE hs).elim QG hic) hx n hv
 refine⟨lZ,λd hd=>?_,λRO RP iB iU hr=>?_⟩
 .have:d=c:=by have:=hd.1;omega
  subst this;exact h.st.mp d (sJ hc)
 .have hrc:RP c:=hr c ⟨rfl,(Ki.1 ho).1⟩;exact h.sd RO RP iB ⟨iU.1,λi hi=>(lE hi).elim (iU.2 i) λe=>e▸hrc⟩ λn hv=>iB.p c o hrc ho n hv
def c142:LF:= ⟨88,[],(.seq (.seq (.ai [qm 9 1,qu 10 (.aL .lss 9 (qi 0)),qm 11 10,qg 12 (.aN 1) 11 false,qg 13 (.aN 0) 11 false,qg 14 (.aR 13) 11 false,qg 15 (.bY 1 14) 11 false,qg 16 (.load false 1 15) 11 false,qg 17 (.len 1 16) 11 false,qg 18 (.aL .geq 12 17) 11 false,qu 19 (.pick 11 (qb true) 18),qm 20 19,qg 21 (.aN 0) 20 false,qg 22 (.aR 21) 20 false,qg 23 (.bY 1 22) 20 false,qg 24 (.load false 1 23) 20 false,qg 25 (.aN 1) 20 false,qg 26 (.cw 1 24 25) 20 false,qg 27 (.load false 1 26) 20 false,qu 28 (.pick 20 (qb true) 27),qm 29 28,qg 30 (.aN 0) 29 false,qg 31 (.aR 30) 29 false,qg 32 (.bY 0 31) 29 false,qg 33 (.load false 1 32) 29 false,qg 34 (.aR 33) 29 false,qg 35 (.bY 0 34) 29 false,qg 36 (.load false 1 35) 29 false,qg 37 (.aN 1) 29 false,qg 38 (.cw 9 36 37) 29 false,qg 39 (.bY 0 38) 29 false,qg 40 (.load false 1 39) 29 false,qg 41 (.aL .eql 40 (qi 0)) 29 false,qu 42 (.pick 29 (qb true) 41)]) (.cond 42 .ret .skip)) (.seq (.ai [qm 43 0,qu 44 (.aR 43),qf 45 1 44,ql 46 45,qm 47 1,qu 48 (.cw 1 46 47),qw (.store 1 48 (qb true))]) (.seq (.ai [qm 49 0,qu 50 (.aR 49),qf 51 0 50,ql 52 51,qu 53 (.aR 52),qf 54 0 53,ql 55 54,qm 56 1,qu 57 (.cw 9 55 56),qm 4 57]) (.seq (.seq (.ai [qm 58 4,qu 59 (.aR 58),qf 60 2 59,ql 61 60,qu 62 (.len 1 61),qu 63 (.aN (qi 0))]) (.block 0 (.loop (.seq (.ai [qu 64 (.aL .lss 63 62)]) (.seq (.cond 64 .skip (.exit 0)) (.seq (.block 1 (.seq (.ai [qu 65 (.cw 2 61 63),qL 66 2 65,qu 6 (.alloc [(.ah (.val (.string ⟨#[]⟩))),qd 0]),qw (.store 2 6 66)]) (.ai [qm 67 0,qf 68 1 6,ql 69 68,qu 70 (qc 142 [67,69])]))) (.ai [qu 71 (.aL .add 63 (qi 1)),qm 63 71]))))))) (.seq (.ai [qm 72 4,qu 73 (.aR 72),qf 74 5 73,ql 75 74,qu 76 (.len 1 75),qu 77 (.aN (qi 0))]) (.block 2 (.loop (.seq (.ai [qu 78 (.aL .lss 77 76)]) (.seq (.cond 78 .skip (.exit 2)) (.seq (.block 3 (.seq (.ai [qu 79 (.cw 4 75 77),qL 80 4 79,qu 8 (.alloc [.aM,(.ah (.val (.bool false))),qd 0,qd 0]),qw (.store 4 8 80)]) (.seq (.ai [qf 81 1 8,ql 82 81]) (.cond 82 (.ai [qm 83 0,qf 84 2 8,qL 85 2 84,qu 86 (qc 143 [83,85])]) .skip)))) (.ai [qu 87 (.aL .add 77 (qi 1)),qm 77 87])))))))))))⟩
def c143:LF:= ⟨48,[],(.seq (.ai [qu 3 (.box 1)]) (.seq (.seq (.bV [qf 4 0 3,ql 5 4,qu 6 (.aL .lss 5 (qi 0)),qm 7 6,qg 8 (.bY 0 3) 7 false,qg 9 (.load false 1 8) 7 false,qg 10 (.aN 0) 7 false,qg 11 (.aR 10) 7 false,qg 12 (.bY 2 11) 7 false,qg 13 (.load false 1 12) 7 false,qg 14 (.len 1 13) 7 false,qg 15 (.aL .geq 9 14) 7 false,qu 16 (.pick 7 (qb true) 15),qm 17 16,qg 18 (.aN 0) 17 false,qg 19 (.aR 18) 17 false,qg 20 (.bY 2 19) 17 false,qg 21 (.load false 1 20) 17 false,qg 22 (.bY 0 3) 17 false,qg 23 (.load false 1 22) 17 false,qg 24 (.cw 1 21 23) 17 false,qg 25 (.load false 1 24) 17 false,qu 26 (.pick 17 (qb true) 25)] [eE 23 0 .nil]) (.cond 26 .ret .skip)) (.seq (.bV [qm 27 0,qu 28 (.aR 27),qf 29 2 28,ql 30 29,qf 31 0 3,ql 32 31,qu 33 (.cw 1 30 32),qw (.store 1 33 (qb true))] [(eE 7 0 (.cons 7 (some []) .nil))]) (.bV [qm 34 0,qm 35 0,qu 36 (.aR 35),qf 37 0 36,ql 38 37,qu 39 (.aR 38),qf 40 1 39,ql 41 40,qf 42 0 3,ql 43 42,qu 44 (.cw 2 41 43),qf 45 0 44,ql 46 45,qu 47 (qc 142 [34,46])] [(eE 13 0 (.cons 13 (some []) .nil))]))))⟩
def bE(b:Bool):List Dt:=[.val (.bool b)]
theorem l142:bz prog f142=some c142:=by kernel_rfl
theorem l143:bz prog Tryz.f143=some c143:=by kernel_rfl
def y9(l:List Obj)(ops:List bI)(a:Mk):Prop:=a.O.length=l.length/\a.P.length=ops.length
theorem t7{L:List Bool}{n:Nat}(h:n<L.length):cF (aa (L.map bE)) n=some [.ah (.val (.bool L[n]))]:=bN bE L h
theorem zV{L:List Bool}{n:Nat}(h:n<L.length):d5 (n:Int) (lenOf (aa (L.map bE)).length 0 none)=some n:=cy (by show n<(aa (L.map bE)).length;rw[bj,N7];exact h)
theorem Ny{L:List Bool}{n:Nat}:aX (aa (L.map bE)) n [CC.ah (.val (.bool true))]=aa ((L.set n true).map bE):=nU bE L n true
theorem zU.Td{l:List Obj}{ops:List bI}{n:Nat}{a b:Mk}{k j:Nat}{es:List (ByteArray×Int)}{qs:List dn}(h:zU l ops n a b k j es qs):b.mu<=(⟨a.O.set n true,a.P⟩:Mk).mu:=by
 refine Nat.add_le_add (lj _ _ (by rw[aaI];exact h.st.lo) λi hi=>?_) (lj _ _ h.st.lp h.st.mp)
 rcases lE hi with hi|rfl
 .exact h.st.mo i hi
 .exact h.on
theorem Q1{qs:List dn}{k:Nat}(h:k<qs.length):dA (qs.map dn.enc) (k:Nat)=some [.sl 1 qs[k].data,.val (.bool qs[k].has),.val (.int .i64 qs[k].dG),.val (.int .i64 qs[k].bX)]:=by rw[bG,Tr,vR h];rfl
structure StM where
 j:Nat
 b:Mk
def vN(l:List Obj)(ops:List bI)(ps:List bl)(a:Mk):Mem:=
 [.var [.ptr 1 0,.row 2 1 0 none,.row 3 1 0 none],.var [.row 4 9 0 none,.row 5 2 0 none,.row 6 4 0 none],.row 1 (aa (a.O.map bE)),.row 1 (aa (a.P.map bE)),.row 9 (aa (l.map Obj.enc)),.row 2 (aa (ops.map bI.enc)),.row 4 (aa (ps.map bl.enc))]
theorem xm{l:List Obj}{ops:List bI}{ps:List bl}{a:Mk}{f:Nat}{args:List CV}{Q:Mk->Prop}(h:aq prog f args (vN l ops ps a) (λr m=>∃b,Q b/\r= .bx []/\m=vN l ops ps b))(x:Bk)(eY:args=args.map (CV.bh (sg [0,1,2,3,4,5,6] 8))){K:CV->Mem->Prop}(hK:∀b,Q b->K (.bx []) [.var [.ptr 1 0,.row 2 1 0 none,.row 3 1 0 none],.var [.row 4 9 0 none,.row 5 2 0 none,.row 6 4 0 none],.row 1 (aa (b.O.map bE)),.row 1 (aa (b.P.map bE)),.row 9 (aa (l.map Obj.enc)),.row 2 (aa (ops.map bI.enc)),.row 4 (aa (ps.map bl.enc)),x]):
  aq prog f args [.var [.ptr 1 0,.row 2 1 0 none,.row 3 1 0 none],.var [.row 4 9 0 none,.row 5 2 0 none,.row 6 4 0 none],.row 1 (aa (a.O.map bE)),.row 1 (aa (a.P.map bE)),.row 9 (aa (l.map Obj.enc)),.row 2 (aa (ops.map bI.enc)),.row 4 (aa (ps.map bl.enc)),x] K:=by
 refine bw [0,1,2,3,4,5,6] 8 rfl rfl rfl rfl (args0:=args) eY (λi b' hi=>?_) h (λr m1 hr=>?_)
 .match i,hi with
  |0,hi=>cases hi;exact .inr ⟨λh=>h,_,rfl,.eq rfl aC⟩
  |1,hi=>cases hi;exact .inr ⟨λh=>h,_,rfl,.eq rfl aC⟩
  |2,hi=>cases hi;exact .inr ⟨λh=>h,_,rfl,.bM rfl⟩
  |3,hi=>cases hi;exact .inr ⟨λh=>h,_,rfl,.bM rfl⟩
  |4,hi=>cases hi;exact .inr ⟨λh=>h,_,rfl,.bM rfl⟩
  |5,hi=>cases hi;exact .inr ⟨λh=>h,_,rfl,.bM rfl⟩
  |6,hi=>cases hi;exact .inr ⟨λh=>h,_,rfl,.bM rfl⟩
  |n+7,hi=>simp[vN]at hi
 .obtain⟨b,hb,rfl,rfl⟩:=hr;refine⟨Yj _,?_⟩;have e2:(Bk.row 1 (aa (b.O.map bE))).bh (sg [0,1,2,3,4,5,6] 8)= .row 1 (aa (b.O.map bE)):=by simp only[Bk.bh,dF]
  have e3:(Bk.row 1 (aa (b.P.map bE))).bh (sg [0,1,2,3,4,5,6] 8)= .row 1 (aa (b.P.map bE)):=by simp only[Bk.bh,dF]
  show K _ [.var [.ptr 1 0,.row 2 1 0 none,.row 3 1 0 none],.var [.row 4 9 0 none,.row 5 2 0 none,.row 6 4 0 none],(Bk.row 1 (aa (b.O.map bE))).bh (sg [0,1,2,3,4,5,6] 8),(Bk.row 1 (aa (b.P.map bE))).bh (sg [0,1,2,3,4,5,6] 8),(Bk.row 9 (aa (l.map Obj.enc))).bh (sg [0,1,2,3,4,5,6] 8),(Bk.row 2 (aa (ops.map bI.enc))).bh (sg [0,1,2,3,4,5,6] 8),(Bk.row 4 (aa (ps.map bl.enc))).bh (sg [0,1,2,3,4,5,6] 8),x];have e4:(Bk.row 9 (aa (l.map Obj.enc))).bh (sg [0,1,2,3,4,5,6] 8)= .row 9 (aa (l.map Obj.enc)):=by simp only[Bk.bh,dF]
  have e5:(Bk.row 2 (aa (ops.map bI.enc))).bh (sg [0,1,2,3,4,5,6] 8)= .row 2 (aa (ops.map bI.enc)):=by simp only[Bk.bh,dF]
  have e6:(Bk.row 4 (aa (ps.map bl.enc))).bh (sg [0,1,2,3,4,5,6] 8)= .row 4 (aa (ps.map bl.enc)):=by simp only[Bk.bh,dF]
  rw[e2,e3,e4,e5,e6];exact hK b hb
theorem FX(l:List Obj)(ops:List bI)(ps:List bl)(g:∀o,o∈l->o.sm)(N:Nat)(V3:∀a z,y9 l ops a->a.mu<N->aq prog 142 [.rv (.one (.ptr 0 0)),an .i64 z] (vN l ops ps a) (λr m=>∃b,PO l ops z a b/\r= .bx []/\m=vN l ops ps b))(ihP:∀a z w,y9 l ops a->a.mu<N->aq prog 143 [.rv (.one (.ptr 0 0)),.rv (.agg [.ah (.val (.int .i64 z)),.ah (.val (.int .i64 w))])] (vN l ops ps a) (λr m=>∃b,PP l ops z a b/\r= .bx []/\m=vN l ops ps b))(a:Mk)(z:Int)(hbs:y9 l ops a)(XY:a.mu<=N):body prog c142 [.rv (.one (.ptr 0 0)),an .i64 z] (vN l ops ps a) (λr m=>∃b,PO l ops z a b/\r= .bx []/\m=vN l ops ps b):=by
 have hlen:∀L:List Bool,(aa (L.map bE)).length=L.length:=λL=>by rw[bj,N7]
 obtain⟨hO,hP⟩:=hbs;refine aP (λh=>?_) (λh0=>?_)
 .exact⟨a,.none λn hv=>by have:=hv.1;have h:z<0:=h;omega,rfl,rfl⟩
 obtain⟨n,rfl⟩:∃n:Nat,z=n:=⟨z.toNat,by have h:¬z<0:=h0;omega⟩
 refine aP (λh=>?_) (λh1=>?_)
 .refine⟨a,.none λm hv=>?_,rfl,rfl⟩
  obtain⟨hz,o,ho,_⟩:=hv;have h:(n:Int)>=((aa (a.O.map bE)).length:Int):=h;rw[hlen]at h;have:=(Ki.1 ho).1;omega
 have hn:n<a.O.length:=by have h:¬(n:Int)>=((aa (a.O.map bE)).length:Int):=h1;rw[hlen]at h;omega
 have jT:n<l.length:=om;refine af (zV hn) ?_;refine af (t7 hn) ?_;refine aJ (λh2=>?_) (λh2=>?_)
 .refine⟨a,.none λm hv=>?_,rfl,rfl⟩
  have:m=n:=by have:=hv.1;omega
  subst this;exact(vR hn).trans (congrArg some h2)
 have Nz:d5 (n:Int) (lenOf (aa (l.map Obj.enc)).length 0 none)=some n:=cy (by show n<(aa (l.map Obj.enc)).length;rw[bj,N7];exact jT)
 have Qd:=bN Obj.enc l jT;have A0:=vR jT;have Fm:=g _ (aay jT);generalize l[n]=o at Qd A0 Fm;obtain⟨ag,data,ak,target,bs,ax,be,am,up⟩:=o;obtain⟨es,rfl⟩:∃es:List (ByteArray×Int),ak=es.map gl:=Fm.t.2.1;refine af Nz ?_;refine af Qd ?_;refine bu (λh3=>?_) (λh3=>?_)
 .refine⟨a,.none λm hv=>?_,rfl,rfl⟩
  obtain⟨hz,o2,ib,hk⟩:=hv;have:m=n:=om;subst this;rw[A0]at ib;cases ib;exact absurd h3 hk
 have h3:ag≠0:=h3;have M4:es.length<=8:=by have:=Fm.e;simpa using this
 have Ia:ax.length<=8:=Fm.q;have sK:=zU.start (l:=l) (ops:=ops) hn es ax;have XZ:(⟨a.O.set n true,a.P⟩:Mk).mu<N:=by have:=rd a.O n ((vR hn).trans (congrArg some h2));have XY:eB a.O+eB a.P<=N:=XY;show eB (a.O.set n true)+eB a.P<N;omega
 refine af (zV hn) ?_;refine af (t7 hn) ?_;refine af Nz ?_;refine af Qd ?_;refine ba (λ(s:StM)=>s.j<=es.length/\zU l ops n a s.b s.j 0 es ax) [0,4,61,62] (λs=>[(63,an .i64 (s.j:Nat))]) (λs=>[.var [.ptr 1 0,.row 2 1 0 none,.row 3 1 0 none],.var [.row 4 9 0 none,.row 5 2 0 none,.row 6 4 0 none],.row 1 (aa (s.b.O.map bE)),.row 1 (aa (s.b.P.map bE)),.row 9 (aa (l.map Obj.enc)),.row 2 (aa (ops.map bI.enc)),.row 4 (aa (ps.map bl.enc))]) (λs=>es.length-s.j) ⟨0,_⟩ ⟨aav _,sK⟩ ?_ (λs hs=>?_)
 .refine View.o1 7 [0,1,2,3,4,5,6] [] ?_
  .exact .pe rfl rfl rfl (.pe rfl rfl rfl (.pt rfl rfl (.bM Ny) (.pr rfl rfl rfl (.pr rfl rfl rfl (.pr rfl rfl rfl (.pn rfl rfl rfl))))))
 obtain⟨j,b⟩:=s;obtain⟨hj,hM⟩:=hs;have hj:j<=es.length:=hj;have hM:zU l ops n a b j 0 es ax:=hM;refine aP (λh=>?_) (λh=>?_)
 .have ez:j<es.length:=by have h:(j:Int)<((es.map gl).length:Int):=h;rw[N7]at h;omega
  refine af (QY ez) ?_;have Xo:=hM.Td;refine xm (V3 b es[j].2 ⟨hM.st.lo.trans hO,hM.st.lp.trans hP⟩ om) _ rfl λc hc=>?_
  refine⟨⟨j+1,c⟩,⟨ez,hM.XU (vR ez) hc A0 rfl⟩,(show es.length-(j+1)<es.length-j by omega),View.o2 8 [0,1,2,3,4,5,6] [] ?_⟩
  .exact .au
 .have ET:j=es.length:=by have h:¬(j:Int)<((es.map gl).length:Int):=h;rw[N7]at h;omega
  subst ET;refine af Qd ?_;refine ba (λ(s:StM)=>s.j<=ax.length/\zU l ops n a s.b es.length s.j es ax) [0,75,76] (λs=>[(77,an .i64 (s.j:Nat))]) (λs=>[.var [.ptr 1 0,.row 2 1 0 none,.row 3 1 0 none],.var [.row 4 9 0 none,.row 5 2 0 none,.row 6 4 0 none],.row 1 (aa (s.b.O.map bE)),.row 1 (aa (s.b.P.map bE)),.row 9 (aa (l.map Obj.enc)),.row 2 (aa (ops.map bI.enc)),.row 4 (aa (ps.map bl.enc))]) (λs=>ax.length-s.j) ⟨0,b⟩ ⟨aav _,hM⟩ ?_ (λs hs=>?_)
  .refine View.o1 7 [0,1,2,3,4,5,6] [] ?_
   .exact .au
  clear hM hj h;obtain⟨j,b⟩:=s;obtain⟨hj,hM⟩:=hs;have hj:j<=ax.length:=hj;have hM:zU l ops n a b es.length j es ax:=hM;refine aP (λh=>?_) (λh=>?_)
  .have ez:j<ax.length:=by have h:(j:Int)<((ax.map dn.enc).length:Int):=h;rw[N7]at h;omega
   have Uo:=vR ez;refine af (Q1 ez) ?_;have Xo:=hM.Td;refine aJ (λhh=>?_) (λhh=>?_)
   .refine xm (ihP b ax[j].dG ax[j].bX ⟨hM.st.lo.trans hO,hM.st.lp.trans hP⟩ om) _ rfl λc hc=>?_
    refine⟨⟨j+1,c⟩,⟨ez,hM.XV Uo hh hc A0 rfl⟩,(show ax.length-(j+1)<ax.length-j by omega),View.o2 8 [0,1,2,3,4,5,6] [] ?_⟩
    .exact .au
   .skip
    refine⟨⟨j+1,b⟩,⟨ez,hM.XX Uo hh⟩,(show ax.length-(j+1)<ax.length-j by omega),View.o2 8 [0,1,2,3,4,5,6] [] ?_⟩
    .exact .au
  .have ET:j=ax.length:=by have h:¬(j:Int)<((ax.map dn.enc).length:Int):=h;rw[N7]at h;omega
   subst ET;exact⟨b,hM.iu A0 h3 rfl rfl,rfl,rfl⟩
theorem FY(l:List Obj)(ops:List bI)(ps:List bl)(N:Nat)(V3:∀a z,y9 l ops a->a.mu<N->aq prog 142 [.rv (.one (.ptr 0 0)),an .i64 z] (vN l ops ps a) (λr m=>∃b,PO l ops z a b/\r= .bx []/\m=vN l ops ps b))(a:Mk)(z w:Int)(hbs:y9 l ops a)(XY:a.mu<=N):body prog c143 [.rv (.one (.ptr 0 0)),.rv (.agg [.ah (.val (.int .i64 z)),.ah (.val (.int .i64 w))])] (vN l ops ps a) (λr m=>∃b m',PP l ops z a b/\r= .bx []/\m=vN l ops ps b++m'):=by
 have hlen:∀L:List Bool,(aa (L.map bE)).length=L.length:=λL=>by rw[bj,N7]
 obtain⟨hO,hP⟩:=hbs;refine aP (λh=>?_) (λh0=>?_)
 .exact⟨a,[_],.none λn hv=>by have:=hv.1;have h:z<0:=h;omega,rfl,rfl⟩
 obtain⟨n,rfl⟩:∃n:Nat,z=n:=⟨z.toNat,by have h:¬z<0:=h0;omega⟩
 refine aP (λh=>?_) (λh1=>?_)
 .refine⟨a,[_],.none λm hv=>?_,rfl,rfl⟩
  obtain⟨hz,ho⟩:=hv;have h:(n:Int)>=((aa (a.P.map bE)).length:Int):=h;rw[hlen]at h;omega
 have hn:n<a.P.length:=by have h:¬(n:Int)>=((aa (a.P.map bE)).length:Int):=h1;rw[hlen]at h;omega
 have jT:n<ops.length:=om;refine af (zV hn) ?_;refine af (t7 hn) ?_;refine aJ (λh2=>?_) (λh2=>?_)
 .refine⟨a,[_],.none λm hv=>?_,rfl,rfl⟩
  have:m=n:=by have:=hv.1;omega
  subst this;exact(vR hn).trans (congrArg some h2)
 have XZ:(⟨a.O,a.P.set n true⟩:Mk).mu<N:=by have:=rd a.P n ((vR hn).trans (congrArg some h2));have XY:eB a.O+eB a.P<=N:=XY;show eB a.O+eB (a.P.set n true)<N;omega
 refine af (zV hn) ?_;refine af (t7 hn) ?_;refine⟨trivial,?_⟩;have Nz:d5 (n:Int) (lenOf (aa (ops.map bI.enc)).length 0 none)=some n:=cy (by show n<(aa (ops.map bI.enc)).length;rw[bj,N7];exact jT)
 refine af Nz ?_;refine af (bN bI.enc ops jT) ?_;refine pS (qx:=[.rv (.one (.ptr 0 0)),an .i64 ops[n].bp]) (m':=vN l ops ps ⟨a.O,a.P.set n true⟩ ++ [.var [.ah (.val (.int .i64 (n:Nat))),.ah (.val (.int .i64 w))]]) (View.o 8 [0,1,2,3,4,5,6,7] [] (.eq rfl (.eq rfl .nil))
  (.pe rfl rfl rfl (.pe rfl rfl rfl (.pr rfl rfl rfl (.pt rfl rfl (.bM Ny) (.pr rfl rfl rfl (.pr rfl rfl rfl (.pr rfl rfl rfl (.pm rfl rfl rfl))))))))) ?_
 refine xm (V3 ⟨a.O,a.P.set n true⟩ ops[n].bp ⟨hO,by simpa using hP⟩ XZ) _ rfl λc hc=>?_
 exact⟨trivial,c,[_],PP.of hn (vR jT) hc,rfl,rfl⟩
theorem pd(l:List Obj)(ops:List bI)(ps:List bl)(g:∀o,o∈l->o.sm):∀N,
  (∀a z,y9 l ops a->a.mu<N->aq prog 142 [.rv (.one (.ptr 0 0)),an .i64 z] (vN l ops ps a) (λr m=>∃b,PO l ops z a b/\r= .bx []/\m=vN l ops ps b))/\
  (∀a z w,y9 l ops a->a.mu<N->aq prog 143 [.rv (.one (.ptr 0 0)),.rv (.agg [.ah (.val (.int .i64 z)),.ah (.val (.int .i64 w))])] (vN l ops ps a) (λr m=>∃b,PP l ops z a b/\r= .bx []/\m=vN l ops ps b))
 |0=>⟨λ_ _ _ h=>absurd h (aa9 _),λ_ _ _ _ h=>absurd h (aa9 _)⟩
 |N+1=>by
  obtain⟨V3,ihP⟩:=pd l ops ps g N;refine⟨λa z hb hm=>bc func142 l142 (FX l ops ps g N V3 ihP a z hb om),λa z w hb hm=>?_⟩
  refine bL (bc func143 l143 (FY l ops ps N V3 a z w hb om)) λr m1⟨b,m',hp,hr,Jk⟩=>?_
  subst hr Jk;refine⟨.bx [],vN l ops ps b,View.of (7+m'.length) [0,1,2,3,4,5,6] [] (by simp[vN];omega) rfl rfl rfl rfl (by simp[eR]<;>omega) (.put (.bx rfl λi r r' h=>by simp at h) .nil) ?_,⟨b,hp,rfl,rfl⟩⟩
  exact .au
def c119:LF:= ⟨54,[.tmp 2],(.seq (.ai [qu 2 (.aN (.c (.rv (.one (.ah (.val (.pointer none)))))))]) (.seq (.bV [qm 8 0,qm 9 0,qu 10 (.aR 9),qf 11 0 10,ql 12 11,qu 13 (.len 1 12),qu 14 (.pL 1 1 [(.ah (.val (.bool false)))] 13 13),qm 15 0,qu 16 (.aR 15),qf 17 1 16,ql 18 17,qu 19 (.len 1 18),qu 20 (.pL 1 1 [(.ah (.val (.bool false)))] 19 19),qu 21 (.build [(.ah (.val (.pointer none))),.aM,.aM] [(0,1,8),(1,1,14),(2,1,20)]),qu 22 (.box 21),qm 3 22] [(eE 6 0 (eE 5 7 (.wm (.cons 6 (some [11,10]) (.cons 12 (some [5,4]) (.cons 13 none (.cons 14 (some []) (.cons 15 none .nil))))) (.cons 12 (some [5,4]) (.cons 6 (some [11,10]) (.cons 13 none (.cons 14 (some []) (.cons 15 none .nil))))))))]) (.cX (.seq (.ai [qm 23 3,qu 24 (qc 142 [23,qi 0])]) (.seq (.seq (.ai [qm 25 0,qu 26 (.aR 25),qf 27 2 26,ql 28 27,qu 29 (.len 1 28),qu 30 (.aN (qi 0))]) (.block 0 (.loop (.seq (.ai [qu 31 (.aL .lss 30 29)]) (.seq (.cond 31 .skip (.exit 0)) (.seq (.block 1 (.seq (.ai [qu 32 (.cw 4 28 30),qL 33 4 32,qu 5 (.alloc [(.ah (.val (.bool false))),(.ah (.val (.bool false))),qd 0,.aM]),qw (.store 4 5 33)]) (.seq (.ai [qf 34 3 5,ql 35 34,qu 36 (.len 1 35),qu 37 (.aN (qi 0))]) (.block 2 (.loop (.seq (.ai [qu 38 (.aL .lss 37 36)]) (.seq (.cond 38 .skip (.exit 2)) (.seq (.block 3 (.seq (.ai [qu 39 (.cw 3 35 37),qL 40 3 39,qu 7 (.alloc [(.ah (.val (.bool false))),qd 0,qd 0]),qw (.store 3 7 40)]) (.seq (.ai [qf 41 0 5,ql 42 41,qm 43 42,qg 44 (.bY 0 7) 43 true,qg 45 (.load false 1 44) 43 true,qu 46 (.pick 43 45 (qb false))]) (.cond 46 (.ai [qm 47 3,qf 48 1 7,qL 49 2 48,qu 50 (qc 143 [47,49])]) .skip)))) (.ai [qu 51 (.aL .add 37 (qi 1)),qm 37 51]))))))))) (.ai [qu 52 (.aL .add 30 (qi 1)),qm 30 52]))))))) (.seq (.ai [qm 53 3,qm 2 53]) .ret))))))⟩
def Ic(l:List Obj)(ops:List bI)(ps:List bl)(RO RP:Nat->Prop):Prop:=
 (∀n,vO l 0 n->RO n)/\∀(p:Nat)pr,ps[p]? =some pr->pr.aO=true->∀s,s∈pr.aQ->s.has=true->∀c,vP ops s.dG c->RP c
structure g9(l:List Obj)(ops:List bI)(ps:List bl)(b:Mk):Prop where
 len:y9 l ops b
 nu:Ic l ops ps (dz b.O) (dz b.P)
 cl:Cl l ops (dz b.O) (dz b.P)
 ov:∀RO RP,Cl l ops RO RP->Ic l ops ps RO RP->Qc RO RP b
def zW(l:List Obj)(ops:List bI):Mk:=⟨List.replicate l.length false,List.replicate ops.length false⟩
theorem xn{n i:Nat}:¬dz (List.replicate n false) i:=by
 intro h;unfold dz at h;rw[adx]at h;split at h<;>cases h
structure dW(l:List Obj)(ops:List bI)(ps:List bl)(b:Mk)(p j:Nat):Prop where
 st:Step l ops (λ_=>False) (zW l ops) b
 r0:∀n,vO l 0 n->dz b.O n
 rp:∀(i:Nat)pr,i<p->ps[i]? =some pr->pr.aO=true->∀s,s∈pr.aQ->s.has=true->∀c,vP ops s.dG c->dz b.P c
 rj:∀pr,ps[p]? =some pr->pr.aO=true->∀(t:Nat)s,t<j->pr.aQ[t]? =some s->s.has=true->∀c,vP ops s.dG c->dz b.P c
 ov:∀RO RP,Cl l ops RO RP->Ic l ops ps RO RP->Qc RO RP b
theorem dW.start{l:List Obj}{ops:List bI}{ps:List bl}{b:Mk}(h:PO l ops 0 (zW l ops) b):dW l ops ps b 0 0:=
 ⟨h.st,h.on,λi pr h=>absurd h (aa9 i),λpr _ _ t s h=>absurd h (aa9 t),λRO RP iB hr=>h.sd RO RP iB ⟨λi hi=>absurd hi xn,λi hi=>absurd hi xn⟩ hr.1⟩
theorem dW.Te{l:List Obj}{ops:List bI}{ps:List bl}{b c:Mk}{p j:Nat}(h:dW l ops ps b p j){pr:bl}(vQ:ps[p]? =some pr)(bK:pr.aO=true){s:eA}(hs:pr.aQ[j]? =some s)(hh:s.has=true)(hc:PP l ops s.dG b c):dW l ops ps c p (j+1):=by
 refine⟨h.st.trans hc.st,λn hn=>hc.st.mo n (h.r0 n hn),λi x hi hx hl y hy Qe d hd=>hc.st.mp d (h.rp i x hi hx hl y hy Qe d hd),λx hx hl t y ht hy Qe d hd=>?_,λRO RP iB hr=>hc.sd RO RP iB (h.ov RO RP iB hr) λd hd=>hr.2 p pr vQ bK s (Tu hs) hh d hd⟩
 rcases aag t j with LS|LS
 .exact hc.st.mp d (h.rj x hx hl t y LS hy Qe d hd)
 .have:t=j:=om;subst this;rw[vQ]at hx;cases hx;rw[hs]at hy;cases hy;exact hc.on d hd
theorem dW.skip{l:List Obj}{ops:List bI}{ps:List bl}{b:Mk}{p j:Nat}(h:dW l ops ps b p j){pr:bl}(vQ:ps[p]? =some pr){s:eA}(hs:pr.aQ[j]? =some s)(hh:pr.aO=true->s.has=false):dW l ops ps b p (j+1):=by
 refine⟨h.st,h.r0,h.rp,λx hx hl t y ht hy Qe d hd=>?_,h.ov⟩
 rcases aag t j with LS|LS
 .exact h.rj x hx hl t y LS hy Qe d hd
 .have:t=j:=om;subst this;rw[vQ]at hx;cases hx;rw[hs]at hy;cases hy;rw[hh hl]at Qe;cases Qe
theorem dW.next{l:List Obj}{ops:List bI}{ps:List bl}{b:Mk}{p:Nat}{pr:bl}(vQ:ps[p]? =some pr)(h:dW l ops ps b p pr.aQ.length):dW l ops ps b (p+1) 0:=by
 refine⟨h.st,h.r0,λi x hi hx hl y hy Qe d hd=>?_,λx _ _ t y ht=>absurd ht (aa9 t),h.ov⟩
 rcases aag i p with V4|V4
 .exact h.rp i x V4 hx hl y hy Qe d hd
 .have:i=p:=om;subst this;rw[vQ]at hx;cases hx;obtain⟨t,ht⟩:=aab hy;exact h.rj pr vQ hl t y (Ki.1 ht).1 ht Qe d hd
theorem dW.iu{l:List Obj}{ops:List bI}{ps:List bl}{b:Mk}(h:dW l ops ps b ps.length 0):g9 l ops ps b:=by
 refine⟨⟨by have:=h.st.lo;simpa[zW]using this,by have:=h.st.lp;simpa[zW]using this⟩,⟨h.r0,λp pr hp hl s hs hh c hc=>h.rp p pr (Ki.1 hp).1 hp hl s hs hh c hc⟩,⟨λi o hi ho z n hz hv=>?_,λi o hi ho z c hz hv=>?_,λc o hc ho n hv=>?_⟩,h.ov⟩
 .exact(h.st.co i o hi xn (λh=>h) ho).1 z n hz hv
 .exact(h.st.co i o hi xn (λh=>h) ho).2 z c hz hv
 .exact h.st.cp c o hc xn ho n hv
theorem sL(n:Nat):(gH n [CC.ah (.val (.bool false))])=aa ((List.replicate n false).map bE):=by
 induction n with
 |zero=>rfl
 |succ n ih=>simp only[gH,ih];simp[aa,bE,List.replicate_succ]
theorem l119:bz prog f119=some c119.er:=by kernel_rfl
theorem Ie{l:List eA}{k:Nat}(h:k<l.length):dA (l.map eA.enc) (k:Nat)=some [.val (.bool l[k].has),.val (.int .i64 l[k].dG),.val (.int .i64 l[k].bX)]:=by rw[bG,Tr,vR h];rfl
structure ZH where
 p:Nat
 b:Mk
theorem dJ{ps:List bl}{k:Nat}(h:k<ps.length):dA (ps.map bl.enc) (k:Nat)=some [.val (.bool ps[k].aO),.val (.bool ps[k].fenced),.val (.int .i64 ps[k].code),y8 ps[k].aQ]:=by rw[bG,Tr,vR h];rfl
theorem sM{l:List Obj}{ops:List bI}{ps:List bl}{a:Mk}{f:Nat}{args args0:List CV}{Q:Mk->Prop}(h:aq prog f args0 (vN l ops ps a) (λr m=>∃b,Q b/\r= .bx []/\m=vN l ops ps b))(X:Mem)(eY:args=args0.map (CV.bh (sg [4,0,5,6,1,2,3] (7+X.length)))){K:CV->Mem->Prop}(hK:∀b,Q b->K (.bx []) ([.var [.row 1 9 0 none,.row 2 2 0 none,.row 3 4 0 none],.row 9 (aa (l.map Obj.enc)),.row 2 (aa (ops.map bI.enc)),.row 4 (aa (ps.map bl.enc)),.var [.ptr 0 0,.row 5 1 0 none,.row 6 1 0 none],.row 1 (aa (b.O.map bE)),.row 1 (aa (b.P.map bE))]++X)):
  aq prog f args ([.var [.row 1 9 0 none,.row 2 2 0 none,.row 3 4 0 none],.row 9 (aa (l.map Obj.enc)),.row 2 (aa (ops.map bI.enc)),.row 4 (aa (ps.map bl.enc)),.var [.ptr 0 0,.row 5 1 0 none,.row 6 1 0 none],.row 1 (aa (a.O.map bE)),.row 1 (aa (a.P.map bE))]++X) K:=by
 refine bw [4,0,5,6,1,2,3] (7+X.length) (by simp;omega) rfl rfl (by simp[eR]<;>omega) (args0:=args0) eY (λi b' hi=>?_) h (λr m1 hr=>?_)
 .match i,hi with
  |0,hi=>cases hi;exact .inr ⟨λh=>h,_,rfl,.eq rfl aC⟩
  |1,hi=>cases hi;exact .inr ⟨λh=>h,_,rfl,.eq rfl aC⟩
  |2,hi=>cases hi;exact .inr ⟨λh=>h,_,rfl,.bM rfl⟩
  |3,hi=>cases hi;exact .inr ⟨λh=>h,_,rfl,.bM rfl⟩
  |4,hi=>cases hi;exact .inr ⟨λh=>h,_,rfl,.bM rfl⟩
  |5,hi=>cases hi;exact .inr ⟨λh=>h,_,rfl,.bM rfl⟩
  |6,hi=>cases hi;exact .inr ⟨λh=>h,_,rfl,.bM rfl⟩
  |n+7,hi=>simp[vN]at hi
 .obtain⟨b,hb,rfl,rfl⟩:=hr;refine⟨Yj _,?_⟩;have e:∀(s:Nat)(ds:List (List Dt)),(Bk.row s (aa ds)).bh (sg [4,0,5,6,1,2,3] (7+X.length))= .row s (aa ds):=λs ds=>by simp only[Bk.bh,dF]
  have hk:=hK b hb;have hw:c9 ([.var [.row 1 9 0 none,.row 2 2 0 none,.row 3 4 0 none],.row 9 (aa (l.map Obj.enc)),.row 2 (aa (ops.map bI.enc)),.row 4 (aa (ps.map bl.enc)),.var [.ptr 0 0,.row 5 1 0 none,.row 6 1 0 none],.row 1 (aa (a.O.map bE)),.row 1 (aa (a.P.map bE))]++X) [4,0,5,6,1,2,3] (nh (sg [4,0,5,6,1,2,3] (7+X.length)) (vN l ops ps b))=[.var [.row 1 9 0 none,.row 2 2 0 none,.row 3 4 0 none],.row 9 (aa (l.map Obj.enc)),.row 2 (aa (ops.map bI.enc)),.row 4 (aa (ps.map bl.enc)),.var [.ptr 0 0,.row 5 1 0 none,.row 6 1 0 none],.row 1 (aa (b.O.map bE)),.row 1 (aa (b.P.map bE))]++X:=by simp only[vN,nh,e,c9,cg,abV];rfl
  rw[hw];exact hk
theorem FZ(l:List Obj)(ops:List bI)(ps:List bl)(g:∀o,o∈l->o.sm)(hl:l.length<=4194304)(ho:ops.length<=4194304)(jY:ps.length<=4194304)(p8:∀p,p∈ps->p.aQ.length<=10):
  body prog c119 [.rv (.one (.ptr 0 0))] [.var [.row 1 9 0 none,.row 2 2 0 none,.row 3 4 0 none],.row 9 (aa (l.map Obj.enc)),.row 2 (aa (ops.map bI.enc)),.row 4 (aa (ps.map bl.enc))] (λr m=>∃b,g9 l ops ps b/\r= .rv (.one (.ptr 4 0))/\m=[.var [.row 1 9 0 none,.row 2 2 0 none,.row 3 4 0 none],.row 9 (aa (l.map Obj.enc)),.row 2 (aa (ops.map bI.enc)),.row 4 (aa (ps.map bl.enc)),.var [.ptr 0 0,.row 5 1 0 none,.row 6 1 0 none],.row 1 (aa (b.O.map bE)),.row 1 (aa (b.P.map bE))]):=by
 refine⟨?_,?_⟩
 .skip
  refine cM (adL _) ?_;refine⟨(by show(aa (l.map Obj.enc)).length*1<=_;rw[bj,N7];omega),⟨rfl,rfl,trivial⟩,?_⟩
  refine cM (adL _) ?_;refine⟨(by show(aa (ops.map bI.enc)).length*1<=_;rw[bj,N7];omega),⟨rfl,rfl,trivial⟩,?_⟩
  refine⟨trivial,?_⟩;refine gK [0] [(3,.rv (.one (.ptr 4 0)))] ([.var [.row 1 9 0 none,.row 2 2 0 none,.row 3 4 0 none],.row 9 (aa (l.map Obj.enc)),.row 2 (aa (ops.map bI.enc)),.row 4 (aa (ps.map bl.enc)),.var [.ptr 0 0,.row 5 1 0 none,.row 6 1 0 none],.row 1 (aa ((zW l ops).O.map bE)),.row 1 (aa ((zW l ops).P.map bE))]) (View.o1 7 [0,1,2,3,6,4,5] [] ?_) ?_
  .exact(.pe rfl rfl rfl (.pr rfl rfl rfl (.pr rfl rfl rfl (.pr rfl rfl rfl (.pe rfl rfl rfl (.pt rfl rfl (.bM (by show gH (aa (l.map Obj.enc)).length _=_;rw[sL,bj,N7];rfl)) (.pt rfl rfl (.bM (by show gH (aa (ops.map bI.enc)).length _=_;rw[sL,bj,N7];rfl)) (.nil _))))))))
  refine sM ((pd l ops ps g ((zW l ops).mu+1)).1 (zW l ops) 0 ⟨by simp[zW],by simp[zW]⟩ (ab6 _)) [] rfl λb0 Jb=>?_
  refine ba (λ(s:ZH)=>s.p<=ps.length/\dW l ops ps s.b s.p 0) [3,28,29] (λs=>[(30,an .i64 (s.p:Nat))]) (λs=>[.var [.row 1 9 0 none,.row 2 2 0 none,.row 3 4 0 none],.row 9 (aa (l.map Obj.enc)),.row 2 (aa (ops.map bI.enc)),.row 4 (aa (ps.map bl.enc)),.var [.ptr 0 0,.row 5 1 0 none,.row 6 1 0 none],.row 1 (aa (s.b.O.map bE)),.row 1 (aa (s.b.P.map bE))]) (λs=>ps.length-s.p) ⟨0,b0⟩ ⟨aav _,.start Jb⟩ ?_ (λs hs=>?_)
  .refine View.o1 7 [0,1,2,3,4,5,6] [] ?_
   .exact .au
  obtain⟨p,b⟩:=s;obtain⟨hp,hM⟩:=hs;have hp:p<=ps.length:=hp;have hM:dW l ops ps b p 0:=hM;refine aP (λh=>?_) (λh=>?_)
  .have jn:p<ps.length:=by have h:(p:Int)<((aa (ps.map bl.enc)).length:Int):=h;rw[bj,N7]at h;omega
   refine af (cy (k:=p) (by show p<(aa (ps.map bl.enc)).length;rw[bj,N7];exact jn)) ?_
   refine af (bN bl.enc ps jn) ?_;have vQ:=vR jn;have yU:=p8 _ (aay jn);generalize ps[p]=pr at vQ yU;refine ba (λ(s:ZH)=>s.p<=pr.aQ.length/\dW l ops ps s.b p s.p) [3,5,28,29,30,35,36] (λs=>[(37,an .i64 (s.p:Nat))]) (λs=>[.var [.row 1 9 0 none,.row 2 2 0 none,.row 3 4 0 none],.row 9 (aa (l.map Obj.enc)),.row 2 (aa (ops.map bI.enc)),.row 4 (aa (ps.map bl.enc)),.var [.ptr 0 0,.row 5 1 0 none,.row 6 1 0 none],.row 1 (aa (s.b.O.map bE)),.row 1 (aa (s.b.P.map bE)),.var (pr.enc.map .ah)]) (λs=>pr.aQ.length-s.p) ⟨0,b⟩ ⟨aav _,hM⟩ ?_ (λs hs=>?_)
   .refine View.o1 8 [0,1,2,3,4,5,6,7] [] ?_
    .exact .au
   clear hM;obtain⟨j,b⟩:=s;obtain⟨hj,hM⟩:=hs;have hj:j<=pr.aQ.length:=hj;have hM:dW l ops ps b p j:=hM;refine aP (λkM=>?_) (λkM=>?_)
   .have ez:j<pr.aQ.length:=by have h:(j:Int)<((pr.aQ.map eA.enc).length:Int):=kM;rw[N7]at h;omega
    have JW:=vR ez;refine af (Ie ez) ?_;generalize pr.aQ[j]=s at JW;refine aJ (λbK=>?_) (λbK=>?_)
    .refine aJ (λhh=>?_) (λhh=>?_)
     .refine sM ((pd l ops ps g (b.mu+1)).2 b s.dG s.bX ⟨by have:=hM.st.lo;simpa[zW]using this,by have:=hM.st.lp;simpa[zW]using this⟩ (ab6 _)) [_,_] rfl λc hc=>?_
      refine⟨⟨j+1,c⟩,⟨ez,hM.Te vQ bK JW hh hc⟩,(show pr.aQ.length-(j+1)<pr.aQ.length-j by omega),View.o2 9 [0,1,2,3,4,5,6,7] [] ?_⟩
      .exact .au
     .skip
      refine⟨⟨j+1,b⟩,⟨ez,hM.skip vQ JW (λ_=>hh)⟩,(show pr.aQ.length-(j+1)<pr.aQ.length-j by omega),View.o2 9 [0,1,2,3,4,5,6,7] [] ?_⟩
      .exact .au
    .skip
     refine⟨⟨j+1,b⟩,⟨ez,hM.skip vQ JW (λh=>absurd (h.symm.trans bK) aC)⟩,(show pr.aQ.length-(j+1)<pr.aQ.length-j by omega),View.o2 9 [0,1,2,3,4,5,6,7] [] ?_⟩
     .exact .au
   .have ET:j=pr.aQ.length:=by have h:¬(j:Int)<((pr.aQ.map eA.enc).length:Int):=kM;rw[N7]at h;omega
    subst ET;refine⟨⟨p+1,b⟩,⟨jn,hM.next vQ⟩,(show ps.length-(p+1)<ps.length-p by omega),View.o2 8 [0,1,2,3,4,5,6] [] ?_⟩
    .exact .au
  .have yR:p=ps.length:=by have h:¬(p:Int)<((aa (ps.map bl.enc)).length:Int):=h;rw[bj,N7]at h;omega
   subst yR;exact⟨b,hM.iu,rfl,rfl⟩
 .skip
  refine cM (adL _) ?_;refine⟨(by show(aa (ops.map bI.enc)).length*1<=_;rw[bj,N7];omega),⟨rfl,rfl,trivial⟩,?_⟩
  refine cM (adL _) ?_;refine⟨(by show(aa (l.map Obj.enc)).length*1<=_;rw[bj,N7];omega),⟨rfl,rfl,trivial⟩,?_⟩
  refine⟨trivial,?_⟩;refine gK [0] [(3,.rv (.one (.ptr 4 0)))] ([.var [.row 1 9 0 none,.row 2 2 0 none,.row 3 4 0 none],.row 9 (aa (l.map Obj.enc)),.row 2 (aa (ops.map bI.enc)),.row 4 (aa (ps.map bl.enc)),.var [.ptr 0 0,.row 5 1 0 none,.row 6 1 0 none],.row 1 (aa ((zW l ops).O.map bE)),.row 1 (aa ((zW l ops).P.map bE))]) (View.o1 7 [0,1,2,3,6,5,4] [] ?_) ?_
  .exact(.pe rfl rfl rfl (.pr rfl rfl rfl (.pr rfl rfl rfl (.pr rfl rfl rfl (.pe rfl rfl rfl (.pt rfl rfl (.bM (by show gH (aa (l.map Obj.enc)).length _=_;rw[sL,bj,N7];rfl)) (.pt rfl rfl (.bM (by show gH (aa (ops.map bI.enc)).length _=_;rw[sL,bj,N7];rfl)) (.nil _))))))))
  refine sM ((pd l ops ps g ((zW l ops).mu+1)).1 (zW l ops) 0 ⟨by simp[zW],by simp[zW]⟩ (ab6 _)) [] rfl λb0 Jb=>?_
  refine ba (λ(s:ZH)=>s.p<=ps.length/\dW l ops ps s.b s.p 0) [3,28,29] (λs=>[(30,an .i64 (s.p:Nat))]) (λs=>[.var [.row 1 9 0 none,.row 2 2 0 none,.row 3 4 0 none],.row 9 (aa (l.map Obj.enc)),.row 2 (aa (ops.map bI.enc)),.row 4 (aa (ps.map bl.enc)),.var [.ptr 0 0,.row 5 1 0 none,.row 6 1 0 none],.row 1 (aa (s.b.O.map bE)),.row 1 (aa (s.b.P.map bE))]) (λs=>ps.length-s.p) ⟨0,b0⟩ ⟨aav _,.start Jb⟩ ?_ (λs hs=>?_)
  .refine View.o1 7 [0,1,2,3,4,5,6] [] ?_
   .exact .au
  obtain⟨p,b⟩:=s;obtain⟨hp,hM⟩:=hs;have hp:p<=ps.length:=hp;have hM:dW l ops ps b p 0:=hM;refine aP (λh=>?_) (λh=>?_)
  .have jn:p<ps.length:=by have h:(p:Int)<((aa (ps.map bl.enc)).length:Int):=h;rw[bj,N7]at h;omega
   refine af (cy (k:=p) (by show p<(aa (ps.map bl.enc)).length;rw[bj,N7];exact jn)) ?_
   refine af (bN bl.enc ps jn) ?_;have vQ:=vR jn;have yU:=p8 _ (aay jn);generalize ps[p]=pr at vQ yU;refine ba (λ(s:ZH)=>s.p<=pr.aQ.length/\dW l ops ps s.b p s.p) [3,5,28,29,30,35,36] (λs=>[(37,an .i64 (s.p:Nat))]) (λs=>[.var [.row 1 9 0 none,.row 2 2 0 none,.row 3 4 0 none],.row 9 (aa (l.map Obj.enc)),.row 2 (aa (ops.map bI.enc)),.row 4 (aa (ps.map bl.enc)),.var [.ptr 0 0,.row 5 1 0 none,.row 6 1 0 none],.row 1 (aa (s.b.O.map bE)),.row 1 (aa (s.b.P.map bE)),.var (pr.enc.map .ah)]) (λs=>pr.aQ.length-s.p) ⟨0,b⟩ ⟨aav _,hM⟩ ?_ (λs hs=>?_)
   .refine View.o1 8 [0,1,2,3,4,5,6,7] [] ?_
    .exact .au
   clear hM;obtain⟨j,b⟩:=s;obtain⟨hj,hM⟩:=hs;have hj:j<=pr.aQ.length:=hj;have hM:dW l ops ps b p j:=hM;refine aP (λkM=>?_) (λkM=>?_)
   .have ez:j<pr.aQ.length:=by have h:(j:Int)<((pr.aQ.map eA.enc).length:Int):=kM;rw[N7]at h;omega
    have JW:=vR ez;refine af (Ie ez) ?_;generalize pr.aQ[j]=s at JW;refine aJ (λbK=>?_) (λbK=>?_)
    .refine aJ (λhh=>?_) (λhh=>?_)
     .refine sM ((pd l ops ps g (b.mu+1)).2 b s.dG s.bX ⟨by have:=hM.st.lo;simpa[zW]using this,by have:=hM.st.lp;simpa[zW]using this⟩ (ab6 _)) [_,_] rfl λc hc=>?_
      refine⟨⟨j+1,c⟩,⟨ez,hM.Te vQ bK JW hh hc⟩,(show pr.aQ.length-(j+1)<pr.aQ.length-j by omega),View.o2 9 [0,1,2,3,4,5,6,7] [] ?_⟩
      .exact .au
     .skip
      refine⟨⟨j+1,b⟩,⟨ez,hM.skip vQ JW (λ_=>hh)⟩,(show pr.aQ.length-(j+1)<pr.aQ.length-j by omega),View.o2 9 [0,1,2,3,4,5,6,7] [] ?_⟩
      .exact .au
    .skip
     refine⟨⟨j+1,b⟩,⟨ez,hM.skip vQ JW (λh=>absurd (h.symm.trans bK) aC)⟩,(show pr.aQ.length-(j+1)<pr.aQ.length-j by omega),View.o2 9 [0,1,2,3,4,5,6,7] [] ?_⟩
     .exact .au
   .have ET:j=pr.aQ.length:=by have h:¬(j:Int)<((pr.aQ.map eA.enc).length:Int):=kM;rw[N7]at h;omega
    subst ET;refine⟨⟨p+1,b⟩,⟨jn,hM.next vQ⟩,(show ps.length-(p+1)<ps.length-p by omega),View.o2 8 [0,1,2,3,4,5,6] [] ?_⟩
    .exact .au
  .have yR:p=ps.length:=by have h:¬(p:Int)<((aa (ps.map bl.enc)).length:Int):=h;rw[bj,N7]at h;omega
   subst yR;exact⟨b,hM.iu,rfl,rfl⟩
theorem NA(l:List Obj)(ops:List bI)(ps:List bl)(g:∀o,o∈l->o.sm)(hl:l.length<=4194304)(ho:ops.length<=4194304)(jY:ps.length<=4194304)(p8:∀p,p∈ps->p.aQ.length<=10):
  aq prog 119 [.rv (.one (.ptr 0 0))] [.var [.row 1 9 0 none,.row 2 2 0 none,.row 3 4 0 none],.row 9 (aa (l.map Obj.enc)),.row 2 (aa (ops.map bI.enc)),.row 4 (aa (ps.map bl.enc))] (λr m=>∃b,g9 l ops ps b/\r= .rv (.one (.ptr 4 0))/\m=[.var [.row 1 9 0 none,.row 2 2 0 none,.row 3 4 0 none],.row 9 (aa (l.map Obj.enc)),.row 2 (aa (ops.map bI.enc)),.row 4 (aa (ps.map bl.enc)),.var [.ptr 0 0,.row 5 1 0 none,.row 6 1 0 none],.row 1 (aa (b.O.map bE)),.row 1 (aa (b.P.map bE))]):=
 cj func119 l119 (FZ l ops ps g hl ho jY p8)
def nE(k:Nat):List Dt:=[.val (.int .i64 (k:Nat))]
def c59:LF:= ⟨32,[.cell true 3 2],(.seq (.ai [qu 1 (.box 0),qu 2 (.alloc [.aM,.aM,.aM])]) (.seq (.bV [qf 6 0 1,ql 7 6,qu 8 (qc 98 [7]),qf 9 1 1,ql 10 9,qu 11 (qc 99 [10]),qu 12 (.build [.aM,.aM,.aM] [(0,1,8),(1,1,11)]),qu 3 (.alloc [.aM,.aM,.aM]),qw (.store 3 3 12)] [(.cons 0 none (.cons 1 none (.cons 3 none (.cons 4 none (.wm (.cons 2 (some [4]) (.wm (.cons 5 (some []) (.cons 6 none (.cons 7 (some [4,1]) (.cons 8 (some []) .nil)))) (.cons 7 (some [4,1]) (.cons 5 (some []) (.cons 6 none (.cons 8 (some []) .nil)))))) (.cons 7 (some [4,1]) (.cons 2 (some [4]) (.cons 5 (some []) (.cons 6 none (.cons 8 (some []) .nil))))))))))]) (.seq (.seq (.ai [qf 13 2 1,ql 14 13,qu 15 (.len 1 14),qu 16 (.aN (qi 0))]) (.block 0 (.loop (.seq (.ai [qu 17 (.aL .lss 16 15)]) (.seq (.cond 17 .skip (.exit 0)) (.seq (.block 1 (.seq (.ai [qu 18 (.cw 4 14 16),qL 19 4 18,qu 5 (.alloc [(.ah (.val (.bool false))),(.ah (.val (.bool false))),qd 0,.aM]),qw (.store 4 5 19)]) (.seq (.ai [qf 20 3 5,ql 21 20,qu 22 (qc 100 [21]),qf 23 3 5,qw (.store 1 23 22)]) (.ai [qf 24 2 3,ql 25 24,qL 26 4 5,qu 27 (.nI 4 [(.ah (.val (.bool false))),(.ah (.val (.bool false))),qd 0,.aM] 1 [(0,26)]),qu 28 (.oL 4 40 25 27),qf 29 2 3,qw (.store 1 29 28)])))) (.ai [qu 30 (.aL .add 16 (qi 1)),qm 16 30]))))))) (.seq (.ai [qL 31 3 3,qw (.store 3 2 31)]) .ret))))⟩
def c99:LF:= ⟨8,[.tmp 2],(.seq (.ai [qu 2 (.aN qe)]) (.seq (.seq (.ai [qm 3 0,qu 4 (.yM false 3)]) (.cond 4 (.seq (.ai [qu 2 (.aN qe)]) .ret) .skip)) (.seq (.ai [qu 5 (.nI 2 [qd 0,qd 0] 0 []),qm 6 0,qu 7 (.oL 2 16 5 6),qm 2 7]) .ret)))⟩
def c100:LF:= ⟨8,[.tmp 2],(.seq (.ai [qu 2 (.aN qe)]) (.seq (.seq (.ai [qm 3 0,qu 4 (.yM false 3)]) (.cond 4 (.seq (.ai [qu 2 (.aN qe)]) .ret) .skip)) (.seq (.ai [qu 5 (.nI 3 [(.ah (.val (.bool false))),qd 0,qd 0] 0 []),qm 6 0,qu 7 (.oL 3 24 5 6),qm 2 7]) .ret)))⟩
theorem pU:∀(l:List Obj)(p Q k:Nat),k+l.length<=p->eS p Q k l=aa (l.map Obj.enc)
 | [],_,_,_,_=>rfl
 |o::r,p,Q,k,h=>by
  have ih:=pU r p Q (k+1) (by simp at h;omega)
  have hk:¬k=p:=by simp at h;omega
  simp only[eS,ih,sD,if_neg hk];rfl
theorem Dr(l:List Obj):Bb l l.length l.length= .aU:=by
 have:Nat.blt l.length l.length=false:=by
  cases h:Nat.blt l.length l.length
  .rfl
  .rw[abK]at h;omega
 unfold Bb;rw[this]
theorem l99:bz prog f99=some c99:=by kernel_rfl
theorem l100:bz prog f100=some c100:=by kernel_rfl
theorem l59:bz prog f59=some c59:=by kernel_rfl
theorem Du(ops:List bI)(ho:ops.length<=4194304):body prog c99 [.rv (.one (.ah (fh ops)))] [] (λr m=>∃r' m',View 0 ⟨[r],m⟩ ⟨[r'],m'⟩/\r'= .rv (.one (.row 0 2 0 none))/\m'=[.row 2 (aa (ops.map bI.enc))]):=by
 have tw:((([]:List (List CC)).length+((ops.map bI.enc).map λds=>ds.map CC.ah).length)*16)<=140737488355328:=by simp;omega
 have iu:∃r' m',View 0 ⟨[CV.rv (.one (.row 1 2 0 none))],[.aU,.row 2 (b7 ([]:List (List CC)) 0 none++(ops.map bI.enc).map λds=>ds.map CC.ah)]⟩ ⟨[r'],m'⟩/\r'=CV.rv (.one (.row 0 2 0 none))/\m'=[Bk.row 2 (aa (ops.map bI.enc))]:=
  ⟨_,_,View.o 2 [1] [] (.eq rfl .nil) (.pn rfl rfl rfl),rfl,rfl⟩
 refine aJ (λh=>?_) (λh=>?_)
 .have hd:ops=[]:=aaq (by simpa using aau h)
  refine⟨?_,tw,iu⟩;subst hd;exact⟨_,_,View.aM 0 2 0 rfl rfl rfl,rfl,rfl⟩
 .exact⟨tw,iu⟩
theorem t8(ops:List bI)(ho:ops.length<=4194304){m:Mem}{K:CV->Mem->Prop}(h:K (.rv (.one (.row m.length 2 0 none))) (m++ [.row 2 (aa (ops.map bI.enc))])):aq prog 99 [.rv (.one (.ah (fh ops)))] m K:=by
 refine bw [] m.length rfl rfl rfl rfl (args0:=[.rv (.one (.ah (fh ops)))]) rfl (λi b' hi=>by simp at hi) (K0:=λr m=>r= .rv (.one (.row 0 2 0 none))/\m=[.row 2 (aa (ops.map bI.enc))]) (bL (bc func99 l99 (Du ops ho)) λr m1 h=>h) (λr m1 hr=>?_)
 obtain⟨rfl,rfl⟩:=hr;refine⟨aav _,?_⟩;show K (.rv (.one (.row (m.length+(0-0)) 2 0 none))) (gI m [.row 2 ((aa (ops.map bI.enc)).map (λcs=>cs.map (CC.bh (sg [] m.length))))])
 rw[dF,cg];exact h
theorem Dv(d:List eA)(hb:d.length<=4194304):body prog c100 [ma d] [] (λr m=>cN m r (ma d)):=by
 have tw:((([]:List (List CC)).length+((d.map eA.enc).map λds=>ds.map CC.ah).length)*24)<=140737488355328:=by simp;omega
 refine aJ (λh=>?_) (λh=>?_)
 .have hd:d=[]:=aaq (by simpa using aau h)
  subst hd;exact⟨.rv (.one (.aM 3)),tw,.rv (.one (ff.fg rfl 0 none))⟩
 .exact⟨tw,.rv (.one (ff.fg rfl 0 none))⟩
theorem jI(d:List eA)(hb:d.length<=4194304){m:Mem}{K:CV->Mem->Prop}(h:K (ma d) m):aq prog 100 [ma d] m K:=
 bi (bc func100 l100 (Dv d hb)) (by simp[ma,y8,CV.dC,CC.dC]) λr m1 hf=>⟨_,hf,h⟩
structure UG where
 k:Nat
 qs:List bl
theorem JX(l:List Obj)(ops:List bI)(ps:List bl)(hf:l9 l)(ho:ops.length<=4194304)(jY:ps.length<=4194304)(p8:∀p,p∈ps->p.aQ.length<=10)(dy:ps≠[]):
  body prog c59 [eJ l ops ps] [] (λr m=>∃r' m',View 0 ⟨[r],m⟩ ⟨[r'],m'⟩/\r'= .rv (.agg [.row 0 9 0 none,.row 1 2 0 none,.row 2 4 0 none])/\m'=[.row 9 (aa (l.map Obj.enc)),.row 2 (aa (ops.map bI.enc)),.row 4 (aa (ps.map bl.enc))]):=by
 refine⟨?_,?_⟩
 .skip
  refine xj l hf l.length ?_;rw[Dr];refine⟨⟨rfl,trivial⟩,?_⟩;refine⟨?_,?_⟩
  .refine t8 ops ho ?_;refine⟨trivial,⟨rfl,rfl,trivial⟩,trivial,?_⟩;refine ba (λ(a:UG)=>a.k<=ps.length/\a.qs=ps.take a.k) [1,2,14,15] (λa=>[(16,an .i64 (a.k:Nat)),(3,.rv (.one (.ptr 2 0)))]) (λa=>match a.qs with
     | []=>[.var [.ah (dt l),.ah (fh ops),.ah (gE ps)],.var z3,.var [.row 3 9 0 none,.row 4 2 0 none,.aM],.row 9 (aa (l.map Obj.enc)),.row 2 (aa (ops.map bI.enc))]
     |x::r=>[.var [.ah (dt l),.ah (fh ops),.ah (gE ps)],.var z3,.var [.row 3 9 0 none,.row 4 2 0 none,.row 5 4 0 none],.row 9 (aa (l.map Obj.enc)),.row 2 (aa (ops.map bI.enc)),.row 4 (aa ((x::r).map bl.enc))]) (λa=>ps.length-a.k) ⟨0,[]⟩ ⟨aav _,rfl⟩ ?_ (λa ha=>?_)
   .refine View.o1 6 [0,1,5,2,4] [] ?_
    .exact(.pe rfl rfl rfl (.pe rfl rfl rfl (.pe rfl rfl rfl (.pt rfl rfl (.bM (pU l _ _ _ om)) (.pn rfl rfl rfl)))))
   obtain⟨k,qs⟩:=a;obtain⟨hk,hq⟩:=ha;have hk:k<=ps.length:=hk;have hq:qs=ps.take k:=hq;cases qs with
   |nil=>
    refine aP (λh=>?_) (λh=>?_)
    .have aD:k<ps.length:=by have h:(k:Int)<((ps.map bl.enc).length:Int):=h;rw[N7]at h;omega
     refine af (dJ aD) ?_;refine jI ps[k].aQ (by have:=p8 _ (aay aD);omega) ?_
     refine⟨by simp[b7],?_⟩
     refine⟨⟨k+1,[ps[k]]⟩,⟨aD,(show [ps[k]]=ps.take (k+1) by rw[abG,vR aD,<-hq];rfl)⟩,(show ps.length-(k+1)<ps.length-k by omega),View.o2 8 [0,1,2,3,4,7] [] ?_⟩
     .exact(.pe rfl rfl rfl (.pe rfl rfl rfl (.pe rfl rfl rfl (.pr rfl rfl rfl (.pr rfl rfl rfl (.pt rfl rfl (.bM (by simp[b7,aa,bl.enc])) (.nil _)))))))
    .have Bi:k=ps.length:=by have h:¬(k:Int)<((ps.map bl.enc).length:Int):=h;rw[N7]at h;omega
     subst Bi;rw[aaZ]at hq;exact absurd hq.symm dy
   |cons x r=>
    refine aP (λh=>?_) (λh=>?_)
    .have aD:k<ps.length:=by have h:(k:Int)<((ps.map bl.enc).length:Int):=h;rw[N7]at h;omega
     refine af (dJ aD) ?_;refine jI ps[k].aQ (by have:=p8 _ (aay aD);omega) ?_
     refine⟨by have e:=bj ((x::r).map bl.enc);have e2:=congrArg List.length hq;simp only[N7,aar,aaE]at e e2;simp only[b7,aar,abm];omega,?_⟩
     refine⟨⟨k+1,((x::r)++ [ps[k]])⟩,⟨aD,(show((x::r)++ [ps[k]])=ps.take (k+1) by rw[abG,vR aD,<-hq];rfl)⟩,(show ps.length-(k+1)<ps.length-k by omega),View.o2 9 [0,1,2,3,4,8] [] ?_⟩
     .exact(.pe rfl rfl rfl (.pe rfl rfl rfl (.pe rfl rfl rfl (.pr rfl rfl rfl (.pr rfl rfl rfl (.pt rfl rfl (.bM (by simp[b7,aa,bl.enc])) (.nil _)))))))
    .have Bi:k=ps.length:=by have h:¬(k:Int)<((ps.map bl.enc).length:Int):=h;rw[N7]at h;omega
     subst Bi;rw[aaZ]at hq;refine⟨.rv (.agg [.row 0 9 0 none,.row 1 2 0 none,.row 2 4 0 none]),_,View.o 6 [3,4,5] [] (.eq rfl .nil) (.pr rfl rfl rfl (.pr rfl rfl rfl (.pn rfl rfl rfl))),rfl,?_⟩;rw[hq]
  .refine⟨⟨rfl,rfl,trivial⟩,?_⟩;refine t8 ops ho ?_;refine⟨trivial,trivial,?_⟩;refine ba (λ(a:UG)=>a.k<=ps.length/\a.qs=ps.take a.k) [1,2,14,15] (λa=>[(16,an .i64 (a.k:Nat)),(3,.rv (.one (.ptr 2 0)))]) (λa=>match a.qs with
     | []=>[.var [.ah (dt l),.ah (fh ops),.ah (gE ps)],.var z3,.var [.row 3 9 0 none,.row 4 2 0 none,.aM],.row 9 (aa (l.map Obj.enc)),.row 2 (aa (ops.map bI.enc))]
     |x::r=>[.var [.ah (dt l),.ah (fh ops),.ah (gE ps)],.var z3,.var [.row 3 9 0 none,.row 4 2 0 none,.row 5 4 0 none],.row 9 (aa (l.map Obj.enc)),.row 2 (aa (ops.map bI.enc)),.row 4 (aa ((x::r).map bl.enc))]) (λa=>ps.length-a.k) ⟨0,[]⟩ ⟨aav _,rfl⟩ ?_ (λa ha=>?_)
   .refine View.o1 6 [0,1,4,2,5] [] ?_
    .exact(.pe rfl rfl rfl (.pe rfl rfl rfl (.pe rfl rfl rfl (.pt rfl rfl (.bM (pU l _ _ _ om)) (.pn rfl rfl rfl)))))
   obtain⟨k,qs⟩:=a;obtain⟨hk,hq⟩:=ha;have hk:k<=ps.length:=hk;have hq:qs=ps.take k:=hq;cases qs with
   |nil=>
    refine aP (λh=>?_) (λh=>?_)
    .have aD:k<ps.length:=by have h:(k:Int)<((ps.map bl.enc).length:Int):=h;rw[N7]at h;omega
     refine af (dJ aD) ?_;refine jI ps[k].aQ (by have:=p8 _ (aay aD);omega) ?_
     refine⟨by simp[b7],?_⟩
     refine⟨⟨k+1,[ps[k]]⟩,⟨aD,(show [ps[k]]=ps.take (k+1) by rw[abG,vR aD,<-hq];rfl)⟩,(show ps.length-(k+1)<ps.length-k by omega),View.o2 8 [0,1,2,3,4,7] [] ?_⟩
     .exact(.pe rfl rfl rfl (.pe rfl rfl rfl (.pe rfl rfl rfl (.pr rfl rfl rfl (.pr rfl rfl rfl (.pt rfl rfl (.bM (by simp[b7,aa,bl.enc])) (.nil _)))))))
    .have Bi:k=ps.length:=by have h:¬(k:Int)<((ps.map bl.enc).length:Int):=h;rw[N7]at h;omega
     subst Bi;rw[aaZ]at hq;exact absurd hq.symm dy
   |cons x r=>
    refine aP (λh=>?_) (λh=>?_)
    .have aD:k<ps.length:=by have h:(k:Int)<((ps.map bl.enc).length:Int):=h;rw[N7]at h;omega
     refine af (dJ aD) ?_;refine jI ps[k].aQ (by have:=p8 _ (aay aD);omega) ?_
     refine⟨by have e:=bj ((x::r).map bl.enc);have e2:=congrArg List.length hq;simp only[N7,aar,aaE]at e e2;simp only[b7,aar,abm];omega,?_⟩
     refine⟨⟨k+1,((x::r)++ [ps[k]])⟩,⟨aD,(show((x::r)++ [ps[k]])=ps.take (k+1) by rw[abG,vR aD,<-hq];rfl)⟩,(show ps.length-(k+1)<ps.length-k by omega),View.o2 9 [0,1,2,3,4,8] [] ?_⟩
     .exact(.pe rfl rfl rfl (.pe rfl rfl rfl (.pe rfl rfl rfl (.pr rfl rfl rfl (.pr rfl rfl rfl (.pt rfl rfl (.bM (by simp[b7,aa,bl.enc])) (.nil _)))))))
    .have Bi:k=ps.length:=by have h:¬(k:Int)<((ps.map bl.enc).length:Int):=h;rw[N7]at h;omega
     subst Bi;rw[aaZ]at hq;refine⟨.rv (.agg [.row 0 9 0 none,.row 1 2 0 none,.row 2 4 0 none]),_,View.o 6 [3,4,5] [] (.eq rfl .nil) (.pr rfl rfl rfl (.pr rfl rfl rfl (.pn rfl rfl rfl))),rfl,?_⟩;rw[hq]
 .refine⟨⟨rfl,rfl,trivial⟩,?_⟩;refine xj l hf l.length ?_;rw[Dr];refine⟨⟨rfl,trivial⟩,?_⟩;refine t8 ops ho ?_;refine⟨trivial,trivial,?_⟩;refine ba (λ(a:UG)=>a.k<=ps.length/\a.qs=ps.take a.k) [1,2,14,15] (λa=>[(16,an .i64 (a.k:Nat)),(3,.rv (.one (.ptr 2 0)))]) (λa=>match a.qs with
    | []=>[.var [.ah (dt l),.ah (fh ops),.ah (gE ps)],.var z3,.var [.row 3 9 0 none,.row 4 2 0 none,.aM],.row 9 (aa (l.map Obj.enc)),.row 2 (aa (ops.map bI.enc))]
    |x::r=>[.var [.ah (dt l),.ah (fh ops),.ah (gE ps)],.var z3,.var [.row 3 9 0 none,.row 4 2 0 none,.row 5 4 0 none],.row 9 (aa (l.map Obj.enc)),.row 2 (aa (ops.map bI.enc)),.row 4 (aa ((x::r).map bl.enc))]) (λa=>ps.length-a.k) ⟨0,[]⟩ ⟨aav _,rfl⟩ ?_ (λa ha=>?_)
  .refine View.o1 6 [0,1,2,3,5] [] ?_
   .exact(.pe rfl rfl rfl (.pe rfl rfl rfl (.pe rfl rfl rfl (.pt rfl rfl (.bM (pU l _ _ _ om)) (.pn rfl rfl rfl)))))
  obtain⟨k,qs⟩:=a;obtain⟨hk,hq⟩:=ha;have hk:k<=ps.length:=hk;have hq:qs=ps.take k:=hq;cases qs with
  |nil=>
   refine aP (λh=>?_) (λh=>?_)
   .have aD:k<ps.length:=by have h:(k:Int)<((ps.map bl.enc).length:Int):=h;rw[N7]at h;omega
    refine af (dJ aD) ?_;refine jI ps[k].aQ (by have:=p8 _ (aay aD);omega) ?_
    refine⟨by simp[b7],?_⟩
    refine⟨⟨k+1,[ps[k]]⟩,⟨aD,(show [ps[k]]=ps.take (k+1) by rw[abG,vR aD,<-hq];rfl)⟩,(show ps.length-(k+1)<ps.length-k by omega),View.o2 8 [0,1,2,3,4,7] [] ?_⟩
    .exact(.pe rfl rfl rfl (.pe rfl rfl rfl (.pe rfl rfl rfl (.pr rfl rfl rfl (.pr rfl rfl rfl (.pt rfl rfl (.bM (by simp[b7,aa,bl.enc])) (.nil _)))))))
   .have Bi:k=ps.length:=by have h:¬(k:Int)<((ps.map bl.enc).length:Int):=h;rw[N7]at h;omega
    subst Bi;rw[aaZ]at hq;exact absurd hq.symm dy
  |cons x r=>
   refine aP (λh=>?_) (λh=>?_)
   .have aD:k<ps.length:=by have h:(k:Int)<((ps.map bl.enc).length:Int):=h;rw[N7]at h;omega
    refine af (dJ aD) ?_;refine jI ps[k].aQ (by have:=p8 _ (aay aD);omega) ?_
    refine⟨by have e:=bj ((x::r).map bl.enc);have e2:=congrArg List.length hq;simp only[N7,aar,aaE]at e e2;simp only[b7,aar,abm];omega,?_⟩
    refine⟨⟨k+1,((x::r)++ [ps[k]])⟩,⟨aD,(show((x::r)++ [ps[k]])=ps.take (k+1) by rw[abG,vR aD,<-hq];rfl)⟩,(show ps.length-(k+1)<ps.length-k by omega),View.o2 9 [0,1,2,3,4,8] [] ?_⟩
    .exact(.pe rfl rfl rfl (.pe rfl rfl rfl (.pe rfl rfl rfl (.pr rfl rfl rfl (.pr rfl rfl rfl (.pt rfl rfl (.bM (by simp[b7,aa,bl.enc])) (.nil _)))))))
   .have Bi:k=ps.length:=by have h:¬(k:Int)<((ps.map bl.enc).length:Int):=h;rw[N7]at h;omega
    subst Bi;rw[aaZ]at hq;refine⟨.rv (.agg [.row 0 9 0 none,.row 1 2 0 none,.row 2 4 0 none]),_,View.o 6 [3,4,5] [] (.eq rfl .nil) (.pr rfl rfl rfl (.pr rfl rfl rfl (.pn rfl rfl rfl))),rfl,?_⟩;rw[hq]
theorem i4(l:List Obj)(ops:List bI)(ps:List bl)(hf:l9 l)(ho:ops.length<=4194304)(jY:ps.length<=4194304)(p8:∀p,p∈ps->p.aQ.length<=10)(dy:ps≠[]){m:Mem}{K:CV->Mem->Prop}(h:K (.rv (.agg [.row m.length 9 0 none,.row (m.length+1) 2 0 none,.row (m.length+2) 4 0 none])) (m++ [.row 9 (aa (l.map Obj.enc)),.row 2 (aa (ops.map bI.enc)),.row 4 (aa (ps.map bl.enc))])):aq prog 59 [eJ l ops ps] m K:=by
 refine bw [] m.length rfl rfl rfl rfl (args0:=[eJ l ops ps]) rfl (λi b' hi=>by simp at hi) (K0:=λr m=>r= .rv (.agg [.row 0 9 0 none,.row 1 2 0 none,.row 2 4 0 none])/\m=[.row 9 (aa (l.map Obj.enc)),.row 2 (aa (ops.map bI.enc)),.row 4 (aa (ps.map bl.enc))])
  (bL (bc func59 l59 (JX l ops ps hf ho jY p8 dy)) λr m1 h=>h) (λr m1 hr=>?_)
 obtain⟨rfl,rfl⟩:=hr;refine⟨aav _,?_⟩;show K (.rv (.agg [.row (m.length+(0-0)) 9 0 none,.row (m.length+(1-0)) 2 0 none,.row (m.length+(2-0)) 4 0 none])) (gI m [.row 9 ((aa (l.map Obj.enc)).map (λcs=>cs.map (CC.bh (sg [] m.length)))),.row 2 ((aa (ops.map bI.enc)).map (λcs=>cs.map (CC.bh (sg [] m.length)))),.row 4 ((aa (ps.map bl.enc)).map (λcs=>cs.map (CC.bh (sg [] m.length))))])
 rw[dF,dF,dF,cg];exact h
def c80:LF:= ⟨9,[.tmp 4],(.seq (.ai [qu 4 (.aN (qb false))]) (.seq (.ai [qm 5 0,qm 6 1,qu 7 (qc 121 [5,6]),qu 8 (.aL .geq 7 (qi 0)),qm 4 8]) .ret))⟩
def c81:LF:= ⟨13,[.tmp 3],(.seq (.ai [qu 2 (.box 0),qu 3 (.aN (qb false))]) (.seq (.ai [qf 4 0 2,ql 5 4,qu 6 (.aL .eql 5 (qi 5)),qm 7 6,qg 8 (.bY 6 2) 7 true,qg 9 (.load false 1 8) 7 true,qg 10 (.load false 1 1) 7 true,qg 11 (.aL .eql 9 10) 7 true,qu 12 (.pick 7 11 (qb false)),qm 3 12]) .ret))⟩
def c120:LF:= ⟨13,[.tmp 3],(.seq (.ai [qu 2 (.box 0),qu 3 (.aN (qb false))]) (.seq (.ai [qf 4 0 2,ql 5 4,qu 6 (.aL .eql 5 (qi 5)),qm 7 6,qg 8 (.bY 6 2) 7 true,qg 9 (.load false 1 8) 7 true,qg 10 (.load false 1 1) 7 true,qg 11 (.aL .eql 9 10) 7 true,qu 12 (.pick 7 11 (qb false)),qm 3 12]) .ret))⟩
def dL(p:Int)(o:Obj):Bool:=o.ag==5&&o.be==p
theorem l120:bz prog f120=some c120:=by kernel_rfl
theorem l81:bz prog f81=some c81:=by kernel_rfl
theorem l80:bz prog f80=some c80:=by kernel_rfl
theorem Dw(o:Obj)(p:Int):body prog c120 [o.cv,.rv (.one (.ptr 0 0))] [.var ([Dt.val (.int .i64 p)].map .ah)] (λr m=>r=aF (dL p o)/\∃ex,m= .var ([Dt.val (.int .i64 p)].map .ah)::ex):=by
 refine aJ (λh=>?_) (λh=>?_)
 .refine⟨?_,_,rfl⟩;show aF _=aF _;rw[dL,h];rfl
 .refine⟨?_,_,rfl⟩;show aF _=aF _;rw[dL,h];rfl
theorem UH(o:Obj)(p:Int)(K:CV->Mem->Prop)(h:K (aF (dL p o)) [.var ([Dt.val (.int .i64 p)].map .ah)]):aq prog 120 [o.cv,.rv (.one (.ptr 0 0))] [.var ([Dt.val (.int .i64 p)].map .ah)] K:=
 e7 rfl (bc func120 l120 (Dw o p)) h
theorem Dx(o:Obj)(p:Int):body prog c81 [o.cv,.rv (.one (.ptr 0 0))] [.var ([Dt.val (.int .i64 p)].map .ah)] (λr m=>r=aF (dL p o)/\∃ex,m= .var ([Dt.val (.int .i64 p)].map .ah)::ex):=by
 refine aJ (λh=>?_) (λh=>?_)
 .refine⟨?_,_,rfl⟩;show aF _=aF _;rw[dL,h];rfl
 .refine⟨?_,_,rfl⟩;show aF _=aF _;rw[dL,h];rfl
theorem UI(o:Obj)(p:Int)(K:CV->Mem->Prop)(h:K (aF (dL p o)) [.var ([Dt.val (.int .i64 p)].map .ah)]):aq prog 81 [o.cv,.rv (.one (.ptr 0 0))] [.var ([Dt.val (.int .i64 p)].map .ah)] K:=
 e7 rfl (bc func81 l81 (Dx o p)) h
theorem zX{l:List Obj}{n:Nat}(h:n<l.length):d5 (n:Int) (lenOf (aa (l.map Obj.enc)).length 0 none)=some n:=cy (by show n<(aa (l.map Obj.enc)).length;rw[bj,N7];exact h)
theorem JY(l:List Obj)(hb:l.length<=4194304)(F:Nat)(cs:List Dt)(q:Obj->Bool)(hF:∀s,∀K:CV->Mem->Prop,K (aF (q s)) [.var (cs.map .ah)]->aq prog F [s.cv,.rv (.one (.ptr 0 0))] [.var (cs.map .ah)] K):
  body prog c121 [.rv (.one (.row 0 9 0 none)),.rv (.one (.fn F [1]))] [.row 9 (aa (l.map Obj.enc)),.var (cs.map .ah)] (λr m=>r=an .i64 (oF q l)/\m=[.row 9 (aa (l.map Obj.enc)),.var (cs.map .ah)]):=by
 refine ba (λk=>k<=l.length/\∀(j:Nat)s,j<k->l[j]? =some s->q s=false) [0,1,7] (λk=>[(8,an .i64 (k:Nat))]) (λ_=>[.row 9 (aa (l.map Obj.enc)),.var (cs.map .ah)]) (λk=>l.length-k) 0 ⟨aav _,λj s h=>absurd h (aa9 j)⟩ ?_ (λk hk=>?_)
 .refine View.o1 2 [0,1] [] ?_
  .exact .pr rfl rfl rfl (.pt rfl rfl (.ju rfl) (.nil _))
 .refine aP (λh=>?_) (λh=>?_)
  .have aD:k<l.length:=by have h:(k:Int)<((aa (l.map Obj.enc)).length:Int):=h;rw[bj,N7]at h;omega
   refine af (zX aD) ?_;refine af (bN Obj.enc l aD) ?_;have hi:=vR aD;have X0:=lD (q:=q) aD;generalize l[k]=o at hi X0;refine fC (args0:=[o.cv,.rv (.one (.ptr 0 0))]) (cs:=cs) 1 rfl rfl (r0:=aF (q o)) rfl (λK hK=>hF o K hK) ?_
   refine aJ (λIg=>?_) (λIg=>?_)
   .rw[X0 Ig hk.2];exact⟨rfl,rfl⟩
   .refine⟨k+1,⟨aD,λj s hj hs=>?_⟩,(show l.length-(k+1)<l.length-k by omega),View.o 2 [0,1] [] ?_ ?_⟩
    .rcases aag j k with h5|h5
     .exact hk.2 j s h5 hs
     .have:j=k:=om;subst this;rw[hi]at hs;cases hs;exact Ig
    .repeat(first|exact .nil|refine .aH ?_|refine .put (.bh (cR om).symm) ?_|refine .eq rfl ?_)
    .exact .pr rfl rfl rfl (.pt rfl rfl (.ju rfl) (.nil _))
  .have eG:¬(k:Int)<((aa (l.map Obj.enc)).length:Int):=h;rw[bj,N7]at eG;rw[nq λj s hs=>hk.2 j s (by have:=(Ki.1 hs).1;omega) hs]
   exact⟨rfl,rfl⟩
theorem F0(l:List Obj)(hb:l.length<=4194304)(F:Nat)(cs:List Dt)(q:Obj->Bool)(hF:∀s,∀K:CV->Mem->Prop,K (aF (q s)) [.var (cs.map .ah)]->aq prog F [s.cv,.rv (.one (.ptr 0 0))] [.var (cs.map .ah)] K):
  body prog c80 [.rv (.one (.row 0 9 0 none)),.rv (.one (.fn F [1]))] [.row 9 (aa (l.map Obj.enc)),.var (cs.map .ah)] (λr m=>r=aF (l.any q)/\m=[.row 9 (aa (l.map Obj.enc)),.var (cs.map .ah)]):=by
 refine(bc func121 l121 (JY l hb F cs q hF)).mono λr m⟨hr,hm⟩=>?_
 subst hr hm;refine⟨?_,rfl⟩;show aF _=aF _;rw[<-sG]
theorem NB(l:List Obj)(hb:l.length<=4194304)(F:Nat)(cs:List Dt)(q:Obj->Bool)(hF:∀s,∀K:CV->Mem->Prop,K (aF (q s)) [.var (cs.map .ah)]->aq prog F [s.cv,.rv (.one (.ptr 0 0))] [.var (cs.map .ah)] K):
  aq prog 80 [.rv (.one (.row 0 9 0 none)),.rv (.one (.fn F [1]))] [.row 9 (aa (l.map Obj.enc)),.var (cs.map .ah)] (λr m=>r=aF (l.any q)/\m=[.row 9 (aa (l.map Obj.enc)),.var (cs.map .ah)]):=
 bc func80 l80 (F0 l hb F cs q hF)
def c79:LF:= ⟨146,[.tmp 2],(.seq (.ai [qu 2 (.aN (qb false))]) (.seq (.ai [qm 10 0,qu 11 (qc 119 [10]),qm 3 11]) (.seq (.seq (.ai [qm 12 0,qu 13 (.aR 12),qf 14 0 13,ql 15 14,qu 16 (.len 1 15),qu 17 (.aN (qi 0))]) (.block 0 (.loop (.seq (.ai [qu 18 (.aL .lss 17 16)]) (.seq (.cond 18 .skip (.exit 0)) (.seq (.block 1 (.seq (.ai [qm 19 17,qm 4 19]) (.seq (.seq (.ai [qm 20 3,qu 21 (.aR 20),qf 22 1 21,ql 23 22,qm 24 4,qu 25 (.cw 1 23 24),ql 26 25,qm 27 26,qg 28 (.aN 0) 27 false,qg 29 (.aR 28) 27 false,qg 30 (.bY 0 29) 27 false,qg 31 (.load false 1 30) 27 false,qg 32 (.aN 4) 27 false,qg 33 (.cw 9 31 32) 27 false,qg 34 (.bY 0 33) 27 false,qg 35 (.load false 1 34) 27 false,qg 36 (.aL .eql 35 (qi 0)) 27 false,qu 37 (.pick 27 (qb true) 36)]) (.cond 37 (.exit 1) .skip)) (.seq (.seq (.ai [qm 38 0,qu 39 (.aR 38),qf 40 0 39,ql 41 40,qu 42 (.len 1 41),qu 43 (.aN (qi 0))]) (.block 2 (.loop (.seq (.ai [qu 44 (.aL .lss 43 42)]) (.seq (.cond 44 .skip (.exit 2)) (.seq (.block 3 (.seq (.ai [qm 45 43,qm 5 45]) (.seq (.ai [qm 46 0,qu 47 (.aR 46),qf 48 0 47,ql 49 48,qm 50 5,qu 51 (.cw 9 49 50),qf 52 0 51,ql 53 52,qu 54 (.aL .eql 53 (qi 4)),qm 55 54,qg 56 (.aN 0) 55 true,qg 57 (.aR 56) 55 true,qg 58 (.bY 0 57) 55 true,qg 59 (.load false 1 58) 55 true,qg 60 (.aN 5) 55 true,qg 61 (.cw 9 59 60) 55 true,qg 62 (.bY 4 61) 55 true,qg 63 (.load false 1 62) 55 true,qg 64 (.aN 4) 55 true,qg 65 (.aL .eql 63 64) 55 true,qu 66 (.pick 55 65 (qb false))]) (.cond 66 (.ai [qm 67 0,qu 68 (.aR 67),qf 69 0 68,ql 70 69,qm 71 5,qu 72 (.cw 9 70 71),qf 73 4 72,qw (.store 1 73 (qi (-1)))]) .skip)))) (.ai [qu 74 (.aL .add 43 (qi 1)),qm 43 74]))))))) (.ai [qm 75 0,qu 76 (.aR 75),qf 77 0 76,ql 78 77,qm 79 4,qu 80 (.build [qd 0,.aM,.aM,(.ah (.val (.string ⟨#[]⟩))),qd 0,.aM,qd 0,qd 0,qd 0] []),qu 81 (.cw 9 78 79),qw (.store 9 81 80)]))))) (.ai [qu 82 (.aL .add 17 (qi 1)),qm 17 82]))))))) (.seq (.seq (.ai [qm 83 0,qu 84 (.aR 83),qf 85 1 84,ql 86 85,qu 87 (.len 1 86),qu 88 (.aN (qi 0))]) (.block 4 (.loop (.seq (.ai [qu 89 (.aL .lss 88 87)]) (.seq (.cond 89 .skip (.exit 4)) (.seq (.block 5 (.seq (.ai [qm 90 88,qm 6 90]) (.seq (.ai [qm 91 3,qu 92 (.aR 91),qf 93 2 92,ql 94 93,qm 95 6,qu 96 (.cw 1 94 95),ql 97 96,qu 98 (.un .not 97)]) (.cond 98 (.ai [qm 99 0,qu 100 (.aR 99),qf 101 1 100,ql 102 101,qm 103 6,qu 104 (.build [qd 0,qd 0] [(0,1,(qi (-1)))]),qu 105 (.cw 2 102 103),qw (.store 2 105 104)]) .skip)))) (.ai [qu 106 (.aL .add 88 (qi 1)),qm 88 106]))))))) (.seq (.ai [qu 7 (.aN (qb false))]) (.seq (.seq (.ai [qm 107 0,qu 108 (.aR 107),qf 109 2 108,ql 110 109,qu 111 (.len 1 110),qu 112 (.aN (qi 0))]) (.block 6 (.loop (.seq (.ai [qu 113 (.aL .lss 112 111)]) (.seq (.cond 113 .skip (.exit 6)) (.seq (.block 7 (.seq (.ai [qm 114 112,qu 8 (.alloc [qd 0]),qw (.store 1 8 114)]) (.seq (.ai [qm 115 0,qu 116 (.aR 115),qf 117 0 116,ql 118 117,qu 119 (.fn 120 [8]),qu 120 (qc 80 [118,119]),qm 9 120]) (.seq (.bV [ql 121 8,qu 122 (.aL .gtr 121 (qi 0)),qm 123 122,qg 124 (.aN 0) 123 true,qg 125 (.aR 124) 123 true,qg 126 (.bY 2 125) 123 true,qg 127 (.load false 1 126) 123 true,qg 128 (.load false 1 8) 123 true,qg 129 (.cw 4 127 128) 123 true,qg 130 (.bY 0 129) 123 true,qg 131 (.load false 1 130) 123 true,qu 132 (.pick 123 131 (qb false)),qm 133 132,qg 134 (.aN 9) 133 true,qg 135 (.un .not 134) 133 true,qu 136 (.pick 133 135 (qb false))] [eE 16 0 .nil]) (.cond 136 (.seq (.bV [qm 137 0,qu 138 (.aR 137),qf 139 2 138,ql 140 139,ql 141 8,qu 142 (.build [(.ah (.val (.bool false))),(.ah (.val (.bool false))),qd 0,.aM] []),qu 143 (.cw 4 140 141),qw (.store 4 143 142)] [(eE 7 0 (.cons 7 (some []) .nil))]) (.ai [qu 7 (.aN (qb true))])) .skip))))) (.ai [qu 144 (.aL .add 112 (qi 1)),qm 112 144]))))))) (.seq (.ai [qm 145 7,qm 2 145]) .ret)))))))⟩
def Pt{α:Type}(l L:List α)(f:Nat->α->α):Prop:=L.length=l.length/\∀(t:Nat)o,l[t]? =some o->L[t]? =some (f t o)
theorem Pt.refl{α:Type}(l:List α):Pt l l λ_ o=>o:=⟨rfl,λ_ _ h=>h⟩
theorem Pt.congr{α:Type}{l L:List α}{f g:Nat->α->α}(h:Pt l L f)(hfg:∀(t:Nat)o,l[t]? =some o->f t o=g t o):Pt l L g:=
 ⟨h.1,λt o ho=>by rw[<-hfg t o ho];exact h.2 t o ho⟩
theorem Pt.set{α:Type}{l L:List α}{f g:Nat->α->α}(h:Pt l L f){j:Nat}{x:α}(hx:∀o,l[j]? =some o->g j o=x)(ho:∀(t:Nat)o,t≠j->l[t]? =some o->g t o=f t o):Pt l (L.set j x) g:=by
 refine⟨by simpa using h.1,λt o Bj=>?_⟩
 have aD:t<L.length:=by rw[h.1];exact(Ki.1 Bj).1
 by_cases LS:t=j
 .subst LS;rw[hx o Bj];simp[aD]
 .rw[U9 (λe=>LS e.symm),ho t o LS Bj]
  exact h.2 t o Bj
theorem Pt.at{α:Type}{l L:List α}{f:Nat->α->α}(h:Pt l L f){j:Nat}(hj:j<l.length):∃hL:j<L.length,L[j]=f j l[j]:=by
 have hL:j<L.length:=by rw[h.1];exact hj
 have:=h.2 j l[j] (vR hj);rw[vR hL]at this;exact⟨hL,by simpa using this⟩
theorem mH.NC{Y:Nat->Nat}{m:Mem}{Z:Nat->Prop}{id s:Nat}(ds:List (List Dt))(i:Nat){cs:List CC}{d:List Dt}(hl:cs.length=d.length)(h:∀(j:Nat)c c',cs[j]? =some c->(d.map CC.ah)[j]? =some c'->tv Y m Z (some id) c c'):mH Y m Z id (.row s (aX (aa ds) i cs)) (.row s (aa (ds.set i d))):=by
 rw[bb];have e:aa (ds.set i d)=(aa ds).set i (d.map .ah):=by simp[aa,abB]
 rw[e];refine .row s aC (λt xs ys h1 h2=>?_) (λt xs ys j c c' h1 h2 h3 h4=>?_)
 .rw[abb]at h1 h2;split at h1
  .rename_i Nd;rw[if_pos Nd]at h2;split at h1
   .rename_i aD;rw[if_pos aD]at h2;cases h1;cases h2;simpa using hl
   .cases h1
  .rename_i Nd;rw[if_neg Nd]at h2;rw[h1]at h2;cases h2;rfl
 .rw[abb]at h1 h2;split at h1
  .rename_i Nd;rw[if_pos Nd]at h2;split at h1
   .rename_i aD;rw[if_pos aD]at h2;cases h1;cases h2;exact h j c c' h3 h4
   .cases h1
  .rename_i Nd;rw[if_neg Nd]at h2;rw[h1]at h2;cases h2;rw[h3]at h4;cases h4;have hd:∃d,c= .ah d:=by rw[aa,Tr]at h1;obtain⟨es,_,rfl⟩:=aaB.1 h1;rw[Tr]at h3;obtain⟨d,_,rfl⟩:=aaB.1 h3;exact⟨d,rfl⟩
   obtain⟨d,rfl⟩:=hd;exact .bh (.ah d)
def ij:Obj:=⟨0,[],[],⟨#[]⟩,0,[],0,0,0⟩
def Tf:List CC:=[.ah (.val (.int .i64 0)),.aM,.aM,.ah (.val (.string ⟨#[]⟩)),.ah (.val (.int .i64 0)),.aM,.ah (.val (.int .i64 0)),.ah (.val (.int .i64 0)),.ah (.val (.int .i64 0))]
theorem abs{Y:Nat->Nat}{m:Mem}{Z:Nat->Prop}{id:Nat}(L:List Obj)(i:Nat):mH Y m Z id (.row 9 (aX (aa (L.map Obj.enc)) i Tf)) (.row 9 (aa ((L.set i ij).map Obj.enc))):=by
 rw[abB];refine mH.NC (L.map Obj.enc) i rfl λj c c' h1 h2=>?_
 match j,h1,h2 with
 |0,h1,h2=>cases h1;cases h2;exact .bh (.ah _)
 |1,h1,h2=>cases h1;cases h2;exact .fT (.aM 1)
 |2,h1,h2=>cases h1;cases h2;exact .fT (.aM 2)
 |3,h1,h2=>cases h1;cases h2;exact .bh (.ah _)
 |4,h1,h2=>cases h1;cases h2;exact .bh (.ah _)
 |5,h1,h2=>cases h1;cases h2;exact .fT (.aM 4)
 |6,h1,h2=>cases h1;cases h2;exact .bh (.ah _)
 |7,h1,h2=>cases h1;cases h2;exact .bh (.ah _)
 |8,h1,h2=>cases h1;cases h2;exact .bh (.ah _)
 |n+9,h1,h2=>simp[Tf]at h1
def gC:bl:=⟨false,false,0,[]⟩
theorem Tg{Y:Nat->Nat}{m:Mem}{Z:Nat->Prop}{id:Nat}(L:List bl)(i:Nat):mH Y m Z id (.row 4 (aX (aa (L.map bl.enc)) i [.ah (.val (.bool false)),.ah (.val (.bool false)),.ah (.val (.int .i64 0)),.aM])) (.row 4 (aa ((L.set i gC).map bl.enc))):=by
 rw[abB];refine mH.NC (L.map bl.enc) i rfl λj c c' h1 h2=>?_
 match j,h1,h2 with
 |0,h1,h2=>cases h1;cases h2;exact .bh (.ah _)
 |1,h1,h2=>cases h1;cases h2;exact .bh (.ah _)
 |2,h1,h2=>cases h1;cases h2;exact .bh (.ah _)
 |3,h1,h2=>cases h1;cases h2;exact .fT (.aM 3)
 |n+4,h1,h2=>simp at h1
def e8(b:Mk)(l:List Obj)(i:Nat):Bool:=match l[i]? with
 |some o=>!(b.O[i]? ==some true)&&o.ag !=0
 |none=>false
def mA(b:Mk)(l:List Obj)(k:Nat)(z:Int):Bool:=decide (0<=z/\z.toNat<k)&&e8 b l z.toNat
def cD(b:Mk)(l:List Obj)(k:Nat)(j:Nat)(o:Obj):Obj:=if(e8 b l j&&decide (j<k))=true then ij else if(o.ag==4&&mA b l k o.bs)=true then {o with bs:= -1}else o
def jJ(i:Nat)(o:Obj):Obj:=if(o.ag==4&&o.bs==(i:Int))=true then {o with bs:= -1}else o
theorem xp(b:Mk)(l:List Obj)(i:Nat)(z:Int):mA b l (i+1) z=(mA b l i z||(z==(i:Int)&&e8 b l i)):=by
 unfold mA;by_cases h:z=(i:Int)
 .subst h;simp
 .have h1:(z==(i:Int))=false:=by simpa using h
  rw[h1];have:decide (0<=z/\z.toNat<i+1)=decide (0<=z/\z.toNat<i):=by
   apply decide_eq_decide.2;constructor<;>intro⟨h2,h3⟩<;>exact⟨h2,om⟩
  rw[this];simp
theorem JZ{b:Mk}{l:List Obj}{i:Nat}(h:e8 b l i=false)(j:Nat)(o:Obj):cD b l i j o=cD b l (i+1) j o:=by
 have h1:(e8 b l j&&decide (j<i+1))=(e8 b l j&&decide (j<i)):=by
  by_cases hj:j=i
  .subst hj;rw[h];simp
  .have:decide (j<i+1)=decide (j<i):=decide_eq_decide.2 om;rw[this]
 unfold cD;rw[h1,xp,h];simp
theorem F3{b:Mk}{l:List Obj}{i:Nat}(h:e8 b l i=true){j:Nat}(hj:j≠i)(o:Obj):jJ i (cD b l i j o)=cD b l (i+1) j o:=by
 have h1:(e8 b l j&&decide (j<i+1))=(e8 b l j&&decide (j<i)):=by have:decide (j<i+1)=decide (j<i):=decide_eq_decide.2 om;rw[this]
 unfold cD;rw[h1,xp,h];by_cases hd:(e8 b l j&&decide (j<i))=true
 .rw[if_pos hd,if_pos hd];rfl
 .rw[if_neg hd,if_neg hd];by_cases hk:(o.ag==4)=true
  .by_cases hz:mA b l i o.bs=true
   .rw[hk,hz];simp[jJ]
   .rw[ado]at hz;rw[hk,hz];by_cases hp:(o.bs==(i:Int))=true
    .simp[jJ,hk,hp]
    .rw[ado]at hp;simp[jJ,hp]
  .rw[ado]at hk;rw[hk];simp[jJ,hk]
theorem Dy{b:Mk}{l:List Obj}{i:Nat}(h:e8 b l i=true)(o:Obj):cD b l (i+1) i o=ij:=by unfold cD;rw[h];simp
theorem Dz(b:Mk)(l:List Obj)(j:Nat)(o:Obj):cD b l 0 j o=o:=by
 unfold cD;have:mA b l 0 o.bs=false:=by simp[mA]
 rw[this];simp
theorem DA{b:Mk}{l:List Obj}{i:Nat}(o:Obj):(cD b l i i o).ag=o.ag:=by
 unfold cD;simp;split<;>rfl
def iQ(L:List Obj)(t:Nat)(o:bl):Bool:=decide (0<t)&&(o.aO&& !(L.any (dL (t:Int))))
def Bl(b:Mk)(k:Nat)(t:Nat)(o:bI):bI:=if(decide (t<k)&& !(b.P[t]? ==some true))=true then⟨-1,0⟩else o
def yI(L:List Obj)(k:Nat)(t:Nat)(o:bl):bl:=if(decide (t<k)&&iQ L t o)=true then gC else o
def jw(L:List Obj)(ps:List bl)(k:Nat):Bool:=(List.range k).any λt=>match ps[t]? with
 |some o=>iQ L t o
 |none=>false
structure cW(l:List Obj)(ops:List bI)(ps:List bl)(L:List Obj)(L2:List bI)(L3:List bl)(en:Bool):Prop where
 ex:∃b,g9 l ops ps b/\Pt l L (cD b l l.length)/\Pt ops L2 (Bl b ops.length)
 pr:Pt ps L3 (yI L ps.length)
 en:en=jw L ps ps.length
structure StL where
 i:Nat
 L:List Obj
structure abt where
 i:Nat
 L:List bI
structure St3 where
 i:Nat
 L:List bl
 en:Bool
theorem Bm{l:List bI}{n:Nat}(h:n<l.length):d5 (n:Int) (lenOf (aa (l.map bI.enc)).length 0 none)=some n:=cy (by show n<(aa (l.map bI.enc)).length;rw[bj,N7];exact h)
theorem mJ{l:List bl}{n:Nat}(h:n<l.length):d5 (n:Int) (lenOf (aa (l.map bl.enc)).length 0 none)=some n:=cy (by show n<(aa (l.map bl.enc)).length;rw[bj,N7];exact h)
theorem xq{α:Type}{f:α->List Dt}{l:List α}{k:Nat}(h:(k:Int)<(((aa (l.map f)).length:Nat):Int)):k<l.length:=by rw[bj,N7]at h;omega
theorem xr{α:Type}{f:α->List Dt}{l:List α}{k:Nat}(h:¬(k:Int)<(((aa (l.map f)).length:Nat):Int)):l.length<=k:=by rw[bj,N7]at h;omega
theorem F4{L:List Obj}{ps:List bl}{p:Nat}(h:p<ps.length):jw L ps (p+1)=(jw L ps p||iQ L p ps[p]):=by
 unfold jw;rw[List.range_succ,List.any_append,vR h|>λe=>(by simp[e]:(List.any [p] λt=>match ps[t]? with|some o=>iQ L t o|none=>false)=iQ L p ps[p])]
theorem F5(L:List Obj)(L2:List bI)(L3:List bl)(b:Mk)(p:Nat)(hl:L.length<=4194304){K:CV->Mem->Prop}(h:K (aF (L.any (dL (p:Int)))) [.var [.row 1 9 0 none,.row 2 2 0 none,.row 3 4 0 none],.row 9 (aa (L.map Obj.enc)),.row 2 (aa (L2.map bI.enc)),.row 4 (aa (L3.map bl.enc)),.var [.ptr 0 0,.row 5 1 0 none,.row 6 1 0 none],.row 1 (aa (b.O.map bE)),.row 1 (aa (b.P.map bE)),.var [.ah (.val (.int .i64 (p:Nat)))]]):aq prog 80 [.rv (.one (.row 1 9 0 none)),.rv (.one (.fn 120 [7]))] [.var [.row 1 9 0 none,.row 2 2 0 none,.row 3 4 0 none],.row 9 (aa (L.map Obj.enc)),.row 2 (aa (L2.map bI.enc)),.row 4 (aa (L3.map bl.enc)),.var [.ptr 0 0,.row 5 1 0 none,.row 6 1 0 none],.row 1 (aa (b.O.map bE)),.row 1 (aa (b.P.map bE)),.var [.ah (.val (.int .i64 (p:Nat)))]] K:=by
 refine bw [1,7] 8 rfl rfl rfl rfl (args0:=[.rv (.one (.row 0 9 0 none)),.rv (.one (.fn 120 [1]))]) rfl (λi b' hi=>?_) (NB L hl 120 [.val (.int .i64 (p:Nat))] (dL (p:Int)) (λs K hK=>UH s p K hK)) (λr m1 hr=>?_)
 .match i,hi with
  |0,hi=>cases hi;exact .inr ⟨λh=>h,_,rfl,.bM rfl⟩
  |1,hi=>cases hi;exact .inr ⟨λh=>h,_,rfl,.ju rfl⟩
  |n+2,hi=>simp at hi
 .obtain⟨rfl,rfl⟩:=hr;refine⟨Yj _,?_⟩;have e:(Bk.row 9 (aa (L.map Obj.enc))).bh (sg [1,7] 8)= .row 9 (aa (L.map Obj.enc)):=by simp only[Bk.bh,dF]
  show K _ [.var [.row 1 9 0 none,.row 2 2 0 none,.row 3 4 0 none],(Bk.row 9 (aa (L.map Obj.enc))).bh (sg [1,7] 8),.row 2 (aa (L2.map bI.enc)),.row 4 (aa (L3.map bl.enc)),.var [.ptr 0 0,.row 5 1 0 none,.row 6 1 0 none],.row 1 (aa (b.O.map bE)),.row 1 (aa (b.P.map bE)),.var [.ah (.val (.int .i64 (p:Nat)))]];rw[e];exact h
theorem l79:bz prog f79=some c79:=by kernel_rfl
theorem J0(l:List Obj)(ops:List bI)(ps:List bl)(g:∀o,o∈l->o.sm)(hl:l.length<=4194304)(ho:ops.length<=4194304)(jY:ps.length<=4194304)(p8:∀p,p∈ps->p.aQ.length<=10):
  body prog c79 [.rv (.one (.ptr 0 0))] [.var [.row 1 9 0 none,.row 2 2 0 none,.row 3 4 0 none],.row 9 (aa (l.map Obj.enc)),.row 2 (aa (ops.map bI.enc)),.row 4 (aa (ps.map bl.enc))]
   (λr m=>∃r' m',View 4 ⟨[r],m⟩ ⟨[r'],m'⟩/\∃L L2 L3 en,cW l ops ps L L2 L3 en/\r'=aF en/\m'=[.var [.row 1 9 0 none,.row 2 2 0 none,.row 3 4 0 none],.row 9 (aa (L.map Obj.enc)),.row 2 (aa (L2.map bI.enc)),.row 4 (aa (L3.map bl.enc))]):=by
 refine(NA l ops ps g hl ho jY p8).mono λr m⟨b,hb,hr,hm⟩=>?_
 subst hr hm;have hbO:=hb.len.1;have hbP:=hb.len.2;refine ba (λ(s:StL)=>s.i<=l.length/\Pt l s.L (cD b l s.i)) [0,3,16] (λs=>[(17,an .i64 (s.i:Nat))]) (λs=>[.var [.row 1 9 0 none,.row 2 2 0 none,.row 3 4 0 none],.row 9 (aa (s.L.map Obj.enc)),.row 2 (aa (ops.map bI.enc)),.row 4 (aa (ps.map bl.enc)),.var [.ptr 0 0,.row 5 1 0 none,.row 6 1 0 none],.row 1 (aa (b.O.map bE)),.row 1 (aa (b.P.map bE))]) (λs=>l.length-s.i) ⟨0,l⟩ ⟨aav _,(Pt.refl l).congr λt o _=>(Dz b l t o).symm⟩ ?_ (λs hs=>?_)
 .refine View.o1 7 [0,1,2,3,4,5,6] [] ?_
  .exact .au
 obtain⟨i,L⟩:=s;obtain⟨hi,zY⟩:=hs;have hi:i<=l.length:=hi;have zY:Pt l L (cD b l i):=zY;refine aP (λh=>?_) (λh=>?_)
 .have aD:i<l.length:=xq h;have ZI:i<b.O.length:=om;refine af (zV ZI) ?_;refine af (t7 ZI) ?_;have p7:∀(hd:e8 b l i=false),Pt l L (cD b l (i+1)):=λhd=>zY.congr λt o _=>JZ hd t o
  refine aJ (λh2=>?_) (λh2=>?_)
  .have hd:e8 b l i=false:=by unfold e8;rw[vR aD,vR ZI,h2];simp
   refine⟨⟨i+1,L⟩,⟨aD,p7 hd⟩,(show l.length-(i+1)<l.length-i by omega),View.o2 7 [0,1,2,3,4,5,6] [] ?_⟩
   .exact .au
  .obtain⟨hL,hLi⟩:=zY.at aD;have EU:L[i].ag=l[i].ag:=by rw[hLi,DA]
   refine af (zX hL) ?_;refine af (bN Obj.enc L hL) ?_;refine bu (λh3=>?_) (λh3=>?_)
   .have h3:L[i].ag=0:=h3;have hd:e8 b l i=false:=by unfold e8;rw[vR aD];show(!(b.O[i]? ==some true)&&l[i].ag !=0)=false;rw[<-EU,h3];simp
    refine⟨⟨i+1,L⟩,⟨aD,p7 hd⟩,(show l.length-(i+1)<l.length-i by omega),View.o2 7 [0,1,2,3,4,5,6] [] ?_⟩
    .exact .au
   .have h3:L[i].ag≠0:=h3;have hd:e8 b l i=true:=by unfold e8;rw[vR aD,vR ZI,h2];simp[<-EU,h3]
    have hLl:=zY.1;refine ba (λ(s:StL)=>s.i<=l.length/\Pt l s.L (λt o=>if t<s.i then jJ i (cD b l i t o)else cD b l i t o)) [0,3,4,16,17,42] (λs=>[(43,an .i64 (s.i:Nat))]) (λs=>[.var [.row 1 9 0 none,.row 2 2 0 none,.row 3 4 0 none],.row 9 (aa (s.L.map Obj.enc)),.row 2 (aa (ops.map bI.enc)),.row 4 (aa (ps.map bl.enc)),.var [.ptr 0 0,.row 5 1 0 none,.row 6 1 0 none],.row 1 (aa (b.O.map bE)),.row 1 (aa (b.P.map bE))]) (λs=>l.length-s.i) ⟨0,L⟩ ⟨aav _,zY.congr λt o _=>aC⟩ ?_ (λs hs=>?_)
    .refine View.o1 7 [0,1,2,3,4,5,6] [] ?_
     .exact .au
    clear zY p7;obtain⟨j,M⟩:=s;obtain⟨hj,zY⟩:=hs;have hj:j<=l.length:=hj;have zY:Pt l M (λt o=>if t<j then jJ i (cD b l i t o)else cD b l i t o):=zY
    have hMl:=zY.1;refine aP (λkM=>?_) (λkM=>?_)
    .have ez:j<L.length:=xq kM;have J1:j<l.length:=om;obtain⟨hM,V5⟩:=zY.at J1;simp only[Nat.lt_irrefl,if_false]at V5;have jC:=λx=>zY.set (j:=j) (x:=x) (g:=λt o=>if t<j+1 then jJ i (cD b l i t o)else cD b l i t o)
     have r9:=λ(hh:jJ i M[j]=M[j])=>zY.congr (g:=λt o=>if t<j+1 then jJ i (cD b l i t o)else cD b l i t o) λt o ho=>by
      by_cases LS:t=j
      .subst LS;rw[vR J1]at ho;cases ho;simp only[Nat.lt_irrefl,if_false,ab6,if_true];rw[<-V5,hh]
      .have e1:(t<j+1)↔(t<j):=om;simp only[e1]
     refine af (zX hM) ?_;refine af (bN Obj.enc M hM) ?_;have Xb:=bN Obj.enc M hM;generalize hx:M[j]=x at V5 r9 Xb;refine bu (λh4=>?_) (λh4=>?_)
     .have h4:x.ag=4:=h4;refine af (zX hM) ?_;refine af Xb ?_;refine bu (λh5=>?_) (λh5=>?_)
      .have h5:x.bs=(i:Int):=h5;refine af (zX hM) ?_;refine af Xb ?_;have hs:=jC {x with bs:= -1} (λo ho=>by
        rw[vR J1]at ho;cases ho;simp only[ab6,if_true];rw[<-V5];simp[jJ,h4,h5]) (λt o LS _=>by
        have e1:(t<j+1)↔(t<j):=om;simp only[e1])
       refine⟨⟨j+1,M.set j {x with bs:= -1}⟩,⟨J1,hs⟩,(show l.length-(j+1)<l.length-j by omega),View.o2 7 [0,1,2,3,4,5,6] [] ?_⟩
       .exact(.pe rfl rfl rfl (.pt rfl rfl (.bM (nU Obj.enc M j {x with bs:= -1})) (.pr rfl rfl rfl (.pr rfl rfl rfl (.pe rfl rfl rfl (.pr rfl rfl rfl (.pn rfl rfl rfl)))))))
      .have h5:x.bs≠(i:Int):=h5;refine⟨⟨j+1,M⟩,⟨J1,r9 (by simp[jJ,h5])⟩,(show l.length-(j+1)<l.length-j by omega),View.o2 7 [0,1,2,3,4,5,6] [] ?_⟩
       .exact .au
     .have h4:x.ag≠4:=h4;refine⟨⟨j+1,M⟩,⟨J1,r9 (by simp[jJ,h4])⟩,(show l.length-(j+1)<l.length-j by omega),View.o2 7 [0,1,2,3,4,5,6] [] ?_⟩
      .exact .au
    .have ET:L.length<=j:=xr kM;have hM:i<M.length:=om;refine af (zX hM) ?_;refine af (bN Obj.enc M hM) ?_;have hs:=zY.set (j:=i) (x:=ij) (g:=cD b l (i+1)) (λo _=>Dy hd o) (λt o Nd ht=>by
      have:t<j:=by have:=(Ki.1 ht).1;omega
      rw[if_pos this,F3 hd Nd])
     refine⟨⟨i+1,M.set i ij⟩,⟨aD,hs⟩,(show l.length-(i+1)<l.length-i by omega),View.o2 7 [0,1,2,3,4,5,6] [] ?_⟩
     .exact(.pe rfl rfl rfl (.pt rfl rfl (abs M i) (.pr rfl rfl rfl (.pr rfl rfl rfl (.pe rfl rfl rfl (.pr rfl rfl rfl (.pn rfl rfl rfl)))))))
 .have h9:l.length<=i:=xr h;have lY:i=l.length:=om;subst lY;have hLl:=zY.1;refine ba (λ(s:abt)=>s.i<=ops.length/\Pt ops s.L (Bl b s.i)) [0,3,87] (λs=>[(88,an .i64 (s.i:Nat))]) (λs=>[.var [.row 1 9 0 none,.row 2 2 0 none,.row 3 4 0 none],.row 9 (aa (L.map Obj.enc)),.row 2 (aa (s.L.map bI.enc)),.row 4 (aa (ps.map bl.enc)),.var [.ptr 0 0,.row 5 1 0 none,.row 6 1 0 none],.row 1 (aa (b.O.map bE)),.row 1 (aa (b.P.map bE))]) (λs=>ops.length-s.i) ⟨0,ops⟩ ⟨aav _,(Pt.refl ops).congr λt o _=>by simp[Bl]⟩ ?_ (λs hs=>?_)
  .refine View.o1 7 [0,1,2,3,4,5,6] [] ?_
   .exact .au
  obtain⟨k,L2⟩:=s;obtain⟨hk,Cw⟩:=hs;have hk:k<=ops.length:=hk;have Cw:Pt ops L2 (Bl b k):=Cw;have afI:=Cw.1;refine aP (λh=>?_) (λh=>?_)
  .have M6:k<ops.length:=xq h;have ZJ:k<b.P.length:=om;refine af (zV ZJ) ?_;refine af (t7 ZJ) ?_;have kz:∀t,t≠k->decide (t<k+1)=decide (t<k):=λt ht=>decide_eq_decide.2 om
   refine aJ (λh2=>?_) (λh2=>?_)
   .have h2:b.P[k]=false:=by simpa using h2
    have hL2:k<L2.length:=om;refine af (Bm hL2) ?_;refine af (bN bI.enc L2 hL2) ?_;have hs:=Cw.set (j:=k) (x:=⟨-1,0⟩) (g:=Bl b (k+1)) (λo _=>by simp[Bl,vR ZJ,h2]) (λt o Th _=>by unfold Bl;rw[kz t Th])
    refine⟨⟨k+1,L2.set k ⟨-1,0⟩⟩,⟨M6,hs⟩,(show ops.length-(k+1)<ops.length-k by omega),View.o2 7 [0,1,2,3,4,5,6] [] ?_⟩
    .exact(.pe rfl rfl rfl (.pr rfl rfl rfl (.pt rfl rfl (.bM (nU bI.enc L2 k ⟨-1,0⟩)) (.pr rfl rfl rfl (.pe rfl rfl rfl (.pr rfl rfl rfl (.pn rfl rfl rfl)))))))
   .have h2:b.P[k]=true:=by simpa using h2
    have hs:=Cw.congr (g:=Bl b (k+1)) λt o _=>by
     by_cases Th:t=k
     .subst Th;simp[Bl,vR ZJ,h2]
     .unfold Bl;rw[kz t Th]
    refine⟨⟨k+1,L2⟩,⟨M6,hs⟩,(show ops.length-(k+1)<ops.length-k by omega),View.o2 7 [0,1,2,3,4,5,6] [] ?_⟩
    .exact .au
  .have h9:ops.length<=k:=xr h;have Bi:k=ops.length:=om;subst Bi;refine ba (λ(s:St3)=>s.i<=ps.length/\Pt ps s.L (yI L s.i)/\s.en=jw L ps s.i) [0,3,111] (λs=>[(112,an .i64 (s.i:Nat)),(7,aF s.en)]) (λs=>[.var [.row 1 9 0 none,.row 2 2 0 none,.row 3 4 0 none],.row 9 (aa (L.map Obj.enc)),.row 2 (aa (L2.map bI.enc)),.row 4 (aa (s.L.map bl.enc)),.var [.ptr 0 0,.row 5 1 0 none,.row 6 1 0 none],.row 1 (aa (b.O.map bE)),.row 1 (aa (b.P.map bE))]) (λs=>ps.length-s.i) ⟨0,ps,false⟩ ⟨aav _,(Pt.refl ps).congr λt o _=>by simp[yI],rfl⟩ ?_ (λs hs=>?_)
   .refine View.o1 7 [0,1,2,3,4,5,6] [] ?_
    .exact .au
   obtain⟨p,L3,en⟩:=s;obtain⟨hp,UJ,qA⟩:=hs;have hp:p<=ps.length:=hp;have UJ:Pt ps L3 (yI L p):=UJ;have qA:en=jw L ps p:=qA;have afJ:=UJ.1;refine aP (λh=>?_) (λh=>?_)
   .have jn:p<ps.length:=xq h;obtain⟨ZK,Q2⟩:=UJ.at jn;have Q2:L3[p]=ps[p]:=by rw[Q2];simp[yI]
    have kz:∀t,t≠p->decide (t<p+1)=decide (t<p):=λt ht=>decide_eq_decide.2 om
    have X1:=F4 (L:=L) jn;have qB:iQ L p ps[p]=false->Pt ps L3 (yI L (p+1))/\en=jw L ps (p+1):=λhf=>⟨UJ.congr λt o Bj=>by
     by_cases Q3:t=p
     .subst Q3;rw[vR jn]at Bj;cases Bj;simp[yI,hf]
     .unfold yI;rw[kz t Q3],by rw[X1,hf,qA];simp⟩
    refine F5 L L2 L3 b p om ?_;refine aP (λzc=>?_) (λzc=>?_)
    .have zc:0<p:=by have h:(p:Int)>0:=zc;omega
     refine af (mJ ZK) ?_;refine af (bN bl.enc L3 ZK) ?_;refine aJ (λbK=>?_) (λbK=>?_)
     .refine aJ (λEQ=>?_) (λEQ=>?_)
      .refine af (mJ ZK) ?_;refine af (bN bl.enc L3 ZK) ?_;refine⟨trivial,?_⟩;have he:iQ L p ps[p]=true:=by rw[Q2]at bK;unfold iQ;rw[bK,EQ];simp[zc]
       have hs:=UJ.set (j:=p) (x:=gC) (g:=yI L (p+1)) (λo Bj=>by rw[vR jn]at Bj;cases Bj;simp[yI,he]) (λt o Q3 _=>by unfold yI;rw[kz t Q3])
       refine⟨⟨p+1,L3.set p gC,true⟩,⟨jn,hs,(by rw[X1,he];simp)⟩,(show ps.length-(p+1)<ps.length-p by omega),View.o2 8 [0,1,2,3,4,5,6] [] ?_⟩
       .exact(.pe rfl rfl rfl (.pr rfl rfl rfl (.pr rfl rfl rfl (.pt rfl rfl (Tg L3 p) (.pe rfl rfl rfl (.pr rfl rfl rfl (.pn rfl rfl rfl)))))))
      .skip
       refine⟨⟨p+1,L3,en⟩,⟨jn,(qB (by unfold iQ;rw[EQ];simp)).1,(qB (by unfold iQ;rw[EQ];simp)).2⟩,(show ps.length-(p+1)<ps.length-p by omega),View.o2 8 [0,1,2,3,4,5,6] [] ?_⟩
       .exact .au
     .rw[Q2]at bK;refine⟨⟨p+1,L3,en⟩,⟨jn,(qB (by unfold iQ;rw[bK];simp)).1,(qB (by unfold iQ;rw[bK];simp)).2⟩,(show ps.length-(p+1)<ps.length-p by omega),View.o2 8 [0,1,2,3,4,5,6] [] ?_⟩
      .exact .au
    .have zc:p=0:=by have h:¬(p:Int)>0:=zc;omega
     refine⟨⟨p+1,L3,en⟩,⟨jn,(qB (by simp[iQ,zc])).1,(qB (by simp[iQ,zc])).2⟩,(show ps.length-(p+1)<ps.length-p by omega),View.o2 8 [0,1,2,3,4,5,6] [] ?_⟩
     .exact .au
   .have h9:ps.length<=p:=xr h;have yR:p=ps.length:=om;subst yR;refine⟨aF en,_,View.o 7 [0,1,2,3] [] (.eq rfl .nil) (.pe rfl rfl rfl (.pr rfl rfl rfl (.pr rfl rfl rfl (.pn rfl rfl rfl)))),L,L2,L3,en,⟨⟨b,hb,zY,Cw⟩,UJ,qA⟩,rfl,rfl⟩
theorem Q4(l:List Obj)(ops:List bI)(ps:List bl)(g:∀o,o∈l->o.sm)(hl:l.length<=4194304)(ho:ops.length<=4194304)(jY:ps.length<=4194304)(p8:∀p,p∈ps->p.aQ.length<=10):
  aq prog 79 [.rv (.one (.ptr 0 0))] [.var [.row 1 9 0 none,.row 2 2 0 none,.row 3 4 0 none],.row 9 (aa (l.map Obj.enc)),.row 2 (aa (ops.map bI.enc)),.row 4 (aa (ps.map bl.enc))]
   (λr m=>∃L L2 L3 en,cW l ops ps L L2 L3 en/\r=aF en/\m=[.var [.row 1 9 0 none,.row 2 2 0 none,.row 3 4 0 none],.row 9 (aa (L.map Obj.enc)),.row 2 (aa (L2.map bI.enc)),.row 4 (aa (L3.map bl.enc))]):=
 bL (bc func79 l79 (J0 l ops ps g hl ho jY p8)) λr m1 h=>h
structure dP(l:List Obj)(ops:List bI)(ps:List bl):Prop where
 sm:∀o,o∈l->o.sm
 ll:l.length<=4194304
 lo:ops.length<=4194304
 lp:ps.length<=4194304
 sl:∀p,p∈ps->p.aQ.length<=10
 ne:ps≠[]
theorem ND:ij.sm:=⟨⟨⟨[],rfl⟩,⟨[],rfl⟩,λq hq=>by simp[ij]at hq⟩,by simp[ij],by simp[ij],by simp[ij],λq hq=>by simp[ij]at hq⟩
theorem Pt.all{α:Type}{l L:List α}{f:Nat->α->α}(h:Pt l L f){Q:α->Prop}(hf:∀(t:Nat)o,l[t]? =some o->Q (f t o)):∀x,x∈L->Q x:=by
 intro x hx;obtain⟨t,ht⟩:=aab hx;have aD:t<l.length:=by have:=(Ki.1 ht).1;rw[h.1]at this;exact this
 have:=h.2 t l[t] (vR aD);rw[ht]at this;cases this;exact hf t _ (vR aD)
theorem cW.kr{l:List Obj}{ops:List bI}{ps:List bl}{L:List Obj}{L2:List bI}{L3:List bl}{en:Bool}(h:cW l ops ps L L2 L3 en)(k:dP l ops ps):dP L L2 L3:=by
 obtain⟨b,hb,hP,Cw⟩:=h.ex;refine⟨hP.all λt o ho=>?_,by rw[hP.1];exact k.ll,by rw[Cw.1];exact k.lo,by rw[h.pr.1];exact k.lp,h.pr.all (Q:=λp=>p.aQ.length<=10) λt o ho=>?_,λe=>k.ne (aaq (by rw[<-h.pr.1,e];rfl))⟩
 .have hs:=k.sm o (Tu ho);unfold cD;split
  .exact ND
  .split
   .exact⟨⟨hs.t.1,hs.t.2.1,hs.t.2.2⟩,hs.d,hs.e,hs.q,hs.qd⟩
   .exact hs
 .unfold yI;split
  .simp[gC]
  .exact k.sl o (Tu ho)
def lF(ps:List bl):Nat:=(ps.filter λp=>p.aO).length
theorem DB:∀(a b:List bl),b.length=a.length->(∀(t:Nat)x y,a[t]? =some x->b[t]? =some y->y.aO=true->x.aO=true)->lF b<=lF a/\((∃(t:Nat)(x y:bl),a[t]? =some x/\b[t]? =some y/\x.aO=true/\y.aO=false)->lF b<lF a)
 | [],[],_,_=>⟨Yj _,λ⟨t,x,y,h,_⟩=>by simp at h⟩
 | [],_::_,h,_=>by simp at h
 |_::_,[],h,_=>by simp at h
 |x::a,y::b,h,hm=>by
  obtain⟨ih1,ih2⟩:=DB a b (by simpa using h) (λt u v hu hv=>hm (t+1) u v (by simpa using hu) (by simpa using hv))
  have h0:=hm 0 x y aC aC;refine⟨?_,λ⟨t,u,v,hu,hv,hul,yW⟩=>?_⟩
  .unfold lF at ih1|-;cases hx:x.aO<;>cases hy:y.aO<;>simp[hx,hy]at h0|-<;>omega
  .cases t with
   |zero=>
    simp at hu hv;subst hu hv;unfold lF at ih1|-;simp[hul,yW];omega
   |succ t=>
    have:=ih2 ⟨t,u,v,by simpa using hu,by simpa using hv,hul,yW⟩
    unfold lF at this|-;cases hx:x.aO<;>cases hy:y.aO<;>simp[hx,hy]at h0|-<;>omega
theorem cW.lF{l:List Obj}{ops:List bI}{ps:List bl}{L:List Obj}{L2:List bI}{L3:List bl}(h:cW l ops ps L L2 L3 true):lF L3<Go.Proofs.YtodckkkbiidffaaGreatDoor.lF ps:=by
 have qA:=h.en;unfold jw at qA;have qA:=qA.symm;rw[abc]at qA;obtain⟨t,ht,Bn⟩:=qA;have HS:t<ps.length:=by simpa using ht
 rw[vR HS]at Bn;have Bn:iQ L t ps[t]=true:=Bn;refine(DB ps L3 h.pr.1 (λi x y hx hy hl=>?_)).2 ⟨t,ps[t],gC,vR HS,?_,?_,rfl⟩
 .have:=h.pr.2 i x hx;rw[hy]at this;cases this;unfold yI at hl;split at hl
  .simp[gC]at hl
  .exact hl
 .have:=h.pr.2 t _ (vR HS);rw[this];simp[yI,Bn,HS]
 .unfold iQ at Bn;simp at Bn;exact Bn.2.1
structure Kr where
 l:List Obj
 ops:List bI
 ps:List bl
inductive iR(k:Kr):Kr->Prop
 |refl:iR k k
 |step {a b:Kr} (h:iR k a) (ho:cW a.l a.ops a.ps b.l b.ops b.ps true):iR k b
theorem NF{Y:Nat->Nat}{m:Mem}{Z:Nat->Prop}{p:Option Nat}{a b:Dt}(h:a=b):tv Y m Z p (.ah a) (.ah b):=h▸ .bh (.ah a)
theorem F6(a:Kr)(ha:dP a.l a.ops a.ps){K:CV->Mem->Prop}(x0:Bk)(h:∀(c:Kr)en,cW a.l a.ops a.ps c.l c.ops c.ps en->K (aF en) [x0,.var z3,.var [.row 3 9 0 none,.row 4 2 0 none,.row 5 4 0 none],.row 9 (aa (c.l.map Obj.enc)),.row 2 (aa (c.ops.map bI.enc)),.row 4 (aa (c.ps.map bl.enc))]):
  aq prog 79 [.rv (.one (.ptr 2 0))] [x0,.var z3,.var [.row 3 9 0 none,.row 4 2 0 none,.row 5 4 0 none],.row 9 (aa (a.l.map Obj.enc)),.row 2 (aa (a.ops.map bI.enc)),.row 4 (aa (a.ps.map bl.enc))] K:=by
 refine bw [2,3,4,5] 6 rfl rfl rfl rfl (args0:=[.rv (.one (.ptr 0 0))]) rfl (λi b' hi=>?_) (Q4 a.l a.ops a.ps ha.sm ha.ll ha.lo ha.lp ha.sl) (λr m1 hr=>?_)
 .match i,hi with
  |0,hi=>cases hi;exact .inr ⟨λh=>h,_,rfl,.eq rfl aC⟩
  |1,hi=>cases hi;exact .inr ⟨λh=>h,_,rfl,.bM rfl⟩
  |2,hi=>cases hi;exact .inr ⟨λh=>h,_,rfl,.bM rfl⟩
  |3,hi=>cases hi;exact .inr ⟨λh=>h,_,rfl,.bM rfl⟩
  |n+4,hi=>simp at hi
 .obtain⟨L,L2,L3,en,ho,rfl,rfl⟩:=hr;refine⟨Yj _,?_⟩;have e:∀(s:Nat)(ds:List (List Dt)),(Bk.row s (aa ds)).bh (sg [2,3,4,5] 6)= .row s (aa ds):=λs ds=>by simp only[Bk.bh,dF]
  show K _ [x0,.var z3,.var [.row 3 9 0 none,.row 4 2 0 none,.row 5 4 0 none],(Bk.row 9 (aa (L.map Obj.enc))).bh (sg [2,3,4,5] 6),(Bk.row 2 (aa (L2.map bI.enc))).bh (sg [2,3,4,5] 6),(Bk.row 4 (aa (L3.map bl.enc))).bh (sg [2,3,4,5] 6)];rw[e,e,e];exact h ⟨L,L2,L3⟩ en ho
def c82:LF:= ⟨16,[.tmp 3],(.seq (.ai [qu 2 (.box 0),qu 3 (.aN (qb false))]) (.seq (.ai [qf 4 0 2,ql 5 4,qu 6 (.aL .eql 5 (qi 5)),qm 7 6,qg 8 (.bY 6 2) 7 true,qg 9 (.load false 1 8) 7 true,qg 10 (.bY 2 1) 7 true,qg 11 (.load false 1 10) 7 true,qg 12 (.len 1 11) 7 true,qg 13 (.aL .sub 12 (qi 1)) 7 true,qg 14 (.aL .eql 9 13) 7 true,qu 15 (.pick 7 14 (qb false)),qm 3 15]) .ret))⟩
theorem l82:bz prog f82=some c82:=by kernel_rfl
theorem F7(l:List Obj)(hb:l.length<=4194304)(F:Nat)(cs:List Dt)(q:Obj->Bool)(hF:∀s,∀K:CV->Mem->Prop,K (aF (q s)) [.var (cs.map .ah)]->aq prog F [s.cv,.rv (.one (.ptr 0 0))] [.var (cs.map .ah)] K):
  body prog c121 [cC l,.rv (.one (.fn F [0]))] [.var (cs.map .ah)] (λr m=>r=an .i64 (oF q l)/\m=[.var (cs.map .ah)]):=by
 refine ba (λk=>k<=l.length/\∀(j:Nat)s,j<k->l[j]? =some s->q s=false) [0,1,7] (λk=>[(8,an .i64 (k:Nat))]) (λ_=>[.var (cs.map .ah)]) (λk=>l.length-k) 0 ⟨aav _,λj s h=>absurd h (aa9 j)⟩ ?_ (λk hk=>?_)
 .refine View.o1 1 [0] [] ?_
  .exact .pt rfl rfl (.ju rfl) (.nil _)
 .refine aP (λh=>?_) (λh=>?_)
  .have aD:k<l.length:=by have h:(k:Int)<((l.map Obj.enc).length:Int):=h;rw[N7]at h;omega
   refine af (Be aD) ?_;have hi:=vR aD;have X0:=lD (q:=q) aD;generalize l[k]=o at hi X0;refine hF o _ ?_;refine aJ (λIg=>?_) (λIg=>?_)
   .rw[X0 Ig hk.2];exact⟨rfl,rfl⟩
   .refine⟨k+1,⟨aD,λj s hj hs=>?_⟩,(show l.length-(k+1)<l.length-k by omega),View.o 1 [0] [] ?_ ?_⟩
    .rcases aag j k with h5|h5
     .exact hk.2 j s h5 hs
     .have:j=k:=om;subst this;rw[hi]at hs;cases hs;exact Ig
    .repeat(first|exact .nil|refine .aH ?_|refine .put (.bh (cR om).symm) ?_|refine .eq rfl ?_)
    .exact .pt rfl rfl (.ju rfl) (.nil _)
  .have eG:¬(k:Int)<((l.map Obj.enc).length:Int):=h;rw[N7]at eG;rw[nq λj s hs=>hk.2 j s (by have:=(Ki.1 hs).1;omega) hs]
   exact⟨rfl,rfl⟩
theorem DC(l:List Obj)(hb:l.length<=4194304)(F:Nat)(cs:List Dt)(q:Obj->Bool)(hF:∀s,∀K:CV->Mem->Prop,K (aF (q s)) [.var (cs.map .ah)]->aq prog F [s.cv,.rv (.one (.ptr 0 0))] [.var (cs.map .ah)] K):
  body prog c80 [cC l,.rv (.one (.fn F [0]))] [.var (cs.map .ah)] (λr m=>r=aF (l.any q)/\m=[.var (cs.map .ah)]):=by
 refine(bc func121 l121 (F7 l hb F cs q hF)).mono λr m⟨hr,hm⟩=>?_
 subst hr hm;refine⟨?_,rfl⟩;show aF _=aF _;rw[<-sG]
theorem ua(l:List Obj)(hb:l.length<=4194304)(F:Nat)(cs:List Dt)(q:Obj->Bool)(hF:∀s,∀K:CV->Mem->Prop,K (aF (q s)) [.var (cs.map .ah)]->aq prog F [s.cv,.rv (.one (.ptr 0 0))] [.var (cs.map .ah)] K)(K:CV->Mem->Prop)(h:K (aF (l.any q)) [.var (cs.map .ah)]):
  aq prog 80 [cC l,.rv (.one (.fn F [0]))] [.var (cs.map .ah)] K:=
 (bc func80 l80 (DC l hb F cs q hF)).mono λr m⟨hr,hm⟩=>by subst hr hm;exact h
def c41:LF:= ⟨120,[.cell true 3 2],(.seq (.ai [qu 1 (.box 0),qu 2 (.alloc [.aM,.aM,.aM])]) (.seq (.ai [qL 6 3 1,qu 7 (qc 59 [6]),qu 3 (.alloc [.aM,.aM,.aM]),qw (.store 3 3 7)]) (.seq (.block 0 (.loop (.seq (.seq (.ai [qu 8 (qc 79 [3])]) (.cond 8 .skip (.exit 0))) (.block 1 .skip)))) (.seq (.block 2 (.loop (.seq (.seq (.ai [qf 9 0 3,ql 10 9,qu 11 (.len 1 10),qu 12 (.aL .gtr 11 (qi 1)),qm 13 12,qg 14 (.bY 0 3) 13 true,qg 15 (.load false 1 14) 13 true,qg 16 (.bY 0 3) 13 true,qg 17 (.load false 1 16) 13 true,qg 18 (.len 1 17) 13 true,qg 19 (.aL .sub 18 (qi 1)) 13 true,qg 20 (.cw 9 15 19) 13 true,qg 21 (.bY 0 20) 13 true,qg 22 (.load false 1 21) 13 true,qg 23 (.aL .eql 22 (qi 0)) 13 true,qu 24 (.pick 13 23 (qb false))]) (.cond 24 .skip (.exit 2))) (.block 3 (.ai [qf 25 0 3,ql 26 25,qf 27 0 3,ql 28 27,qu 29 (.len 1 28),qu 30 (.aL .sub 29 (qi 1)),qu 31 (.oI 9 26 none (some 30) none),qf 32 0 3,qw (.store 1 32 31)]))))) (.cX (.seq (.block 4 (.loop (.seq (.seq (.ai [qf 33 1 3,ql 34 33,qu 35 (.len 1 34),qu 36 (.aL .gtr 35 (qi 0)),qm 37 36,qg 38 (.bY 1 3) 37 true,qg 39 (.load false 1 38) 37 true,qg 40 (.bY 1 3) 37 true,qg 41 (.load false 1 40) 37 true,qg 42 (.len 1 41) 37 true,qg 43 (.aL .sub 42 (qi 1)) 37 true,qg 44 (.cw 2 39 43) 37 true,qg 45 (.bY 0 44) 37 true,qg 46 (.load false 1 45) 37 true,qg 47 (.aL .lss 46 (qi 0)) 37 true,qu 48 (.pick 37 47 (qb false))]) (.cond 48 .skip (.exit 4))) (.block 5 (.ai [qf 49 1 3,ql 50 49,qf 51 1 3,ql 52 51,qu 53 (.len 1 52),qu 54 (.aL .sub 53 (qi 1)),qu 55 (.oI 2 50 none (some 54) none),qf 56 1 3,qw (.store 1 56 55)]))))) (.seq (.cX (.seq (.ai [qf 57 2 3,ql 58 57,qu 59 (.len 1 58),qu 60 (.aN (qi 0))]) (.block 6 (.loop (.seq (.ai [qu 61 (.aL .lss 60 59)]) (.seq (.cond 61 .skip (.exit 6)) (.seq (.block 7 (.seq (.ai [qm 62 60,qu 4 (.alloc [qd 0]),qw (.store 1 4 62)]) (.seq (.ai [qf 63 0 3,ql 64 63,qu 65 (.fn 81 [4]),qu 66 (qc 80 [64,65]),qm 5 66]) (.seq (.ai [ql 67 4,qu 68 (.aL .gtr 67 (qi 0)),qm 69 68,qg 70 (.bY 2 3) 69 true,qg 71 (.load false 1 70) 69 true,qg 72 (.load false 1 4) 69 true,qg 73 (.cw 4 71 72) 69 true,qg 74 (.bY 0 73) 69 true,qg 75 (.load false 1 74) 69 true,qg 76 (.un .not 75) 69 true,qu 77 (.pick 69 76 (qb false)),qm 78 77,qg 79 (.aN 5) 78 true,qg 80 (.un .not 79) 78 true,qu 81 (.pick 78 80 (qb false))]) (.cond 81 (.ai [qf 82 2 3,ql 83 82,ql 84 4,qu 85 (.build [(.ah (.val (.bool false))),(.ah (.val (.bool false))),qd 0,.aM] []),qu 86 (.cw 4 83 84),qw (.store 4 86 85)]) .skip))))) (.ai [qu 87 (.aL .add 60 (qi 1)),qm 60 87])))))))) (.cX (.seq (.block 8 (.loop (.seq (.seq (.ai [qf 88 2 3,ql 89 88,qu 90 (.len 1 89),qu 91 (.aL .gtr 90 (qi 1)),qm 92 91,qg 93 (.bY 2 3) 92 true,qg 94 (.load false 1 93) 92 true,qg 95 (.bY 2 3) 92 true,qg 96 (.load false 1 95) 92 true,qg 97 (.len 1 96) 92 true,qg 98 (.aL .sub 97 (qi 1)) 92 true,qg 99 (.cw 4 94 98) 92 true,qg 100 (.bY 0 99) 92 true,qg 101 (.load false 1 100) 92 true,qg 102 (.un .not 101) 92 true,qu 103 (.pick 92 102 (qb false)),qm 104 103,qg 105 (.bY 0 3) 104 true,qg 106 (.load false 1 105) 104 true,qg 107 (.fn 82 [3]) 104 true,qg 108 (qc 80 [106,107]) 104 true,qg 109 (.un .not 108) 104 true,qu 110 (.pick 104 109 (qb false))]) (.cond 110 .skip (.exit 8))) (.block 9 (.ai [qf 111 2 3,ql 112 111,qf 113 2 3,ql 114 113,qu 115 (.len 1 114),qu 116 (.aL .sub 115 (qi 1)),qu 117 (.oI 4 112 none (some 116) none),qf 118 2 3,qw (.store 1 118 117)]))))) (.seq (.ai [qL 119 3 3,qw (.store 3 2 119)]) .ret))))))))))⟩
theorem l41:bz prog f41=some c41.er:=by kernel_rfl
theorem DD(o:Obj)(a c:Dt)(ps:List bl):body prog c82 [o.cv,.rv (.one (.ptr 0 0))] [.var ([a,c,gE ps].map .ah)] (λr m=>r=aF (dL (IntKind.i64.wrap (((ps.map bl.enc).length:Int)-1)) o)/\∃ex,m= .var ([a,c,gE ps].map .ah)::ex):=by
 refine aJ (λh=>?_) (λh=>?_)
 .refine⟨?_,_,rfl⟩;show aF _=aF _;rw[dL,h];rfl
 .refine⟨?_,_,rfl⟩;show aF _=aF _;rw[dL,h];rfl
theorem UK(o:Obj)(a c:Dt)(ps:List bl)(K:CV->Mem->Prop)(h:K (aF (dL (IntKind.i64.wrap (((ps.map bl.enc).length:Int)-1)) o)) [.var ([a,c,gE ps].map .ah)]):aq prog 82 [o.cv,.rv (.one (.ptr 0 0))] [.var ([a,c,gE ps].map .ah)] K:=
 e7 rfl (bc func82 l82 (DD o a c ps)) h
structure DE{α:Type}(q:Nat->α->Bool)(mn:Nat)(L:List α)(n:Nat):Prop where
 le:n<=L.length
 mn:min mn L.length<=n
 dr:∀(t:Nat)o,n<=t->L[t]? =some o->q t o=true
structure p9{α:Type}(q:Nat->α->Bool)(mn:Nat)(L:List α)(n:Nat):Prop where
 t:DE q mn L n
 e:n<=mn\/∃o,L[n-1]? =some o/\q (n-1) o=false
theorem DE.start{α:Type}(q:Nat->α->Bool)(mn:Nat)(L:List α):DE q mn L L.length:=
 ⟨Yj _,Nat.min_le_right _ _,λt o h ho=>by have:=(Ki.1 ho).1;omega⟩
theorem DE.step{α:Type}{q:Nat->α->Bool}{mn:Nat}{L:List α}{n:Nat}(h:DE q mn L n)(hn:mn<n)(hl:n-1<L.length)(hq:q (n-1) L[n-1]=true):DE q mn L (n-1):=
 ⟨om,om,λt o ht ho=>by
  rcases aag t n with h1|h1
  .have:t=n-1:=om;subst this;rw[vR hl]at ho;cases ho;exact hq
  .exact h.dr t o h1 ho⟩
theorem ik{α:Type}{L:List α}{n:Nat}(h:n<=L.length):(L.take n).length=n:=by rw[aaE];omega
theorem xt{α:Type}(f:α->List Dt)(L:List α){n:Nat}(h:n<=L.length):(((L.take n).map f).take (n-1)).drop 0=(L.take (n-1)).map f:=by rw[adR,<-adg,List.take_take,ads om]
theorem xu{α:Type}(f:α->List Dt)(L:List α){n:Nat}(h1:0<n)(h:n<=L.length):dA ((L.take n).map f) ((n-1:Nat):Int)=some (f (L[n-1]'(by omega))):=by rw[bG,Tr,abZ om,vR om];rfl
def qO(_:Nat)(o:Obj):Bool:=o.ag==0
def qP(_:Nat)(o:bI):Bool:=decide (o.bp<0)
def qZ(O:List Obj)(t:Nat)(o:bl):Bool:=decide (0<t)&&(!o.aO&& !(O.any (dL (t:Int))))
def tx(O:List Obj)(k:Nat)(t:Nat)(o:bl):bl:=if(decide (t<k)&&qZ O t o)=true then gC else o
def qR(O:List Obj)(t:Nat)(o:bl):Bool:= !o.aO&& !(O.any (dL (t:Int)))
structure gT(c:Kr)(d:Kr):Prop where
 ex:∃(n1 n2 n3:Nat)(P:List bl),p9 qO 1 c.l n1/\p9 qP 0 c.ops n2/\Pt c.ps P (tx (c.l.take n1) c.ps.length)/\p9 (qR (c.l.take n1)) 1 P n3/\d=⟨c.l.take n1,c.ops.take n2,P.take n3⟩
def KS(k:Kr)(r:CV)(m:Mem):Prop:=∃a c d,iR k a/\cW a.l a.ops a.ps c.l c.ops c.ps false/\gT c d/\cN m r (eJ d.l d.ops d.ps)
def EKs(k:Kr):Ex->St->Prop:=oR prog c41.me (KS k)
def T4:LC:=rc (bP (bP (bP (bP c41.code))))
def T57:LC:=rc (XS (bP T4))
def R8:LC:=bP (bP T4)
def E60:List CV:=kT 120 [(2,.rv (.one (.ptr 1 0))),(3,.rv (.one (.ptr 2 0)))]
theorem abw(m:Mem)(d:Kr):cN m (.rv (.agg [.ah (dt d.l),.ah (fh d.ops),.ah (gE d.ps)])) (eJ d.l d.ops d.ps):=cN.self rfl
theorem abx(k a c:Kr)(ha:iR k a)(hc:cW a.l a.ops a.ps c.l c.ops c.ps false)(hk:dP c.l c.ops c.ps)(n1 n2:Nat)(h1:p9 qO 1 c.l n1)(h2:p9 qP 0 c.ops n2)(P:List bl)(O:List Obj)(hO:O=c.l.take n1)(hP:Pt c.ps P (tx (c.l.take n1) c.ps.length)):aw prog 0 (rc R8) (EKs k) ⟨E60,[.aU,.var z3,.var [.ah (dt O),.ah (fh (c.ops.take n2)),.ah (gE P)]]⟩:=by
 have ZL:P.length<=4194304:=by rw[hP.1];exact hk.lp
 have ZM:O.length<=4194304:=by rw[hO,aaE];have:=hk.ll;omega
 have UL:∀(n:Nat)(m:Mem),DE (qR O) 1 P n->(n<=1\/∃o,P[n-1]? =some o/\qR O (n-1) o=false)->KS k (.rv (.agg [.ah (dt O),.ah (fh (c.ops.take n2)),.ah (gE (P.take n))])) m:=λn m hn he=>
  ⟨a,c,⟨O,c.ops.take n2,P.take n⟩,ha,hc,⟨n1,n2,n,P,h1,h2,hP,by rw[<-hO];exact⟨hn,he⟩,by rw[hO]⟩,abw m ⟨O,c.ops.take n2,P.take n⟩⟩
 refine ba (λn=>DE (qR O) 1 P n) [2,3] (λ_=>[]) (λn=>[.aU,.var z3,.var [.ah (dt O),.ah (fh (c.ops.take n2)),.ah (gE (P.take n))]]) (λn=>n) P.length (.start _ _ _) ?_ (λn hn=>?_)
 .refine View.o1 3 [0,1,2] [] ?_
  .exact(.aU (.pe rfl rfl rfl (.pt rfl rfl (fv.var (.cons (.bh (.ah _)) (.cons (.bh (.ah _)) (.cons (NF (by rw[aaZ])) .nil)))) (.nil _))))
 have hn:DE (qR O) 1 P n:=hn;have jT:=hn.le;refine aP (λh=>?_) (λh=>?_)
 .have qW:1<n:=by have h:(((P.take n).map bl.enc).length:Int)>1:=h;rw[N7,ik jT]at h;omega
  have hz:IntKind.i64.wrap ((((P.take n).map bl.enc).length:Int)-1)=((n-1:Nat):Int):=by rw[N7,ik jT,iD om om];omega
  have aD:n-1<P.length:=om;have hg:=xu bl.enc P om jT;rw[<-hz]at hg;have mB:=vR aD;have oq:=hn.step om aD;generalize P[n-1]=x at hg mB oq;have hg:dA ((P.take n).map bl.enc) (IntKind.i64.wrap ((((P.take n).map bl.enc).length:Int)-1))=some [.val (.bool x.aO),.val (.bool x.fenced),.val (.int .i64 x.code),y8 x.aQ]:=hg;refine af hg ?_;refine aJ (λbK=>?_) (λbK=>?_)
  .refine fC (args0:=[cC O,.rv (.one (.fn 82 [0]))]) (cs:=[dt O,fh (c.ops.take n2),gE (P.take n)]) 2 rfl rfl (r0:=aF (O.any (dL (IntKind.i64.wrap ((((P.take n).map bl.enc).length:Int)-1))))) rfl (λK hK=>ua O ZM 82 _ _ (λs K hK=>UK s _ _ _ K hK) K hK) ?_
   rw[hz];refine aJ (λEQ=>?_) (λEQ=>?_)
   .have hq:qR O (n-1) x=true:=by unfold qR;rw[bK,EQ];rfl
    refine af (x:=n-1) (by show qS (an .i64 (IntKind.i64.wrap ((((P.take n).map bl.enc).length:Int)-1)))=_;rw[hz];rfl) ?_
    refine cM (by simp[abe];omega) ?_
    refine⟨n-1,oq hq,(show n-1<n by omega),View.o1 3 [0,1,2] [] ?_⟩
    .exact(.aU (.pe rfl rfl rfl (.pt rfl rfl (fv.var (.cons (.bh (.ah _)) (.cons (.bh (.ah _)) (.cons (NF (congrArg (Dt.sl 4) (xt bl.enc P jT))) .nil)))) (.nil _))))
   .have hq:qR O (n-1) x=false:=by unfold qR;rw[bK,EQ];rfl
    exact UL n _ hn (.inr ⟨x,mB,hq⟩)
  .have hq:qR O (n-1) x=false:=by unfold qR;rw[bK];rfl
   exact UL n _ hn (.inr ⟨x,mB,hq⟩)
 .have qW:n<=1:=by have h:¬(((P.take n).map bl.enc).length:Int)>1:=h;rw[N7,ik jT]at h;omega
  exact UL n _ hn (.inl qW)
structure StZ where
 p:Nat
 P:List bl
theorem dP.aby{l:List Obj}{ops:List bI}{ps:List bl}(h:dP l ops ps)(n:Nat):(l.take n).length<=4194304:=by rw[aaE];have:=h.ll;omega
theorem Ti(k a c:Kr)(ha:iR k a)(hc:cW a.l a.ops a.ps c.l c.ops c.ps false)(hk:dP c.l c.ops c.ps)(n1 n2:Nat)(h1:p9 qO 1 c.l n1)(h2:p9 qP 0 c.ops n2):
  aw prog 0 T57 (TZ (aw prog 0 R8) (EKs k)) ⟨E60,[.aU,.var z3,.var [.ah (dt (c.l.take n1)),.ah (fh (c.ops.take n2)),.row 3 4 0 none],.row 4 (aa (c.ps.map bl.enc))]⟩:=by
 have jY:=hk.lp;have ZM:=hk.aby n1;generalize hO:c.l.take n1=O at ZM;refine ba (λ(s:StZ)=>s.p<=c.ps.length/\Pt c.ps s.P (tx O s.p)) [2,3,59] (λs=>[(60,an .i64 (s.p:Nat))]) (λs=>[.aU,.var z3,.var [.ah (dt O),.ah (fh (c.ops.take n2)),.row 3 4 0 none],.row 4 (aa (s.P.map bl.enc))]) (λs=>c.ps.length-s.p) ⟨0,c.ps⟩ ⟨aav _,(Pt.refl c.ps).congr λt o _=>by simp[tx]⟩ ?_ (λs hs=>?_)
 .refine View.o1 4 [0,1,2,3] [] ?_
  .exact(.aU (.pe rfl rfl rfl (.pt rfl rfl (fv.var (.cons (.bh (.ah _)) (.cons (.bh (.ah _)) (.cons (.bh (.row 3 4 0 none)) .nil)))) (.pn rfl rfl rfl))))
 obtain⟨p,P⟩:=s;obtain⟨hp,hP⟩:=hs;have hp:p<=c.ps.length:=hp;have hP:Pt c.ps P (tx O p):=hP;have ZL:=hP.1;refine aP (λh=>?_) (λh=>?_)
 .have jn:p<c.ps.length:=xq h;obtain⟨ZN,Tj⟩:=hP.at jn;have Tj:P[p]=c.ps[p]:=by rw[Tj];simp[tx]
  have kz:∀t,t≠p->decide (t<p+1)=decide (t<p):=λt ht=>decide_eq_decide.2 om
  have qB:qZ O p c.ps[p]=false->Pt c.ps P (tx O (p+1)):=λhf=>hP.congr λt o Bj=>by
   by_cases Q3:t=p
   .subst Q3;rw[vR jn]at Bj;cases Bj;simp[tx,hf]
   .unfold tx;rw[kz t Q3]
  refine fC (args0:=[cC O,.rv (.one (.fn 81 [0]))]) (cs:=[.val (.int .i64 (p:Nat))]) 4 rfl rfl (r0:=aF (O.any (dL (p:Int)))) rfl (λK hK=>ua O ZM 81 _ _ (λs K hK=>UI s _ K hK) K hK) ?_
  refine aP (λzc=>?_) (λzc=>?_)
  .have zc:0<p:=by have h:(p:Int)>0:=zc;omega
   refine af (mJ ZN) ?_;refine af (bN bl.enc P ZN) ?_;refine aJ (λbK=>?_) (λbK=>?_)
   .rw[Tj]at bK;refine aJ (λEQ=>?_) (λEQ=>?_)
    .refine af (mJ ZN) ?_;refine af (bN bl.enc P ZN) ?_;have he:qZ O p c.ps[p]=true:=by unfold qZ;rw[bK,EQ];simp[zc]
     have hs:=hP.set (j:=p) (x:=gC) (g:=tx O (p+1)) (λo Bj=>by rw[vR jn]at Bj;cases Bj;simp[tx,he]) (λt o Q3 _=>by unfold tx;rw[kz t Q3])
     refine⟨⟨p+1,P.set p gC⟩,⟨jn,hs⟩,(show c.ps.length-(p+1)<c.ps.length-p by omega),View.o2 5 [0,1,2,3] [] ?_⟩
     .exact(.aU (.pe rfl rfl rfl (.pt rfl rfl (fv.var (.cons (.bh (.ah _)) (.cons (.bh (.ah _)) (.cons (.bh (.row 3 4 0 none)) .nil)))) (.pt rfl rfl (Tg P p) (.nil _)))))
    .skip
     refine⟨⟨p+1,P⟩,⟨jn,qB (by unfold qZ;rw[EQ];simp)⟩,(show c.ps.length-(p+1)<c.ps.length-p by omega),View.o2 5 [0,1,2,3] [] ?_⟩
     .exact(.aU (.pe rfl rfl rfl (.pt rfl rfl (fv.var (.cons (.bh (.ah _)) (.cons (.bh (.ah _)) (.cons (.bh (.row 3 4 0 none)) .nil)))) (.pn rfl rfl rfl))))
   .rw[Tj]at bK;refine⟨⟨p+1,P⟩,⟨jn,qB (by unfold qZ;rw[bK];simp)⟩,(show c.ps.length-(p+1)<c.ps.length-p by omega),View.o2 5 [0,1,2,3] [] ?_⟩
    .exact(.aU (.pe rfl rfl rfl (.pt rfl rfl (fv.var (.cons (.bh (.ah _)) (.cons (.bh (.ah _)) (.cons (.bh (.row 3 4 0 none)) .nil)))) (.pn rfl rfl rfl))))
  .have zc:p=0:=by have h:¬(p:Int)>0:=zc;omega
   refine⟨⟨p+1,P⟩,⟨jn,qB (by simp[qZ,zc])⟩,(show c.ps.length-(p+1)<c.ps.length-p by omega),View.o2 5 [0,1,2,3] [] ?_⟩
   .exact(.aU (.pe rfl rfl rfl (.pt rfl rfl (fv.var (.cons (.bh (.ah _)) (.cons (.bh (.ah _)) (.cons (.bh (.row 3 4 0 none)) .nil)))) (.pn rfl rfl rfl))))
 .have h9:c.ps.length<=p:=xr h;have yR:p=c.ps.length:=om;subst yR;rw[<-hO]at hP;refine gK [2,3] [] ([.aU,.var z3,.var [.ah (dt O),.ah (fh (c.ops.take n2)),.ah (gE P)]]) (View.o1 4 [0,1,2] [3] ?_) ?_
  .exact(.aU (.pe rfl rfl rfl (.pt rfl rfl (fv.var (.cons (.bh (.ah _)) (.cons (.bh (.ah _)) (.cons (.fT (d6.fg (Z:=λk=>bD [3] k=true) rfl rfl 0 none)) .nil)))) (.nil _))))
  exact abx k a c ha hc hk n1 n2 h1 h2 P O hO.symm hP
theorem Tk(k a c:Kr)(ha:iR k a)(hc:cW a.l a.ops a.ps c.l c.ops c.ps false)(hk:dP c.l c.ops c.ps)(n1:Nat)(h1:p9 qO 1 c.l n1):
  aw prog 0 T4 (EKs k) ⟨E60,[.aU,.var z3,.var [.ah (dt (c.l.take n1)),.ah (fh c.ops),.row 3 4 0 none],.row 4 (aa (c.ps.map bl.enc))]⟩:=by
 have ir:=hk.lo;refine ba (λn=>DE qP 0 c.ops n) [2,3] (λ_=>[]) (λn=>[.aU,.var z3,.var [.ah (dt (c.l.take n1)),.ah (fh (c.ops.take n)),.row 3 4 0 none],.row 4 (aa (c.ps.map bl.enc))]) (λn=>n) c.ops.length (.start _ _ _) ?_ (λn hn=>?_)
 .refine View.o1 4 [0,1,2,3] [] ?_
  .exact(.aU (.pe rfl rfl rfl (.pt rfl rfl (fv.var (.cons (.bh (.ah _)) (.cons (NF (by rw[aaZ])) (.cons (.bh (.row 3 4 0 none)) .nil)))) (.pn rfl rfl rfl))))
 have hn:DE qP 0 c.ops n:=hn;have jT:=hn.le;refine aP (λh=>?_) (λh=>?_)
 .have qW:0<n:=by have h:(((c.ops.take n).map bI.enc).length:Int)>0:=h;rw[N7,ik jT]at h;omega
  have hz:IntKind.i64.wrap ((((c.ops.take n).map bI.enc).length:Int)-1)=((n-1:Nat):Int):=by rw[N7,ik jT,iD om om];omega
  have aD:n-1<c.ops.length:=om;have hg:=xu bI.enc c.ops om jT;rw[<-hz]at hg;have mB:=vR aD;have oq:=hn.step om aD;generalize c.ops[n-1]=x at hg mB oq;have hg:dA ((c.ops.take n).map bI.enc) (IntKind.i64.wrap ((((c.ops.take n).map bI.enc).length:Int)-1))=some [.val (.int .i64 x.bp),.val (.int .i64 x.dp)]:=hg;refine af hg ?_;refine aP (λhx=>?_) (λhx=>?_)
  .have hq:qP (n-1) x=true:=decide_eq_true hx;refine af (x:=n-1) (by show qS (an .i64 (IntKind.i64.wrap ((((c.ops.take n).map bI.enc).length:Int)-1)))=_;rw[hz];rfl) ?_
   refine cM (by simp[abe];omega) ?_
   refine⟨n-1,oq hq,(show n-1<n by omega),View.o1 4 [0,1,2,3] [] ?_⟩
   .exact(.aU (.pe rfl rfl rfl (.pt rfl rfl (fv.var (.cons (.bh (.ah _)) (.cons (NF (congrArg (Dt.sl 2) (xt bI.enc c.ops jT))) (.cons (.bh (.row 3 4 0 none)) .nil)))) (.pn rfl rfl rfl))))
  .have hq:qP (n-1) x=false:=decide_eq_false hx;refine gK [2,3] [] ([.aU,.var z3,.var [.ah (dt (c.l.take n1)),.ah (fh (c.ops.take n)),.row 3 4 0 none],.row 4 (aa (c.ps.map bl.enc))]) (View.o1 4 [0,1,2,3] [] ?_) ?_
   .exact(.aU (.pe rfl rfl rfl (.pt rfl rfl (fv.var (.cons (.bh (.ah _)) (.cons (.bh (.ah _)) (.cons (.bh (.row 3 4 0 none)) .nil)))) (.pn rfl rfl rfl))))
   exact Ti k a c ha hc hk n1 n h1 ⟨hn,(.inr ⟨x,mB,hq⟩)⟩
 .have qW:n<=0:=by have h:¬(((c.ops.take n).map bI.enc).length:Int)>0:=h;rw[N7,ik jT]at h;omega
  refine gK [2,3] [] ([.aU,.var z3,.var [.ah (dt (c.l.take n1)),.ah (fh (c.ops.take n)),.row 3 4 0 none],.row 4 (aa (c.ps.map bl.enc))]) (View.o1 4 [0,1,2,3] [] ?_) ?_
  .exact(.aU (.pe rfl rfl rfl (.pt rfl rfl (fv.var (.cons (.bh (.ah _)) (.cons (.bh (.ah _)) (.cons (.bh (.row 3 4 0 none)) .nil)))) (.pn rfl rfl rfl))))
  exact Ti k a c ha hc hk n1 n h1 ⟨hn,.inl qW⟩
theorem F8(k:Kr)(hk:dP k.l k.ops k.ps):body prog c41 [eJ k.l k.ops k.ps] [] (KS k):=by
 refine i4 k.l k.ops k.ps ⟨hk.ll,λo ho=>(hk.sm o ho).oD⟩ hk.lo hk.lp hk.sl hk.ne ?_
 refine ba (λ(a:Kr)=>iR k a/\dP a.l a.ops a.ps) [2] (λ_=>[(3,.rv (.one (.ptr 2 0)))]) (λa=>[.aU,.var z3,.var [.row 3 9 0 none,.row 4 2 0 none,.row 5 4 0 none],.row 9 (aa (a.l.map Obj.enc)),.row 2 (aa (a.ops.map bI.enc)),.row 4 (aa (a.ps.map bl.enc))]) (λa=>lF a.ps) k ⟨.refl,hk⟩ ?_ (λa ha=>?_)
 .refine View.o1 6 [0,1,5,2,3,4] [] ?_
  .exact(.aU (.pe rfl rfl rfl (.pe rfl rfl rfl (.pr rfl rfl rfl (.pr rfl rfl rfl (.pn rfl rfl rfl))))))
 obtain⟨ha,Qb⟩:=ha;refine F6 a Qb .aU λc en ho=>?_
 refine aJ (λhe=>?_) (λhe=>?_)
 .subst he;refine⟨c,⟨.step ha ho,ho.kr Qb⟩,ho.lF,View.o1 6 [0,1,2,3,4,5] [] ?_⟩
  .exact(.aU (.pe rfl rfl rfl (.pe rfl rfl rfl (.pr rfl rfl rfl (.pr rfl rfl rfl (.pn rfl rfl rfl))))))
 .subst he;have hc:=ho;have Qn:=ho.kr Qb;have W0:=Qn.ll;refine ba (λn=>DE qO 1 c.l n) [2,3] (λ_=>[]) (λn=>[.aU,.var z3,.var [.ah (dt (c.l.take n)),.ah (fh c.ops),.row 3 4 0 none],.row 4 (aa (c.ps.map bl.enc))]) (λn=>n) c.l.length (.start _ _ _) ?_ (λn hn=>?_)
  .refine View.o1 6 [0,1,2,5] [3,4] ?_
   .exact(.aU (.pe rfl rfl rfl (.pt rfl rfl (fv.var (.cons (by rw[aaZ];exact .fT (d6.fg (Z:=λk=>bD [3,4] k=true) rfl rfl 0 none)) (.cons (.fT (d6.fg (Z:=λk=>bD [3,4] k=true) rfl rfl 0 none)) (.cons (.bh (.row 3 4 0 none)) .nil)))) (.pn rfl rfl rfl))))
  have hn:DE qO 1 c.l n:=hn;have jT:=hn.le;refine aP (λh=>?_) (λh=>?_)
  .have qW:1<n:=by have h:(((c.l.take n).map Obj.enc).length:Int)>1:=h;rw[N7,ik jT]at h;omega
   have hz:IntKind.i64.wrap ((((c.l.take n).map Obj.enc).length:Int)-1)=((n-1:Nat):Int):=by rw[N7,ik jT,iD om om];omega
   have aD:n-1<c.l.length:=om;have hg:=xu Obj.enc c.l om jT;rw[<-hz]at hg;have mB:=vR aD;have oq:=hn.step om aD;generalize c.l[n-1]=x at hg mB oq;have hg:dA ((c.l.take n).map Obj.enc) (IntKind.i64.wrap ((((c.l.take n).map Obj.enc).length:Int)-1))=some [.val (.int .i64 x.ag),.sl 1 x.data,.sl 2 x.ak,.val (.string x.target),.val (.int .i64 x.bs),.sl 4 (x.ax.map dn.enc),.val (.int .i64 x.be),.val (.int .i64 x.am),.val (.int .i64 x.up)]:=hg;refine af hg ?_;refine bu (λhx=>?_) (λhx=>?_)
   .have hq:qO (n-1) x=true:=(by unfold qO;simpa using hx)
    refine af (x:=n-1) (by show qS (an .i64 (IntKind.i64.wrap ((((c.l.take n).map Obj.enc).length:Int)-1)))=_;rw[hz];rfl) ?_
    refine cM (by simp[abe];omega) ?_
    refine⟨n-1,oq hq,(show n-1<n by omega),View.o1 4 [0,1,2,3] [] ?_⟩
    .exact(.aU (.pe rfl rfl rfl (.pt rfl rfl (fv.var (.cons (NF (congrArg (Dt.sl 9) (xt Obj.enc c.l jT))) (.cons (.bh (.ah _)) (.cons (.bh (.row 3 4 0 none)) .nil)))) (.pn rfl rfl rfl))))
   .have hq:qO (n-1) x=false:=(by unfold qO;simpa using hx)
    refine gK [2,3] [] ([.aU,.var z3,.var [.ah (dt (c.l.take n)),.ah (fh c.ops),.row 3 4 0 none],.row 4 (aa (c.ps.map bl.enc))]) (View.o1 4 [0,1,2,3] [] ?_) ?_
    .exact(.aU (.pe rfl rfl rfl (.pt rfl rfl (fv.var (.cons (.bh (.ah _)) (.cons (.bh (.ah _)) (.cons (.bh (.row 3 4 0 none)) .nil)))) (.pn rfl rfl rfl))))
    exact Tk k a c ha hc Qn n ⟨hn,(.inr ⟨x,mB,hq⟩)⟩
  .have qW:n<=1:=by have h:¬(((c.l.take n).map Obj.enc).length:Int)>1:=h;rw[N7,ik jT]at h;omega
   refine gK [2,3] [] ([.aU,.var z3,.var [.ah (dt (c.l.take n)),.ah (fh c.ops),.row 3 4 0 none],.row 4 (aa (c.ps.map bl.enc))]) (View.o1 4 [0,1,2,3] [] ?_) ?_
   .exact(.aU (.pe rfl rfl rfl (.pt rfl rfl (fv.var (.cons (.bh (.ah _)) (.cons (.bh (.ah _)) (.cons (.bh (.row 3 4 0 none)) .nil)))) (.pn rfl rfl rfl))))
   exact Tk k a c ha hc Qn n ⟨hn,.inl qW⟩
theorem NG(k:Kr)(hk:dP k.l k.ops k.ps){m:Mem}{K:CV->Mem->Prop}(h:∀a c d,iR k a->cW a.l a.ops a.ps c.l c.ops c.ps false->gT c d->K (eJ d.l d.ops d.ps) m):aq prog 41 [eJ k.l k.ops k.ps] m K:=by
 refine bi (K0:=KS k) (cj func41 l41 (F8 k hk)) (by simp[eJ,dt,fh,gE,CV.dC,CC.dC,RV.dC]) λr m1 hr=>?_
 obtain⟨a,c,d,h1,h2,h3,hf⟩:=hr;exact⟨_,hf,h a c d h1 h2 h3⟩
def jU(l L:List Obj):Prop:=L.length<=l.length/\∀(i:Nat)o,L[i]? =some o->o.ag≠0->∃o':Obj,l[i]? =some o'/\o={o' with bs:=o.bs}
def i5(p P:List bl):Prop:=P.length<=p.length/\∀(i:Nat)x,P[i]? =some x->x.aO=true->p[i]? =some x
theorem jU.refl(l:List Obj):jU l l:=⟨Yj _,λi o h _=>⟨o,h,rfl⟩⟩
theorem jU.trans{a b c:List Obj}(h1:jU a b)(h2:jU b c):jU a c:=by
 refine⟨abF h2.1 h1.1,λi o ho hk=>?_⟩
 obtain⟨o',fl,e⟩:=h2.2 i o ho hk;have gh:o'.ag≠0:=by rw[e]at hk;exact hk
 obtain⟨o2,ib,e2⟩:=h1.2 i o' fl gh;refine⟨o2,ib,?_⟩;rw[e,e2]
theorem i5.refl(l:List bl):i5 l l:=⟨Yj _,λi o h _=>h⟩
theorem i5.trans{a b c:List bl}(h1:i5 a b)(h2:i5 b c):i5 a c:=
 ⟨abF h2.1 h1.1,λi x hx hl=>h1.2 i x (h2.2 i x hx hl) hl⟩
theorem Pt.get{α:Type}{l L:List α}{f:Nat->α->α}(h:Pt l L f){i:Nat}{x:α}(hx:L[i]? =some x):∃o,l[i]? =some o/\x=f i o:=by
 have aD:i<l.length:=by have:=(Ki.1 hx).1;rw[h.1]at this;exact this
 have:=h.2 i l[i] (vR aD);rw[hx]at this;cases this;exact⟨_,vR aD,rfl⟩
theorem cW.eX{l:List Obj}{ops:List bI}{ps:List bl}{L:List Obj}{L2:List bI}{L3:List bl}{en:Bool}(h:cW l ops ps L L2 L3 en):jU l L/\i5 ps L3:=by
 obtain⟨b,hb,hP,Cw⟩:=h.ex;refine⟨⟨by rw[hP.1];exact Yj _,λi o ho hk=>?_⟩,by rw[h.pr.1];exact Yj _,λi x hx hl=>?_⟩
 .obtain⟨o',fl,e⟩:=hP.get ho;refine⟨o',fl,?_⟩;unfold cD at e;split at e
  .rw[e]at hk;exact absurd rfl hk
  .split at e
   .rw[e]
   .rw[e]
 .obtain⟨y,hy,e⟩:=h.pr.get hx;unfold yI at e;split at e
  .rw[e]at hl;simp[gC]at hl
  .rw[e];exact hy
theorem iR.eX{k a:Kr}(h:iR k a):jU k.l a.l/\i5 k.ps a.ps:=by
 induction h with
 |refl=>exact⟨.refl _,.refl _⟩
 |step h ho ih=>exact⟨ih.1.trans ho.eX.1,ih.2.trans ho.eX.2⟩
theorem iR.kr{k a:Kr}(h:iR k a)(hk:dP k.l k.ops k.ps):dP a.l a.ops a.ps:=by
 induction h with
 |refl=>exact hk
 |step h ho ih=>exact ho.kr ih
theorem gT.eX{c d:Kr}(h:gT c d):jU c.l d.l/\i5 c.ps d.ps:=by
 obtain⟨n1,n2,n3,P,h1,h2,hP,h3,rfl⟩:=h.ex;refine⟨⟨by simp[aaE];omega,λi o ho _=>?_⟩,by simp[aaE];have:=hP.1;omega,λi x hx hl=>?_⟩
 .have ho:(c.l.take n1)[i]? =some o:=ho;rw[aaS]at ho;split at ho
  .exact⟨o,ho,rfl⟩
  .cases ho
 .have hx:(P.take n3)[i]? =some x:=hx;rw[aaS]at hx;split at hx
  .obtain⟨y,hy,e⟩:=hP.get hx;unfold tx at e;split at e
   .rw[e]at hl;simp[gC]at hl
   .rw[e];exact hy
  .cases hx
theorem gT.one{c d:Kr}(h:gT c d)(hc:c.ps≠[]):1<=d.ps.length:=by obtain⟨n1,n2,n3,P,h1,h2,hP,h3,rfl⟩:=h.ex;have hl:0<c.ps.length:=adQ.2 hc;have:=h3.t.mn;rw[hP.1]at this;have h4:=h3.t.le;show 1<=(P.take n3).length;rw[aaE];omega
theorem xw{k a c d:Kr}(hk:dP k.l k.ops k.ps)(h1:iR k a)(h2:cW a.l a.ops a.ps c.l c.ops c.ps false)(h3:gT c d):jU k.l d.l/\i5 k.ps d.ps/\1<=d.ps.length:=
 ⟨(h1.eX.1.trans h2.eX.1).trans h3.eX.1,(h1.eX.2.trans h2.eX.2).trans h3.eX.2,h3.one (h2.kr (h1.kr hk)).ne⟩
theorem g9.ag{l:List Obj}{ops:List bI}{ps:List bl}{b:Mk}(h:g9 l ops ps b){i:Nat}(hi:dz b.O i):∃o,l[i]? =some o/\o.ag≠0:=by refine(h.ov (λi=>∃o,l[i]? =some o/\o.ag≠0) (λc=>c<ops.length) ⟨λi o _ _ z n _ hv=>hv.2,λi o _ _ z c _ hv=>hv.2,λc o _ _ n hv=>hv.2⟩ ⟨λn hv=>hv.2,λp pr _ _ s _ _ c hv=>hv.2⟩).1 i hi
theorem gT.kr{c d:Kr}(h:gT c d)(k:dP c.l c.ops c.ps):dP d.l d.ops d.ps:=by
 have h1:=h.one k.ne;obtain⟨n1,n2,n3,P,t1,t2,hP,t3,rfl⟩:=h.ex;refine⟨λo ho=>k.sm o (abq ho),?_,?_,?_,λp hp=>?_,λe=>?_⟩
 .show(c.l.take n1).length<=_;rw[aaE];have:=k.ll;omega
 .show(c.ops.take n2).length<=_;rw[aaE];have:=k.lo;omega
 .show(P.take n3).length<=_;rw[aaE,hP.1];have:=k.lp;omega
 .refine hP.all (Q:=λp=>p.aQ.length<=10) (λt o ho=>?_) p (abq hp)
  unfold tx;split
  .simp[gC]
  .exact k.sl o (Tu ho)
 .have h1:1<=(P.take n3).length:=h1;have e:P.take n3=[]:=e;rw[e]at h1;simp at h1
theorem DE.UM{α:Type}{q:Nat->α->Bool}{mn n n':Nat}{L:List α}(h:p9 q mn L n)(h':p9 q mn (L.take n) n'):n'=(L.take n).length:=by
 have hn:=h.t.le;have e:(L.take n).length=n:=ik hn;have P2:=h'.t.le;have T8:=h'.t.mn;rw[e]at P2 T8|-;rcases aag n' n with aD|eG
 .exfalso;rcases h.e with h1|⟨o,ho,hq⟩
  .omega
  .have h2:(L.take n)[n-1]? =some o:=by rw[abZ om];exact ho
   have:=h'.t.dr (n-1) o om h2;rw[hq]at this;cases this
 .omega
theorem DF{L:List Obj}{ps:List bl}(h:false=jw L ps ps.length){t:Nat}{x:bl}(hx:ps[t]? =some x):iQ L t x=false:=by
 cases he:iQ L t x with
 |false=>rfl
 |true=>
  have:jw L ps ps.length=true:=by
   unfold jw;rw[abc];exact⟨t,by simpa using(Ki.1 hx).1,by rw[hx];exact he⟩
  rw[this]at h;cases h
theorem Pt.id{α:Type}{l L:List α}{f:Nat->α->α}(h:Pt l L f)(hf:∀(t:Nat)o,l[t]? =some o->f t o=o):L=l:=by
 apply abC;intro t;cases ht:l[t]? with
 |some o=>rw[h.2 t o ht,hf t o ht]
 |none=>
  have:l.length<=t:=by simpa using ht
  simp[h.1,this]
theorem xx{p:Int}{o:Obj}(h:dL p o=true):o.ag≠0:=by intro h0;simp[dL,h0]at h
structure Left(c:Kr)(b:Mk):Prop where
 ok:g9 c.l c.ops c.ps b
 all:∀(i:Nat)o,c.l[i]? =some o->o.ag≠0->dz b.O i
 ops:∀(i:Nat)o,c.ops[i]? =some o->¬dz b.P i->o=⟨-1,0⟩
 prs:∀(t:Nat)x,c.ps[t]? =some x->iQ c.l t x=false
theorem cW.left{a c:Kr}(h:cW a.l a.ops a.ps c.l c.ops c.ps false):∃b,Left c b:=by
 obtain⟨b,hb,hP,Cw⟩:=h.ex;have p8:c.ps=a.ps:=h.pr.id λt o ho=>by have:=DF h.en ho;simp[yI,this]
 have hlen:=hP.1;have u0:=Cw.1;have zZ:∀(i:Nat)o',a.l[i]? =some o'->dz b.O i->∃o,c.l[i]? =some o/\o.ag=o'.ag/\o.ak=o'.ak/\o.ax=o'.ax:=λi o' fl hi=>by
  refine⟨_,hP.2 i o' fl,?_⟩;have hd:e8 b a.l i=false:=by unfold e8;rw[fl];have:b.O[i]? =some true:=hi;simp[this]
  unfold cD;rw[hd];simp only[Bool.false_and,abR,if_false];split<;>exact⟨rfl,rfl,rfl⟩
 have Tl:∀(i:Nat)o,c.l[i]? =some o->o.ag≠0->dz b.O i/\∃o',a.l[i]? =some o'/\o.ag=o'.ag/\o.ak=o'.ak/\o.ax=o'.ax:=λi o ho hk=>by
  obtain⟨o',fl,e⟩:=hP.get ho;have vI:i<a.l.length:=(Ki.1 fl).1;unfold cD at e;split at e
  .rw[e]at hk;exact absurd rfl hk
  .rename_i l5;have hko:o.ag=o'.ag:=by split at e<;>rw[e]
   refine⟨?_,o',fl,hko,by split at e<;>rw[e],by split at e<;>rw[e]⟩
   have hd:e8 b a.l i=false:=by
    cases Qt:e8 b a.l i with
    |false=>rfl
    |true=>exact absurd (by rw[Qt];simpa using vI) l5
   unfold e8 at hd;rw[fl]at hd;have gh:(o'.ag !=0)=true:=by rw[<-hko];simpa using hk
   simp only[gh,Bool.and_true]at hd;simpa[dz]using hd
 have WZ:∀z n,vO c.l z n->dz b.O n/\vO a.l z n:=λz n hv=>by
  obtain⟨hz,o,ho,hk⟩:=hv;obtain⟨h1,o',fl,gh,_⟩:=Tl n o ho hk;exact⟨h1,hz,o',fl,by rw[<-gh];exact hk⟩
 have T9:∀z n,vO a.l z n->dz b.O n->vO c.l z n:=λz n hv hn=>by
  obtain⟨hz,o',fl,hk⟩:=hv;obtain⟨o,ho,gh,_⟩:=zZ n o' fl hn;exact⟨hz,o,ho,by rw[gh];exact hk⟩
 have ZO:∀z n,vP c.ops z n↔vP a.ops z n:=λz n=>by unfold vP;rw[u0]
 have afN:∀(i:Nat)o,c.ops[i]? =some o->dz b.P i->a.ops[i]? =some o:=λi o ho hi=>by obtain⟨o',fl,e⟩:=Cw.get ho;have:b.P[i]? =some true:=hi;rw[e];simpa[Bl,this]using fl
 refine⟨b,⟨⟨by rw[hlen];exact hb.len.1,by rw[u0];exact hb.len.2⟩,⟨λn hv=>(WZ 0 n hv).1,λp pr hp hl s hs hh cc hv=>?_⟩,⟨λi o hi ho z n hz hv=>(WZ z n hv).1,λi o hi ho z cc hz hv=>?_,λcc o hc ho n hv=>(WZ _ n hv).1⟩,λRO RP iB hr=>?_⟩,λi o ho hk=>(Tl i o ho hk).1,λi o ho hn=>?_,λt x hx=>?_⟩
 .rw[p8]at hp;exact hb.nu.2 p pr hp hl s hs hh cc ((ZO _ _).1 hv)
 .obtain⟨o',fl,e⟩:=hP.get ho;obtain⟨o2,ib,_,_,hq⟩:=zZ i o' fl hi;rw[ho]at ib;cases ib;obtain⟨q,Ig,Qf,hq3⟩:=hz;exact hb.cl.q i o' hi fl z cc ⟨q,by rw[<-hq];exact Ig,Qf,hq3⟩ ((ZO _ _).1 hv)
 ·
  have iU:=hb.ov (λi=>RO i/\dz b.O i) (λcc=>RP cc/\dz b.P cc) ⟨λi o' hi fl z n hz hv=>?_,λi o' hi fl z cc hz hv=>?_,λcc o' hc fl n hv=>?_⟩ ⟨λn hv=>?_,λp pr hp hl s hs hh cc hv=>?_⟩
  .exact⟨λi hi=>(iU.1 i hi).1,λi hi=>(iU.2 i hi).1⟩
  .have hn:=hb.cl.e i o' hi.2 fl z n hz hv;obtain⟨o,ho,_,he,_⟩:=zZ i o' fl hi.2;obtain⟨nm,hm⟩:=hz;exact⟨iB.e i o hi.1 ho z n ⟨nm,by rw[he];exact hm⟩ (T9 z n hv hn),hn⟩
  .have hn:=hb.cl.q i o' hi.2 fl z cc hz hv;obtain⟨o,ho,_,_,hq⟩:=zZ i o' fl hi.2;obtain⟨q,Ig,Qf,hq3⟩:=hz;exact⟨iB.q i o hi.1 ho z cc ⟨q,by rw[hq];exact Ig,Qf,hq3⟩ ((ZO _ _).2 hv),hn⟩
  .have hn:=hb.cl.p cc o' hc.2 fl n hv;have hco:c.ops[cc]? =some o':=by have:=Cw.2 cc o' fl;have NH:b.P[cc]? =some true:=hc.2;simpa[Bl,NH]using this
   exact⟨iB.p cc o' hc.1 hco n (T9 _ n hv hn),hn⟩
  .have hn:=hb.nu.1 n hv;exact⟨hr.1 n (T9 0 n hv hn),hn⟩
  .exact⟨hr.2 p pr (by rw[p8];exact hp) hl s hs hh cc ((ZO _ _).2 hv),hb.nu.2 p pr hp hl s hs hh cc hv⟩
 .obtain⟨o',fl,e⟩:=Cw.get ho;have aD:i<a.ops.length:=(Ki.1 fl).1;have hn:(b.P[i]? ==some true)=false:=by simpa[dz]using hn
  rw[e];simp[Bl,hn,aD]
 .rw[p8]at hx;exact DF h.en hx
theorem gT.NI{c d:Kr}{b bd:Mk}(hl:Left c b)(hf:gT c d)(hd:g9 d.l d.ops d.ps bd):(∀(i:Nat)o,d.l[i]? =some o->o.ag≠0->dz bd.O i)/\(∀(i:Nat)o,d.ops[i]? =some o->¬dz bd.P i->o=⟨-1,0⟩):=by
 obtain⟨n1,n2,n3,P,t1,t2,hP,t3,rfl⟩:=hf.ex;have hd:g9 (c.l.take n1) (c.ops.take n2) (P.take n3) bd:=hd;have h1:∀(i:Nat)o,c.l[i]? =some o->o.ag≠0->(c.l.take n1)[i]? =some o:=λi o ho hk=>by
  rcases aag i n1 with h|h
  .rw[abZ h];exact ho
  .have:=t1.t.dr i o h ho;simp[qO]at this;exact absurd this hk
 have hvO:∀z n,vO c.l z n->vO (c.l.take n1) z n:=λz n⟨hz,o,ho,hk⟩=>⟨hz,o,h1 n o ho hk,hk⟩
 have iU:=hl.ok.ov (λi=>dz bd.O i) (λcc=>dz bd.P cc\/n2<=cc) ⟨λi o hi ho z n hz hv=>?_,λi o hi ho z cc hz hv=>?_,λcc o hc ho n hv=>?_⟩ ⟨λn hv=>?_,λp pr hp bK s hs hh cc hv=>?_⟩
 .refine⟨λi o ho hk=>?_,λi o ho hn=>?_⟩
  .have ho:(c.l.take n1)[i]? =some o:=ho;rw[aaS]at ho;split at ho
   .exact iU.1 i (hl.all i o ho hk)
   .cases ho
  .have ho:(c.ops.take n2)[i]? =some o:=ho;rw[aaS]at ho;split at ho
   .rename_i aD;refine hl.ops i o ho λhb=>?_
    rcases iU.2 i hb with h|h
    .exact hn h
    .omega
   .cases ho
 .obtain⟨o',fl,hk⟩:=hd.ag hi;have:(c.l.take n1)[i]? =some o:=by
   rw[aaS]at fl|-;split at fl
   .rename_i aD;rw[if_pos aD];exact ho
   .cases fl
  exact hd.cl.e i o hi this z n hz (hvO z n hv)
 .obtain⟨o',fl,hk⟩:=hd.ag hi;have:(c.l.take n1)[i]? =some o:=by
   rw[aaS]at fl|-;split at fl
   .rename_i aD;rw[if_pos aD];exact ho
   .cases fl
  rcases aag cc n2 with h|h
  .exact .inl (hd.cl.q i o hi this z cc hz ⟨hv.1,by have:=hv.2;rw[aaE];omega⟩)
  .exact .inr h
 .rcases hc with hc|hc
  .have aD:cc<n2:=by have h2:=(Ki.1 hc).1;rw[hd.len.2,aaE]at h2;omega
   exact hd.cl.p cc o hc (by rw[abZ aD];exact ho) n (hvO _ n hv)
  .have:=t2.t.dr cc o hc ho;simp[qP]at this;have:=hv.1;omega
 .exact hd.nu.1 n (hvO 0 n hv)
 .rcases aag cc n2 with h|h
  .refine .inl (hd.nu.2 p pr ?_ bK s hs hh cc ⟨hv.1,by have:=hv.2;rw[aaE];omega⟩)
   have hnz:tx (c.l.take n1) c.ps.length p pr=pr:=by unfold tx qZ;simp[bK]
   have Tj:=hP.2 p pr hp;rw[hnz]at Tj;rcases aag p n3 with h3|h3
   .rw[abZ h3];exact Tj
   .have:=t3.t.dr p pr h3 Tj;simp[qR,bK]at this
  .exact .inr h
theorem gT.J2{c d:Kr}{b:Mk}(hl:Left c b)(hf:gT c d){L:List Obj}{L2:List bI}{L3:List bl}{en:Bool}(h:cW d.l d.ops d.ps L L2 L3 en):L=d.l/\L2=d.ops/\L3=d.ps/\en=false:=by
 obtain⟨bd,hbd,hP1,Cw⟩:=h.ex;obtain⟨m1,m2⟩:=hf.NI hl hbd;have js:∀i,e8 bd d.l i=false:=λi=>by
  unfold e8;cases hi:d.l[i]? with
  |none=>rfl
  |some o=>
   by_cases hk:o.ag=0
   .simp[hk]
   .have:bd.O[i]? =some true:=m1 i o hi hk;simp[this]
 have QL:∀(t:Nat)x,d.ps[t]? =some x->iQ d.l t x=false:=λt x hx=>by
  obtain⟨n1,n2,n3,P,t1,t2,hP,t3,rfl⟩:=hf.ex;have hx:(P.take n3)[t]? =some x:=hx;rw[aaS]at hx;split at hx
  .obtain⟨y,hy,e⟩:=hP.get hx;cases bK:x.aO with
   |false=>simp[iQ,bK]
   |true=>
    have JF:x=y:=by
     unfold tx at e;split at e
     .rw[e]at bK;simp[gC]at bK
     .exact e
    subst JF;have he:=hl.prs t x hy;cases h0:iQ (c.l.take n1) t x with
    |false=>rfl
    |true=>
     unfold iQ at he h0;simp[bK]at he h0;obtain⟨o,ho,hh⟩:=he h0.1;obtain⟨i,hi⟩:=aab ho;have hk:=xx hh;have iv:o∈c.l.take n1:=by
      rcases aag i n1 with h|h
      .exact Tu (by rw[abZ h];exact hi)
      .have:=t1.t.dr i o h hi;simp[qO]at this;exact absurd this hk
     have:=h0.2 o iv;rw[hh]at this;cases this
  .cases hx
 have hL:L=d.l:=hP1.id λt o _=>by
  unfold cD;rw[js t];have:mA bd d.l d.l.length o.bs=false:=by unfold mA;rw[js];simp
  rw[this];simp
 have vQ:=h.pr;have qA:=h.en;rw[hL]at vQ qA;refine⟨hL,Cw.id λt o ho=>?_,vQ.id λt o ho=>?_,?_⟩
 .unfold Bl;split
  .rename_i hh;have hn:¬dz bd.P t:=by intro NH;have NH:bd.P[t]? =some true:=NH;simp[NH]at hh
   exact(m2 t o ho hn).symm
  .rfl
 .simp[yI,QL t o ho]
 .rw[qA];cases he:jw d.l d.ps d.ps.length with
  |false=>rfl
  |true=>
   unfold jw at he;rw[abc]at he;obtain⟨t,ht,Bn⟩:=he;have HS:t<d.ps.length:=by simpa using ht
   rw[vR HS]at Bn;have Bn:iQ d.l t d.ps[t]=true:=Bn;rw[QL t _ (vR HS)]at Bn;cases Bn
theorem gT.NJ{c d a2 c2 d2:Kr}{b:Mk}(hl:Left c b)(hf:gT c d)(h1:iR d a2)(h2:cW a2.l a2.ops a2.ps c2.l c2.ops c2.ps false)(h3:gT c2 d2):d2=d:=by
 have ha:a2=d:=by
  clear h2 h3
  induction h1 with
  |refl=>rfl
  |step h ho ih=>
   subst ih;exact absurd (hf.J2 hl ho).2.2.2 aC
 subst ha;obtain⟨e1,e2,e3,_⟩:=hf.J2 hl h2;obtain⟨n1,n2,n3,P,t1,t2,hP,t3,he⟩:=hf.ex;obtain⟨m1,m2,m3,P',s1,s2,V6,s3,rfl⟩:=h3.ex;rw[e1]at s1 V6 s3|-;rw[e2]at s2|-;rw[e3]at V6;obtain⟨dl,vC,dps⟩:=a2;cases he;have k1:=DE.UM t1 s1;have k2:=DE.UM t2 s2;have q1:(c.l.take n1).take m1=c.l.take n1:=by rw[k1,aaZ]
 have q2:(c.ops.take n2).take m2=c.ops.take n2:=by rw[k2,aaZ]
 have hid:P'=P.take n3:=by
  have V6:Pt (P.take n3) P' (tx ((c.l.take n1).take m1) (P.take n3).length):=V6;rw[q1]at V6;refine V6.id λt x hx=>?_
  rw[aaS]at hx;split at hx
  .obtain⟨y,hy,e⟩:=hP.get hx;have ZP:t<c.ps.length:=(Ki.1 hy).1;by_cases hq:qZ (c.l.take n1) t y=true
   .have:x=gC:=by rw[e];simp[tx,hq,ZP]
    subst this;unfold tx;split<;>rfl
   .have JF:x=y:=by rw[e];simp[tx,hq]
    subst JF;simp[tx,hq]
  .cases hx
 subst hid;have s3:p9 (qR ((c.l.take n1).take m1)) 1 (P.take n3) m3:=s3;rw[q1]at s3;have k3:=DE.UM t3 s3;show Kr.mk ((c.l.take n1).take m1) ((c.ops.take n2).take m2) ((P.take n3).take m3)=Kr.mk (c.l.take n1) (c.ops.take n2) (P.take n3);rw[q1,q2,k3,aaZ]
namespace Kn
structure J3(k d:Kr):Prop where
 ex:∃a c,iR k a/\cW a.l a.ops a.ps c.l c.ops c.ps false/\gT c d
theorem pf{α:Type}{l L:List α}{f:Nat->α->α}(h:Pt l L f):L=l.mapIdx f:=by
 refine abC λi=>?_
 rw[acJ];cases hx:l[i]? with
 |none=>exact adu.2 (by rw[h.1];exact adu.1 hx)
 |some x=>rw[h.2 i x hx];rfl
theorem Bo{α:Type}(l:List α)(f:Nat->α->α):Pt l (l.mapIdx f) f:=
 ⟨ab7,λt o ho=>by rw[acJ,ho];rfl⟩
theorem NK{A B:List Bool}(hl:A.length=B.length)(h:∀i,dz A i↔dz B i):A=B:=by
 refine List.ext_getElem hl λi h1 h2=>?_
 have CS:=h i;unfold dz at CS;rw[vR h1,vR h2]at CS;simp only[aaA]at CS;cases ha:A[i]<;>cases hb:B[i]<;>simp[ha,hb]at CS|-
theorem J4{l:List Obj}{ops:List bI}{ps:List bl}{b b':Mk}(h:g9 l ops ps b)(h':g9 l ops ps b'):b=b':=by
 have h1:=h.ov _ _ h'.cl h'.nu;have h2:=h'.ov _ _ h.cl h.nu;obtain⟨O,P⟩:=b;obtain⟨O',P'⟩:=b';have e1:O=O':=NK (h.len.1.trans h'.len.1.symm) λi=>⟨h1.1 i,h2.1 i⟩
 have e2:P=P':=NK (h.len.2.trans h'.len.2.symm) λi=>⟨h1.2 i,h2.2 i⟩
 rw[e1,e2]
theorem ub{k c c':Kr}{e e':Bool}(h:cW k.l k.ops k.ps c.l c.ops c.ps e)(h':cW k.l k.ops k.ps c'.l c'.ops c'.ps e'):c=c'/\e=e':=by
 obtain⟨b,hb,h1,h2⟩:=h.ex;obtain⟨b',tL,CS,LD⟩:=h'.ex;have:=J4 hb tL;subst this;have e1:c.l=c'.l:=(pf h1).trans (pf CS).symm;have e2:c.ops=c'.ops:=(pf h2).trans (pf LD).symm;have p:=h.pr;rw[e1]at p;have e3:c.ps=c'.ps:=(pf p).trans (pf h'.pr).symm;refine⟨?_,?_⟩
 .obtain⟨x,y,z⟩:=c;obtain⟨x',y',z'⟩:=c';simp only at e1 e2 e3;rw[e1,e2,e3]
 .rw[h.en,h'.en,e1]
theorem Bp{k a:Kr}(h:iR k a):a=k\/∃x,cW k.l k.ops k.ps x.l x.ops x.ps true/\iR x a:=by
 induction h with
 |refl=>exact .inl rfl
 | @step a b h s ih=>
  rcases ih with rfl|⟨x,hx,hxa⟩
  .exact .inr ⟨b,s,.refl⟩
  .exact .inr ⟨x,hx,.step hxa s⟩
theorem Q5{k a b:Kr}(h1:iR k a)(h2:iR k b):iR a b\/iR b a:=by
 induction h2 with
 |refl=>exact .inr h1
 | @step b c h s ih=>
  rcases ih with h|h
  .exact .inl (.step h s)
  .rcases Bp h with rfl|⟨x,hx,hxa⟩
   .exact .inl (.step .refl s)
   .have:=(ub hx s).1;subst this;exact .inr hxa
theorem Q6{k a b c d:Kr}(h1:iR k a)(h2:iR k b)(o1:cW a.l a.ops a.ps c.l c.ops c.ps false)(o2:cW b.l b.ops b.ps d.l d.ops d.ps false):a=b:=by
 have key:∀{a b c:Kr},iR a b->cW a.l a.ops a.ps c.l c.ops c.ps false->b=a:=λh o=>by
  rcases Bp h with h|⟨x,hx,_⟩
  .exact h
  .have:=(ub hx o).2;cases this
 rcases Q5 h1 h2 with h|h
 .exact(key h o1).symm
 .exact key h o2
theorem xy{α:Type}{q:Nat->α->Bool}{mn:Nat}{L:List α}{a b:Nat}(ha:p9 q mn L a)(hb:p9 q mn L b):a=b:=by
 have key:∀{a b:Nat},p9 q mn L a->p9 q mn L b->¬a<b:=λ{a b}ha hb aD=>by
  have h1:=ha.t.mn;have h2:=hb.t.le;rcases hb.e with h3|⟨o,ho,hq⟩
  .omega
  .have:=ha.t.dr (b-1) o om ho;rw[hq]at this;cases this
 have h1:=key ha hb;have h2:=key hb ha;omega
theorem NL{c d d':Kr}(h:gT c d)(h':gT c d'):d=d':=by obtain⟨n1,n2,n3,P,a1,a2,a3,a4,rfl⟩:=h.ex;obtain⟨m1,m2,m3,P',b1,b2,b3,b4,rfl⟩:=h'.ex;have:=xy a1 b1;subst this;have:=xy a2 b2;subst this;have:=(pf a3).trans (pf b3).symm;subst this;have:=xy a4 b4;subst this;rfl
theorem J3.AV{k d d':Kr}(h:J3 k d)(h':J3 k d'):d=d':=by obtain⟨a,c,h1,h2,h3⟩:=h.ex;obtain⟨a',c',CS,LD,ZQ⟩:=h'.ex;have:=Q6 h1 CS h2 LD;subst this;have:=(ub h2 LD).1;subst this;exact NL h3 ZQ
def nzB(l:List Obj)(i:Nat):Bool:=match l[i]? with|some o=>o.ag !=0|none=>false
def toB(l:List Obj)(O:List Bool)(i:Nat):Bool:=(l.zip O).any λy=>y.2&&y.1.ak.any λe=>(ou e).2==(i:Int)
def opB(ops:List bI)(P:List Bool)(i:Nat):Bool:=(ops.zip P).any λy=>y.2&&y.1.bp==(i:Int)
def quB(l:List Obj)(O:List Bool)(c:Nat):Bool:=(l.zip O).any λy=>y.2&&y.1.ax.any λq=>q.has&&q.dG==(c:Int)
def EV(l:List Obj)(ops:List bI)(b:Mk):Mk:=
 ⟨b.O.mapIdx λi x=>x||(nzB l i&&(toB l b.O i||opB ops b.P i)),b.P.mapIdx λc x=>x||quB l b.O c⟩
def J5(l:List Obj)(ops:List bI)(ps:List bl):Mk:=
 ⟨l.mapIdx λi o=>decide (i=0)&&o.ag !=0,ops.mapIdx λc _=>ps.any λp=>p.aO&&p.aQ.any λs=>s.has&&s.dG==(c:Int)⟩
def UN{α:Type}(f:α->α):Nat->α->α
 |0,a=>a
 |n+1,a=>UN f n (f a)
def pg(l:List Obj)(ops:List bI)(ps:List bl):Mk:=UN (EV l ops) (l.length+ops.length) (J5 l ops ps)
theorem uc:∀(a b:List Bool),b.length=a.length->(∀i,dz a i->dz b i)->a≠b->eB b<eB a
 | [],[],_,_,h=>absurd rfl h
 | [],_::_,h,_,_=>by simp at h
 |_::_,[],h,_,_=>by simp at h
 |x::a,y::b,h,hm,dy=>by
  have hl:b.length=a.length:=by simpa using h
  have T8:∀i,dz a i->dz b i:=λi hi=>by have:=hm (i+1);unfold dz at this hi|-;simp only[abv]at this;exact this hi
  have h0:x=true->y=true:=λhx=>by have:=hm 0;unfold dz at this;simp only[acK,aaA]at this;exact this hx
  have hle:=lj a b hl T8;by_cases EW:a=b
  .subst EW;cases x<;>cases y
   .exact absurd rfl dy
   .simp[eB]
   .exact absurd (h0 rfl) aC
   .exact absurd rfl dy
  .have ih:=uc a b hl T8 EW;cases x<;>cases y
   .simp only[eB]at ih|-;simpa using ih
   .simp only[eB]at ih|-;simp;omega
   .exact absurd (h0 rfl) aC
   .simp only[eB]at ih|-;simpa using ih
theorem xz:∀a:List Bool,eB a<=a.length:=λa=>by unfold eB;exact acY _ _
theorem ud{A:List Bool}{f:Nat->Bool->Bool}{i:Nat}:dz (A.mapIdx f) i↔∃x,A[i]? =some x/\f i x=true:=by
 unfold dz;rw[acJ];cases A[i]? <;>simp
theorem ue{l:List Obj}{ops:List bI}(b:Mk):(∀i,dz b.O i->dz (EV l ops b).O i)/\∀c,dz b.P c->dz (EV l ops b).P c:=
 ⟨λi h=>ud.2 ⟨true,h,aC⟩,λc h=>ud.2 ⟨true,h,aC⟩⟩
theorem nW{l:List Obj}{ops:List bI}(b:Mk):(EV l ops b).O.length=b.O.length/\(EV l ops b).P.length=b.P.length:=
 ⟨ab7,ab7⟩
theorem NM{l:List Obj}{ops:List bI}(b:Mk):EV l ops b=b\/(EV l ops b).mu<b.mu:=by
 have h1:=lj b.O _ (nW b).1 (ue (l:=l) (ops:=ops) b).1;have h2:=lj b.P _ (nW b).2 (ue (l:=l) (ops:=ops) b).2;by_cases e1:b.O=(EV l ops b).O
 .by_cases e2:b.P=(EV l ops b).P
  .refine .inl ?_;cases hb:b with
   |mk O P=>
    rw[hb]at e1 e2;generalize hm:EV l ops ⟨O,P⟩=m at e1 e2;cases m;simp only at e1 e2;rw[e1,e2]
  .have:=uc b.P _ (nW b).2 (ue (l:=l) (ops:=ops) b).2 e2;unfold Mk.mu;omega
 .have:=uc b.O _ (nW b).1 (ue (l:=l) (ops:=ops) b).1 e1;unfold Mk.mu;omega
theorem Ih{l:List Obj}{ops:List bI}:∀(n:Nat)(b:Mk),b.mu<=n->EV l ops (UN (EV l ops) n b)=UN (EV l ops) n b
 |0,b,h=>by
  rcases NM (l:=l) (ops:=ops) b with h1|h1
  .exact h1
  .omega
 |n+1,b,h=>by
  rcases NM (l:=l) (ops:=ops) b with h1|h1
  .have:∀n,UN (EV l ops) n b=b:=λn=>by
    induction n with
    |zero=>rfl
    |succ n ih=>show UN _ n (EV l ops b)=b;rw[h1,ih]
   rw[this,h1]
  .exact Ih n _ om
theorem wg{α:Type}{f:α->α}{Q:α->Prop}(hf:∀a,Q a->Q (f a)):∀(n:Nat)(a:α),Q a->Q (UN f n a)
 |0,_,h=>h
 |n+1,a,h=>wg hf n (f a) (hf a h)
theorem Bq{α:Type}{l:List α}{O:List Bool}{g:α->Bool}:(l.zip O).any (λy=>y.2&&g y.1)=true↔∃(i:Nat)(o:α),l[i]? =some o/\dz O i/\g o=true:=by
 rw[abc];constructor
 .rintro⟨⟨o,x⟩,hm,h⟩;obtain⟨i,hi⟩:=aab hm;rw[List.getElem?_zip_eq_some]at hi;simp only[aae]at h;exact⟨i,o,hi.1,by unfold dz;rw[hi.2,h.1],h.2⟩
 .rintro⟨i,o,h1,h2,h3⟩;refine⟨(o,true),Tu (i:=i) (List.getElem?_zip_eq_some.2 ⟨h1,h2⟩),by simp[h3]⟩
theorem Ii{l:List Obj}{O:List Bool}{n:Nat}:toB l O n=true↔∃(i:Nat)(o:Obj),l[i]? =some o/\dz O i/\(o.ak.any λe=>(ou e).2==(n:Int))=true:=Bq (g:=λo:Obj=>o.ak.any λe=>(ou e).2==(n:Int))
theorem Ij{ops:List bI}{P:List Bool}{n:Nat}:opB ops P n=true↔∃(i:Nat)(o:bI),ops[i]? =some o/\dz P i/\(o.bp==(n:Int))=true:=Bq (g:=λo:bI=>o.bp==(n:Int))
theorem Ik{l:List Obj}{O:List Bool}{n:Nat}:quB l O n=true↔∃(i:Nat)(o:Obj),l[i]? =some o/\dz O i/\(o.ax.any λq=>q.has&&q.dG==(n:Int))=true:=Bq (g:=λo:Obj=>o.ax.any λq=>q.has&&q.dG==(n:Int))
theorem Il{l:List Obj}{i:Nat}:nzB l i=true↔∃o,l[i]? =some o/\o.ag≠0:=by
 unfold nzB;cases l[i]? <;>simp
theorem F9{l:List Obj}{ops:List bI}{ps:List bl}(ht:∀o,o∈l->o.Tc){RO RP:Nat->Prop}(hc:Cl l ops RO RP)(hr:Ic l ops ps RO RP):Qc RO RP (pg l ops ps):=by
 refine(wg (Q:=λb=>Qc RO RP b/\b.P.length=ops.length) (λb⟨h,Us⟩=>⟨⟨λi hi=>?_,λc hi=>?_⟩,(nW b).2.trans Us⟩) _ _ ⟨⟨λi hi=>?_,λc hi=>?_⟩,ab7⟩).1
 .obtain⟨x,h1,h2⟩:=ud.1 hi;cases x with
  |true=>exact h.1 i h1
  |false=>
   rw[ac0,aae,ab0]at h2;have hn:=Il.1 h2.1;rcases h2.2 with h2|h2
   .obtain⟨j,o,hj,ho,hg⟩:=Ii.1 h2;obtain⟨e,he,hei⟩:=abc.1 hg;obtain⟨es,ol⟩:=(ht o (Tu hj)).2.1;rw[ol]at he;obtain⟨⟨nm,z⟩,hx,rfl⟩:=aaz.1 he;have hz:z=(i:Int):=by simpa[gl,ou]using hei
    refine hc.e j o (h.1 j ho) hj z i ⟨nm,?_⟩ ⟨hz,hn⟩;rw[ol];exact aaz.2 ⟨_,hx,rfl⟩
   .obtain⟨c,o,hj,ho,hg⟩:=Ij.1 h2;exact hc.p c o (h.2 c ho) hj i ⟨by simpa using hg,hn⟩
 .obtain⟨x,h1,h2⟩:=ud.1 hi;cases x with
  |true=>exact h.2 c h1
  |false=>
   rw[ac0]at h2;obtain⟨j,o,hj,ho,hg⟩:=Ik.1 h2;obtain⟨q,hq,y4⟩:=abc.1 hg;rw[aae]at y4;exact hc.q j o (h.1 j ho) hj q.dG c ⟨q,hq,y4.1,rfl⟩ ⟨by simpa using y4.2,Us▸(Ki.1 h1).1⟩
 .unfold dz J5 at hi;simp only[acJ]at hi;cases ho:l[i]? with
  |none=>rw[ho]at hi;cases hi
  |some o=>
   rw[ho]at hi;simp only[aaG,aaA,aae,decide_eq_true_eq]at hi;obtain⟨rfl,hk⟩:=hi;exact hr.1 0 ⟨rfl,o,ho,by simpa using hk⟩
 .unfold dz J5 at hi;simp only[acJ]at hi;cases ho:ops[c]? with
  |none=>rw[ho]at hi;cases hi
  |some o=>
   rw[ho]at hi;simp only[aaG,aaA]at hi;obtain⟨pr,hp,hi⟩:=abc.1 hi;rw[aae]at hi;obtain⟨s,hs,eW⟩:=abc.1 hi.2;rw[aae]at eW;obtain⟨p,hp⟩:=aab hp;exact hr.2 p pr hp hi.1 s hs eW.1 c ⟨by simpa using eW.2,(Ki.1 ho).1⟩
theorem Q7(l:List Obj)(ops:List bI)(ps:List bl)(ht:∀o,o∈l->o.Tc):g9 l ops ps (pg l ops ps):=by
 have hl:y9 l ops (pg l ops ps):=wg (Q:=y9 l ops) (λb h=>⟨(nW b).1.trans h.1,(nW b).2.trans h.2⟩) _ _ ⟨ab7,ab7⟩
 have UO:EV l ops (pg l ops ps)=pg l ops ps:=by refine Ih _ _ ?_;unfold Mk.mu;have h1:=xz (J5 l ops ps).O;have h2:=xz (J5 l ops ps).P;have h3:(J5 l ops ps).O.length=l.length:=ab7;have h4:(J5 l ops ps).P.length=ops.length:=ab7;omega
 have hle:= @F9 l ops ps ht;have p7:(∀i,dz (J5 l ops ps).O i->dz (pg l ops ps).O i)/\∀c,dz (J5 l ops ps).P c->dz (pg l ops ps).P c:=
  wg (Q:=λb=>(∀i,dz (J5 l ops ps).O i->dz b.O i)/\∀c,dz (J5 l ops ps).P c->dz b.P c) (λb h=>⟨λi hi=>(ue b).1 i (h.1 i hi),λc hc=>(ue b).2 c (h.2 c hc)⟩) _ _ ⟨λ_ h=>h,λ_ h=>h⟩
 generalize pg l ops ps=b at hl UO hle p7|-;have hO:∀n:Nat,(∃o,l[n]? =some o/\o.ag≠0)->(toB l b.O n=true\/opB ops b.P n=true)->dz b.O n:=λn hn hx=>by
  rw[<-UO];have:n<b.O.length:=by obtain⟨o,ho,_⟩:=hn;rw[hl.1];exact(Ki.1 ho).1
  refine ud.2 ⟨b.O[n],vR this,?_⟩;rw[Il.2 hn];rcases hx with hx|hx<;>rw[hx]<;>simp
 have iB:Cl l ops (dz b.O) (dz b.P):=by
  refine⟨λi o hi ho z n hs hv=>?_,λi o hi ho z c hs hv=>?_,λc o hc ho n hv=>?_⟩
  .obtain⟨rfl,hn⟩:=hv;obtain⟨nm,hs⟩:=hs;refine hO n hn (.inl (Ii.2 ⟨i,o,ho,hi,abc.2 ⟨_,hs,?_⟩⟩));show((ou (gl (nm,(n:Int)))).2==(n:Int))=true;simp[gl,ou]
  .obtain⟨rfl,hn⟩:=hv;obtain⟨q,hq,h1,h2⟩:=hs;rw[<-UO];refine ud.2 ⟨b.P[c]'(by rw[hl.2];exact hn),vR _,?_⟩
   have:quB l b.O c=true:=Ik.2 ⟨i,o,ho,hi,abc.2 ⟨q,hq,by simp[h1,h2]⟩⟩
   rw[this];simp
  .obtain⟨h1,hn⟩:=hv;exact hO n hn (.inr (Ij.2 ⟨c,o,ho,hc,by simp[h1]⟩))
 refine⟨hl,⟨λn hv=>p7.1 n ?_,λp pr hp bK s hs hh c hv=>p7.2 c ?_⟩,iB,λRO RP hc hr=>?_⟩
 .obtain⟨h0,o,ho,hk⟩:=hv;have h0:n=0:=om;subst h0;unfold J5 dz;simp only[acJ,ho,aaG,aaA];simp[hk]
 .obtain⟨h0,hn⟩:=hv;unfold J5 dz;simp only[acJ,vR hn,aaG,aaA];exact abc.2 ⟨pr,Tu hp,by rw[bK,adC];exact abc.2 ⟨s,hs,by simp[hh,h0]⟩⟩
 .exact hle hc hr
def ow(k:Kr):Kr:=
 ⟨k.l.mapIdx (cD (pg k.l k.ops k.ps) k.l k.l.length),k.ops.mapIdx (Bl (pg k.l k.ops k.ps) k.ops.length),k.ps.mapIdx (yI (k.l.mapIdx (cD (pg k.l k.ops k.ps) k.l k.l.length)) k.ps.length)⟩
theorem NN(k:Kr)(ht:∀o,o∈k.l->o.Tc):cW k.l k.ops k.ps (ow k).l (ow k).ops (ow k).ps (jw (ow k).l k.ps k.ps.length):=
 ⟨⟨_,Q7 k.l k.ops k.ps ht,Bo _ _,Bo _ _⟩,Bo _ _,rfl⟩
def DG:Nat->Kr->Kr
 |0,k=>ow k
 |n+1,k=>bif jw (ow k).l k.ps k.ps.length then DG n (ow k)else ow k
theorem NO:∀(n:Nat)(k:Kr),dP k.l k.ops k.ps->lF k.ps<=n->∃a,iR k a/\cW a.l a.ops a.ps (DG n k).l (DG n k).ops (DG n k).ps false
 |n,k,hk,hn=>by
  have h:=NN k λo ho=>(hk.sm o ho).t
  cases he:jw (ow k).l k.ps k.ps.length with
  |false=>
   rw[he]at h;refine⟨k,.refl,?_⟩;have:DG n k=ow k:=by
    cases n with
    |zero=>rfl
    |succ n=>show(bif _ then _ else _)=_;rw[he];rfl
   rw[this];exact h
  |true=>
   rw[he]at h;have aD:=h.lF;cases n with
   |zero=>omega
   |succ n=>
    obtain⟨a,h1,h2⟩:=NO n (ow k) (h.kr hk) om;have e:DG (n+1) k=DG n (ow k):=by show(bif _ then _ else _)=_;rw[he];rfl
    rw[e];refine⟨a,?_,h2⟩;have:∀{x y:Kr},iR x y->cW k.l k.ops k.ps x.l x.ops x.ps true->iR k y:=λh3 h4=>by
     induction h3 with
     |refl=>exact .step .refl h4
     |step _ s ih=>exact .step ih s
    exact this h1 h
def mK{α:Type}(q:Nat->α->Bool):List α->Nat->Nat->Nat
 | [],_,b=>b
 |x::r,i,b=>mK q r (i+1) (bif q i x then b else i+1)
def DH{α:Type}(q:Nat->α->Bool)(mn:Nat)(L:List α):Nat:=min L.length (max mn (mK q L 0 0))
theorem Br{α:Type}(q:Nat->α->Bool):∀(L:List α)(i b:Nat),b<=i->(mK q L i b=b/\(∀(t:Nat)o,L[t]? =some o->q (i+t) o=true))\/
  (i<mK q L i b/\mK q L i b<=i+L.length/\(∃o,L[mK q L i b-1-i]? =some o/\q (mK q L i b-1) o=false)/\∀(t:Nat)o,mK q L i b<=i+t->L[t]? =some o->q (i+t) o=true)
 | [],i,b,h=>.inl ⟨rfl,λt o h=>by simp at h⟩
 |x::r,i,b,h=>by
  cases hq:q i x with
  |true=>
   have e:mK q (x::r) i b=mK q r (i+1) b:=by show mK q r (i+1) (bif q i x then b else i+1)=_;rw[hq];rfl
   rw[e];rcases Br q r (i+1) b om with⟨h1,h2⟩|⟨h1,h2,⟨o,h3,h4⟩,h5⟩
   .refine .inl ⟨h1,λt o ho=>?_⟩
    cases t with
    |zero=>simp at ho;subst ho;exact hq
    |succ t=>have:=h2 t o (by simpa using ho);rwa [show i+(t+1)=i+1+t by omega]
   .refine .inr ⟨om,by simp;omega,⟨o,?_,h4⟩,λt o ht ho=>?_⟩
    .rw[show mK q r (i+1) b-1-i=(mK q r (i+1) b-1-(i+1))+1 by omega];simpa using h3
    .cases t with
     |zero=>simp at ho;subst ho;exact hq
     |succ t=>have:=h5 t o om (by simpa using ho);rwa [show i+(t+1)=i+1+t by omega]
  |false=>
   have e:mK q (x::r) i b=mK q r (i+1) (i+1):=by show mK q r (i+1) (bif q i x then b else i+1)=_;rw[hq];rfl
   rw[e];rcases Br q r (i+1) (i+1) (Yj _)with⟨h1,h2⟩|⟨h1,h2,⟨o,h3,h4⟩,h5⟩
   .refine .inr ⟨om,by simp;omega,⟨x,by rw[h1];simp,by rw[h1];simpa using hq⟩,λt o ht ho=>?_⟩
    cases t with
    |zero=>omega
    |succ t=>have:=h2 t o (by simpa using ho);rwa [show i+(t+1)=i+1+t by omega]
   .refine .inr ⟨om,by simp;omega,⟨o,?_,h4⟩,λt o ht ho=>?_⟩
    .rw[show mK q r (i+1) (i+1)-1-i=(mK q r (i+1) (i+1)-1-(i+1))+1 by omega];simpa using h3
    .cases t with
     |zero=>omega
     |succ t=>have:=h5 t o om (by simpa using ho);rwa [show i+(t+1)=i+1+t by omega]
theorem Ga{α:Type}(q:Nat->α->Bool)(mn:Nat)(L:List α):p9 q mn L (DH q mn L):=by
 unfold DH;rcases Br q L 0 0 (Yj _)with⟨h1,h2⟩|⟨h1,h2,⟨o,h3,h4⟩,h5⟩
 .refine⟨⟨Nat.min_le_left _ _,om,λt o _ ho=>by have:=h2 t o ho;rwa [aa6]at this⟩,.inl om⟩
 .refine⟨⟨Nat.min_le_left _ _,om,λt o ht ho=>?_⟩,?_⟩
  .have aD:=(Ki.1 ho).1;have:=h5 t o om ho;rwa [aa6]at this
  .rcases aag mn (mK q L 0 0)with hm|hm
   .refine .inr ⟨o,?_⟩;have e:min L.length (max mn (mK q L 0 0))=mK q L 0 0:=om;rw[e];exact⟨by simpa using h3,h4⟩
   .exact .inl om
def J6(c:Kr):Kr:=
 ⟨c.l.take (DH qO 1 c.l),c.ops.take (DH qP 0 c.ops),(c.ps.mapIdx (tx (c.l.take (DH qO 1 c.l)) c.ps.length)).take (DH (qR (c.l.take (DH qO 1 c.l))) 1 (c.ps.mapIdx (tx (c.l.take (DH qO 1 c.l)) c.ps.length)))⟩
theorem Gb(c:Kr):gT c (J6 c):=⟨⟨_,_,_,_,Ga _ _ _,Ga _ _ _,Bo _ _,Ga _ _ _,rfl⟩⟩
def fa(k:Kr):Kr:=J6 (DG k.ps.length k)
theorem gp{k:Kr}(hk:dP k.l k.ops k.ps):J3 k (fa k):=by
 obtain⟨a,h1,h2⟩:=NO k.ps.length k hk (by unfold lF;exact acY _ _)
 exact⟨a,_,h1,h2,Gb _⟩
theorem J7{k a c d:Kr}(hk:dP k.l k.ops k.ps)(h1:iR k a)(h2:cW a.l a.ops a.ps c.l c.ops c.ps false)(h3:gT c d):d=fa k:=
 J3.AV ⟨a,c,h1,h2,h3⟩ (gp hk)
theorem J8(k:Kr)(hk:dP k.l k.ops k.ps){m:Mem}{K:CV->Mem->Prop}(h:K (eJ (fa k).l (fa k).ops (fa k).ps) m):aq prog 41 [eJ k.l k.ops k.ps] m K:=
 NG k hk λa c d h1 h2 h3=>by rw[J7 hk h1 h2 h3];exact h
end Kn
theorem nX{l:List bI}{k:Nat}(h:k<l.length):dA (l.map bI.enc) (k:Nat)=some [.val (.int .i64 l[k].bp),.val (.int .i64 l[k].dp)]:=by rw[bG,Tr,vR h];rfl
inductive kN(m:Mem)(Z:Nat->Prop)(p:Option Nat):List CC->List Dt->Prop
 |nil:kN m Z p [] []
 |cons {c:CC} {d:Dt} {r:List CC} {r':List Dt} (h:d6 m Z p c d) (hr:kN m Z p r r'):kN m Z p (c::r) (d::r')
theorem kN.len{m:Mem}{Z:Nat->Prop}{p:Option Nat}{a:List CC}{b:List Dt}(h:kN m Z p a b):a.length=b.length:=by induction h<;>simp[*]
theorem kN.get{m:Mem}{Z:Nat->Prop}{p:Option Nat}{a:List CC}{b:List Dt}(h:kN m Z p a b):∀(i:Nat)c d,a[i]? =some c->b[i]? =some d->d6 m Z p c d:=by
 induction h with
 |nil=>intro i c d h;simp at h
 |cons h hr ih=>
  intro i c d h1 h2;cases i with
  |zero=>simp at h1 h2;subst h1 h2;exact h
  |succ i=>exact ih i c d (by simpa using h1) (by simpa using h2)
inductive hC(m:Mem)(Z:Nat->Prop)(p:Option Nat):List (List CC)->List (List Dt)->Prop
 |nil:hC m Z p [] []
 |cons {c:List CC} {d:List Dt} {r:List (List CC)} {r':List (List Dt)} (h:kN m Z p c d) (hr:hC m Z p r r'):hC m Z p (c::r) (d::r')
theorem hC.len{m:Mem}{Z:Nat->Prop}{p:Option Nat}{a:List (List CC)}{b:List (List Dt)}(h:hC m Z p a b):a.length=b.length:=by induction h<;>simp[*]
theorem hC.get{m:Mem}{Z:Nat->Prop}{p:Option Nat}{a:List (List CC)}{b:List (List Dt)}(h:hC m Z p a b):∀(i:Nat)c d,a[i]? =some c->b[i]? =some d->kN m Z p c d:=by
 induction h with
 |nil=>intro i c d h;simp at h
 |cons h hr ih=>
  intro i c d h1 h2;cases i with
  |zero=>simp at h1 h2;subst h1 h2;exact h
  |succ i=>exact ih i c d (by simpa using h1) (by simpa using h2)
theorem hC.fT{m:Mem}{Z:Nat->Prop}{p:Option Nat}{id esz:Nat}{elems:List (List CC)}{ds:List (List Dt)}(h:hC m Z (some id) elems ds)(hz:Z id)(hm:m[id]? =some (.row esz elems)):d6 m Z p (.row id esz 0 none) (.sl esz ds):=
 d6.row id esz 0 none elems ds hz hm h.len (λi cs es h1 h2=>(h.get i cs es h1 h2).len) (λi cs es j c d h1 h2 h3 h4=>(h.get i cs es h1 h2).get j c d h3 h4)
end Go.Proofs.YtodckkkbiidffaaGreatDoor
