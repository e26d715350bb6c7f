/- Part 12 of 16. -/
import Derived.Test.YtodckkkbiidffaaGreatDoorK11
import Derived.Sort.Grow
import Derived.Test.YtodckkkbiidffaaGreatDoorRows
set_option linter.unusedVariables false
set_option linter.unusedSimpArgs false
set_option maxRecDepth 100000
set_option maxHeartbeats 0
namespace Go.AM
section
variable {P:Program} {ρ:bI} {m:Mem} {w:World}
theorem zc(w:World)(Nh:Nat)(f:Array Value->Array Value){b:Nat}(h:b≠Nh):(Sort.mapBlock w Nh f).heap[b]? =w.heap[b]? :=by simp only[Sort.mapBlock,aba];rw[if_neg (λe=>h e.symm)]
theorem zd(w:World)(n Nh off:Nat)(F:Array Value):eV w (Sort.putRow id (Sort.ahead w n) Nh off F) Nh:=
 ⟨λb hb=>zc _ _ _ hb,by simp[Sort.putRow,Sort.mapBlock,Sort.ahead],rfl,rfl,rfl⟩
theorem FQ{mk:Prop}{w:World}{Nh off:Nat}{cur:Array Value}(F:Array Value)(n:Nat)(h:mE mk w Nh cur):mE mk (Sort.putRow id (Sort.ahead w n) Nh off F) Nh (Sort.putCells id off F cur):=by
 obtain⟨ty,fr,hb,h1,h2,h3⟩:=h;refine⟨ty,fr,?_,h1,λi hi=>h2 i (by simpa[Sort.putCells]using hi),by simpa[Sort.putCells]using h3⟩
 have aC:Nh<w.heap.size:=(aaC.1 hb).1;have e:(Sort.ahead w n).heap[Nh]? =some (.cells cur ty fr):=hb;simp only[Sort.putRow,Sort.mapBlock,aba,if_true,e,aaD,Sort.onCells]
theorem JV(hM:ay ρ m w){id esz:Nat}{rows m4:List (List CC)}{F:Array Value}(hb:m[id]? =some (.row esz rows))(cI:0<rows.length)(hlen:m4.length=rows.length)(dk:∀cs,cs∈m4->cs.length=esz)(hF:F.size=rows.length*esz)(QJ:∀cs,cs∈m4->∀c,c∈cs->∃d,c= .ah d)(cq:∀(i:Nat)cs(j:Nat)c,m4[i]? =some cs->cs[j]? =some c->bj ρ w .none c F[i*esz+j]!)(n:Nat)(os:Array Obj):
  ay ρ (m.set id (.row esz m4)) (Sort.grow (Sort.putRow _root_.id (Sort.ahead w n) (ρ.aI (.aj id)).b (ρ.aI (.aj id)).aq F) os)/\
  Ext ρ m w ρ (m.set id (.row esz m4)) (Sort.grow (Sort.putRow _root_.id (Sort.ahead w n) (ρ.aI (.aj id)).b (ρ.aI (.aj id)).aq F) os):=by
 have hid:id<m.length:=(Km.1 hb).1;obtain⟨h2,h3,h4,h5,Cz⟩:=hM.bk id _ hb;have be:0<(ρ.aI (.aj id)).cap:=om;obtain⟨cur,bX,h1,hd⟩:=Cz be;have hmul:rows.length*esz<=(ρ.aI (.aj id)).cap*esz:=aaZ _ om;have XN:∀{i' j' rQ e},dY (m.set id (.row esz m4)) id i' j' rQ e->False:=by rintro i' j' rQ e ⟨b2,fI,ia⟩;rw[TH hid]at fI;cases fI;obtain⟨Zw,fg,lW⟩:=ia.yO;obtain⟨d,hd⟩:=QJ _ (Tp fg) _ (Tp lW);cases hd
 obtain⟨jo,hX⟩:=hM.Ly (zw:= .row esz m4) (w':=Sort.putRow _root_.id (Sort.ahead w n) (ρ.aI (.aj id)).b (ρ.aI (.aj id)).aq F) hb ⟨_,hb,aE,λ_=>be⟩ (zd w n _ _ F)
  (λg=>⟨by rw[hlen];exact h2,h3,h4,dk,λ_=>⟨_,FQ F n bX,by simpa[Sort.putCells]using h1,λi cs j c hi hj=>by
   have mh:j<esz:=by rw[<-dk cs (Tp hi)];exact(Km.1 hj).1
   have yU:i<rows.length:=by rw[<-hlen];exact(Km.1 hi).1
   have p9:i*esz+j<rows.length*esz:=by have:(i+1)*esz<=rows.length*esz:=aaZ _ om;rw[abf,ab3]at this;omega
   have cy:=cq i cs j c hi hj;refine⟨F[i*esz+j]!,?_,(bj.cm g aE cy).wO _⟩;have hc:(ρ.aI (.aj id)).aq+i*esz+j<cur.size:=om;simp only[Sort.putCells,Array.getElem?_mapIdx,abI hc,aaD];rw[if_pos om];congr 2;show F[_]! =_;congr 1;omega⟩⟩)
  (λi j e1 e2 h=>(XN h).elim)
 have hW:eN (Sort.putRow _root_.id (Sort.ahead w n) (ρ.aI (.aj id)).b (ρ.aI (.aj id)).aq F) (Sort.grow (Sort.putRow _root_.id (Sort.ahead w n) (ρ.aI (.aj id)).b (ρ.aI (.aj id)).aq F) os):=
  ⟨λb hb=>Sort.heap_grow_old _ os hb,by simp[Sort.grow],rfl,rfl,rfl⟩
 obtain⟨FF,o4⟩:=jo.M8 hW;exact⟨FF,hX.trans o4⟩
end
section
variable {P:Program}
theorem View.abp{n0:Nat}{e:List CV}{m:Mem}(id j esz n:Nat){cs:List CC}(hn:m.length=n)(hb:cF m id=some (.var cs))(hj:cF cs j=some .aO)(h0:Nat.ble n0 n=true):
  View n0 ⟨e,m⟩ ⟨e,gJ (aV m id (.var (aV cs j (.row n esz 0 none)))) [.row esz []]⟩:=by
 subst hn;have h0:=aad h0;rw[aT]at hb hj;rw[aY,aY,cg];have hid:id<m.length:=(Km.1 hb).1;have mh:j<cs.length:=(Km.1 hj).1;refine⟨by simp;omega,rfl,λρ w hM=>?_⟩
 have hn:ρ.n=m.length:=hM.n;let U':bI:={n:=m.length+1,aI:=λk=>if k.id=m.length then⟨0,0,0,0⟩else ρ.aI k,S:=ρ.S}
 have bO:∀k:gw,k.id<ρ.n->U'.aI k=ρ.aI k:=λk hk=>by simp only[U'];rw[if_neg om]
 have g:iL ρ w U' w:=⟨by show ρ.n<=m.length+1;omega,bO,λ_ h=>h,λ_ _=>rfl⟩
 have get:∀(k:Nat)b,(m.set id (.var (cs.set j (.row m.length esz 0 none)))++ [Bk.row esz []])[k]? =some b->(k<m.length/\k≠id/\m[k]? =some b)\/(k=id/\b= .var (cs.set j (.row m.length esz 0 none)))\/(k=m.length/\b= .row esz []):=by
  intro k b hk;rcases aaf k m.length with h|h
  .rw[aac (by simpa using h)]at hk
   by_cases H6:k=id
   .subst H6;rw[TH hid]at hk;cases hk;exact .inr (.inl ⟨rfl,rfl⟩)
   .rw[U7 (λe=>H6 e.symm)]at hk
    exact .inl ⟨h,H6,hk⟩
  .have aC:=(Km.1 hk).1;simp at aC;have:k=m.length:=om;subst this;rw[ZZ aE]at hk;simp at hk;exact .inr (.inr ⟨rfl,hk.symm⟩)
 have bY:∀k,Live U' (m.set id (.var (cs.set j (.row m.length esz 0 none)))++ [.row esz []]) k->Live ρ m k:=by
  intro k hk;cases k with
  |aj i=>
   obtain⟨bk,db,lX,be⟩:=hk;rcases get i bk db with⟨h1,h2,h3⟩|⟨rfl,rfl⟩|⟨rfl,rfl⟩
   .rw[bO (.aj i) (by simp only[gw.id];omega)]at be
    exact⟨bk,h3,lX,be⟩
   .exact⟨_,hb,aE,aE⟩
   .have:=be ⟨_,_,rfl⟩;simp[U',gw.id]at this
  |sub i x y=>
   obtain⟨⟨s,el,b2,db,ho⟩,be⟩:=hk;rcases get i _ db with⟨h1,h2,h3⟩|⟨rfl,h⟩|⟨rfl,h⟩
   .rw[bO (.sub i x y) (by simp only[gw.id];omega)]at be
    exact⟨⟨s,el,b2,h3,ho⟩,be⟩
   .subst h;cases ho
   .subst h;obtain⟨c2,hi,oz⟩:=ho.yO;simp at hi
 have j9:∀k,Live ρ m k->U'.aI k=ρ.aI k:=λk hk=>bO k (by rw[hn];exact hk.eT)
 refine⟨U',⟨by simp[U'],hM.S,λk hk=>?_,λk k' hk fZ nT=>?_,λi b hbi=>?_,λi x y s el ho be=>?_⟩,⟨λi hi=>bO (.aj i) (by simp only[gw.id];omega),λ_ h=>h,λ_ h=>.inl h,λk hk=>⟨k,bY k hk,(by rw[j9 k (bY k hk)])⟩⟩,λi c' hi=>⟨c',hi,λv hd=>ce.cm g hd⟩⟩
 .rw[j9 k (bY k hk)];exact hM.aL k (bY k hk)
 .rw[j9 k (bY k hk),j9 k' (bY k' fZ)]at nT;exact hM.inj k k' (bY k hk) (bY k' fZ) nT
 .rcases get i b hbi with⟨h1,h2,h3⟩|⟨rfl,rfl⟩|⟨rfl,rfl⟩
  .exact(hM.bk i b h3).cm g om λ_ _=>rfl
  .obtain⟨cur,bX,hc⟩:=hM.bk i _ hb;rw[show cJ U' w i (.var (cs.set j (.row m.length esz 0 none)))=(∃cur,mE True w (U'.aI (.aj i)).b cur/\∀(j':Nat)c,(cs.set j (.row m.length esz 0 none))[j']? =some c->∃u,cur[(U'.aI (.aj i)).aq+j']? =some u/\bj U' w .none c u)from rfl,bO (.aj i) (by simp only[gw.id];omega)]
   refine⟨cur,bX,λj' c oz=>?_⟩
   rw[aaW]at oz;split at oz
   .rename_i hjj;subst hjj;cases oz;obtain⟨u,hu,hd⟩:=hc j _ hj;obtain⟨a,rfl⟩:=hd;exact⟨_,hu,by simp[bj,U',gw.id]⟩
   .obtain⟨u,hu,hd⟩:=hc j' c oz;exact⟨u,hu,bj.cm g aE hd⟩
  .simp[cJ,U',gw.id]
 .have hk:Live ρ m (.sub i x y):=bY (.sub i x y) ⟨⟨_,_,ho⟩,be⟩;have p8:=hk.eT;simp only[gw.id]at p8;rw[j9 _ hk]at be|-;obtain⟨b2,db,ho⟩:=ho;rcases get i _ db with⟨h1,h2,h3⟩|⟨rfl,h⟩|⟨rfl,h⟩
  .obtain⟨cur,hc,q1,q2,q3⟩:=hM.ei i x y s el ⟨b2,h3,ho⟩ be;exact⟨cur,hc,q1,q2,q3⟩
  .subst h;cases ho
  .subst h;obtain⟨c2,hi,oz⟩:=ho.yO;simp at hi
end
end Go.AM
namespace Go.Proofs.YtodckkkbiidffaaGreatDoor
open Proofs.Tryz
open Go.AM Go.ChangeShapes Go.WideShapes Go.ChangeAt Go.RowKit
def c97:LF:= ⟨8,[.tmp 2],(.seq (.ai [qu 2 (.aM qe)]) (.seq (.seq (.ai [qm 3 0,qu 4 (.yP false 3)]) (.cond 4 (.seq (.ai [qu 2 (.aM qe)]) .ret) .skip)) (.seq (.ai [qu 5 (.od 1 [(.ah (.val (.int .u8 (0))))] 0 []),qm 6 0,qu 7 (.pO 1 1 5 6),qm 2 7]) .ret)))⟩
def c128:LF:= ⟨8,[.tmp 2],(.seq (.ai [qu 2 (.aM qe)]) (.seq (.seq (.ai [qm 3 0,qu 4 (.yP false 3)]) (.cond 4 (.seq (.ai [qu 2 (.aM qe)]) .ret) .skip)) (.seq (.ai [qu 5 (.od 2 [(.ah (.val (.string ⟨#[]⟩))),qd 0] 0 []),qm 6 0,qu 7 (.pO 2 24 5 6),qm 2 7]) .ret)))⟩
theorem iD{n:Int}(h1: -9223372036854775808<=n)(h2:n<=9223372036854775807):IntKind.i64.wrap n=n:=IntWalk.i64_in n om
structure di where
 data:List (List Dt)
 has:Bool
 dF:Int
 bU:Int
def di.enc(m:di):List Dt:=[.sl 1 m.data,.val (.bool m.has),.val (.int .i64 m.dF),.val (.int .i64 m.bU)]
structure Obj where
 ag:Int
 data:List (List Dt)
 ak:List (List Dt)
 target:ByteArray
 bp:Int
 ar:List di
 ba:Int
 al:Int
 up:Int
def Obj.enc(o:Obj):List Dt:=[.val (.int .i64 o.ag),.sl 1 o.data,.sl 2 o.ak,.val (.string o.target),.val (.int .i64 o.bp),.sl 4 (o.ar.map di.enc),.val (.int .i64 o.ba),.val (.int .i64 o.al),.val (.int .i64 o.up)]
abbrev dv(o:Obj)(c:CC)(L U:Int):List CC:=[.ah (.val (.int .i64 o.ag)),.ah (.sl 1 o.data),c,.ah (.val (.string o.target)),.ah (.val (.int .i64 o.bp)),.ah (.sl 4 (o.ar.map di.enc)),.ah (.val (.int .i64 o.ba)),.ah (.val (.int .i64 L)),.ah (.val (.int .i64 U))]
def di.cv(m:di):CV:= .rv (.agg (m.enc.map .ah))
def Obj.cv(o:Obj):CV:= .rv (.agg (o.enc.map .ah))
def dm(l:List Obj):Dt:= .sl 9 (l.map Obj.enc)
def cC(l:List Obj):CV:= .rv (.one (.ah (dm l)))
def Obj.oB(o:Obj):Prop:=o.data.length<=4194304/\o.ak.length<=4194304/\o.ar.length<=4194304/\∀q,q∈o.ar->q.data.length<=4194304
def l5(l:List Obj):Prop:=l.length<=4194304/\∀o,o∈l->o.oB
theorem l97:bz prog f97=some c97:=by kernel_rfl
theorem l128:bz prog f128=some c128:=by kernel_rfl
def sA(esz:Nat)(d:List (List Dt)):CV:= .rv (.one (.ah (.sl esz d)))
theorem Dw(d:List (List Dt))(hb:d.length<=4194304):body prog c97 [sA 1 d] [] (λr m=>cV m r (sA 1 d)):=by
 have tw:((([]:List (List CC)).length+(d.map λds=>ds.map CC.ah).length)*1)<=140737488355328:=by simp;omega
 refine aG (λh=>?_) (λh=>?_)
 .have hd:d=[]:=aag (by simpa using aai h)
  subst hd;exact⟨.rv (.one (.aO 1)),tw,.rv (.one (fk.fl rfl 0 none))⟩
 .exact⟨tw,.rv (.one (fk.fl rfl 0 none))⟩
theorem iE(d:List (List Dt))(hb:d.length<=4194304){m:Mem}{K:CV->Mem->Prop}(h:K (sA 1 d) m):ap prog 97 [sA 1 d] m K:=
 bh (aZ func97 l97 (Dw d hb)) (by simp[sA,CV.dB,CC.dB]) λr m1 hf=>⟨_,hf,h⟩
theorem Dx(d:List (List Dt))(hb:d.length<=4194304):body prog c128 [sA 2 d] [] (λr m=>cV m r (sA 2 d)):=by
 have tw:((([]:List (List CC)).length+(d.map λds=>ds.map CC.ah).length)*24)<=140737488355328:=by simp;omega
 refine aG (λh=>?_) (λh=>?_)
 .have hd:d=[]:=aag (by simpa using aai h)
  subst hd;exact⟨.rv (.one (.aO 2)),tw,.rv (.one (fk.fl rfl 0 none))⟩
 .exact⟨tw,.rv (.one (fk.fl rfl 0 none))⟩
theorem tX(d:List (List Dt))(hb:d.length<=4194304){m:Mem}{K:CV->Mem->Prop}(h:K (sA 2 d) m):ap prog 128 [sA 2 d] m K:=
 bh (aZ func128 l128 (Dx d hb)) (by simp[sA,CV.dB,CC.dB]) λr m1 hf=>⟨_,hf,h⟩
def sB(p Q k:Nat)(o:Obj):List CC:=[.ah (.val (.int .i64 o.ag)),.ah (.sl 1 o.data),.ah (.sl 2 o.ak),.ah (.val (.string o.target)),.ah (.val (.int .i64 o.bp)),
 (if k=p then .row Q 4 0 none else .ah (.sl 4 (o.ar.map di.enc))),.ah (.val (.int .i64 o.ba)),.ah (.val (.int .i64 o.al)),.ah (.val (.int .i64 o.up))]
def eQ(p Q:Nat):Nat->List Obj->List (List CC)
 |_,[]=>[]
 |k,o::r=>sB p Q k o::eQ p Q (k+1) r
theorem sC(p Q:Nat):∀(a:List Obj)(k:Nat)(b:List Obj),eQ p Q k (a++b)=eQ p Q k a++eQ p Q (k+a.length) b
 | [],k,b=>rfl
 |o::r,k,b=>by simp[eQ,sC p Q r (k+1) b,abg,Nat.add_comm 1]
theorem nq(p Q:Nat):∀(l:List Obj)(k:Nat),(eQ p Q k l).length=l.length
 | [],_=>rfl
 |o::r,k=>by simp[eQ,nq p Q r (k+1)]
theorem re(p Q:Nat):∀(l:List Obj)(k:Nat),(p<k\/k+l.length<=p)->eQ p Q k l=aa (l.map Obj.enc)
 | [],_,_=>rfl
 |o::r,k,h=>by simp only[aau]at h;have hk:¬k=p:=om;simp only[eQ,sB,if_neg hk,re p Q r (k+1) om];rfl
theorem tY(p Q:Nat):∀(l:List Obj)(k i:Nat),(eQ p Q k l)[i]? =(l[i]?).map (sB p Q (k+i))
 | [],k,i=>by simp[eQ]
 |o::r,k,0=>by simp[eQ]
 |o::r,k,i+1=>by
  simp only[eQ,abK,tY p Q r (k+1) i];rw[show k+1+i=k+(i+1) by omega]
theorem Ni{Y:Nat->Nat}{p Q k:Nat}(o:Obj):(sB p Q k o).map (CC.bb Y)=sB p (Y Q) k o:=by
 by_cases h:k=p<;>simp[sB,h,CC.bb]
theorem lg{Y:Nat->Nat}(p Q:Nat):∀(l:List Obj)(k:Nat),(eQ p Q k l).map (λcs=>cs.map (CC.bb Y))=eQ p (Y Q) k l
 | [],_=>rfl
 |o::r,k=>by simp only[eQ,aaL,lg p Q r (k+1)];rw[Ni]
def c98:LF:= ⟨47,[.tmp 2],(.seq (.ai [qu 2 (.aM qe)]) (.seq (.ai [qu 3 (.aM qe)]) (.seq (.seq (.ai [qm 9 0,qu 10 (.len 1 9),qu 11 (.aM (qi 0))]) (.block 0 (.loop (.seq (.ai [qu 12 (.aJ .lss 11 10)]) (.seq (.cond 12 .skip (.exit 0)) (.seq (.block 1 (.seq (.ai [qu 13 (.cz 9 9 11),qL 14 9 13,qu 5 (.alloc [qd 0,.aO,.aO,(.ah (.val (.string ⟨#[]⟩))),qd 0,.aO,qd 0,qd 0,qd 0]),qw (.store 9 5 14)]) (.seq (.bV [qf 15 1 5,ql 16 15,qu 17 (qc 97 [16]),qf 18 2 5,ql 19 18,qu 20 (qc 128 [19]),qf 21 1 5,qw (.store 1 21 17),qf 22 2 5,qw (.store 1 22 20)] [(.cons 0 none (.cons 1 none (.cons 3 none (.cons 4 none (.cons 2 (some [4]) (.cons 6 none (.cons 5 (some []) (.cons 7 (some []) (.cons 8 none (.cons 9 (some []) .nil))))))))))]) (.seq (.ai [qu 6 (.aM qe)]) (.seq (.seq (.ai [qf 23 5 5,ql 24 23,qu 25 (.len 1 24),qu 26 (.aM (qi 0))]) (.block 2 (.loop (.seq (.ai [qu 27 (.aJ .lss 26 25)]) (.seq (.cond 27 .skip (.exit 2)) (.seq (.block 3 (.seq (.ai [qu 28 (.cz 4 24 26),qL 29 4 28,qu 8 (.alloc [.aO,(.ah (.val (.bool false))),qd 0,qd 0]),qw (.store 4 8 29)]) (.seq (.ai [qf 30 0 8,ql 31 30,qu 32 (qc 97 [31]),qf 33 0 8,qw (.store 1 33 32)]) (.ai [qm 34 6,qL 35 4 8,qu 36 (.od 4 [.aO,(.ah (.val (.bool false))),qd 0,qd 0] 1 [(0,35)]),qu 37 (.pO 4 48 34 36),qm 6 37])))) (.ai [qu 38 (.aJ .add 26 (qi 1)),qm 26 38]))))))) (.seq (.ai [qm 39 6,qf 40 5 5,qw (.store 1 40 39)]) (.ai [qm 41 3,qL 42 9 5,qu 43 (.od 9 [qd 0,.aO,.aO,(.ah (.val (.string ⟨#[]⟩))),qd 0,.aO,qd 0,qd 0,qd 0] 1 [(0,42)]),qu 44 (.pO 9 128 41 43),qm 3 44]))))))) (.ai [qu 45 (.aJ .add 11 (qi 1)),qm 11 45]))))))) (.seq (.ai [qm 46 3,qm 2 46]) .ret))))⟩
def quO(l:List Obj)(p:Nat):List di:=match l[p]? with|some o=>o.ar|none=>[]
def Bn(l:List Obj)(p k:Nat):Bk:=match Nat.blt p k with|true=>.row 4 (aa ((quO l p).map di.enc))|false=>.aS
theorem wj{Y:Nat->Nat}(l:List Obj)(p k:Nat):(Bn l p k).bb Y=Bn l p k:=by
 unfold Bn;split
 .exact Bk.jG _ _
 .rfl
theorem sD{α:Type}{l:List α}{i:Nat}{s:α}(h:l[i]? =some s):l.take (i+1)=l.take i++ [s]:=by rw[abG,h];rfl
theorem dx(a b:List (List Dt)):aa (a++b)=aa a++aa b:=by simp[aa]
theorem xt{p Q:Nat}{l:List Obj}{k:Nat}{o:Obj}(h:l[k]? =some o):eQ p Q 0 (l.take (k+1))=eQ p Q 0 (l.take k)++ [sB p Q k o]:=by have hk:=(Km.1 h).1;rw[sD h,sC,aaA,ads om,aaP];rfl
theorem l98:bz prog f98=some c98:=by kernel_rfl
theorem Nj(l:List Obj)(hf:l5 l)(p:Nat):body prog c98 [cC l] [] (λr m=>r= .rv (.one (.row 0 9 0 none))/\m=[.row 9 (eQ p 1 0 l),Bn l p l.length]):=by
 obtain⟨hl,VT⟩:=hf;refine bc (λk=>k<=l.length) [0,9,10] (λk=>[(11,am .i64 (k:Nat)),(3,.rv (.one (.row 0 9 0 none)))]) (λk=>[.row 9 (eQ p 1 0 (l.take k)),Bn l p k]) (λk=>l.length-k) 0 (aaj _) ?_ (λk hk=>?_)
 .refine View.trans (View.aO 2 4 0 rfl rfl rfl) (View.trans (View.aO 3 9 1 rfl rfl rfl) (View.o1 2 [1,0] [] ?_))
  .exact .put (by simp[br]) rfl (.eq rfl aE) (.aS (.nil _))
 .refine aN (λh=>?_) (λh=>?_)
  .have aC:k<l.length:=by have h:(k:Int)<((l.map Obj.enc).length:Int):=h;rw[Pj]at h;omega
   have hi:=vU aC;have Nk:=VT _ (aaw aC);have hg:dD (l.map Obj.enc) (k:Nat)=some (l[k].enc):=by rw[bG,Tm,vU aC];rfl
   generalize l[k]=o at hi Nk hg;obtain⟨ag,data,ak,target,bp,ar,ba,al,up⟩:=o;obtain⟨Nl,LL,S0,LM⟩:=Nk;have Nl:data.length<=4194304:=Nl;have LL:ak.length<=4194304:=LL;have S0:ar.length<=4194304:=S0;have LM:∀q,q∈ar->q.data.length<=4194304:=LM;have hg:dD (l.map Obj.enc) (k:Nat)=some [.val (.int .i64 ag),.sl 1 data,.sl 2 ak,.val (.string target),.val (.int .i64 bp),.sl 4 (ar.map di.enc),.val (.int .i64 ba),.val (.int .i64 al),.val (.int .i64 up)]:=hg;refine af hg ?_;refine iE data Nl ?_;refine⟨⟨rfl,trivial⟩,?_⟩;refine tX ak LL ?_;refine⟨trivial,?_⟩;refine⟨trivial,?_⟩;refine⟨trivial,?_⟩;refine bc (λj=>j<=ar.length) [0,3,5,9,10,11,24,25] (λj=>[(26,am .i64 (j:Nat)),(6,.rv (.one (.row 3 4 0 none)))])
    (λj=>[.row 9 (eQ p 1 0 (l.take k)),Bn l p k,.var ((⟨ag,data,ak,target,bp,ar,ba,al,up⟩:Obj).enc.map .ah),.row 4 (aa ((ar.take j).map di.enc))]) (λj=>ar.length-j) 0 (aaj _) ?_ (λj hj=>?_)
   .refine View.trans (View.aO 6 4 3 rfl rfl rfl) (View.o1 4 [0,1,2,3] [] ?_)
    .exact .pt rfl rfl (.eq (congrArg (Bk.row 9) (lg p 1 _ _)) aE) (.gk (dE rfl) rfl (wj l p k) (.pe rfl rfl rfl (.pn rfl rfl rfl)))
   .have hj:j<=ar.length:=hj;refine aN (λh=>?_) (λh=>?_)
    .have ez:j<ar.length:=by have h:(j:Int)<((ar.map di.enc).length:Int):=h;rw[Pj]at h;omega
     have y7:=vU ez;have JW:=LM _ (aaw ez);generalize ar[j]=q at y7 JW;obtain⟨qd,qh,qo,qr⟩:=q;have CF:dD (ar.map di.enc) (j:Nat)=some [.sl 1 qd,.val (.bool qh),.val (.int .i64 qo),.val (.int .i64 qr)]:=by rw[bG,Tm,y7];rfl
     refine af CF ?_;refine iE qd JW ?_;refine⟨?_,?_⟩
     .show((aa ((ar.take j).map di.enc)).length+1)*48<=_;simp[aa];omega
     refine⟨j+1,ez,(show ar.length-(j+1)<ar.length-j by omega),View.o2 7 [0,1,2,6] [] ?_⟩
     .refine .pt rfl rfl (.eq (congrArg (Bk.row 9) (lg p 1 _ _)) aE) (.gk (dE rfl) rfl (wj l p k) (.pe rfl rfl rfl (.pt rfl rfl (.bL ?_) (.nil _))));rw[sD y7,abm,dx];rfl
    .have d8:¬(j:Int)<((ar.map di.enc).length:Int):=h;rw[Pj]at d8;have hq:ar.take j=ar:=abM om;refine⟨?_,?_⟩
     .show((eQ p 1 0 (l.take k)).length+1)*128<=_;rw[nq];simp;omega
     by_cases EQ:k=p
     .subst EQ;have hR:∀Q,eQ k Q 0 (l.take k)=aa ((l.take k).map Obj.enc):=λQ=>re k Q _ 0 (.inr (by simp;omega))
      have Uy:Bn l k (k+1)= .row 4 (aa ((ar.take j).map di.enc)):=by
       have:Nat.blt k (k+1)=true:=by rw[abJ];omega
       simp only[Bn,this,quO,hi,hq]
      refine⟨k+1,aC,(show l.length-(k+1)<l.length-k by omega),View.o2 6 [5,3] [] ?_⟩
      .rw[xt hi,Uy];refine .pt rfl rfl (.JU ?_ rfl ?_) (.pn rfl rfl rfl)
       .rw[lg,hR,hR];rfl
       .intro j c c' h1 h2;have e5:sB k 1 k ⟨ag,data,ak,target,bp,ar,ba,al,up⟩=[.ah (.val (.int .i64 ag)),.ah (.sl 1 data),.ah (.sl 2 ak),.ah (.val (.string target)),.ah (.val (.int .i64 bp)),.row 1 4 0 none,.ah (.val (.int .i64 ba)),.ah (.val (.int .i64 al)),.ah (.val (.int .i64 up))]:=by simp[sB]
        rw[e5]at h2
        match j,h1,h2 with
        |0,h1,h2=>cases h1;cases h2;exact .bb (.ah _)
        |1,h1,h2=>cases h1;cases h2;exact .bb (.ah _)
        |2,h1,h2=>cases h1;cases h2;exact .bb (.ah _)
        |3,h1,h2=>cases h1;cases h2;exact .bb (.ah _)
        |4,h1,h2=>cases h1;cases h2;exact .bb (.ah _)
        |5,h1,h2=>cases h1;cases h2;exact .bb (.row 1 4 0 none)
        |6,h1,h2=>cases h1;cases h2;exact .bb (.ah _)
        |7,h1,h2=>cases h1;cases h2;exact .bb (.ah _)
        |8,h1,h2=>cases h1;cases h2;exact .bb (.ah _)
        |n+9,h1,h2=>simp at h1
     .have Uy:Bn l p (k+1)=Bn l p k:=by
       have:Nat.blt p (k+1)=Nat.blt p k:=by rw[aee,abJ,abJ];omega
       simp only[Bn,this]
      refine⟨k+1,aC,(show l.length-(k+1)<l.length-k by omega),View.o2 6 [5,1] [3] ?_⟩
      .rw[xt hi,Uy];refine .pt rfl rfl (.JU (lg p 1 _ _) rfl ?_) (.gk (dE rfl) rfl (wj l p k) (.nil _));intro j' c c' h1 h2;have e5:sB p 1 k ⟨ag,data,ak,target,bp,ar,ba,al,up⟩=[.ah (.val (.int .i64 ag)),.ah (.sl 1 data),.ah (.sl 2 ak),.ah (.val (.string target)),.ah (.val (.int .i64 bp)),.ah (.sl 4 ((ar.take j).map di.enc)),.ah (.val (.int .i64 ba)),.ah (.val (.int .i64 al)),.ah (.val (.int .i64 up))]:=by simp[sB,EQ,hq]
       rw[e5]at h2
       match j',h1,h2 with
       |0,h1,h2=>cases h1;cases h2;exact .bb (.ah _)
       |1,h1,h2=>cases h1;cases h2;exact .bb (.ah _)
       |2,h1,h2=>cases h1;cases h2;exact .bb (.ah _)
       |3,h1,h2=>cases h1;cases h2;exact .bb (.ah _)
       |4,h1,h2=>cases h1;cases h2;exact .bb (.ah _)
       |5,h1,h2=>cases h1;cases h2;exact .fQ (d5.fl (Z:=λk=>br [3] k=true) rfl (by rw[<-aT];rfl) 0 none)
       |6,h1,h2=>cases h1;cases h2;exact .bb (.ah _)
       |7,h1,h2=>cases h1;cases h2;exact .bb (.ah _)
       |8,h1,h2=>cases h1;cases h2;exact .bb (.ah _)
       |n+9,h1,h2=>simp at h1
  .have d8:¬(k:Int)<((l.map Obj.enc).length:Int):=h;rw[Pj]at d8;have gA:k=l.length:=by have:k<=l.length:=hk;omega
   subst gA;rw[aaV];exact⟨rfl,rfl⟩
theorem xu(l:List Obj)(hf:l5 l)(p:Nat){m:Mem}{K:CV->Mem->Prop}(h:K (.rv (.one (.row m.length 9 0 none))) (m++ [.row 9 (eQ p (m.length+1) 0 l),Bn l p l.length])):ap prog 98 [cC l] m K:=by
 refine bu [] m.length rfl rfl rfl rfl rfl (λi b' hi=>by simp at hi) (aZ func98 l98 (Nj l hf p)) (λr m1 hr=>?_)
 obtain⟨h1,h2⟩:=hr;subst h1;subst h2;refine⟨aaj _,?_⟩;show K (.rv (.one (.row (m.length+(0-0)) 9 0 none))) (gJ m [.row 9 ((eQ p 1 0 l).map (λcs=>cs.map (CC.bb (sg [] m.length)))),(Bn l p l.length).bb (sg [] m.length)])
 rw[lg,wj,cg];exact h
def c111:LF:= ⟨34,[.tmp 4,.tmp 5,.tmp 6],(.seq (.ai [qu 3 (.box 1),qu 4 (.aM qe),qu 5 (.aM (qi 0)),qu 6 (.aM (qi 0))]) (.seq (.ai [qm 9 0,qu 10 (qc 121 [9,(.c (.rv (.one (.fn 138 []))))]),qm 7 10]) (.seq (.seq (.ai [qm 11 7,qu 12 (.aJ .lss 11 (qi 0))]) (.cond 12 (.seq (.seq (.ai [qm 13 0,qu 14 (.len 1 13),qu 15 (.aJ .geq 14 (qi 40))]) (.cond 15 (.seq (.ai [qu 4 (.aM qe),qu 5 (.aM (qi 0)),qu 6 (.aM (qi 15))]) .ret) .skip)) (.ai [qm 16 0,qu 17 (.len 1 16),qm 7 17])) .skip)) (.seq (.ai [qm 18 0,qu 19 (qc 98 [18]),qm 8 19]) (.seq (.seq (.ai [qm 20 7,qm 21 8,qu 22 (.len 1 21),qu 23 (.aJ .eql 20 22)]) (.cond 23 (.ai [qm 24 8,qu 25 (.build [qd 0,.aO,.aO,(.ah (.val (.string ⟨#[]⟩))),qd 0,.aO,qd 0,qd 0,qd 0] []),qu 26 (.od 9 [qd 0,.aO,.aO,(.ah (.val (.string ⟨#[]⟩))),qd 0,.aO,qd 0,qd 0,qd 0] 1 [(0,25)]),qu 27 (.pO 9 128 24 26),qm 8 27]) .skip)) (.seq (.ai [qm 28 8,qm 29 7,qL 30 9 3,qu 31 (.cz 9 28 29),qw (.store 9 31 30)]) (.seq (.ai [qm 32 8,qm 33 7,qm 4 32,qm 5 33,qu 6 (.aM (qi 0))]) .ret)))))))⟩
def c121:LF:= ⟨19,[.tmp 4],(.seq (.ai [qu 4 (.aM (qi 0))]) (.seq (.seq (.ai [qm 6 0,qu 7 (.len 1 6),qu 8 (.aM (qi 0))]) (.block 0 (.loop (.seq (.ai [qu 9 (.aJ .lss 8 7)]) (.seq (.cond 9 .skip (.exit 0)) (.seq (.block 1 (.seq (.ai [qm 10 8,qm 5 10]) (.seq (.ai [qm 11 1,qm 12 0,qm 13 5,qu 14 (.cz 9 12 13),qL 15 9 14,qu 16 (.call 11 [15])]) (.cond 16 (.seq (.ai [qm 17 5,qm 4 17]) .ret) .skip)))) (.ai [qu 18 (.aJ .add 8 (qi 1)),qm 8 18]))))))) (.seq (.ai [qu 4 (.aM (qi (-1)))]) .ret)))⟩
def c138:LF:= ⟨6,[.tmp 2],(.seq (.ai [qu 1 (.box 0),qu 2 (.aM (qb false))]) (.seq (.ai [qf 3 0 1,ql 4 3,qu 5 (.aJ .eql 4 (qi 0)),qm 2 5]) .ret))⟩
def oC{α:Type}(q:α->Bool)(l:List α):Int:=match l.findIdx? q with|some k=>(k:Int)|none=>-1
theorem lA{α:Type}{q:α->Bool}{l:List α}{k:Nat}(h:k<l.length)(hq:q l[k]=true)(hb:∀(j:Nat)s,j<k->l[j]? =some s->q s=false):oC q l=k:=by
 have:l.findIdx? q=some k:=by rw[aaN];exact⟨h,hq,λj hj=>by simpa using hb j _ hj (vU om)⟩
 rw[oC,this]
theorem nr{α:Type}{q:α->Bool}{l:List α}(hb:∀(j:Nat)s,l[j]? =some s->q s=false):oC q l= -1:=by
 have:l.findIdx? q=none:=by rw[ac1];intro s hs;obtain⟨i,hi⟩:=aaa hs;simpa using hb i s hi
 rw[oC,this]
theorem sF{α:Type}(q:α->Bool)(l:List α):decide (oC q l>=0)=l.any q:=by
 unfold oC;cases h:l.findIdx? q with
 |none=>
  rw[ac1]at h;have:l.any q=false:=by simpa using h
  rw[this];rfl
 |some k=>
  obtain⟨h1,h2,_⟩:=aaN.1 h;have:l.any q=true:=abc.2 ⟨_,aaw h1,h2⟩;rw[this];exact decide_eq_true aE
theorem l111:bz prog f111=some c111:=by kernel_rfl
theorem l121:bz prog f121=some c121:=by kernel_rfl
theorem l138:bz prog f138=some c138:=by kernel_rfl
theorem Bo(l:List Obj)(hb:l.length<=4194304)(F:Nat)(q:Obj->Bool)(hF:∀s,s∈l->∀K:CV->Mem->Prop,K (aD (q s)) []->ap prog F [s.cv] [] K):body prog c121 [cC l,(.rv (.one (.fn F [])))] [] (λr m=>r=am .i64 (oC q l)):=by
 refine bc (λk=>k<=l.length/\∀(j:Nat)s,j<k->l[j]? =some s->q s=false) [0,1,7] (λk=>[(8,am .i64 (k:Nat))]) (λ_=>[]) (λk=>l.length-k) 0 ⟨aaj _,λj s h=>absurd h (aaU j)⟩ ?_ (λk hk=>?_)
 .refine View.o1 0 [] [] ?_
  .exact .nil _
 .refine aN (λh=>?_) (λh=>?_)
  .have aC:k<l.length:=by have h:(k:Int)<((l.map Obj.enc).length:Int):=h;rw[Pj]at h;omega
   have hg:dD (l.map Obj.enc) (k:Nat)=some (l[k].enc):=by rw[bG,Tm,vU aC];rfl
   refine af hg ?_;refine hF l[k] (aaw aC) _ ?_;refine aG (λh=>?_) (λh=>?_)
   .rw[lA aC h hk.2];exact rfl
   .refine⟨k+1,⟨aC,λj s hj hs=>?_⟩,(show l.length-(k+1)<l.length-k by omega),View.o 0 [] [] ?_ ?_⟩
    .rcases aaf j k with h5|h5
     .exact hk.2 j s h5 hs
     .have:j=k:=om;subst this;rw[vU aC]at hs;cases hs;exact h
    .repeat(first|exact .nil|refine .aA ?_|refine .put (.bb (cj om).symm) ?_|refine .eq rfl ?_)
    .exact .nil _
  .have d8:¬(k:Int)<((l.map Obj.enc).length:Int):=h;rw[Pj]at d8;rw[nr λj s hs=>hk.2 j s (by have:=(Km.1 hs).1;omega) hs]
   exact rfl
theorem FS(l:List Obj)(hb:l.length<=4194304)(F:Nat)(q:Obj->Bool)(hF:∀s,s∈l->∀K:CV->Mem->Prop,K (aD (q s)) []->ap prog F [s.cv] [] K){m:Mem}{K:CV->Mem->Prop}(h:K (am .i64 (oC q l)) m):ap prog 121 [cC l,.rv (.one (.fn F []))] m K:=
 bw func121 l121 rfl (aad rfl) (Bo l hb F q hF) rfl rfl h
theorem Uz(s:Obj)(K:CV->Mem->Prop)(h:K (aD (s.ag==0)) []):ap prog 138 [s.cv] [] K:=
 bw func138 l138 rfl (aad rfl) (show body prog c138 [s.cv] [] (λr m=>r=aD (s.ag==0))from rfl) rfl rfl h
theorem H7(l:List Obj)(hf:l5 l){m:Mem}{K:CV->Mem->Prop}(h:K (.rv (.one (.row m.length 9 0 none))) (m++ [.row 9 (aa (l.map Obj.enc)),.aS])):ap prog 98 [cC l] m K:=by
 refine xu l hf l.length ?_;have h1:Bn l l.length l.length= .aS:=by
  have:Nat.blt l.length l.length=false:=by
   cases hb:Nat.blt l.length l.length with
   |false=>rfl
   |true=>rw[abJ]at hb;omega
  simp only[Bn,this]
 rw[re _ _ _ _ (.inr om),h1];exact h
def cK(n:Int):RV:= .one (.ah (.val (.int .i64 n)))
def aH(l:List Obj)(o:Obj):List Obj×Int×Int:=
 match l.findIdx? (λx=>x.ag==0)with
 |some k=>(l.set k o,k,0)
 |none=>if l.length>=40 then([],0,15)else(l++ [o],l.length,0)
def S3(l:List Obj)(o:Obj)(r:CV)(m:Mem):Prop:=
 ((aH l o).2.2=15/\r= .bD [.one .aO,cK (aH l o).2.1,cK (aH l o).2.2]/\m=[])\/
 ((aH l o).2.2=0/\r= .bD [.one (.row 0 9 0 none),cK (aH l o).2.1,cK (aH l o).2.2]/\m=[.row 9 (aa ((aH l o).1.map Obj.enc))])
theorem zY(l:List Obj)(k:Nat)(o:Obj):(aa (l.map Obj.enc)).set k (o.enc.map .ah)=aa ((l.set k o).map Obj.enc):=by simp[aa,abv]
theorem zZ(l:List Obj){k:Nat}(h:k<l.length):cF (aa (l.map Obj.enc)) k=some (l[k].enc.map .ah):=by rw[aT];simp[aa,h]
theorem JX(l:List Obj)(hf:l5 l)(o:Obj):body prog c111 [cC l,o.cv] [] (λr m=>∃r' m',View 0 ⟨[r],m⟩ ⟨[r'],m'⟩/\S3 l o r' m'):=by
 have hl:=hf.1;refine FS l hl 138 (λx=>x.ag==0) (λs _ K hs=>Uz s K hs) ?_
 have hlen:(aa (l.map Obj.enc)).length=l.length:=by simp[aa]
 cases hk:l.findIdx? (λx=>x.ag==0)with
 |some k=>
  have hi:oC (λx:Obj=>x.ag==0) l=(k:Int):=by rw[oC,hk]
  have gA:k<l.length:=(aaN.1 hk).1;have hm:aH l o=(l.set k o,(k:Int),0):=by rw[aH,hk]
  rw[hi];refine H7 l hf ?_;refine ig (by simp[hlen,lenOf];omega) ?_
  refine af (bZ (k:=k) (by simp[hlen,lenOf];omega)) ?_
  refine af (x:=l[k].enc.map .ah) (by simpa[iM]using zZ l gA) ?_
  refine⟨.bD [.one (.row 0 9 0 none),cK k,cK 0],[.row 9 (aa ((l.set k o).map Obj.enc))],View.o 3 [1] [] ?_ ?_,.inr ?_⟩
  .exact .eq rfl .nil
  .refine .pt rfl rfl (.bL ?_) (.nil _);rw[<-zY];simp[aY,iM,Obj.enc]
  .rw[hm];exact⟨rfl,rfl,rfl⟩
 |none=>
  have hi:oC (λx:Obj=>x.ag==0) l= -1:=by rw[oC,hk]
  rw[hi];refine aN (λh=>?_) (λh=>?_)
  .have h:l.length>=40:=by have h:(((l.map Obj.enc).length:Nat):Int)>=40:=h;rw[Pj]at h;omega
   have hm:aH l o=([],0,15):=by rw[aH,hk];simp only;rw[if_pos h]
   refine⟨.bD [.one .aO,cK 0,cK 15],[],View.o 1 [] [] ?_ (.nil _),.inl ?_⟩
   .exact .eq rfl .nil
   .rw[hm];exact⟨rfl,rfl,rfl⟩
  .have h:¬l.length>=40:=by have h:¬(((l.map Obj.enc).length:Nat):Int)>=40:=h;rw[Pj]at h;omega
   have hm:aH l o=(l++ [o],(l.length:Int),0):=by rw[aH,hk];simp only;rw[if_neg h]
   refine H7 l hf ?_;refine cN (by simp[hlen,lenOf]) ?_
   refine⟨by simp[hlen,b9];omega,?_⟩
   have LP:(l.map Obj.enc).length=l.length:=aE;refine af (bZ (k:=(l.map Obj.enc).length) (by simp[hlen,lenOf,b9])) ?_
   refine af (x:=[.ah (.val (.int .i64 0)),.aO,.aO,.ah (.val (.string ⟨#[]⟩)),.ah (.val (.int .i64 0)),.aO,.ah (.val (.int .i64 0)),.ah (.val (.int .i64 0)),.ah (.val (.int .i64 0))]) (by simp[aT,hlen,b9,iM]) ?_
   refine⟨.bD [.one (.row 0 9 0 none),cK (((l.map Obj.enc).length:Nat):Int),cK 0],[.row 9 (aa ((l++ [o]).map Obj.enc))],View.o 5 [4] [] ?_ ?_,.inr ?_⟩
   .exact .eq rfl .nil
   .refine .pt rfl rfl (.bL ?_) (.nil _);rw[abm,dx];simp only[aY,iM,b9];rw[LP,<-hlen];rw[adH _ _ (Ym _),ac3];rfl
   .rw[hm];refine⟨rfl,?_,rfl⟩;rw[LP]
theorem z7(l:List Obj)(hf:l5 l)(o:Obj):ap prog 111 [cC l,o.cv] [] (S3 l o):=
 bJ (aZ func111 l111 (JX l hf o)) λr m1⟨r',m',hv,hp⟩=>⟨r',m',hv,hp⟩
def ns(l:List Obj):RV:= .one (.ah (dm l))
theorem mI{m:Mem}{a b c d:RV}{x:Int}(h:fu m a b)(hc:fu m c d):cV m (.bD [a,c,cK x]) (.bD [b,d,cK x]):=by
 refine .bD rfl λi r r' h1 h2=>?_
 match i,h1,h2 with
 |0,h1,h2=>cases h1;cases h2;exact h
 |1,h1,h2=>cases h1;cases h2;exact hc
 |2,h1,h2=>cases h1;cases h2;exact fu.self rfl
theorem Bp(l:List Obj)(hf:l5 l)(o:Obj){m:Mem}{K:CV->Mem->Prop}(h:K (.bD [ns (aH l o).1,cK (aH l o).2.1,cK (aH l o).2.2]) m):ap prog 111 [cC l,o.cv] m K:=by
 refine bh (z7 l hf o) (by simp[cC,Obj.cv,CV.dB,CC.dB,RV.dB]) λr m1 hp=>?_
 rcases hp with⟨h1,rfl,rfl⟩|⟨h1,rfl,rfl⟩
 .have h2:(aH l o).1=[]:=by
   unfold aH at h1|-;split at h1
   .simp at h1
   .split at h1
    .rename_i hc;rw[if_pos hc]
    .simp at h1
  refine⟨_,mI (.one (.aO 9)) (fu.self rfl),?_⟩;rw[h2]at h;exact h
 .refine⟨_,mI (.one (fk.fl rfl 0 none)) (fu.self rfl),?_⟩;exact h
theorem Nm(l:List Obj)(hf:l5 l)(o:Obj){m:Mem}{K:CV->Mem->Prop}(h1:(aH l o).2.2=15->K (.bD [.one .aO,cK (aH l o).2.1,cK (aH l o).2.2]) m)(h2:(aH l o).2.2=0->K (.bD [.one (.row m.length 9 0 none),cK (aH l o).2.1,cK (aH l o).2.2]) (m++ [.row 9 (aa ((aH l o).1.map Obj.enc))])):ap prog 111 [cC l,o.cv] m K:=by
 refine bu [] m.length rfl rfl rfl rfl rfl (λi b' hi=>by simp at hi) (z7 l hf o) (λr m1 hp=>⟨aaj _,?_⟩)
 rcases hp with⟨e1,rfl,rfl⟩|⟨e1,rfl,rfl⟩
 .have:=h1 e1;show K _ (gJ m []);rw[cg,abO];exact this
 .have:=h2 e1;show K _ (gJ m [Bk.bb _ _]);rw[cg,Bk.jG];exact this
def c71:LF:= ⟨41,[.tmp 2,.cell true 2 3,.tmp 4],(.seq (.ai [qu 2 (.aM qe),qu 3 (.alloc [qd 0,qd 0]),qu 4 (.aM (qi 0))]) (.seq (.ai [qm 10 0,qu 11 (.build [qd 0,.aO,.aO,(.ah (.val (.string ⟨#[]⟩))),qd 0,.aO,qd 0,qd 0,qd 0] [(0,1,qi 4),(4,1,(qi (-1))),(6,1,(qi (-1)))]),qu 12 (qc 111 [10,11]),qm 9 12,qu 13 (.ext 9 0),qu 14 (.ext 9 1),qu 15 (.ext 9 2),qm 5 13,qm 6 14,qm 7 15]) (.seq (.seq (.ai [qm 16 7,qu 17 (.aJ .neq 16 (qi 0))]) (.cond 17 (.seq (.ai [qu 18 (.build [qd 0,qd 0] []),qm 19 7,qu 2 (.aM qe),qw (.store 2 3 18),qm 4 19]) .ret) .skip)) (.seq (.ai [qm 21 5,qm 22 6,qu 23 (.build [qd 0,.aO,.aO,(.ah (.val (.string ⟨#[]⟩))),qd 0,.aO,qd 0,qd 0,qd 0] [(0,1,qi 4),(4,1,22),(6,1,(qi (-1)))]),qu 24 (qc 111 [21,23]),qm 20 24,qu 25 (.ext 20 0),qu 26 (.ext 20 1),qu 27 (.ext 20 2),qm 5 25,qm 8 26,qm 7 27]) (.seq (.seq (.ai [qm 28 7,qu 29 (.aJ .neq 28 (qi 0))]) (.cond 29 (.seq (.ai [qu 30 (.build [qd 0,qd 0] []),qm 31 7,qu 2 (.aM qe),qw (.store 2 3 30),qm 4 31]) .ret) .skip)) (.seq (.ai [qm 32 5,qm 33 6,qm 34 8,qu 35 (.cz 9 32 33),qf 36 4 35,qw (.store 1 36 34)]) (.seq (.ai [qm 37 5,qm 38 6,qm 39 8,qu 40 (.build [qd 0,qd 0] [(0,1,38),(1,1,39)]),qm 2 37,qw (.store 2 3 40),qu 4 (.aM (qi 0))]) .ret)))))))⟩
theorem H8{l:List Obj}{o:Obj}(h:(aH l o).2.2=0):∃k:Nat,(aH l o).2.1=k/\k<(aH l o).1.length/\(aH l o).1[k]? =some o/\l.length<=(aH l o).1.length/\(∀j,j≠k->j<l.length->(aH l o).1[j]? =l[j]?):=by
 unfold aH at h|-;split
 .rename_i k hk;have gA:k<l.length:=(aaN.1 hk).1;exact⟨k,rfl,by simpa using gA,by simp[gA],aE,λj hj mh=>by simp[aaW,Ne.symm hj]⟩
 .rename_i hk;rw[hk]at h;simp only at h;split at h
  .simp at h
  .rename_i hc;rw[if_neg hc];exact⟨l.length,rfl,aE,aE,aE,λj hj mh=>by simp[aac mh]⟩
theorem Nn{l:List Obj}{o:Obj}(hf:l5 l)(ho:o.oB):l5 (aH l o).1:=by
 unfold aH;split
 .refine⟨by simpa using hf.1,λx hx=>?_⟩
  rcases aaK hx with h|rfl
  .exact hf.2 x h
  .exact ho
 .split
  .exact⟨aE,aE⟩
  .refine⟨by simp;omega,λx hx=>?_⟩
   rcases abu.1 hx with h|h
   .exact hf.2 x h
   .simp at h;subst h;exact ho
def bP(p:Int):Obj:=⟨4,[],[],⟨#[]⟩,p,[],-1,0,0⟩
theorem No(p:Int):(bP p).oB:=by simp[Obj.oB,bP]
def my(l:List Obj)(k:Nat)(b:Int):List Obj:=match l[k]? with|some o=>l.set k {o with bp:=b}|none=>l
def fD(l:List Obj):List Obj×(Int×Int)×Int:=
 if(aH l (bP (-1))).2.2≠0 then([],(0,0),(aH l (bP (-1))).2.2)
 else if(aH (aH l (bP (-1))).1 (bP (aH l (bP (-1))).2.1)).2.2≠0 then([],(0,0),(aH (aH l (bP (-1))).1 (bP (aH l (bP (-1))).2.1)).2.2)
 else(my (aH (aH l (bP (-1))).1 (bP (aH l (bP (-1))).2.1)).1 (aH l (bP (-1))).2.1.toNat (aH (aH l (bP (-1))).1 (bP (aH l (bP (-1))).2.1)).2.1,((aH l (bP (-1))).2.1,(aH (aH l (bP (-1))).1 (bP (aH l (bP (-1))).2.1)).2.1),0)
def XO(x:Int×Int):RV:= .agg [.ah (.val (.int .i64 x.1)),.ah (.val (.int .i64 x.2))]
theorem l71:bz prog f71=some c71:=by kernel_rfl
theorem H9(a b:CV)(p:Int):lw [a,.rv (.agg [.ah (.val (.int .i64 4)),.aO,.aO,.ah (.val (.string ⟨#[]⟩)),.ah (.val (.int .i64 p)),.aO,.ah (.val (.int .i64 (-1))),.ah (.val (.int .i64 0)),.ah (.val (.int .i64 0))])] [a,(bP p).cv]:=
 .dC _ (.agg (.cons (.dC _) (.cons (.aO 1) (.cons (.aO 2) (.cons (.dC _) (.cons (.dC _) (.cons (.aO 4) (.cons (.dC _) (.cons (.dC _) (.cons (.dC _) .nil))))))))) .nil)
theorem JY(l:List Obj)(hf:l5 l):body prog c71 [cC l] [] (λr m=>cV m r (.bD [ns (fD l).1,XO (fD l).2.1,cK (fD l).2.2])):=by
 refine nk (H9 _ (.aA) _) (Bp l hf (bP (-1)) ?_);have hp:fD l=if(aH l (bP (-1))).2.2≠0 then([],(0,0),(aH l (bP (-1))).2.2)
   else if(aH (aH l (bP (-1))).1 (bP (aH l (bP (-1))).2.1)).2.2≠0 then([],(0,0),(aH (aH l (bP (-1))).1 (bP (aH l (bP (-1))).2.1)).2.2)
   else(my (aH (aH l (bP (-1))).1 (bP (aH l (bP (-1))).2.1)).1 (aH l (bP (-1))).2.1.toNat (aH (aH l (bP (-1))).1 (bP (aH l (bP (-1))).2.1)).2.1,((aH l (bP (-1))).2.1,(aH (aH l (bP (-1))).1 (bP (aH l (bP (-1))).2.1)).2.1),0):=rfl
 have kT:=Nn (o:=bP (-1)) hf (No _);generalize hx:aH l (bP (-1))=x at hp kT;obtain⟨l1,a,e1⟩:=x;have kT:l5 l1:=kT;refine bx (λh=>?_) (λh=>?_)
 .have h:e1≠0:=h;rw[hp];simp only;rw[if_pos h];exact mI (.one (.aO 9)) (fu.self rfl)
 .have h:e1=0:=h;subst h;have FK:=H8 (l:=l) (o:=bP (-1)) (by rw[hx])
  rw[hx]at FK;obtain⟨ka,P2,XP,afE,afF,_⟩:=FK;have P2:a=(ka:Int):=P2;have XP:ka<l1.length:=XP;subst P2;simp only[ne_eq,not_true,if_false,Y6]at hp;refine nk (H9 _ (.aA) _) (Nm l1 kT (bP ka) (λh=>?_) (λh=>?_))
  .rw[h]at hp;rw[h,hp];exact mI (.one (.aO 9)) (fu.self rfl)
  .have FK:=H8 (l:=l1) (o:=bP ka) h;generalize hy:aH l1 (bP ka)=y at hp FK h;obtain⟨l2,b,e2⟩:=y;have h:e2=0:=h;subst h;obtain⟨kb,UA,afG,afH,XQ,_⟩:=FK;have XQ:l1.length<=l2.length:=XQ;have aC:ka<l2.length:=om;have hlen:(aa (l2.map Obj.enc)).length=l2.length:=by simp[aa]
   refine af (bZ (k:=ka) (by simpa[hlen,lenOf]using aC)) ?_
   refine af (x:=l2[ka].enc.map .ah) (by simpa[iM]using zZ l2 aC) ?_
   have jC:aV (aa (l2.map Obj.enc)) (iM 0 ka) (({l2[ka]with bp:=b}:Obj).enc.map .ah)=aa ((my l2 ka b).map Obj.enc):=by rw[aY];simp only[my,vU aC];rw[<-zY];simp[iM]
   have d9:some (Bk.row 9 (aV (aa (l2.map Obj.enc)) (iM 0 ka) (({l2[ka]with bp:=b}:Obj).enc.map .ah)))=some (Bk.row 9 (aa ((my l2 ka b).map Obj.enc))):=by rw[jC]
   rw[hp];exact mI (.one (fk.fl d9 0 none)) (fu.self rfl)
theorem QL(l:List Obj)(hf:l5 l){m:Mem}{K:CV->Mem->Prop}(h:K (.bD [ns (fD l).1,XO (fD l).2.1,cK (fD l).2.2]) m):ap prog 71 [cC l] m K:=
 bh (aZ func71 l71 (JY l hf)) (by simp[cC,CV.dB,CC.dB]) λr m1 XG=>⟨_,XG,h⟩
def c74:LF:= ⟨80,[.tmp 6,.tmp 7],(.seq (.ai [qu 5 (.box 2),qu 6 (.aM qe),qu 7 (.aM (qi 0))]) (.seq (.seq (.ai [qm 10 1,qu 11 (.aJ .lss 10 (qi 0)),qm 12 11,qg 13 (.aM 1) 12 false,qg 14 (.aM 0) 12 false,qg 15 (.len 1 14) 12 false,qg 16 (.aJ .geq 13 15) 12 false,qu 17 (.pick 12 (qb true) 16),qm 18 17,qg 19 (.aM 0) 18 false,qg 20 (.aM 1) 18 false,qg 21 (.cz 9 19 20) 18 false,qg 22 (.b8 0 21) 18 false,qg 23 (.load false 1 22) 18 false,qg 24 (.aJ .neq 23 (qi 4)) 18 false,qu 25 (.pick 18 (qb true) 24)]) (.cond 25 (.seq (.ai [qu 6 (.aM qe),qu 7 (.aM (qi 8))]) .ret) .skip)) (.seq (.ai [qm 26 0,qm 27 1,qu 28 (.cz 9 26 27),qf 29 4 28,ql 30 29,qm 8 30]) (.seq (.block 0 (.seq (.ai [qm 32 8,qu 33 (.aJ .lss 32 (qi 0)),qm 34 33,qg 35 (.aM 8) 34 false,qg 36 (.aM 0) 34 false,qg 37 (.len 1 36) 34 false,qg 38 (.aJ .geq 35 37) 34 false,qu 39 (.pick 34 (qb true) 38),qm 40 39,qg 41 (.aM 0) 40 false,qg 42 (.aM 8) 40 false,qg 43 (.cz 9 41 42) 40 false,qg 44 (.b8 0 43) 40 false,qg 45 (.load false 1 44) 40 false,qg 46 (.aJ .neq 45 (qi 4)) 40 false,qu 47 (.pick 40 (qb true) 46),qm 31 47]) (.cond 31 (.seq (.ai [qu 6 (.aM qe),qu 7 (.aM (qi 17))]) .ret) (.seq (.ai [qf 49 0 5,ql 50 49,qu 51 (.len 1 50),qu 52 (.aJ .gtr 51 (qi 60)),qm 48 52]) (.cond 48 (.seq (.ai [qu 6 (.aM qe),qu 7 (.aM (qi 4))]) .ret) (.seq (.ai [qm 54 0,qm 55 8,qu 56 (.cz 9 54 55),qf 57 5 56,ql 58 57,qu 59 (.len 1 58),qu 60 (.aJ .geq 59 (qi 4)),qm 53 60]) (.cond 53 (.seq (.ai [qu 6 (.aM qe),qu 7 (.aM (qi 15))]) .ret) .skip))))))) (.seq (.ai [qm 61 0,qu 62 (qc 98 [61]),qm 9 62]) (.seq (.ai [qf 63 0 5,ql 64 63,qu 65 (qc 97 [64]),qf 66 0 5,qw (.store 1 66 65)]) (.seq (.bV [qm 67 9,qm 68 8,qm 69 9,qm 70 8,qu 71 (.cz 9 69 70),qf 72 5 71,ql 73 72,qL 74 4 5,qu 75 (.od 4 [.aO,(.ah (.val (.bool false))),qd 0,qd 0] 1 [(0,74)]),qu 76 (.pO 4 48 73 75),qu 77 (.cz 9 67 68),qf 78 5 77,qw (.store 1 78 76)] [(eK 8 0 (.cons 8 (some [6,4]) (.cons 9 (some []) (.cons 10 none (.cons 11 none (.cons 12 (some []) .nil))))))]) (.seq (.ai [qm 79 9,qm 6 79,qu 7 (.aM (qi 0))]) .ret))))))))⟩
def JZ(o:Obj)(c:CC):List CC:=[.ah (.val (.int .i64 o.ag)),.ah (.sl 1 o.data),.ah (.sl 2 o.ak),.ah (.val (.string o.target)),.ah (.val (.int .i64 o.bp)),c,.ah (.val (.int .i64 o.ba)),.ah (.val (.int .i64 o.al)),.ah (.val (.int .i64 o.up))]
theorem Dy{l:List Obj}{p Q:Nat}{q:Obj}(h:l[p]? =some q):cF (eQ p Q 0 l) p=some (JZ q (.row Q 4 0 none)):=by rw[aT,tY,h];simp[sB,JZ]
theorem Np{l:List Obj}{p:Nat}{q:Obj}(h:l[p]? =some q):Bn l p l.length= .row 4 (aa (q.ar.map di.enc)):=by
 have hp:=(Km.1 h).1;have:Nat.blt p l.length=true:=by rw[abJ];exact hp
 simp only[Bn,this,quO,h]
theorem Ia{m:Mem}{Z:Nat->Prop}{id p Q:Nat}{l:List Obj}{q:Obj}{c:CC}(hz:Z id)(hb:m[id]? =some (.row 9 (aV (eQ p Q 0 l) p (JZ q c))))(hc:d5 m Z (some id) c (.sl 4 (q.ar.map di.enc))):
  d5 m Z none (.row id 9 0 none) (.sl 9 ((l.set p q).map Obj.enc)):=by
 have key:∀(i:Nat)cs es,(aV (eQ p Q 0 l) p (JZ q c))[i]? =some cs->((l.set p q).map Obj.enc)[i]? =some es->(cs=JZ q c/\es=q.enc)\/∃o:Obj,cs=o.enc.map .ah/\es=o.enc:=by
  intro i cs es h1 h2;rw[aY,aaW]at h1;rw[Tm,aaW]at h2;by_cases hi:p=i
  .subst hi;rw[if_pos rfl]at h1 h2;split at h1
   .cases h1;split at h2
    .cases h2;exact .inl ⟨rfl,rfl⟩
    .cases h2
   .cases h1
  .rw[if_neg hi]at h1 h2;rw[tY]at h1;cases ho:l[i]? with
   |none=>rw[ho]at h1;cases h1
   |some o=>
    rw[ho]at h1 h2;cases h1;cases h2;refine .inr ⟨o,?_,rfl⟩;simp only[sB,aaP,if_neg (Ne.symm hi)];rfl
 refine .row id 9 0 none _ ((l.set p q).map Obj.enc) hz hb (by rw[aY];simp[nq]) (λi cs es h1 h2=>?_) (λi cs es j cc d h1 h2 h3 h4=>?_)
 .rcases key i cs es h1 h2 with⟨rfl,rfl⟩|⟨o,rfl,rfl⟩
  .rfl
  .simp
 .rcases key i cs es h1 h2 with⟨rfl,rfl⟩|⟨o,rfl,rfl⟩
  .match j,h3,h4 with
   |0,h3,h4=>cases h3;cases h4;exact .ah _
   |1,h3,h4=>cases h3;cases h4;exact .ah _
   |2,h3,h4=>cases h3;cases h4;exact .ah _
   |3,h3,h4=>cases h3;cases h4;exact .ah _
   |4,h3,h4=>cases h3;cases h4;exact .ah _
   |5,h3,h4=>cases h3;cases h4;exact hc
   |6,h3,h4=>cases h3;cases h4;exact .ah _
   |7,h3,h4=>cases h3;cases h4;exact .ah _
   |8,h3,h4=>cases h3;cases h4;exact .ah _
   |n+9,h3,h4=>simp[JZ]at h3
  .rw[Tm,h4]at h3;cases h3;exact .ah _
def eZ(l:List Obj)(e:Int)(m:di):List Obj×Int:=
 if e<0\/e>=l.length then([],8)else match l[e.toNat]? with
 |none=>([],8)
 |some o=>if o.ag≠4 then([],8)else if o.bp<0\/o.bp>=l.length then([],17)else match l[o.bp.toNat]? with
  |none=>([],17)
  |some q=>if q.ag≠4 then([],17)else if m.data.length>60 then([],4)else if q.ar.length>=4 then([],15)else(l.set o.bp.toNat {q with ar:=q.ar++ [m]},0)
def Nq(l:List Obj)(e:Int):CV:= .bD [ns l,cK e]
theorem kW{m:Mem}{a b:RV}{x:Int}(h:fu m a b):cV m (.bD [a,cK x]) (.bD [b,cK x]):=by
 refine .bD rfl λi r r' h1 h2=>?_
 match i,h1,h2 with
 |0,h1,h2=>cases h1;cases h2;exact h
 |1,h1,h2=>cases h1;cases h2;exact fu.self rfl
theorem vw2{Y:Nat->Nat}{m:Mem}{Z:Nat->Prop}{a b:RV}{x:Int}(h:yK Y m Z a b):rK Y m Z (.bD [a,cK x]) (.bD [b,cK x]):=by
 refine .bD rfl λi r r' h1 h2=>?_
 match i,h1,h2 with
 |0,h1,h2=>cases h1;cases h2;exact h
 |1,h1,h2=>cases h1;cases h2;exact .one (.bb (.ah _))
theorem l74:bz prog f74=some c74:=by kernel_rfl
theorem tZ(l:List Obj)(hf:l5 l)(e:Int)(msg:di)(hmf:msg.data.length<=4194304):body prog c74 [cC l,am .i64 e,msg.cv] [] (λr m=>∃r' m',View 0 ⟨[r],m⟩ ⟨[r'],m'⟩/\r'=Nq (eZ l e msg).1 (eZ l e msg).2/\m'=[]):=by
 have LP:(((l.map Obj.enc).length:Nat):Int)=(l.length:Int):=aE;have bad:∀(x:Int),eZ l e msg=([],x)->∃r' m',View 0 ⟨[CV.bD [.one .aO,cK x]],[.var (msg.enc.map .ah)]⟩ ⟨[r'],m'⟩/\r'=Nq (eZ l e msg).1 (eZ l e msg).2/\m'=[]:=by intro x hx;refine⟨_,_,View.o 1 [] [] (.put (vw2 (b:=ns []) (.one (.fQ (.aO 9)))) .nil) (.nil _),?_,rfl⟩;rw[hx];rfl
 refine aN (λh=>?_) (λh1=>?_)
 .exact bad 8 (by rw[eZ,if_pos (.inl h)])
 refine aN (λh=>?_) (λh2=>?_)
 .exact bad 8 (by rw[eZ,if_pos (.inr (by rw[<-LP];exact h))])
 have h2:¬e>=(l.length:Int):=by rw[<-LP];exact h2
 obtain⟨k,rfl⟩:∃k:Nat,e=k:=⟨e.toNat,om⟩;have hk:k<l.length:=om;have hi:=vU hk;have pX:eZ l (k:Int) msg=if l[k].ag≠4 then(([],8):List Obj×Int)else if l[k].bp<0\/l[k].bp>=l.length then([],17)else match l[l[k].bp.toNat]? with
   |none=>([],17)
   |some q=>if q.ag≠4 then([],17)else if msg.data.length>60 then([],4)else if q.ar.length>=4 then([],15)else(l.set l[k].bp.toNat {q with ar:=q.ar++ [msg]},0):=by
  rw[eZ,if_neg om,Y6,hi]
 have hg:dD (l.map Obj.enc) (k:Nat)=some (l[k].enc):=by rw[bG,Tm,hi];rfl
 generalize l[k]=o at pX hg;obtain⟨ag,data,ak,target,bp,ar,ba,al,up⟩:=o;have hg:dD (l.map Obj.enc) (k:Nat)=some [.val (.int .i64 ag),.sl 1 data,.sl 2 ak,.val (.string target),.val (.int .i64 bp),.sl 4 (ar.map di.enc),.val (.int .i64 ba),.val (.int .i64 al),.val (.int .i64 up)]:=hg;refine af hg ?_;refine bx (λh=>?_) (λh3=>?_)
 .exact bad 8 (by rw[pX,if_pos h])
 have h3:ag=4:=h3;rw[if_neg (by simpa using h3)]at pX
 simp only at pX;refine af hg ?_;refine aN (λh=>?_) (λh4=>?_)
 .exact bad 17 (by rw[pX,if_pos (.inl h)])
 refine aN (λh=>?_) (λh5=>?_)
 .exact bad 17 (by rw[pX,if_pos (.inr (by rw[<-LP];exact h))])
 have h5:¬bp>=(l.length:Int):=by rw[<-LP];exact h5
 have h4:¬bp<0:=h4;obtain⟨p,rfl⟩:∃p:Nat,bp=p:=⟨bp.toNat,om⟩;have hp:p<l.length:=om;have S4:=vU hp;rw[if_neg om,Y6,S4]at pX;simp only at pX;have CF:dD (l.map Obj.enc) (p:Nat)=some (l[p].enc):=by rw[bG,Tm,S4];rfl
 have JW:=hf.2 _ (aaw hp);generalize l[p]=q at pX CF S4 JW;have CF:dD (l.map Obj.enc) (p:Nat)=some [.val (.int .i64 q.ag),.sl 1 q.data,.sl 2 q.ak,.val (.string q.target),.val (.int .i64 q.bp),.sl 4 (q.ar.map di.enc),.val (.int .i64 q.ba),.val (.int .i64 q.al),.val (.int .i64 q.up)]:=CF;refine af CF ?_;refine bx (λh=>?_) (λh6=>?_)
 .exact bad 17 (by rw[pX,if_pos h])
 rw[if_neg (by simpa using h6)]at pX
 refine aN (λh=>?_) (λh7=>?_)
 .exact bad 4 (by rw[pX,if_pos (by have h:((msg.data.length:Nat):Int)>60:=h;omega)])
 rw[if_neg (by have h:¬((msg.data.length:Nat):Int)>60:=h7;omega)]at pX
 refine af CF ?_;refine aN (λh=>?_) (λh8=>?_)
 .exact bad 15 (by rw[pX,if_pos (by have h:(((q.ar.map di.enc).length:Nat):Int)>=4:=h;rw[Pj]at h;omega)])
 have h8:¬q.ar.length>=4:=by have h:¬(((q.ar.map di.enc).length:Nat):Int)>=4:=h8;rw[Pj]at h;omega
 rw[if_neg h8]at pX;refine xu l hf p ?_;rw[Np S4];refine iE msg.data hmf ?_;have t6:dZ (p:Int) (lenOf (eQ p 2 0 l).length 0 none)=some p:=bZ (by simp[lenOf,nq];omega)
 have oA:=Dy (Q:=2) S4;refine af t6 ?_;refine af oA ?_;refine⟨⟨af oA rfl,af t6 rfl,trivial⟩,?_⟩;refine⟨?_,?_⟩
 .show((aa (q.ar.map di.enc)).length+1)*48<=_;simp[aa];omega
 refine⟨trivial,?_⟩;refine af t6 ?_;refine af oA ?_;refine⟨trivial,?_⟩;refine⟨Nq (l.set p {q with ar:=q.ar++ [msg]}) 0,[],View.o 5 [] [1,4] (.put (vw2 (.one (.fQ ?_))) .nil) (.nil _),?_,rfl⟩
 .refine Ia (p:=p) (Q:=2) (l:=l) (q:={q with ar:=q.ar++ [msg]}) (c:= .row 4 4 0 none) rfl (by rw[<-aT];rfl) ?_
  refine d5.fl (Z:=λk=>br [1,4] k=true) (ds:=(q.ar++ [msg]).map di.enc) rfl ?_ 0 none
  rw[<-aT,abm,dx];rfl
 .rw[pX]
theorem QM(l:List Obj)(hf:l5 l)(e:Int)(msg:di)(hmf:msg.data.length<=4194304){m:Mem}{K:CV->Mem->Prop}(h:K (Nq (eZ l e msg).1 (eZ l e msg).2) m):ap prog 74 [cC l,am .i64 e,msg.cv] m K:=by
 refine bh (K0:=λr m=>r=Nq (eZ l e msg).1 (eZ l e msg).2/\m=[]) (bJ (aZ func74 l74 (tZ l hf e msg hmf)) λr m1⟨r',m',hv,hp⟩=>⟨r',m',hv,hp⟩) (by simp[cC,am,di.cv,CV.dB,CC.dB,RV.dB]) λr m1 hr=>?_
 obtain⟨rfl,rfl⟩:=hr;exact⟨_,cV.self rfl,h⟩
def c115:LF:= ⟨33,[.tmp 6],(.seq (.ai [qu 6 (.aM qe)]) (.seq (.ai [qm 8 0,qm 9 1,qm 10 2,qm 11 0,qu 12 (.len 1 11),qu 13 (.oG 4 8 (some 9) (some 10) (some 12))]) (.seq (.seq (.ai [qm 14 1,qm 15 2,qu 16 (.aJ .eql 14 15)]) (.cond 16 (.seq (.ai [qm 17 0,qm 6 17]) .ret) .skip)) (.seq (.ai [qm 18 0,qu 19 (.len 1 18),qm 7 19]) (.seq (.bV [qm 20 0,qm 21 1,qu 22 (.oG 4 20 none (some 21) none),qm 23 0,qm 24 2,qu 25 (.oG 4 23 (some 24) none none),qu 26 (.pO 4 48 22 25),qm 0 26] [(eK 6 0 (.cons 6 (some []) (.cons 7 none .nil)))]) (.seq (.ai [qm 27 0,qm 28 0,qu 29 (.len 1 28),qm 30 7,qu 31 (.oG 4 27 (some 29) (some 30) none),qw (.VS 4 [.aO,(.ah (.val (.bool false))),qd 0,qd 0] 31)]) (.seq (.ai [qm 32 0,qm 6 32]) .ret)))))))⟩
def vo:List CC:=[.aO,.ah (.val (.bool false)),.ah (.val (.int .i64 0)),.ah (.val (.int .i64 0))]
theorem kH:∀ds:List (List Dt),fH (aa ds)=true
 | []=>rfl
 |d::r=>by
  have h1:∀e:List Dt,qT (e.map CC.ah)=true:=by
   intro e
   induction e with
   |nil=>rfl
   |cons x e ih=>simpa[qT,CC.js]using ih
  have:=kH r;simp only[aa,aaL,fH]at this|-;rw[h1,this];rfl
theorem l115:bz prog f115=some c115:=by kernel_rfl
def f9(x:di)(r:List di):List (List CC):=aa (r.map di.enc)++ [vo]
theorem Nr(x:di)(r:List di)(hl:r.length<=4194303):body prog c115 [.rv (.one (.row 0 4 0 none)),am .i64 0,am .i64 1] [.row 4 (aa ((x::r).map di.enc))] (λv m=>v= .rv (.one (.row 0 4 0 (some r.length)))/\m=[.row 4 (f9 x r)]):=by
 have hlen:(aa ((x::r).map di.enc)).length=r.length+1:=by simp[aa]
 have S5:(aa ((x::r).map di.enc)).drop 1=aa (r.map di.enc):=rfl;generalize aa ((x::r).map di.enc)=D at hlen S5;have hL:lenOf D.length 0 none=r.length+1:=by rw[iW,hlen];rfl
 have hE:b9 D 1 (some (r.length+1))=aa (r.map di.enc):=by rw[jT];simp only;rw[<-hlen,aaV,S5]
 have Ib:(aa (r.map di.enc)).length=r.length:=by simp[aa]
 refine cN ?_ ?_
 .show(Nat.ble 0 1&&(Nat.ble 1 (lenOf D.length 0 none)&&Nat.ble (lenOf D.length 0 none) (b9 D 0 none).length))=true;rw[hL];simp[b9,hlen,aa9]
 rw[hL];refine cN ?_ ?_
 .show(Nat.ble 1 (lenOf D.length 0 none)&&Nat.ble (lenOf D.length 0 none) (D.length-0))=true;rw[hL,hlen];simp[aa9]
 rw[hL];refine cN ?_ ?_
 .show(Nat.beq 0 0&&(Nat.beq 4 4&&(Nat.beq 4 4&&(Nat.ble 1 D.length&&(Nat.ble (0+(b9 D 1 (some (r.length+1))).length) D.length&&fH (b9 D 1 (some (r.length+1))))))))=true;rw[hE,kH,Ib,hlen];simp[aa9]
 refine⟨?_,?_⟩
 .rw[hlen];omega
 refine⟨trivial,?_⟩;have Bf:(cU D 0 (aa (r.map di.enc))).length=r.length+1:=by rw[xd (by rw[Ib,hlen];omega),hlen]
 refine cN ?_ ?_
 .simp only[mf,aaP,hE,Ib,iW,abt,acQ,Bf];simp[aa9]
 refine cN ?_ ?_
 .simp only[mf,aaP,hE,Ib,iW,abt,acQ,Bf,qU];simp[aa9]
 refine cN ?_ ?_
 .simp only[mf,aaP,hE,Ib,iW,abt,acQ,Bf,qU];simp[abJ]
 have d9:cU (cU D 0 (aa (r.map di.enc))) r.length (gI 1 vo)=f9 x r:=by
  have h1:cU D 0 (aa (r.map di.enc))=aa (r.map di.enc)++D.drop r.length:=by simp[cU,Ib]
  rw[h1];simp only[cU,fY,f9];rw[List.take_append_of_le_length (by rw[Ib];exact Ym _),abM (by rw[Ib];exact Ym _)]
  congr 1;have:(aa (r.map di.enc)++D.drop r.length).length=r.length+1:=by simp[Ib,hlen]
  rw[List.drop_of_length_le (by rw[this];simp)]
  rfl
 refine⟨?_,?_⟩
 .show CV.rv (.one (.row 0 4 0 (some (0+(b9 D (iM 0 1) (some (iM 0 (r.length+1)))).length))))=_;simp only[mf,aaP,hE,Ib]
 .rw[<-d9];show [Bk.row 4 (cU (cU D 0 (b9 D (iM 0 1) (some (iM 0 (r.length+1))))) _ (gI (_-_) vo))]=_;simp only[mf,aaP,hE,Ib,iW,abt,acQ,Bf,qU,Nat.add_sub_cancel_left]
theorem UB(x:di)(r:List di)(hl:r.length<=4194303){m:Mem}{K:CV->Mem->Prop}(id:Nat)(hb:cF m id=some (.row 4 (aa ((x::r).map di.enc))))(h:K (.rv (.one (.row id 4 0 (some r.length)))) (aV m id (.row 4 (f9 x r)))):
  ap prog 115 [.rv (.one (.row id 4 0 none)),am .i64 0,am .i64 1] m K:=by
 have hid:id<m.length:=by rw[aT]at hb;exact(Km.1 hb).1
 refine bu [id] m.length rfl rfl rfl (by simp[eP,hid]) (args0:=[.rv (.one (.row 0 4 0 none)),am .i64 0,am .i64 1]) rfl (λi b' hi=>?_) (aZ func115 l115 (Nr x r hl)) (λr1 m1 hr=>?_)
 .cases i with
  |zero=>
   simp at hi;subst hi;refine .inr ⟨λh=>h,_,?_,.bL rfl⟩
   rw[aT]at hb;exact hb
  |succ i=>simp at hi
 .obtain⟨rfl,rfl⟩:=hr;refine⟨Ym _,?_⟩;have abs:(Bk.row 4 (f9 x r)).bb (sg [id] m.length)= .row 4 (f9 x r):=by simp only[Bk.bb,f9,abm,dz];rfl
  show K (.rv (.one (.row id 4 0 (some r.length)))) (c6 m [id] [(Bk.row 4 (f9 x r)).bb (sg [id] m.length)]);rw[abs];simp only[c6,cg,abO];exact h
def c75:LF:= ⟨78,[.tmp 4,.cell true 4 5,.tmp 6],(.seq (.ai [qu 4 (.aM qe),qu 5 (.alloc [.aO,(.ah (.val (.bool false))),qd 0,qd 0]),qu 6 (.aM (qi 0))]) (.seq (.seq (.ai [qm 10 1,qu 11 (.aJ .lss 10 (qi 0)),qm 12 11,qg 13 (.aM 1) 12 false,qg 14 (.aM 0) 12 false,qg 15 (.len 1 14) 12 false,qg 16 (.aJ .geq 13 15) 12 false,qu 17 (.pick 12 (qb true) 16),qm 18 17,qg 19 (.aM 0) 18 false,qg 20 (.aM 1) 18 false,qg 21 (.cz 9 19 20) 18 false,qg 22 (.b8 0 21) 18 false,qg 23 (.load false 1 22) 18 false,qg 24 (.aJ .neq 23 (qi 4)) 18 false,qu 25 (.pick 18 (qb true) 24)]) (.cond 25 (.seq (.ai [qu 26 (.build [.aO,(.ah (.val (.bool false))),qd 0,qd 0] []),qu 4 (.aM qe),qw (.store 4 5 26),qu 6 (.aM (qi 8))]) .ret) .skip)) (.seq (.seq (.ai [qm 27 0,qm 28 1,qu 29 (.cz 9 27 28),qf 30 5 29,ql 31 30,qu 32 (.len 1 31),qu 33 (.aJ .eql 32 (qi 0))]) (.cond 33 (.seq (.seq (.ai [qm 34 0,qm 35 1,qu 36 (.cz 9 34 35),qf 37 4 36,ql 38 37,qm 7 38]) (.seq (.ai [qm 39 7,qu 40 (.aJ .lss 39 (qi 0)),qm 41 40,qg 42 (.aM 7) 41 false,qg 43 (.aM 0) 41 false,qg 44 (.len 1 43) 41 false,qg 45 (.aJ .geq 42 44) 41 false,qu 46 (.pick 41 (qb true) 45),qm 47 46,qg 48 (.aM 0) 47 false,qg 49 (.aM 7) 47 false,qg 50 (.cz 9 48 49) 47 false,qg 51 (.b8 0 50) 47 false,qg 52 (.load false 1 51) 47 false,qg 53 (.aJ .neq 52 (qi 4)) 47 false,qu 54 (.pick 47 (qb true) 53)]) (.cond 54 (.seq (.ai [qu 55 (.build [.aO,(.ah (.val (.bool false))),qd 0,qd 0] []),qu 4 (.aM qe),qw (.store 4 5 55),qu 6 (.aM (qi 17))]) .ret) .skip))) (.seq (.ai [qu 56 (.build [.aO,(.ah (.val (.bool false))),qd 0,qd 0] []),qu 4 (.aM qe),qw (.store 4 5 56),qu 6 (.aM (qi 16))]) .ret)) .skip)) (.seq (.ai [qm 57 0,qu 58 (qc 98 [57]),qm 8 58]) (.seq (.ai [qm 59 8,qm 60 1,qu 61 (.cz 9 59 60),qf 62 5 61,ql 63 62,qu 64 (.cz 4 63 (qi 0)),qL 65 4 64,qu 9 (.alloc [.aO,(.ah (.val (.bool false))),qd 0,qd 0]),qw (.store 4 9 65)]) (.seq (.ai [qm 66 8,qm 67 1,qm 68 8,qm 69 1,qu 70 (.cz 9 68 69),qf 71 5 70,ql 72 71,qu 73 (qc 115 [72,qi 0,qi 1]),qu 74 (.cz 9 66 67),qf 75 5 74,qw (.store 1 75 73)]) (.seq (.bV [qm 76 8,qL 77 4 9,qm 4 76,qw (.store 4 5 77),qu 6 (.aM (qi 0))] [(eK 3 0 (.cons 3 (some []) (.cons 4 none .nil)))]) .ret)))))))⟩
def nt:di:=⟨[],false,0,0⟩
def di.rv(m:di):RV:= .agg (m.enc.map .ah)
def fK(l:List Obj)(e:Int):List Obj×di×Int:=
 if e<0\/e>=l.length then([],nt,8)else match l[e.toNat]? with
 |none=>([],nt,8)
 |some o=>if o.ag≠4 then([],nt,8)else match o.ar with
  | []=>if o.bp<0\/o.bp>=l.length then([],nt,17)else match l[o.bp.toNat]? with
   |none=>([],nt,17)
   |some q=>if q.ag≠4 then([],nt,17)else([],nt,16)
  |x::r=>(l.set e.toNat {o with ar:=r},x,0)
def xw(x:List Obj×di×Int):CV:= .bD [ns x.1,x.2.1.rv,cK x.2.2]
theorem vw3{Y:Nat->Nat}{m:Mem}{Z:Nat->Prop}{a b c d:RV}{x:Int}(h:yK Y m Z a b)(hc:yK Y m Z c d):rK Y m Z (.bD [a,c,cK x]) (.bD [b,d,cK x]):=by
 refine .bD rfl λi r r' h1 h2=>?_
 match i,h1,h2 with
 |0,h1,h2=>cases h1;cases h2;exact h
 |1,h1,h2=>cases h1;cases h2;exact hc
 |2,h1,h2=>cases h1;cases h2;exact .one (.bb (.ah _))
theorem vwZ{Y:Nat->Nat}{m:Mem}{Z:Nat->Prop}:yK Y m Z (.agg vo) nt.rv:=by
 refine .agg rfl λi c c' h1 h2=>?_
 match i,h1,h2 with
 |0,h1,h2=>cases h1;cases h2;exact .fQ (.aO 1)
 |1,h1,h2=>cases h1;cases h2;exact .bb (.ah _)
 |2,h1,h2=>cases h1;cases h2;exact .bb (.ah _)
 |3,h1,h2=>cases h1;cases h2;exact .bb (.ah _)
 |n+4,h1,h2=>simp[vo]at h1
theorem XR{Y:Nat->Nat}{m:Mem}{Z:Nat->Prop}(x:di):yK Y m Z (.agg (x.enc.map .ah)) x.rv:=by
 refine .agg rfl λi c c' h1 h2=>?_
 rw[h1]at h2;cases h2;rw[Tm]at h1;cases hd:x.enc[i]? with
 |none=>rw[hd]at h1;cases h1
 |some d=>
  rw[hd]at h1;cases h1;exact .bb (.ah d)
theorem UC{m:Mem}{Z:Nat->Prop}{p:Option Nat}{id:Nat}{x:di}{r:List di}(hz:Z id)(hb:m[id]? =some (.row 4 (f9 x r))):d5 m Z p (.row id 4 0 (some r.length)) (.sl 4 (r.map di.enc)):=by
 have h:=d5.row (m:=m) (Z:=Z) (p:=p) id 4 0 (some r.length) (f9 x r) (r.map di.enc++ [nt.enc]) hz hb (by simp[f9,aa]) (λi cs es h1 h2=>?_) (λi cs es j c d h1 h2 h3 h4=>?_)
 .have:b9 (r.map di.enc++ [nt.enc]) 0 (some r.length)=r.map di.enc:=by rw[jT];simp
  rw[this]at h;exact h
 .rcases aaf i r.length with hi|hi
  .rw[f9,aac (by simpa[aa]using hi),aa,Tm]at h1
   rw[aac (by simpa using hi)]at h2
   rw[h2]at h1;cases h1;simp
  .rw[f9,ZZ (by simpa[aa]using hi)]at h1
   rw[ZZ (by simpa using hi)]at h2
   have e1:(aa (r.map di.enc)).length=r.length:=by simp[aa]
   have e2:(r.map di.enc).length=r.length:=aE;rw[e1]at h1;rw[e2]at h2;cases hn:i-r.length with
   |zero=>rw[hn]at h1 h2;cases h1;cases h2;rfl
   |succ n=>rw[hn]at h1;simp at h1
 .rcases aaf i r.length with hi|hi
  .rw[f9,aac (by simpa[aa]using hi),aa,Tm]at h1
   rw[aac (by simpa using hi)]at h2
   rw[h2]at h1;cases h1;rw[Tm,h4]at h3;cases h3;exact .ah _
  .rw[f9,ZZ (by simpa[aa]using hi)]at h1
   rw[ZZ (by simpa using hi)]at h2
   have e1:(aa (r.map di.enc)).length=r.length:=by simp[aa]
   have e2:(r.map di.enc).length=r.length:=aE;rw[e1]at h1;rw[e2]at h2;cases hn:i-r.length with
   |zero=>
    rw[hn]at h1 h2;cases h1;cases h2
    match j,h3,h4 with
    |0,h3,h4=>cases h3;cases h4;exact .aO 1
    |1,h3,h4=>cases h3;cases h4;exact .ah _
    |2,h3,h4=>cases h3;cases h4;exact .ah _
    |3,h3,h4=>cases h3;cases h4;exact .ah _
    |n+4,h3,h4=>simp[vo]at h3
   |succ n=>rw[hn]at h1;simp at h1
theorem l75:bz prog f75=some c75:=by kernel_rfl
theorem t7(l:List Obj)(hf:l5 l)(e:Int):body prog c75 [cC l,am .i64 e] [] (λr m=>∃r' m',View 0 ⟨[r],m⟩ ⟨[r'],m'⟩/\r'=xw (fK l e)/\m'=[]):=by
 have LP:(((l.map Obj.enc).length:Nat):Int)=(l.length:Int):=aE;have bad:∀(x:Int),fK l e=([],nt,x)->∃r' m',View 0 ⟨[CV.bD [.one .aO,.agg vo,cK x]],[.var vo]⟩ ⟨[r'],m'⟩/\r'=xw (fK l e)/\m'=[]:=by intro x hx;refine⟨_,_,View.o 1 [] [] (.put (vw3 (b:=ns []) (.one (.fQ (.aO 9))) vwZ) .nil) (.nil _),?_,rfl⟩;rw[hx];rfl
 refine aN (λh=>?_) (λh1=>?_)
 .exact bad 8 (by rw[fK,if_pos (.inl h)])
 refine aN (λh=>?_) (λh2=>?_)
 .exact bad 8 (by rw[fK,if_pos (.inr (by rw[<-LP];exact h))])
 have h2:¬e>=(l.length:Int):=by rw[<-LP];exact h2
 obtain⟨k,rfl⟩:∃k:Nat,e=k:=⟨e.toNat,om⟩;have hk:k<l.length:=om;have hi:=vU hk;have pX:fK l (k:Int)=if l[k].ag≠4 then(([],nt,8):List Obj×di×Int)else match l[k].ar with
   | []=>if l[k].bp<0\/l[k].bp>=l.length then([],nt,17)else match l[l[k].bp.toNat]? with
    |none=>([],nt,17)
    |some q=>if q.ag≠4 then([],nt,17)else([],nt,16)
   |x::r=>(l.set k {l[k]with ar:=r},x,0):=by
  rw[fK,if_neg om,Y6,hi]
 have hg:dD (l.map Obj.enc) (k:Nat)=some (l[k].enc):=by rw[bG,Tm,hi];rfl
 have Nk:=hf.2 _ (aaw hk);generalize l[k]=o at pX hg hi Nk;obtain⟨ag,data,ak,target,bp,ar,ba,al,up⟩:=o;have hg:dD (l.map Obj.enc) (k:Nat)=some [.val (.int .i64 ag),.sl 1 data,.sl 2 ak,.val (.string target),.val (.int .i64 bp),.sl 4 (ar.map di.enc),.val (.int .i64 ba),.val (.int .i64 al),.val (.int .i64 up)]:=hg;refine af hg ?_;refine bx (λh=>?_) (λh3=>?_)
 .exact bad 8 (by rw[pX,if_pos h])
 have h3:ag=4:=h3;rw[if_neg (by simpa using h3)]at pX
 simp only at pX;refine af hg ?_;cases ar with
 |nil=>
  simp only at pX;refine af hg ?_;refine aN (λh=>?_) (λh4=>?_)
  .exact bad 17 (by rw[pX,if_pos (.inl h)])
  refine aN (λh=>?_) (λh5=>?_)
  .exact bad 17 (by rw[pX,if_pos (.inr (by rw[<-LP];exact h))])
  have h5:¬bp>=(l.length:Int):=by rw[<-LP];exact h5
  have h4:¬bp<0:=h4;obtain⟨p,rfl⟩:∃p:Nat,bp=p:=⟨bp.toNat,om⟩;have hp:p<l.length:=om;have S4:=vU hp;rw[if_neg om,Y6,S4]at pX;simp only at pX;have CF:dD (l.map Obj.enc) (p:Nat)=some (l[p].enc):=by rw[bG,Tm,S4];rfl
  generalize l[p]=q at pX CF;have CF:dD (l.map Obj.enc) (p:Nat)=some [.val (.int .i64 q.ag),.sl 1 q.data,.sl 2 q.ak,.val (.string q.target),.val (.int .i64 q.bp),.sl 4 (q.ar.map di.enc),.val (.int .i64 q.ba),.val (.int .i64 q.al),.val (.int .i64 q.up)]:=CF;refine af CF ?_;refine bx (λh=>?_) (λh6=>?_)
  .exact bad 17 (by rw[pX,if_pos h])
  .exact bad 16 (by rw[pX,if_neg (by simpa using h6)])
 |cons x r=>
  simp only at pX;have Ic:(x::r).length<=4194304:=Nk.2.2.1;refine xu l hf k ?_;rw[Np hi];have t6:dZ (k:Int) (lenOf (eQ k 2 0 l).length 0 none)=some k:=bZ (by simp[lenOf,nq];omega)
  have oA:=Dy (Q:=2) hi;refine af t6 ?_;refine af oA ?_;refine af t6 ?_;refine af oA ?_;refine UB x r (by simp at Ic;omega) 2 rfl ?_
  refine af t6 ?_;refine af oA ?_;refine⟨trivial,?_⟩;refine⟨xw (fK l k),[],View.o 4 [] [1,2] ?_ (.nil _),rfl,rfl⟩;rw[pX];refine .put (vw3 (.one (.fQ ?_)) (XR x)) .nil;exact Ia (p:=k) (Q:=2) (l:=l) (q:=⟨ag,data,ak,target,bp,r,ba,al,up⟩) (c:= .row 2 4 0 (some r.length)) rfl (by rw[<-aT];rfl) (UC (x:=x) rfl (by rw[<-aT];rfl))
theorem QN(l:List Obj)(hf:l5 l)(e:Int){m:Mem}{K:CV->Mem->Prop}(h:K (xw (fK l e)) m):ap prog 75 [cC l,am .i64 e] m K:=by
 refine bh (K0:=λr m=>r=xw (fK l e)/\m=[]) (bJ (aZ func75 l75 (t7 l hf e)) λr m1⟨r',m',hv,hp⟩=>⟨r',m',hv,hp⟩) (by simp[cC,am,CV.dB,CC.dB,RV.dB]) λr m1 hr=>?_
 obtain⟨rfl,rfl⟩:=hr;exact⟨_,cV.self rfl,h⟩
def jw(l:List Int):List (List Dt):=l.map λb=>[.val (.int .u8 b)]
theorem Dz{m:Mem}{id:Nat}{b:Bk}:c6 m [id] [b]=aV m id b:=by simp only[c6,cg,abO]
theorem t8:∀b:List Int,wD ((jw b).map λds=>ds.map .ah)=some b
 | []=>rfl
 |x::r=>by have:=t8 r;simp only[jw,aaL,adL]at this|-;simp only[wD,this]
def gl(e:ByteArray×Int):List Dt:=[.val (.string e.1),.val (.int .i64 e.2)]
def di.S6(q:di):Prop:=∃b:List Int,q.data=jw b
def Obj.S6(o:Obj):Prop:=(∃b:List Int,o.data=jw b)/\(∃es:List (ByteArray×Int),o.ak=es.map gl)/\∀q,q∈o.ar->q.S6
theorem Bq{l:List Obj}{k:Nat}(h:k<l.length):dD (l.map Obj.enc) (k:Nat)=some [.val (.int .i64 l[k].ag),.sl 1 l[k].data,.sl 2 l[k].ak,.val (.string l[k].target),.val (.int .i64 l[k].bp),.sl 4 (l[k].ar.map di.enc),.val (.int .i64 l[k].ba),.val (.int .i64 l[k].al),.val (.int .i64 l[k].up)]:=by rw[bG,Tm,vU h];rfl
inductive qC(Y:Nat->Nat)(m:Mem)(Z:Nat->Prop):List CC->List CC->Prop
 |nil:qC Y m Z [] []
 |cons {c c':CC} {r r':List CC} (h:tv Y m Z none c c') (hr:qC Y m Z r r'):qC Y m Z (c::r) (c'::r')
theorem qC.len{Y:Nat->Nat}{m:Mem}{Z:Nat->Prop}{cs fj:List CC}(h:qC Y m Z cs fj):cs.length=fj.length:=by
 induction h<;>simp[*]
theorem qC.get{Y:Nat->Nat}{m:Mem}{Z:Nat->Prop}{cs fj:List CC}(h:qC Y m Z cs fj):∀(i:Nat)c c',cs[i]? =some c->fj[i]? =some c'->tv Y m Z none c c':=by
 induction h with
 |nil=>intro i c c' h;simp at h
 |cons h hr ih=>
  intro i c c' h1 h2;cases i with
  |zero=>simp at h1 h2;subst h1 h2;exact h
  |succ i=>exact ih i c c' (by simpa using h1) (by simpa using h2)
theorem qC.agg{Y:Nat->Nat}{m:Mem}{Z:Nat->Prop}{cs fj:List CC}(h:qC Y m Z cs fj):rK Y m Z (.rv (.agg cs)) (.rv (.agg fj)):= .rv (.agg h.len h.get)
structure Obj.sm(o:Obj):Prop where
 t:o.S6
 d:o.data.length<=64
 e:o.ak.length<=8
 q:o.ar.length<=8
 qd:∀q,q∈o.ar->q.data.length<=64
theorem Obj.sm.oB{o:Obj}(h:o.sm):o.oB:=⟨by have:=h.d;omega,by have:=h.e;omega,by have:=h.q;omega,λq hq=>by have:=h.qd q hq;omega⟩
theorem QO{es:List (ByteArray×Int)}{k:Nat}(h:k<es.length):dD (es.map gl) (k:Nat)=some [.val (.string es[k].1),.val (.int .i64 es[k].2)]:=by rw[bG,Tm,vU h];rfl
structure eh where
 has:Bool
 dF:Int
 bU:Int
def eh.enc(s:eh):List Dt:=[.val (.bool s.has),.val (.int .i64 s.dF),.val (.int .i64 s.bU)]
def ze(l:List eh):Dt:= .sl 3 (l.map eh.enc)
def Ns(l:List eh):RV:= .one (.ah (ze l))
def nu(l:List eh):CV:= .rv (.one (.ah (ze l)))
theorem bK{α:Type}(f:α->List Dt)(l:List α){k:Nat}(h:k<l.length):cF (aa (l.map f)) k=some ((f l[k]).map .ah):=by rw[aT,aa,Tm,Tm,vU h];rfl
theorem nU{α:Type}(f:α->List Dt)(l:List α)(k:Nat)(x:α):aV (aa (l.map f)) k ((f x).map .ah)=aa ((l.set k x).map f):=by rw[aY,aa,aa,abv,abv]
theorem o6:∀a:List UInt8,Op.bytesLess a a=false
 | []=>rfl
 |x::r=>by simp[Op.bytesLess,o6 r]
theorem sG:∀{a b c:List UInt8},Op.bytesLess a b=true->Op.bytesLess b c=true->Op.bytesLess a c=true
 |a,[],_,h,_=>by cases a<;>simp[Op.bytesLess]at h
 |_,_::_,[],_,h=>by simp[Op.bytesLess]at h
 | [],_::_,_::_,_,_=>rfl
 |x::a,y::b,z::c,h1,h2=>by
  simp only[Op.bytesLess,abX,aab,decide_eq_true_eq,beq_iff_eq]at h1 h2|-;rcases h1 with h1|⟨rfl,h1⟩
  .rcases h2 with h2|⟨rfl,h2⟩
   .exact .inl (UInt8.lt_trans h1 h2)
   .exact .inl h1
  .rcases h2 with h2|⟨rfl,h2⟩
   .exact .inl h2
   .exact .inr ⟨rfl,sG h1 h2⟩
theorem Nt:∀a b:List UInt8,Op.bytesLess a b=true\/a=b\/Op.bytesLess b a=true
 | [],[]=>.inr (.inl rfl)
 | [],_::_=>.inl rfl
 |_::_,[]=>.inr (.inr rfl)
 |x::a,y::b=>by
  simp only[Op.bytesLess,abX,aab,decide_eq_true_eq,beq_iff_eq,aeb];by_cases h:x<y
  .exact .inl (.inl h)
  .by_cases h2:y<x
   .exact .inr (.inr (.inl h2))
   .have e:x=y:=by have h3:¬x.toNat<y.toNat:=h;have h4:¬y.toNat<x.toNat:=h2;exact UInt8.toNat_inj.1 om
    subst e;rcases Nt a b with h5|h5|h5
    .exact .inl (.inr ⟨rfl,h5⟩)
    .exact .inr (.inl ⟨rfl,h5⟩)
    .exact .inr (.inr (.inr ⟨rfl,h5⟩))
abbrev NE:=ByteArray×Int
def Br(a b:ByteArray):Prop:=Op.bytesLess a.toList b.toList=true
def FT(es:List NE):Prop:=es.Pairwise λa b=>Br a.1 b.1
def FU(a b:ByteArray):Bool:= !(Op.bytesLess a.toList b.toList||a.toList==b.toList)
theorem XS{a b:ByteArray}(h:FU a b=true):Br b a:=by
 unfold FU at h;simp only[abN,Bool.or_eq_false_iff,beq_eq_false_iff_ne]at h;rcases Nt a.toList b.toList with h1|h1|h1
 .rw[h.1]at h1;cases h1
 .exact absurd h1 h.2
 .exact h1
theorem UD{a b:ByteArray}(h:FU a b=false)(dh:a.toList≠b.toList):Br a b:=by unfold FU at h;simp only[Bool.not_eq_false',abX,beq_iff_eq]at h;exact h.elim id λh=>absurd h dh
structure Nu(es:List NE)(x:NE)(k:Nat)(d:Bool)(fc:List NE):Prop where
 f:d=false->fc=es.take k/\∀(j:Nat)e,j<k->es[j]? =some e->FU e.1 x.1=false
 t:d=true->∃i,i<k/\fc=es.take i++x::(es.take k).drop i/\(∀(j:Nat)e,j<i->es[j]? =some e->FU e.1 x.1=false)/\∃e,es[i]? =some e/\FU e.1 x.1=true
theorem J0{es:List NE}{k:Nat}(h:k<es.length):es.take (k+1)=es.take k++ [es[k]]:=by rw[abG,vU h];rfl
theorem Nu.Cy{es:List NE}{x:NE}{k:Nat}{fc:List NE}(h:Nu es x k false fc)(hk:k<es.length)(hg:FU es[k].1 x.1=true):Nu es x (k+1) true (fc++ [x,es[k]]):=by
 obtain⟨h1,h2⟩:=h.f rfl;refine⟨λh=>(by cases h),λ_=>⟨k,ab5 k,?_,h2,es[k],vU hk,hg⟩⟩
 rw[J0 hk,h1,List.drop_left' (by simp;omega)]
def iZ(x:NE):List NE->List NE
 | []=>[x]
 |e::r=>if FU e.1 x.1=true then x::e::r else e::iZ x r
theorem DA{x:NE}:∀{a b:List NE},(∀e,e∈a->FU e.1 x.1=false)->iZ x (a++b)=a++iZ x b
 | [],_,_=>rfl
 |e::a,b,h=>by
  show iZ x (e::(a++b))=_;rw[iZ,if_neg (by rw[h e aE];simp),DA λy hy=>h y (by simp[hy])]
  rfl
theorem QP{x e:NE}{r:List NE}(h:FU e.1 x.1=true):iZ x (e::r)=x::e::r:=by rw[iZ,if_pos h]
theorem sH{x:NE}:∀{es:List NE}{e:NE},e∈iZ x es->e∈es\/e=x
 | [],e,h=>by simp[iZ]at h;exact .inr h
 |y::r,e,h=>by
  rw[iZ]at h;split at h
  .rcases aaJ.1 h with h|h
   .exact .inr h
   .exact .inl h
  .rcases aaJ.1 h with h|h
   .exact .inl (by simp[h])
   .rcases sH h with h|h
    .exact .inl (by simp[h])
    .exact .inr h
theorem DB{x:NE}:∀es:List NE,(iZ x es).length=es.length+1
 | []=>rfl
 |y::r=>by
  rw[iZ];split
  .rfl
  .simp[DB r]
theorem Nv{es:List NE}{x:NE}(hs:FT es)(dh:∀e,e∈es->e.1.toList≠x.1.toList):FT (iZ x es):=by
 induction es with
 |nil=>exact adi.2 ⟨aE,List.Pairwise.nil⟩
 |cons e r ih=>
  obtain⟨h1,h2⟩:=adi.1 hs;rw[iZ];split
  .rename_i hg;have hx:=XS hg;refine adi.2 ⟨λy hy=>?_,hs⟩
   rcases aaJ.1 hy with rfl|hy
   .exact hx
   .exact sG hx (h1 y hy)
  .rename_i hg;rw[adp]at hg;refine adi.2 ⟨λy hy=>?_,ih h2 λy hy=>dh y (by simp[hy])⟩
   rcases sH hy with hy|rfl
   .exact h1 y hy
   .exact UD hg (dh e aE)
def Bs(es:List NE)(name:ByteArray)(n:Int):Prop:=(∃e,e∈es/\e.1.toList=name.toList/\n=e.2)\/(n= -1/\∀e,e∈es->e.1.toList≠name.toList)
def fT(es:List NE)(name:ByteArray):Int:=match es.find? (λe=>decide (e.1.toList=name.toList))with
 |some e=>e.2
 |none=>-1
theorem xx{es:List NE}(hs:FT es){a b:NE}(ha:a∈es)(hb:b∈es)(h:a.1.toList=b.1.toList):a=b:=by
 obtain⟨i,hi⟩:=aaa ha;obtain⟨j,hj⟩:=aaa hb;obtain⟨Jj,fg⟩:=Km.1 hi;obtain⟨y3,lW⟩:=Km.1 hj;have hp:=ab4.1 hs;rcases adk i j with h3|h3|h3
 .have:=hp i j Jj y3 h3;rw[fg,lW,Br,h,o6]at this;cases this
 .subst h3;rw[hi]at hj;cases hj;rfl
 .have:=hp j i y3 Jj h3;rw[fg,lW,Br,h,o6]at this;cases this
theorem i3(es:List NE)(name:ByteArray):Bs es name (fT es name):=by
 unfold fT;cases h:es.find? (λe=>decide (e.1.toList=name.toList))with
 |some e=>
  have h1:=List.find?_some h;exact .inl ⟨e,List.mem_of_find?_eq_some h,by simpa using h1,rfl⟩
 |none=>exact .inr ⟨rfl,λe he=>by simpa using adU.1 h e he⟩
theorem vp{es:List NE}(hs:FT es){name:ByteArray}{n k:Int}(h:Bs es name n)(h2:Bs es name k):n=k:=by
 rcases h with⟨e,he,h3,rfl⟩|⟨rfl,h3⟩
 .rcases h2 with⟨e',mT,h4,rfl⟩|⟨rfl,h4⟩
  .rw[xx hs he mT (h3.trans h4.symm)]
  .exact absurd h3 (h4 e he)
 .rcases h2 with⟨e',mT,h4,rfl⟩|⟨rfl,h4⟩
  .exact absurd h4 (h3 e' mT)
  .rfl
def noD:Dt:= .val (.slice none 0 0)
structure Ob where
 ag:Int
 data:List (List Dt)
 ak:List (List Dt)
 target:ByteArray
 bp:Int
 ar:Dt
 ba:Int
 al:Int
 up:Int
def Ob.enc(o:Ob):List Dt:=[.val (.int .i64 o.ag),.sl 1 o.data,.sl 2 o.ak,.val (.string o.target),.val (.int .i64 o.bp),o.ar,.val (.int .i64 o.ba),.val (.int .i64 o.al),.val (.int .i64 o.up)]
def QQ(l:List Ob):Dt:= .sl 9 (l.map Ob.enc)
def Bt(l:List Ob):CV:= .rv (.one (.ah (QQ l)))
def o7(l:List Ob)(k ag:Int):Bool:=decide (k>=0)&&(decide (k<l.length)&&match l[k.toNat]? with|none=>false|some o=>o.ag !=0&&(ag==0||o.ag==ag))
theorem nv{l:List Ob}{k:Nat}(h:k<l.length):dD (l.map Ob.enc) (k:Nat)=some [.val (.int .i64 l[k].ag),.sl 1 l[k].data,.sl 2 l[k].ak,.val (.string l[k].target),.val (.int .i64 l[k].bp),l[k].ar,.val (.int .i64 l[k].ba),.val (.int .i64 l[k].al),.val (.int .i64 l[k].up)]:=by rw[bG,Tm,vU h];rfl
theorem Nw{l:List Ob}{k:Int}(h:o7 l k 0=true):∃n:Nat,k=n/\n<l.length:=by
 unfold o7 at h;by_cases h0:k>=0
 .obtain⟨n,rfl⟩:∃n:Nat,k=n:=⟨k.toNat,om⟩;by_cases hn:n<l.length
  .exact⟨n,rfl,hn⟩
  .simp[hn]at h
 .simp[h0]at h
structure XT(n:Nat)(ag:Int)(ak:List (List Dt)):Prop where
 ex:∃es:List NE,ak=es.map gl/\FT es/\(∀e,e∈es->0<=e.2/\e.2<(n:Int))/\(ag≠2->es=[])
def oo:List Dt->NE
 | [.val (.string s),.val (.int .i64 n)]=>(s,n)
 |_=>(⟨#[]⟩,0)
theorem nV:∀es:List NE,(es.map gl).map oo=es
 | []=>rfl
 |e::r=>by show(oo (gl e))::((r.map gl).map oo)=_;rw[nV r];rfl
def XU:LC->LC
 | .seq a _=>a
 |x=>x
def bN:LC->LC
 | .seq _ b=>b
 |x=>x
def rf:LC->LC
 | .cX a=>a
 |x=>x
structure bH where
 bm:Int
 dj:Int
def bH.enc(o:bH):List Dt:=[.val (.int .i64 o.bm),.val (.int .i64 o.dj)]
structure bi where
 aL:Bool
 fenced:Bool
 code:Int
 aQ:List eh
def bi.enc(p:bi):List Dt:=[.val (.bool p.aL),.val (.bool p.fenced),.val (.int .i64 p.code),ze p.aQ]
def ff(l:List bH):Dt:= .sl 2 (l.map bH.enc)
def gG(l:List bi):Dt:= .sl 4 (l.map bi.enc)
def eI(l:List Obj)(op:List bH)(ps:List bi):CV:= .rv (.agg [.ah (dm l),.ah (ff op),.ah (gG ps)])
inductive fv(Y:Nat->Nat)(m:Mem)(Z:Nat->Prop)(p:Option Nat):List CC->List CC->Prop
 |nil:fv Y m Z p [] []
 |cons {c c':CC} {r r':List CC} (h:tv Y m Z p c c') (hr:fv Y m Z p r r'):fv Y m Z p (c::r) (c'::r')
theorem fv.get{Y:Nat->Nat}{m:Mem}{Z:Nat->Prop}{p:Option Nat}{cs fj:List CC}(h:fv Y m Z p cs fj):∀(i:Nat)c',fj[i]? =some c'->∃c,cs[i]? =some c/\tv Y m Z p c c':=by
 induction h with
 |nil=>intro i c' h;simp at h
 |cons h hr ih=>
  intro i c' h2;cases i with
  |zero=>simp at h2;subst h2;exact⟨_,rfl,h⟩
  |succ i=>simpa using ih i c' (by simpa using h2)
theorem fv.var{Y:Nat->Nat}{m:Mem}{Z:Nat->Prop}{id:Nat}{cs fj:List CC}(h:fv Y m Z (some id) cs fj):mH Y m Z id (.var cs) (.var fj):= .var h.get
def z3:List CC:=[.aO,.aO,.aO]
theorem bg(ds:List (List Dt)):(aa ds).length=ds.length:=by simp[aa]
theorem dz(Y:Nat->Nat)(ds:List (List Dt)):(aa ds).map (λcs=>cs.map (CC.bb Y))=aa ds:=by simp[aa,adA,CC.bb]
theorem XV{Y:Nat->Nat}{m:Mem}{Z:Nat->Prop}{id:Nat}(l:List bi)(p:bi){c:CC}{X:List (List CC)}(hc:tv Y m Z (some id) c (.ah (ze p.aQ)))(hX:X=aa (l.map bi.enc)++ [[.ah (.val (.bool p.aL)),.ah (.val (.bool p.fenced)),.ah (.val (.int .i64 p.code)),c]]):mH Y m Z id (.row 4 X) (.row 4 (aa ((l++ [p]).map bi.enc))):=by
 subst hX;have e:aa ((l++ [p]).map bi.enc)=aa (l.map bi.enc)++ [p.enc.map .ah]:=by simp[aa]
 rw[e];refine .JU (dz Y _) rfl λj c1 c2 h1 h2=>?_
 match j,h1,h2 with
 |0,h1,h2=>cases h1;cases h2;exact .bb (.ah _)
 |1,h1,h2=>cases h1;cases h2;exact .bb (.ah _)
 |2,h1,h2=>cases h1;cases h2;exact .bb (.ah _)
 |3,h1,h2=>cases h1;cases h2;exact hc
 |n+4,h1,h2=>simp at h1
structure Mk where
 O:List Bool
 P:List Bool
def dp(L:List Bool)(i:Nat):Prop:=L[i]? =some true
def vO(l:List Obj)(z:Int)(i:Nat):Prop:=z=i/\∃o,l[i]? =some o/\o.ag≠0
def vP(ops:List bH)(z:Int)(c:Nat):Prop:=z=c/\c<ops.length
def sE(o:Obj)(z:Int):Prop:=∃nm:ByteArray,gl (nm,z)∈o.ak
def sQ(o:Obj)(z:Int):Prop:=∃q,q∈o.ar/\q.has=true/\q.dF=z
structure Step(l:List Obj)(ops:List bH)(E:Nat->Prop)(a b:Mk):Prop where
 lo:b.O.length=a.O.length
 lp:b.P.length=a.P.length
 mo:∀i,dp a.O i->dp b.O i
 mp:∀c,dp a.P c->dp b.P c
 co:∀i o,dp b.O i->¬dp a.O i->¬E i->l[i]? =some o->(∀z n,sE o z->vO l z n->dp b.O n)/\(∀z c,sQ o z->vP ops z c->dp b.P c)
 cp:∀c o,dp b.P c->¬dp a.P c->ops[c]? =some o->∀n,vO l o.bm n->dp b.O n
structure Cl(l:List Obj)(ops:List bH)(RO RP:Nat->Prop):Prop where
 e:∀i o,RO i->l[i]? =some o->∀z n,sE o z->vO l z n->RO n
 q:∀i o,RO i->l[i]? =some o->∀z c,sQ o z->vP ops z c->RP c
 p:∀c o,RP c->ops[c]? =some o->∀n,vO l o.bm n->RO n
def P3(RO RP:Nat->Prop)(a:Mk):Prop:=(∀i,dp a.O i->RO i)/\(∀c,dp a.P c->RP c)
def eA(L:List Bool):Nat:=(L.filter (λb=>!b)).length
def Mk.mu(a:Mk):Nat:=eA a.O+eA a.P
theorem Step.refl{l:List Obj}{ops:List bH}{E:Nat->Prop}(a:Mk):Step l ops E a a:=
 ⟨rfl,rfl,λ_ h=>h,λ_ h=>h,λ_ _ h h2=>absurd h h2,λ_ _ h h2=>absurd h h2⟩
theorem Step.trans{l:List Obj}{ops:List bH}{E:Nat->Prop}{a b c:Mk}(h1:Step l ops E a b)(h2:Step l ops (λ_=>False) b c):Step l ops E a c:=by
 refine⟨h2.lo.trans h1.lo,h2.lp.trans h1.lp,λi h=>h2.mo i (h1.mo i h),λi h=>h2.mp i (h1.mp i h),λi o hi hn hE ho=>?_,λi o hi hn ho n hv=>?_⟩
 .by_cases hb:dp b.O i
  .obtain⟨k1,k2⟩:=h1.co i o hb hn hE ho;exact⟨λz n hz hv=>h2.mo n (k1 z n hz hv),λz c hz hv=>h2.mp c (k2 z c hz hv)⟩
  .exact h2.co i o hi hb (λh=>h) ho
 .by_cases hb:dp b.P i
  .exact h2.mo n (h1.cp i o hb hn ho n hv)
  .exact h2.cp i o hi hb ho n hv
theorem lh:∀(a b:List Bool),b.length=a.length->(∀i,dp a i->dp b i)->eA b<=eA a
 | [],[],_,_=>Ym _
 | [],_::_,h,_=>by simp at h
 |_::_,[],h,_=>by simp at h
 |x::a,y::b,h,hm=>by
  have ih:=lh a b (by simpa using h) (λi hi=>by simpa[dp]using hm (i+1) (by simpa[dp]using hi))
  have h0:x=true->y=true:=λhx=>by simpa[dp]using hm 0 (by simp[dp,hx])
  unfold eA at ih|-;cases x<;>cases y<;>simp at h0|-<;>omega
theorem rh:∀(a:List Bool)(n:Nat),a[n]? =some false->eA (a.set n true)+1=eA a
 | [],n,h=>by simp at h
 |x::a,0,h=>by simp at h;subst h;simp[eA]
 |x::a,n+1,h=>by
  have ih:=rh a n (by simpa using h)
  unfold eA at ih|-;cases x<;>simp at ih|-<;>omega
theorem Ie{L:List Bool}{n i:Nat}(h:dp L i):dp (L.set n true) i:=by
 unfold dp at h|-;rw[aaW];split
 .rename_i e;subst e;have:=(Km.1 h).1;simp[this]
 .exact h
theorem sI{L:List Bool}{n:Nat}(h:n<L.length):dp (L.set n true) n:=by unfold dp;simp[h]
theorem lB{L:List Bool}{n i:Nat}(h:dp (L.set n true) i):dp L i\/i=n:=by
 unfold dp at h|-;rw[aaW]at h;split at h
 .rename_i e;exact .inr e.symm
 .exact .inl h
structure PO(l:List Obj)(ops:List bH)(z:Int)(a b:Mk):Prop where
 st:Step l ops (λ_=>False) a b
 on:∀n,vO l z n->dp b.O n
 sd:∀RO RP,Cl l ops RO RP->P3 RO RP a->(∀n,vO l z n->RO n)->P3 RO RP b
structure PP(l:List Obj)(ops:List bH)(z:Int)(a b:Mk):Prop where
 st:Step l ops (λ_=>False) a b
 on:∀c,vP ops z c->dp b.P c
 sd:∀RO RP,Cl l ops RO RP->P3 RO RP a->(∀c,vP ops z c->RP c)->P3 RO RP b
theorem PO.none{l:List Obj}{ops:List bH}{z:Int}{a:Mk}(h:∀n,vO l z n->dp a.O n):PO l ops z a a:=⟨.refl a,h,λ_ _ _ h _=>h⟩
theorem PP.none{l:List Obj}{ops:List bH}{z:Int}{a:Mk}(h:∀n,vP ops z n->dp a.P n):PP l ops z a a:=⟨.refl a,h,λ_ _ _ h _=>h⟩
structure z8(l:List Obj)(ops:List bH)(n:Nat)(a b:Mk)(nE nQ:Nat)(es:List (ByteArray×Int))(qs:List di):Prop where
 st:Step l ops (λi=>i=n) a b
 on:dp b.O n
 e:∀j e,j<nE->es[j]? =some e->∀m,vO l e.2 m->dp b.O m
 q:∀j q,j<nQ->qs[j]? =some q->q.has=true->∀c,vP ops q.dF c->dp b.P c
 sd:∀RO RP,Cl l ops RO RP->P3 RO RP a->RO n->P3 RO RP b
theorem z8.start{l:List Obj}{ops:List bH}{n:Nat}{a:Mk}(hn:n<a.O.length)(es:List (ByteArray×Int))(qs:List di):z8 l ops n a ⟨a.O.set n true,a.P⟩ 0 0 es qs:=by
 refine⟨⟨aE,rfl,λi h=>Ie h,λi h=>h,λi o h h2 h3=>?_,λ_ _ h h2=>absurd h h2⟩,sI hn,λj e h=>absurd h (aaU j),λj e h=>absurd h (aaU j),λRO RP _ h hr=>⟨λi hi=>?_,h.2⟩⟩
 .rcases lB h with h|h
  .exact absurd h h2
  .exact absurd h h3
 .rcases lB hi with hi|rfl
  .exact h.1 i hi
  .exact hr
theorem z8.XW{l:List Obj}{ops:List bH}{n:Nat}{a b c:Mk}{j:Nat}{es:List (ByteArray×Int)}{qs:List di}(h:z8 l ops n a b j 0 es qs){e:ByteArray×Int}(he:es[j]? =some e)(hc:PO l ops e.2 b c){o:Obj}(ho:l[n]? =some o)(oh:o.ak=es.map gl):z8 l ops n a c (j+1) 0 es qs:=by
 have hse:sE o e.2:=⟨e.1,by rw[oh];exact adP (Tp he)⟩
 refine⟨h.st.trans hc.st,hc.st.mo n h.on,λi x hi hx m hv=>?_,λi x hi=>absurd hi (aaU i),λRO RP iB ir hr=>hc.sd RO RP iB (h.sd RO RP iB ir hr) λm hv=>iB.e n o hr ho e.2 m hse hv⟩
 rcases aaf i j with p9|p9
 .exact hc.st.mo m (h.e i x p9 hx m hv)
 .have:i=j:=om;subst this;rw[he]at hx;cases hx;exact hc.on m hv
theorem z8.XX{l:List Obj}{ops:List bH}{n:Nat}{a b c:Mk}{k j:Nat}{es:List (ByteArray×Int)}{qs:List di}(h:z8 l ops n a b k j es qs){q:di}(hq:qs[j]? =some q)(hh:q.has=true)(hc:PP l ops q.dF b c){o:Obj}(ho:l[n]? =some o)(hqs:o.ar=qs):z8 l ops n a c k (j+1) es qs:=by
 have hsq:sQ o q.dF:=⟨q,by rw[hqs];exact Tp hq,hh,rfl⟩
 refine⟨h.st.trans hc.st,hc.st.mo n h.on,λi x hi hx m hv=>hc.st.mo m (h.e i x hi hx m hv),λi x hi hx XY m hv=>?_,λRO RP iB ir hr=>hc.sd RO RP iB (h.sd RO RP iB ir hr) λm hv=>iB.q n o hr ho q.dF m hsq hv⟩
 rcases aaf i j with p9|p9
 .exact hc.st.mp m (h.q i x p9 hx XY m hv)
 .have:i=j:=om;subst this;rw[hq]at hx;cases hx;exact hc.on m hv
theorem z8.XZ{l:List Obj}{ops:List bH}{n:Nat}{a b:Mk}{k j:Nat}{es:List (ByteArray×Int)}{qs:List di}(h:z8 l ops n a b k j es qs){q:di}(hq:qs[j]? =some q)(hh:q.has=false):z8 l ops n a b k (j+1) es qs:=by
 refine⟨h.st,h.on,h.e,λi x hi hx XY m hv=>?_,h.sd⟩
 rcases aaf i j with p9|p9
 .exact h.q i x p9 hx XY m hv
 .have:i=j:=om;subst this;rw[hq]at hx;cases hx;rw[hh]at XY;cases XY
theorem z8.gQ{l:List Obj}{ops:List bH}{n:Nat}{a b:Mk}{es:List (ByteArray×Int)}{qs:List di}(h:z8 l ops n a b es.length qs.length es qs){o:Obj}(ho:l[n]? =some o)(hk:o.ag≠0)(oh:o.ak=es.map gl)(hqs:o.ar=qs):PO l ops (n:Int) a b:=by
 refine⟨⟨h.st.lo,h.st.lp,h.st.mo,h.st.mp,λi x hi Qv _ hx=>?_,h.st.cp⟩,λm hv=>?_,λRO RP iB ir hr=>h.sd RO RP iB ir (hr n ⟨rfl,o,ho,hk⟩)⟩
 .by_cases ir:i=n
  .subst ir;rw[ho]at hx;cases hx;refine⟨λz m⟨nm,hm⟩hv=>?_,λz c⟨q,hq,hh,hz⟩hv=>?_⟩
   .rw[oh]at hm;obtain⟨e,he,nT⟩:=aal.1 hm;have:e.2=z:=by simp[gl]at nT;exact nT.2
    subst this;obtain⟨j,hj⟩:=aaa he;exact h.e j e (Km.1 hj).1 hj m hv
   .rw[hqs]at hq;obtain⟨j,hj⟩:=aaa hq;subst hz;exact h.q j q (Km.1 hj).1 hj hh c hv
  .exact h.st.co i x hi Qv ir hx
 .have:m=n:=by have:=hv.1;omega
  subst this;exact h.on
theorem PP.of{l:List Obj}{ops:List bH}{a b:Mk}{c:Nat}(hc:c<a.P.length){o:bH}(ho:ops[c]? =some o)(h:PO l ops o.bm ⟨a.O,a.P.set c true⟩ b):PP l ops (c:Int) a b:=by
 have lV:Step l ops (λ_=>False) a b:=by
  refine⟨h.st.lo,by have:=h.st.lp;simpa using this,h.st.mo,λi hi=>h.st.mp i (Ie hi),λi x hi Qv=>h.st.co i x hi Qv,λi x hi Qv hx n hv=>?_⟩
  by_cases hic:i=c
  .subst hic;rw[ho]at hx;cases hx;exact h.on n hv
  .exact h.st.cp i x hi (λhs=>(lB hs).elim Qv hic) hx n hv
 refine⟨lV,λd hd=>?_,λRO RP iB ir hr=>?_⟩
 .have:d=c:=by have:=hd.1;omega
  subst this;exact h.st.mp d (sI hc)
 .have hrc:RP c:=hr c ⟨rfl,(Km.1 ho).1⟩;exact h.sd RO RP iB ⟨ir.1,λi hi=>(lB hi).elim (ir.2 i) λe=>e▸hrc⟩ λn hv=>iB.p c o hrc ho n hv
def c142:LF:= ⟨88,[],(.seq (.seq (.ai [qm 9 1,qu 10 (.aJ .lss 9 (qi 0)),qm 11 10,qg 12 (.aM 1) 11 false,qg 13 (.aM 0) 11 false,qg 14 (.aP 13) 11 false,qg 15 (.b8 1 14) 11 false,qg 16 (.load false 1 15) 11 false,qg 17 (.len 1 16) 11 false,qg 18 (.aJ .geq 12 17) 11 false,qu 19 (.pick 11 (qb true) 18),qm 20 19,qg 21 (.aM 0) 20 false,qg 22 (.aP 21) 20 false,qg 23 (.b8 1 22) 20 false,qg 24 (.load false 1 23) 20 false,qg 25 (.aM 1) 20 false,qg 26 (.cz 1 24 25) 20 false,qg 27 (.load false 1 26) 20 false,qu 28 (.pick 20 (qb true) 27),qm 29 28,qg 30 (.aM 0) 29 false,qg 31 (.aP 30) 29 false,qg 32 (.b8 0 31) 29 false,qg 33 (.load false 1 32) 29 false,qg 34 (.aP 33) 29 false,qg 35 (.b8 0 34) 29 false,qg 36 (.load false 1 35) 29 false,qg 37 (.aM 1) 29 false,qg 38 (.cz 9 36 37) 29 false,qg 39 (.b8 0 38) 29 false,qg 40 (.load false 1 39) 29 false,qg 41 (.aJ .eql 40 (qi 0)) 29 false,qu 42 (.pick 29 (qb true) 41)]) (.cond 42 .ret .skip)) (.seq (.ai [qm 43 0,qu 44 (.aP 43),qf 45 1 44,ql 46 45,qm 47 1,qu 48 (.cz 1 46 47),qw (.store 1 48 (qb true))]) (.seq (.ai [qm 49 0,qu 50 (.aP 49),qf 51 0 50,ql 52 51,qu 53 (.aP 52),qf 54 0 53,ql 55 54,qm 56 1,qu 57 (.cz 9 55 56),qm 4 57]) (.seq (.seq (.ai [qm 58 4,qu 59 (.aP 58),qf 60 2 59,ql 61 60,qu 62 (.len 1 61),qu 63 (.aM (qi 0))]) (.block 0 (.loop (.seq (.ai [qu 64 (.aJ .lss 63 62)]) (.seq (.cond 64 .skip (.exit 0)) (.seq (.block 1 (.seq (.ai [qu 65 (.cz 2 61 63),qL 66 2 65,qu 6 (.alloc [(.ah (.val (.string ⟨#[]⟩))),qd 0]),qw (.store 2 6 66)]) (.ai [qm 67 0,qf 68 1 6,ql 69 68,qu 70 (qc 142 [67,69])]))) (.ai [qu 71 (.aJ .add 63 (qi 1)),qm 63 71]))))))) (.seq (.ai [qm 72 4,qu 73 (.aP 72),qf 74 5 73,ql 75 74,qu 76 (.len 1 75),qu 77 (.aM (qi 0))]) (.block 2 (.loop (.seq (.ai [qu 78 (.aJ .lss 77 76)]) (.seq (.cond 78 .skip (.exit 2)) (.seq (.block 3 (.seq (.ai [qu 79 (.cz 4 75 77),qL 80 4 79,qu 8 (.alloc [.aO,(.ah (.val (.bool false))),qd 0,qd 0]),qw (.store 4 8 80)]) (.seq (.ai [qf 81 1 8,ql 82 81]) (.cond 82 (.ai [qm 83 0,qf 84 2 8,qL 85 2 84,qu 86 (qc 143 [83,85])]) .skip)))) (.ai [qu 87 (.aJ .add 77 (qi 1)),qm 77 87])))))))))))⟩
def c143:LF:= ⟨48,[],(.seq (.ai [qu 3 (.box 1)]) (.seq (.seq (.bV [qf 4 0 3,ql 5 4,qu 6 (.aJ .lss 5 (qi 0)),qm 7 6,qg 8 (.b8 0 3) 7 false,qg 9 (.load false 1 8) 7 false,qg 10 (.aM 0) 7 false,qg 11 (.aP 10) 7 false,qg 12 (.b8 2 11) 7 false,qg 13 (.load false 1 12) 7 false,qg 14 (.len 1 13) 7 false,qg 15 (.aJ .geq 9 14) 7 false,qu 16 (.pick 7 (qb true) 15),qm 17 16,qg 18 (.aM 0) 17 false,qg 19 (.aP 18) 17 false,qg 20 (.b8 2 19) 17 false,qg 21 (.load false 1 20) 17 false,qg 22 (.b8 0 3) 17 false,qg 23 (.load false 1 22) 17 false,qg 24 (.cz 1 21 23) 17 false,qg 25 (.load false 1 24) 17 false,qu 26 (.pick 17 (qb true) 25)] [eK 23 0 .nil]) (.cond 26 .ret .skip)) (.seq (.bV [qm 27 0,qu 28 (.aP 27),qf 29 2 28,ql 30 29,qf 31 0 3,ql 32 31,qu 33 (.cz 1 30 32),qw (.store 1 33 (qb true))] [(eK 7 0 (.cons 7 (some []) .nil))]) (.bV [qm 34 0,qm 35 0,qu 36 (.aP 35),qf 37 0 36,ql 38 37,qu 39 (.aP 38),qf 40 1 39,ql 41 40,qf 42 0 3,ql 43 42,qu 44 (.cz 2 41 43),qf 45 0 44,ql 46 45,qu 47 (qc 142 [34,46])] [(eK 13 0 (.cons 13 (some []) .nil))]))))⟩
def bE(b:Bool):List Dt:=[.val (.bool b)]
theorem l142:bz prog f142=some c142:=by kernel_rfl
theorem l143:bz prog Tryz.f143=some c143:=by kernel_rfl
def zf(l:List Obj)(ops:List bH)(a:Mk):Prop:=a.O.length=l.length/\a.P.length=ops.length
theorem ua{L:List Bool}{n:Nat}(h:n<L.length):cF (aa (L.map bE)) n=some [.ah (.val (.bool L[n]))]:=bK bE L h
theorem Aa{L:List Bool}{n:Nat}(h:n<L.length):dZ (n:Int) (lenOf (aa (L.map bE)).length 0 none)=some n:=bZ (by show n<(aa (L.map bE)).length;rw[bg,Pj];exact h)
theorem Nx{L:List Bool}{n:Nat}:aV (aa (L.map bE)) n [CC.ah (.val (.bool true))]=aa ((L.set n true).map bE):=nU bE L n true
theorem z8.S7{l:List Obj}{ops:List bH}{n:Nat}{a b:Mk}{k j:Nat}{es:List (ByteArray×Int)}{qs:List di}(h:z8 l ops n a b k j es qs):b.mu<=(⟨a.O.set n true,a.P⟩:Mk).mu:=by
 refine Nat.add_le_add (lh _ _ (by rw[aaF];exact h.st.lo) λi hi=>?_) (lh _ _ h.st.lp h.st.mp)
 rcases lB hi with hi|rfl
 .exact h.st.mo i hi
 .exact h.on
theorem QR{qs:List di}{k:Nat}(h:k<qs.length):dD (qs.map di.enc) (k:Nat)=some [.sl 1 qs[k].data,.val (.bool qs[k].has),.val (.int .i64 qs[k].dF),.val (.int .i64 qs[k].bU)]:=by rw[bG,Tm,vU h];rfl
structure StM where
 j:Nat
 b:Mk
def vR(l:List Obj)(ops:List bH)(ps:List bi)(a:Mk):Mem:=
 [.var [.ptr 1 0,.row 2 1 0 none,.row 3 1 0 none],.var [.row 4 9 0 none,.row 5 2 0 none,.row 6 4 0 none],.row 1 (aa (a.O.map bE)),.row 1 (aa (a.P.map bE)),.row 9 (aa (l.map Obj.enc)),.row 2 (aa (ops.map bH.enc)),.row 4 (aa (ps.map bi.enc))]
theorem xy{l:List Obj}{ops:List bH}{ps:List bi}{a:Mk}{f:Nat}{args:List CV}{Q:Mk->Prop}(h:ap prog f args (vR l ops ps a) (λr m=>∃b,Q b/\r= .bD []/\m=vR l ops ps b))(x:Bk)(eX:args=args.map (CV.bb (sg [0,1,2,3,4,5,6] 8))){K:CV->Mem->Prop}(hK:∀b,Q b->K (.bD []) [.var [.ptr 1 0,.row 2 1 0 none,.row 3 1 0 none],.var [.row 4 9 0 none,.row 5 2 0 none,.row 6 4 0 none],.row 1 (aa (b.O.map bE)),.row 1 (aa (b.P.map bE)),.row 9 (aa (l.map Obj.enc)),.row 2 (aa (ops.map bH.enc)),.row 4 (aa (ps.map bi.enc)),x]):
  ap prog f args [.var [.ptr 1 0,.row 2 1 0 none,.row 3 1 0 none],.var [.row 4 9 0 none,.row 5 2 0 none,.row 6 4 0 none],.row 1 (aa (a.O.map bE)),.row 1 (aa (a.P.map bE)),.row 9 (aa (l.map Obj.enc)),.row 2 (aa (ops.map bH.enc)),.row 4 (aa (ps.map bi.enc)),x] K:=by
 refine bu [0,1,2,3,4,5,6] 8 rfl rfl rfl rfl (args0:=args) eX (λi b' hi=>?_) h (λr m1 hr=>?_)
 .match i,hi with
  |0,hi=>cases hi;exact .inr ⟨λh=>h,_,rfl,.eq rfl aE⟩
  |1,hi=>cases hi;exact .inr ⟨λh=>h,_,rfl,.eq rfl aE⟩
  |2,hi=>cases hi;exact .inr ⟨λh=>h,_,rfl,.bL rfl⟩
  |3,hi=>cases hi;exact .inr ⟨λh=>h,_,rfl,.bL rfl⟩
  |4,hi=>cases hi;exact .inr ⟨λh=>h,_,rfl,.bL rfl⟩
  |5,hi=>cases hi;exact .inr ⟨λh=>h,_,rfl,.bL rfl⟩
  |6,hi=>cases hi;exact .inr ⟨λh=>h,_,rfl,.bL rfl⟩
  |n+7,hi=>simp[vR]at hi
 .obtain⟨b,hb,rfl,rfl⟩:=hr;refine⟨Ym _,?_⟩;have e2:(Bk.row 1 (aa (b.O.map bE))).bb (sg [0,1,2,3,4,5,6] 8)= .row 1 (aa (b.O.map bE)):=by simp only[Bk.bb,dz]
  have e3:(Bk.row 1 (aa (b.P.map bE))).bb (sg [0,1,2,3,4,5,6] 8)= .row 1 (aa (b.P.map bE)):=by simp only[Bk.bb,dz]
  show K _ [.var [.ptr 1 0,.row 2 1 0 none,.row 3 1 0 none],.var [.row 4 9 0 none,.row 5 2 0 none,.row 6 4 0 none],(Bk.row 1 (aa (b.O.map bE))).bb (sg [0,1,2,3,4,5,6] 8),(Bk.row 1 (aa (b.P.map bE))).bb (sg [0,1,2,3,4,5,6] 8),(Bk.row 9 (aa (l.map Obj.enc))).bb (sg [0,1,2,3,4,5,6] 8),(Bk.row 2 (aa (ops.map bH.enc))).bb (sg [0,1,2,3,4,5,6] 8),(Bk.row 4 (aa (ps.map bi.enc))).bb (sg [0,1,2,3,4,5,6] 8),x];have e4:(Bk.row 9 (aa (l.map Obj.enc))).bb (sg [0,1,2,3,4,5,6] 8)= .row 9 (aa (l.map Obj.enc)):=by simp only[Bk.bb,dz]
  have e5:(Bk.row 2 (aa (ops.map bH.enc))).bb (sg [0,1,2,3,4,5,6] 8)= .row 2 (aa (ops.map bH.enc)):=by simp only[Bk.bb,dz]
  have e6:(Bk.row 4 (aa (ps.map bi.enc))).bb (sg [0,1,2,3,4,5,6] 8)= .row 4 (aa (ps.map bi.enc)):=by simp only[Bk.bb,dz]
  rw[e2,e3,e4,e5,e6];exact hK b hb
theorem FV(l:List Obj)(ops:List bH)(ps:List bi)(g:∀o,o∈l->o.sm)(N:Nat)(V7:∀a z,zf l ops a->a.mu<N->ap prog 142 [.rv (.one (.ptr 0 0)),am .i64 z] (vR l ops ps a) (λr m=>∃b,PO l ops z a b/\r= .bD []/\m=vR l ops ps b))(ihP:∀a z w,zf l ops a->a.mu<N->ap prog 143 [.rv (.one (.ptr 0 0)),.rv (.agg [.ah (.val (.int .i64 z)),.ah (.val (.int .i64 w))])] (vR l ops ps a) (λr m=>∃b,PP l ops z a b/\r= .bD []/\m=vR l ops ps b))(a:Mk)(z:Int)(hbs:zf l ops a)(X0:a.mu<=N):body prog c142 [.rv (.one (.ptr 0 0)),am .i64 z] (vR l ops ps a) (λr m=>∃b,PO l ops z a b/\r= .bD []/\m=vR l ops ps b):=by
 have hlen:∀L:List Bool,(aa (L.map bE)).length=L.length:=λL=>by rw[bg,Pj]
 obtain⟨hO,hP⟩:=hbs;refine aN (λh=>?_) (λh0=>?_)
 .exact⟨a,.none λn hv=>by have:=hv.1;have h:z<0:=h;omega,rfl,rfl⟩
 obtain⟨n,rfl⟩:∃n:Nat,z=n:=⟨z.toNat,by have h:¬z<0:=h0;omega⟩
 refine aN (λh=>?_) (λh1=>?_)
 .refine⟨a,.none λm hv=>?_,rfl,rfl⟩
  obtain⟨hz,o,ho,_⟩:=hv;have h:(n:Int)>=((aa (a.O.map bE)).length:Int):=h;rw[hlen]at h;have:=(Km.1 ho).1;omega
 have hn:n<a.O.length:=by have h:¬(n:Int)>=((aa (a.O.map bE)).length:Int):=h1;rw[hlen]at h;omega
 have kG:n<l.length:=om;refine af (Aa hn) ?_;refine af (ua hn) ?_;refine aG (λh2=>?_) (λh2=>?_)
 .refine⟨a,.none λm hv=>?_,rfl,rfl⟩
  have:m=n:=by have:=hv.1;omega
  subst this;exact(vU hn).trans (congrArg some h2)
 have Ny:dZ (n:Int) (lenOf (aa (l.map Obj.enc)).length 0 none)=some n:=bZ (by show n<(aa (l.map Obj.enc)).length;rw[bg,Pj];exact kG)
 have P4:=bK Obj.enc l kG;have Bd:=vU kG;have Fk:=g _ (aaw kG);generalize l[n]=o at P4 Bd Fk;obtain⟨ag,data,ak,target,bp,ar,ba,al,up⟩:=o;obtain⟨es,rfl⟩:∃es:List (ByteArray×Int),ak=es.map gl:=Fk.t.2.1;refine af Ny ?_;refine af P4 ?_;refine bs (λh3=>?_) (λh3=>?_)
 .refine⟨a,.none λm hv=>?_,rfl,rfl⟩
  obtain⟨hz,o2,ia,hk⟩:=hv;have:m=n:=om;subst this;rw[Bd]at ia;cases ia;exact absurd h3 hk
 have h3:ag≠0:=h3;have M3:es.length<=8:=by have:=Fk.e;simpa using this
 have Ic:ar.length<=8:=Fk.q;have zg:=z8.start (l:=l) (ops:=ops) hn es ar;have X1:(⟨a.O.set n true,a.P⟩:Mk).mu<N:=by have:=rh a.O n ((vU hn).trans (congrArg some h2));have X0:eA a.O+eA a.P<=N:=X0;show eA (a.O.set n true)+eA a.P<N;omega
 refine af (Aa hn) ?_;refine af (ua hn) ?_;refine af Ny ?_;refine af P4 ?_;refine bc (λ(s:StM)=>s.j<=es.length/\z8 l ops n a s.b s.j 0 es ar) [0,4,61,62] (λs=>[(63,am .i64 (s.j:Nat))]) (λs=>[.var [.ptr 1 0,.row 2 1 0 none,.row 3 1 0 none],.var [.row 4 9 0 none,.row 5 2 0 none,.row 6 4 0 none],.row 1 (aa (s.b.O.map bE)),.row 1 (aa (s.b.P.map bE)),.row 9 (aa (l.map Obj.enc)),.row 2 (aa (ops.map bH.enc)),.row 4 (aa (ps.map bi.enc))]) (λs=>es.length-s.j) ⟨0,_⟩ ⟨aaj _,zg⟩ ?_ (λs hs=>?_)
 .refine View.o1 7 [0,1,2,3,4,5,6] [] ?_
  .exact .pe rfl rfl rfl (.pe rfl rfl rfl (.pt rfl rfl (.bL Nx) (.pr rfl rfl rfl (.pr rfl rfl rfl (.pr rfl rfl rfl (.pn rfl rfl rfl))))))
 obtain⟨j,b⟩:=s;obtain⟨hj,hM⟩:=hs;have hj:j<=es.length:=hj;have hM:z8 l ops n a b j 0 es ar:=hM;refine aN (λh=>?_) (λh=>?_)
 .have ez:j<es.length:=by have h:(j:Int)<((es.map gl).length:Int):=h;rw[Pj]at h;omega
  refine af (QO ez) ?_;have Xq:=hM.S7;refine xy (V7 b es[j].2 ⟨hM.st.lo.trans hO,hM.st.lp.trans hP⟩ om) _ rfl λc hc=>?_
  refine⟨⟨j+1,c⟩,⟨ez,hM.XW (vU ez) hc Bd rfl⟩,(show es.length-(j+1)<es.length-j by omega),View.o2 8 [0,1,2,3,4,5,6] [] ?_⟩
  .exact .au
 .have ET:j=es.length:=by have h:¬(j:Int)<((es.map gl).length:Int):=h;rw[Pj]at h;omega
  subst ET;refine af P4 ?_;refine bc (λ(s:StM)=>s.j<=ar.length/\z8 l ops n a s.b es.length s.j es ar) [0,75,76] (λs=>[(77,am .i64 (s.j:Nat))]) (λs=>[.var [.ptr 1 0,.row 2 1 0 none,.row 3 1 0 none],.var [.row 4 9 0 none,.row 5 2 0 none,.row 6 4 0 none],.row 1 (aa (s.b.O.map bE)),.row 1 (aa (s.b.P.map bE)),.row 9 (aa (l.map Obj.enc)),.row 2 (aa (ops.map bH.enc)),.row 4 (aa (ps.map bi.enc))]) (λs=>ar.length-s.j) ⟨0,b⟩ ⟨aaj _,hM⟩ ?_ (λs hs=>?_)
  .refine View.o1 7 [0,1,2,3,4,5,6] [] ?_
   .exact .au
  clear hM hj h;obtain⟨j,b⟩:=s;obtain⟨hj,hM⟩:=hs;have hj:j<=ar.length:=hj;have hM:z8 l ops n a b es.length j es ar:=hM;refine aN (λh=>?_) (λh=>?_)
  .have ez:j<ar.length:=by have h:(j:Int)<((ar.map di.enc).length:Int):=h;rw[Pj]at h;omega
   have Um:=vU ez;refine af (QR ez) ?_;have Xq:=hM.S7;refine aG (λhh=>?_) (λhh=>?_)
   .refine xy (ihP b ar[j].dF ar[j].bU ⟨hM.st.lo.trans hO,hM.st.lp.trans hP⟩ om) _ rfl λc hc=>?_
    refine⟨⟨j+1,c⟩,⟨ez,hM.XX Um hh hc Bd rfl⟩,(show ar.length-(j+1)<ar.length-j by omega),View.o2 8 [0,1,2,3,4,5,6] [] ?_⟩
    .exact .au
   .skip
    refine⟨⟨j+1,b⟩,⟨ez,hM.XZ Um hh⟩,(show ar.length-(j+1)<ar.length-j by omega),View.o2 8 [0,1,2,3,4,5,6] [] ?_⟩
    .exact .au
  .have ET:j=ar.length:=by have h:¬(j:Int)<((ar.map di.enc).length:Int):=h;rw[Pj]at h;omega
   subst ET;exact⟨b,hM.gQ Bd h3 rfl rfl,rfl,rfl⟩
theorem FW(l:List Obj)(ops:List bH)(ps:List bi)(N:Nat)(V7:∀a z,zf l ops a->a.mu<N->ap prog 142 [.rv (.one (.ptr 0 0)),am .i64 z] (vR l ops ps a) (λr m=>∃b,PO l ops z a b/\r= .bD []/\m=vR l ops ps b))(a:Mk)(z w:Int)(hbs:zf l ops a)(X0:a.mu<=N):body prog c143 [.rv (.one (.ptr 0 0)),.rv (.agg [.ah (.val (.int .i64 z)),.ah (.val (.int .i64 w))])] (vR l ops ps a) (λr m=>∃b m',PP l ops z a b/\r= .bD []/\m=vR l ops ps b++m'):=by
 have hlen:∀L:List Bool,(aa (L.map bE)).length=L.length:=λL=>by rw[bg,Pj]
 obtain⟨hO,hP⟩:=hbs;refine aN (λh=>?_) (λh0=>?_)
 .exact⟨a,[_],.none λn hv=>by have:=hv.1;have h:z<0:=h;omega,rfl,rfl⟩
 obtain⟨n,rfl⟩:∃n:Nat,z=n:=⟨z.toNat,by have h:¬z<0:=h0;omega⟩
 refine aN (λh=>?_) (λh1=>?_)
 .refine⟨a,[_],.none λm hv=>?_,rfl,rfl⟩
  obtain⟨hz,ho⟩:=hv;have h:(n:Int)>=((aa (a.P.map bE)).length:Int):=h;rw[hlen]at h;omega
 have hn:n<a.P.length:=by have h:¬(n:Int)>=((aa (a.P.map bE)).length:Int):=h1;rw[hlen]at h;omega
 have kG:n<ops.length:=om;refine af (Aa hn) ?_;refine af (ua hn) ?_;refine aG (λh2=>?_) (λh2=>?_)
 .refine⟨a,[_],.none λm hv=>?_,rfl,rfl⟩
  have:m=n:=by have:=hv.1;omega
  subst this;exact(vU hn).trans (congrArg some h2)
 have X1:(⟨a.O,a.P.set n true⟩:Mk).mu<N:=by have:=rh a.P n ((vU hn).trans (congrArg some h2));have X0:eA a.O+eA a.P<=N:=X0;show eA a.O+eA (a.P.set n true)<N;omega
 refine af (Aa hn) ?_;refine af (ua hn) ?_;refine⟨trivial,?_⟩;have Ny:dZ (n:Int) (lenOf (aa (ops.map bH.enc)).length 0 none)=some n:=bZ (by show n<(aa (ops.map bH.enc)).length;rw[bg,Pj];exact kG)
 refine af Ny ?_;refine af (bK bH.enc ops kG) ?_;refine pW (qB:=[.rv (.one (.ptr 0 0)),am .i64 ops[n].bm]) (m':=vR l ops ps ⟨a.O,a.P.set n true⟩ ++ [.var [.ah (.val (.int .i64 (n:Nat))),.ah (.val (.int .i64 w))]]) (View.o 8 [0,1,2,3,4,5,6,7] [] (.eq rfl (.eq rfl .nil))
  (.pe rfl rfl rfl (.pe rfl rfl rfl (.pr rfl rfl rfl (.pt rfl rfl (.bL Nx) (.pr rfl rfl rfl (.pr rfl rfl rfl (.pr rfl rfl rfl (.pm rfl rfl rfl))))))))) ?_
 refine xy (V7 ⟨a.O,a.P.set n true⟩ ops[n].bm ⟨hO,by simpa using hP⟩ X1) _ rfl λc hc=>?_
 exact⟨trivial,c,[_],PP.of hn (vU kG) hc,rfl,rfl⟩
theorem o8(l:List Obj)(ops:List bH)(ps:List bi)(g:∀o,o∈l->o.sm):∀N,
  (∀a z,zf l ops a->a.mu<N->ap prog 142 [.rv (.one (.ptr 0 0)),am .i64 z] (vR l ops ps a) (λr m=>∃b,PO l ops z a b/\r= .bD []/\m=vR l ops ps b))/\
  (∀a z w,zf l ops a->a.mu<N->ap prog 143 [.rv (.one (.ptr 0 0)),.rv (.agg [.ah (.val (.int .i64 z)),.ah (.val (.int .i64 w))])] (vR l ops ps a) (λr m=>∃b,PP l ops z a b/\r= .bD []/\m=vR l ops ps b))
 |0=>⟨λ_ _ _ h=>absurd h (aaU _),λ_ _ _ _ h=>absurd h (aaU _)⟩
 |N+1=>by
  obtain⟨V7,ihP⟩:=o8 l ops ps g N;refine⟨λa z hb hm=>aZ func142 l142 (FV l ops ps g N V7 ihP a z hb om),λa z w hb hm=>?_⟩
  refine bJ (aZ func143 l143 (FW l ops ps N V7 a z w hb om)) λr m1⟨b,m',hp,hr,Jp⟩=>?_
  subst hr Jp;refine⟨.bD [],vR l ops ps b,View.of (7+m'.length) [0,1,2,3,4,5,6] [] (by simp[vR];omega) rfl rfl rfl rfl (by simp[eP]<;>omega) (.put (.bD rfl λi r r' h=>by simp at h) .nil) ?_,⟨b,hp,rfl,rfl⟩⟩
  exact .au
def c119:LF:= ⟨54,[.tmp 2],(.seq (.ai [qu 2 (.aM (.c (.rv (.one (.ah (.val (.pointer none)))))))]) (.seq (.bV [qm 8 0,qm 9 0,qu 10 (.aP 9),qf 11 0 10,ql 12 11,qu 13 (.len 1 12),qu 14 (.pP 1 1 [(.ah (.val (.bool false)))] 13 13),qm 15 0,qu 16 (.aP 15),qf 17 1 16,ql 18 17,qu 19 (.len 1 18),qu 20 (.pP 1 1 [(.ah (.val (.bool false)))] 19 19),qu 21 (.build [(.ah (.val (.pointer none))),.aO,.aO] [(0,1,8),(1,1,14),(2,1,20)]),qu 22 (.box 21),qm 3 22] [(eK 6 0 (eK 5 7 (.ww (.cons 6 (some [11,10]) (.cons 12 (some [5,4]) (.cons 13 none (.cons 14 (some []) (.cons 15 none .nil))))) (.cons 12 (some [5,4]) (.cons 6 (some [11,10]) (.cons 13 none (.cons 14 (some []) (.cons 15 none .nil))))))))]) (.cX (.seq (.ai [qm 23 3,qu 24 (qc 142 [23,qi 0])]) (.seq (.seq (.ai [qm 25 0,qu 26 (.aP 25),qf 27 2 26,ql 28 27,qu 29 (.len 1 28),qu 30 (.aM (qi 0))]) (.block 0 (.loop (.seq (.ai [qu 31 (.aJ .lss 30 29)]) (.seq (.cond 31 .skip (.exit 0)) (.seq (.block 1 (.seq (.ai [qu 32 (.cz 4 28 30),qL 33 4 32,qu 5 (.alloc [(.ah (.val (.bool false))),(.ah (.val (.bool false))),qd 0,.aO]),qw (.store 4 5 33)]) (.seq (.ai [qf 34 3 5,ql 35 34,qu 36 (.len 1 35),qu 37 (.aM (qi 0))]) (.block 2 (.loop (.seq (.ai [qu 38 (.aJ .lss 37 36)]) (.seq (.cond 38 .skip (.exit 2)) (.seq (.block 3 (.seq (.ai [qu 39 (.cz 3 35 37),qL 40 3 39,qu 7 (.alloc [(.ah (.val (.bool false))),qd 0,qd 0]),qw (.store 3 7 40)]) (.seq (.ai [qf 41 0 5,ql 42 41,qm 43 42,qg 44 (.b8 0 7) 43 true,qg 45 (.load false 1 44) 43 true,qu 46 (.pick 43 45 (qb false))]) (.cond 46 (.ai [qm 47 3,qf 48 1 7,qL 49 2 48,qu 50 (qc 143 [47,49])]) .skip)))) (.ai [qu 51 (.aJ .add 37 (qi 1)),qm 37 51]))))))))) (.ai [qu 52 (.aJ .add 30 (qi 1)),qm 30 52]))))))) (.seq (.ai [qm 53 3,qm 2 53]) .ret))))))⟩
def Ig(l:List Obj)(ops:List bH)(ps:List bi)(RO RP:Nat->Prop):Prop:=
 (∀n,vO l 0 n->RO n)/\∀(p:Nat)pr,ps[p]? =some pr->pr.aL=true->∀s,s∈pr.aQ->s.has=true->∀c,vP ops s.dF c->RP c
structure gY(l:List Obj)(ops:List bH)(ps:List bi)(b:Mk):Prop where
 len:zf l ops b
 nw:Ig l ops ps (dp b.O) (dp b.P)
 cl:Cl l ops (dp b.O) (dp b.P)
 oq:∀RO RP,Cl l ops RO RP->Ig l ops ps RO RP->P3 RO RP b
def Ab(l:List Obj)(ops:List bH):Mk:=⟨List.replicate l.length false,List.replicate ops.length false⟩
theorem xz{n i:Nat}:¬dp (List.replicate n false) i:=by
 intro h;unfold dp at h;rw[adx]at h;split at h<;>cases h
structure dU(l:List Obj)(ops:List bH)(ps:List bi)(b:Mk)(p j:Nat):Prop where
 st:Step l ops (λ_=>False) (Ab l ops) b
 r0:∀n,vO l 0 n->dp b.O n
 rp:∀(i:Nat)pr,i<p->ps[i]? =some pr->pr.aL=true->∀s,s∈pr.aQ->s.has=true->∀c,vP ops s.dF c->dp b.P c
 rj:∀pr,ps[p]? =some pr->pr.aL=true->∀(t:Nat)s,t<j->pr.aQ[t]? =some s->s.has=true->∀c,vP ops s.dF c->dp b.P c
 oq:∀RO RP,Cl l ops RO RP->Ig l ops ps RO RP->P3 RO RP b
theorem dU.start{l:List Obj}{ops:List bH}{ps:List bi}{b:Mk}(h:PO l ops 0 (Ab l ops) b):dU l ops ps b 0 0:=
 ⟨h.st,h.on,λi pr h=>absurd h (aaU i),λpr _ _ t s h=>absurd h (aaU t),λRO RP iB hr=>h.sd RO RP iB ⟨λi hi=>absurd hi xz,λi hi=>absurd hi xz⟩ hr.1⟩
theorem dU.S8{l:List Obj}{ops:List bH}{ps:List bi}{b c:Mk}{p j:Nat}(h:dU l ops ps b p j){pr:bi}(vS:ps[p]? =some pr)(bC:pr.aL=true){s:eh}(hs:pr.aQ[j]? =some s)(hh:s.has=true)(hc:PP l ops s.dF b c):dU l ops ps c p (j+1):=by
 refine⟨h.st.trans hc.st,λn hn=>hc.st.mo n (h.r0 n hn),λi x hi hx hl y hy P5 d hd=>hc.st.mp d (h.rp i x hi hx hl y hy P5 d hd),λx hx hl t y ht hy P5 d hd=>?_,λRO RP iB hr=>hc.sd RO RP iB (h.oq RO RP iB hr) λd hd=>hr.2 p pr vS bC s (Tp hs) hh d hd⟩
 rcases aaf t j with LQ|LQ
 .exact hc.st.mp d (h.rj x hx hl t y LQ hy P5 d hd)
 .have:t=j:=om;subst this;rw[vS]at hx;cases hx;rw[hs]at hy;cases hy;exact hc.on d hd
theorem dU.skip{l:List Obj}{ops:List bH}{ps:List bi}{b:Mk}{p j:Nat}(h:dU l ops ps b p j){pr:bi}(vS:ps[p]? =some pr){s:eh}(hs:pr.aQ[j]? =some s)(hh:pr.aL=true->s.has=false):dU l ops ps b p (j+1):=by
 refine⟨h.st,h.r0,h.rp,λx hx hl t y ht hy P5 d hd=>?_,h.oq⟩
 rcases aaf t j with LQ|LQ
 .exact h.rj x hx hl t y LQ hy P5 d hd
 .have:t=j:=om;subst this;rw[vS]at hx;cases hx;rw[hs]at hy;cases hy;rw[hh hl]at P5;cases P5
theorem dU.next{l:List Obj}{ops:List bH}{ps:List bi}{b:Mk}{p:Nat}{pr:bi}(vS:ps[p]? =some pr)(h:dU l ops ps b p pr.aQ.length):dU l ops ps b (p+1) 0:=by
 refine⟨h.st,h.r0,λi x hi hx hl y hy P5 d hd=>?_,λx _ _ t y ht=>absurd ht (aaU t),h.oq⟩
 rcases aaf i p with V8|V8
 .exact h.rp i x V8 hx hl y hy P5 d hd
 .have:i=p:=om;subst this;rw[vS]at hx;cases hx;obtain⟨t,ht⟩:=aaa hy;exact h.rj pr vS hl t y (Km.1 ht).1 ht P5 d hd
theorem dU.gQ{l:List Obj}{ops:List bH}{ps:List bi}{b:Mk}(h:dU l ops ps b ps.length 0):gY l ops ps b:=by
 refine⟨⟨by have:=h.st.lo;simpa[Ab]using this,by have:=h.st.lp;simpa[Ab]using this⟩,⟨h.r0,λp pr hp hl s hs hh c hc=>h.rp p pr (Km.1 hp).1 hp hl s hs hh c hc⟩,⟨λi o hi ho z n hz hv=>?_,λi o hi ho z c hz hv=>?_,λc o hc ho n hv=>?_⟩,h.oq⟩
 .exact(h.st.co i o hi xz (λh=>h) ho).1 z n hz hv
 .exact(h.st.co i o hi xz (λh=>h) ho).2 z c hz hv
 .exact h.st.cp c o hc xz ho n hv
theorem sJ(n:Nat):(gI n [CC.ah (.val (.bool false))])=aa ((List.replicate n false).map bE):=by
 induction n with
 |zero=>rfl
 |succ n ih=>simp only[gI,ih];simp[aa,bE,List.replicate_succ]
theorem l119:bz prog f119=some c119.er:=by kernel_rfl
theorem Ih{l:List eh}{k:Nat}(h:k<l.length):dD (l.map eh.enc) (k:Nat)=some [.val (.bool l[k].has),.val (.int .i64 l[k].dF),.val (.int .i64 l[k].bU)]:=by rw[bG,Tm,vU h];rfl
structure ZK where
 p:Nat
 b:Mk
theorem dG{ps:List bi}{k:Nat}(h:k<ps.length):dD (ps.map bi.enc) (k:Nat)=some [.val (.bool ps[k].aL),.val (.bool ps[k].fenced),.val (.int .i64 ps[k].code),ze ps[k].aQ]:=by rw[bG,Tm,vU h];rfl
theorem sK{l:List Obj}{ops:List bH}{ps:List bi}{a:Mk}{f:Nat}{args args0:List CV}{Q:Mk->Prop}(h:ap prog f args0 (vR l ops ps a) (λr m=>∃b,Q b/\r= .bD []/\m=vR l ops ps b))(X:Mem)(eX:args=args0.map (CV.bb (sg [4,0,5,6,1,2,3] (7+X.length)))){K:CV->Mem->Prop}(hK:∀b,Q b->K (.bD []) ([.var [.row 1 9 0 none,.row 2 2 0 none,.row 3 4 0 none],.row 9 (aa (l.map Obj.enc)),.row 2 (aa (ops.map bH.enc)),.row 4 (aa (ps.map bi.enc)),.var [.ptr 0 0,.row 5 1 0 none,.row 6 1 0 none],.row 1 (aa (b.O.map bE)),.row 1 (aa (b.P.map bE))]++X)):
  ap prog f args ([.var [.row 1 9 0 none,.row 2 2 0 none,.row 3 4 0 none],.row 9 (aa (l.map Obj.enc)),.row 2 (aa (ops.map bH.enc)),.row 4 (aa (ps.map bi.enc)),.var [.ptr 0 0,.row 5 1 0 none,.row 6 1 0 none],.row 1 (aa (a.O.map bE)),.row 1 (aa (a.P.map bE))]++X) K:=by
 refine bu [4,0,5,6,1,2,3] (7+X.length) (by simp;omega) rfl rfl (by simp[eP]<;>omega) (args0:=args0) eX (λi b' hi=>?_) h (λr m1 hr=>?_)
 .match i,hi with
  |0,hi=>cases hi;exact .inr ⟨λh=>h,_,rfl,.eq rfl aE⟩
  |1,hi=>cases hi;exact .inr ⟨λh=>h,_,rfl,.eq rfl aE⟩
  |2,hi=>cases hi;exact .inr ⟨λh=>h,_,rfl,.bL rfl⟩
  |3,hi=>cases hi;exact .inr ⟨λh=>h,_,rfl,.bL rfl⟩
  |4,hi=>cases hi;exact .inr ⟨λh=>h,_,rfl,.bL rfl⟩
  |5,hi=>cases hi;exact .inr ⟨λh=>h,_,rfl,.bL rfl⟩
  |6,hi=>cases hi;exact .inr ⟨λh=>h,_,rfl,.bL rfl⟩
  |n+7,hi=>simp[vR]at hi
 .obtain⟨b,hb,rfl,rfl⟩:=hr;refine⟨Ym _,?_⟩;have e:∀(s:Nat)(ds:List (List Dt)),(Bk.row s (aa ds)).bb (sg [4,0,5,6,1,2,3] (7+X.length))= .row s (aa ds):=λs ds=>by simp only[Bk.bb,dz]
  have hk:=hK b hb;have hw:c6 ([.var [.row 1 9 0 none,.row 2 2 0 none,.row 3 4 0 none],.row 9 (aa (l.map Obj.enc)),.row 2 (aa (ops.map bH.enc)),.row 4 (aa (ps.map bi.enc)),.var [.ptr 0 0,.row 5 1 0 none,.row 6 1 0 none],.row 1 (aa (a.O.map bE)),.row 1 (aa (a.P.map bE))]++X) [4,0,5,6,1,2,3] (nh (sg [4,0,5,6,1,2,3] (7+X.length)) (vR l ops ps b))=[.var [.row 1 9 0 none,.row 2 2 0 none,.row 3 4 0 none],.row 9 (aa (l.map Obj.enc)),.row 2 (aa (ops.map bH.enc)),.row 4 (aa (ps.map bi.enc)),.var [.ptr 0 0,.row 5 1 0 none,.row 6 1 0 none],.row 1 (aa (b.O.map bE)),.row 1 (aa (b.P.map bE))]++X:=by simp only[vR,nh,e,c6,cg,abO];rfl
  rw[hw];exact hk
theorem FX(l:List Obj)(ops:List bH)(ps:List bi)(g:∀o,o∈l->o.sm)(hl:l.length<=4194304)(ho:ops.length<=4194304)(jZ:ps.length<=4194304)(qk:∀p,p∈ps->p.aQ.length<=10):
  body prog c119 [.rv (.one (.ptr 0 0))] [.var [.row 1 9 0 none,.row 2 2 0 none,.row 3 4 0 none],.row 9 (aa (l.map Obj.enc)),.row 2 (aa (ops.map bH.enc)),.row 4 (aa (ps.map bi.enc))] (λr m=>∃b,gY l ops ps b/\r= .rv (.one (.ptr 4 0))/\m=[.var [.row 1 9 0 none,.row 2 2 0 none,.row 3 4 0 none],.row 9 (aa (l.map Obj.enc)),.row 2 (aa (ops.map bH.enc)),.row 4 (aa (ps.map bi.enc)),.var [.ptr 0 0,.row 5 1 0 none,.row 6 1 0 none],.row 1 (aa (b.O.map bE)),.row 1 (aa (b.P.map bE))]):=by
 refine⟨?_,?_⟩
 .skip
  refine cN (adM _) ?_;refine⟨(by show(aa (l.map Obj.enc)).length*1<=_;rw[bg,Pj];omega),⟨rfl,rfl,trivial⟩,?_⟩
  refine cN (adM _) ?_;refine⟨(by show(aa (ops.map bH.enc)).length*1<=_;rw[bg,Pj];omega),⟨rfl,rfl,trivial⟩,?_⟩
  refine⟨trivial,?_⟩;refine gL [0] [(3,.rv (.one (.ptr 4 0)))] ([.var [.row 1 9 0 none,.row 2 2 0 none,.row 3 4 0 none],.row 9 (aa (l.map Obj.enc)),.row 2 (aa (ops.map bH.enc)),.row 4 (aa (ps.map bi.enc)),.var [.ptr 0 0,.row 5 1 0 none,.row 6 1 0 none],.row 1 (aa ((Ab l ops).O.map bE)),.row 1 (aa ((Ab l ops).P.map bE))]) (View.o1 7 [0,1,2,3,6,4,5] [] ?_) ?_
  .exact(.pe rfl rfl rfl (.pr rfl rfl rfl (.pr rfl rfl rfl (.pr rfl rfl rfl (.pe rfl rfl rfl (.pt rfl rfl (.bL (by show gI (aa (l.map Obj.enc)).length _=_;rw[sJ,bg,Pj];rfl)) (.pt rfl rfl (.bL (by show gI (aa (ops.map bH.enc)).length _=_;rw[sJ,bg,Pj];rfl)) (.nil _))))))))
  refine sK ((o8 l ops ps g ((Ab l ops).mu+1)).1 (Ab l ops) 0 ⟨by simp[Ab],by simp[Ab]⟩ (ab5 _)) [] rfl λb0 Jg=>?_
  refine bc (λ(s:ZK)=>s.p<=ps.length/\dU l ops ps s.b s.p 0) [3,28,29] (λs=>[(30,am .i64 (s.p:Nat))]) (λs=>[.var [.row 1 9 0 none,.row 2 2 0 none,.row 3 4 0 none],.row 9 (aa (l.map Obj.enc)),.row 2 (aa (ops.map bH.enc)),.row 4 (aa (ps.map bi.enc)),.var [.ptr 0 0,.row 5 1 0 none,.row 6 1 0 none],.row 1 (aa (s.b.O.map bE)),.row 1 (aa (s.b.P.map bE))]) (λs=>ps.length-s.p) ⟨0,b0⟩ ⟨aaj _,.start Jg⟩ ?_ (λs hs=>?_)
  .refine View.o1 7 [0,1,2,3,4,5,6] [] ?_
   .exact .au
  obtain⟨p,b⟩:=s;obtain⟨hp,hM⟩:=hs;have hp:p<=ps.length:=hp;have hM:dU l ops ps b p 0:=hM;refine aN (λh=>?_) (λh=>?_)
  .have jq:p<ps.length:=by have h:(p:Int)<((aa (ps.map bi.enc)).length:Int):=h;rw[bg,Pj]at h;omega
   refine af (bZ (k:=p) (by show p<(aa (ps.map bi.enc)).length;rw[bg,Pj];exact jq)) ?_
   refine af (bK bi.enc ps jq) ?_;have vS:=vU jq;have zK:=qk _ (aaw jq);generalize ps[p]=pr at vS zK;refine bc (λ(s:ZK)=>s.p<=pr.aQ.length/\dU l ops ps s.b p s.p) [3,5,28,29,30,35,36] (λs=>[(37,am .i64 (s.p:Nat))]) (λs=>[.var [.row 1 9 0 none,.row 2 2 0 none,.row 3 4 0 none],.row 9 (aa (l.map Obj.enc)),.row 2 (aa (ops.map bH.enc)),.row 4 (aa (ps.map bi.enc)),.var [.ptr 0 0,.row 5 1 0 none,.row 6 1 0 none],.row 1 (aa (s.b.O.map bE)),.row 1 (aa (s.b.P.map bE)),.var (pr.enc.map .ah)]) (λs=>pr.aQ.length-s.p) ⟨0,b⟩ ⟨aaj _,hM⟩ ?_ (λs hs=>?_)
   .refine View.o1 8 [0,1,2,3,4,5,6,7] [] ?_
    .exact .au
   clear hM;obtain⟨j,b⟩:=s;obtain⟨hj,hM⟩:=hs;have hj:j<=pr.aQ.length:=hj;have hM:dU l ops ps b p j:=hM;refine aN (λmh=>?_) (λmh=>?_)
   .have ez:j<pr.aQ.length:=by have h:(j:Int)<((pr.aQ.map eh.enc).length:Int):=mh;rw[Pj]at h;omega
    have J1:=vU ez;refine af (Ih ez) ?_;generalize pr.aQ[j]=s at J1;refine aG (λbC=>?_) (λbC=>?_)
    .refine aG (λhh=>?_) (λhh=>?_)
     .refine sK ((o8 l ops ps g (b.mu+1)).2 b s.dF s.bU ⟨by have:=hM.st.lo;simpa[Ab]using this,by have:=hM.st.lp;simpa[Ab]using this⟩ (ab5 _)) [_,_] rfl λc hc=>?_
      refine⟨⟨j+1,c⟩,⟨ez,hM.S8 vS bC J1 hh hc⟩,(show pr.aQ.length-(j+1)<pr.aQ.length-j by omega),View.o2 9 [0,1,2,3,4,5,6,7] [] ?_⟩
      .exact .au
     .skip
      refine⟨⟨j+1,b⟩,⟨ez,hM.skip vS J1 (λ_=>hh)⟩,(show pr.aQ.length-(j+1)<pr.aQ.length-j by omega),View.o2 9 [0,1,2,3,4,5,6,7] [] ?_⟩
      .exact .au
    .skip
     refine⟨⟨j+1,b⟩,⟨ez,hM.skip vS J1 (λh=>absurd (h.symm.trans bC) aE)⟩,(show pr.aQ.length-(j+1)<pr.aQ.length-j by omega),View.o2 9 [0,1,2,3,4,5,6,7] [] ?_⟩
     .exact .au
   .have ET:j=pr.aQ.length:=by have h:¬(j:Int)<((pr.aQ.map eh.enc).length:Int):=mh;rw[Pj]at h;omega
    subst ET;refine⟨⟨p+1,b⟩,⟨jq,hM.next vS⟩,(show ps.length-(p+1)<ps.length-p by omega),View.o2 8 [0,1,2,3,4,5,6] [] ?_⟩
    .exact .au
  .have yV:p=ps.length:=by have h:¬(p:Int)<((aa (ps.map bi.enc)).length:Int):=h;rw[bg,Pj]at h;omega
   subst yV;exact⟨b,hM.gQ,rfl,rfl⟩
 .skip
  refine cN (adM _) ?_;refine⟨(by show(aa (ops.map bH.enc)).length*1<=_;rw[bg,Pj];omega),⟨rfl,rfl,trivial⟩,?_⟩
  refine cN (adM _) ?_;refine⟨(by show(aa (l.map Obj.enc)).length*1<=_;rw[bg,Pj];omega),⟨rfl,rfl,trivial⟩,?_⟩
  refine⟨trivial,?_⟩;refine gL [0] [(3,.rv (.one (.ptr 4 0)))] ([.var [.row 1 9 0 none,.row 2 2 0 none,.row 3 4 0 none],.row 9 (aa (l.map Obj.enc)),.row 2 (aa (ops.map bH.enc)),.row 4 (aa (ps.map bi.enc)),.var [.ptr 0 0,.row 5 1 0 none,.row 6 1 0 none],.row 1 (aa ((Ab l ops).O.map bE)),.row 1 (aa ((Ab l ops).P.map bE))]) (View.o1 7 [0,1,2,3,6,5,4] [] ?_) ?_
  .exact(.pe rfl rfl rfl (.pr rfl rfl rfl (.pr rfl rfl rfl (.pr rfl rfl rfl (.pe rfl rfl rfl (.pt rfl rfl (.bL (by show gI (aa (l.map Obj.enc)).length _=_;rw[sJ,bg,Pj];rfl)) (.pt rfl rfl (.bL (by show gI (aa (ops.map bH.enc)).length _=_;rw[sJ,bg,Pj];rfl)) (.nil _))))))))
  refine sK ((o8 l ops ps g ((Ab l ops).mu+1)).1 (Ab l ops) 0 ⟨by simp[Ab],by simp[Ab]⟩ (ab5 _)) [] rfl λb0 Jg=>?_
  refine bc (λ(s:ZK)=>s.p<=ps.length/\dU l ops ps s.b s.p 0) [3,28,29] (λs=>[(30,am .i64 (s.p:Nat))]) (λs=>[.var [.row 1 9 0 none,.row 2 2 0 none,.row 3 4 0 none],.row 9 (aa (l.map Obj.enc)),.row 2 (aa (ops.map bH.enc)),.row 4 (aa (ps.map bi.enc)),.var [.ptr 0 0,.row 5 1 0 none,.row 6 1 0 none],.row 1 (aa (s.b.O.map bE)),.row 1 (aa (s.b.P.map bE))]) (λs=>ps.length-s.p) ⟨0,b0⟩ ⟨aaj _,.start Jg⟩ ?_ (λs hs=>?_)
  .refine View.o1 7 [0,1,2,3,4,5,6] [] ?_
   .exact .au
  obtain⟨p,b⟩:=s;obtain⟨hp,hM⟩:=hs;have hp:p<=ps.length:=hp;have hM:dU l ops ps b p 0:=hM;refine aN (λh=>?_) (λh=>?_)
  .have jq:p<ps.length:=by have h:(p:Int)<((aa (ps.map bi.enc)).length:Int):=h;rw[bg,Pj]at h;omega
   refine af (bZ (k:=p) (by show p<(aa (ps.map bi.enc)).length;rw[bg,Pj];exact jq)) ?_
   refine af (bK bi.enc ps jq) ?_;have vS:=vU jq;have zK:=qk _ (aaw jq);generalize ps[p]=pr at vS zK;refine bc (λ(s:ZK)=>s.p<=pr.aQ.length/\dU l ops ps s.b p s.p) [3,5,28,29,30,35,36] (λs=>[(37,am .i64 (s.p:Nat))]) (λs=>[.var [.row 1 9 0 none,.row 2 2 0 none,.row 3 4 0 none],.row 9 (aa (l.map Obj.enc)),.row 2 (aa (ops.map bH.enc)),.row 4 (aa (ps.map bi.enc)),.var [.ptr 0 0,.row 5 1 0 none,.row 6 1 0 none],.row 1 (aa (s.b.O.map bE)),.row 1 (aa (s.b.P.map bE)),.var (pr.enc.map .ah)]) (λs=>pr.aQ.length-s.p) ⟨0,b⟩ ⟨aaj _,hM⟩ ?_ (λs hs=>?_)
   .refine View.o1 8 [0,1,2,3,4,5,6,7] [] ?_
    .exact .au
   clear hM;obtain⟨j,b⟩:=s;obtain⟨hj,hM⟩:=hs;have hj:j<=pr.aQ.length:=hj;have hM:dU l ops ps b p j:=hM;refine aN (λmh=>?_) (λmh=>?_)
   .have ez:j<pr.aQ.length:=by have h:(j:Int)<((pr.aQ.map eh.enc).length:Int):=mh;rw[Pj]at h;omega
    have J1:=vU ez;refine af (Ih ez) ?_;generalize pr.aQ[j]=s at J1;refine aG (λbC=>?_) (λbC=>?_)
    .refine aG (λhh=>?_) (λhh=>?_)
     .refine sK ((o8 l ops ps g (b.mu+1)).2 b s.dF s.bU ⟨by have:=hM.st.lo;simpa[Ab]using this,by have:=hM.st.lp;simpa[Ab]using this⟩ (ab5 _)) [_,_] rfl λc hc=>?_
      refine⟨⟨j+1,c⟩,⟨ez,hM.S8 vS bC J1 hh hc⟩,(show pr.aQ.length-(j+1)<pr.aQ.length-j by omega),View.o2 9 [0,1,2,3,4,5,6,7] [] ?_⟩
      .exact .au
     .skip
      refine⟨⟨j+1,b⟩,⟨ez,hM.skip vS J1 (λ_=>hh)⟩,(show pr.aQ.length-(j+1)<pr.aQ.length-j by omega),View.o2 9 [0,1,2,3,4,5,6,7] [] ?_⟩
      .exact .au
    .skip
     refine⟨⟨j+1,b⟩,⟨ez,hM.skip vS J1 (λh=>absurd (h.symm.trans bC) aE)⟩,(show pr.aQ.length-(j+1)<pr.aQ.length-j by omega),View.o2 9 [0,1,2,3,4,5,6,7] [] ?_⟩
     .exact .au
   .have ET:j=pr.aQ.length:=by have h:¬(j:Int)<((pr.aQ.map eh.enc).length:Int):=mh;rw[Pj]at h;omega
    subst ET;refine⟨⟨p+1,b⟩,⟨jq,hM.next vS⟩,(show ps.length-(p+1)<ps.length-p by omega),View.o2 8 [0,1,2,3,4,5,6] [] ?_⟩
    .exact .au
  .have yV:p=ps.length:=by have h:¬(p:Int)<((aa (ps.map bi.enc)).length:Int):=h;rw[bg,Pj]at h;omega
   subst yV;exact⟨b,hM.gQ,rfl,rfl⟩
theorem Nz(l:List Obj)(ops:List bH)(ps:List bi)(g:∀o,o∈l->o.sm)(hl:l.length<=4194304)(ho:ops.length<=4194304)(jZ:ps.length<=4194304)(qk:∀p,p∈ps->p.aQ.length<=10):
  ap prog 119 [.rv (.one (.ptr 0 0))] [.var [.row 1 9 0 none,.row 2 2 0 none,.row 3 4 0 none],.row 9 (aa (l.map Obj.enc)),.row 2 (aa (ops.map bH.enc)),.row 4 (aa (ps.map bi.enc))] (λr m=>∃b,gY l ops ps b/\r= .rv (.one (.ptr 4 0))/\m=[.var [.row 1 9 0 none,.row 2 2 0 none,.row 3 4 0 none],.row 9 (aa (l.map Obj.enc)),.row 2 (aa (ops.map bH.enc)),.row 4 (aa (ps.map bi.enc)),.var [.ptr 0 0,.row 5 1 0 none,.row 6 1 0 none],.row 1 (aa (b.O.map bE)),.row 1 (aa (b.P.map bE))]):=
 ct func119 l119 (FX l ops ps g hl ho jZ qk)
def nE(k:Nat):List Dt:=[.val (.int .i64 (k:Nat))]
def c59:LF:= ⟨32,[.cell true 3 2],(.seq (.ai [qu 1 (.box 0),qu 2 (.alloc [.aO,.aO,.aO])]) (.seq (.bV [qf 6 0 1,ql 7 6,qu 8 (qc 98 [7]),qf 9 1 1,ql 10 9,qu 11 (qc 99 [10]),qu 12 (.build [.aO,.aO,.aO] [(0,1,8),(1,1,11)]),qu 3 (.alloc [.aO,.aO,.aO]),qw (.store 3 3 12)] [(.cons 0 none (.cons 1 none (.cons 3 none (.cons 4 none (.ww (.cons 2 (some [4]) (.ww (.cons 5 (some []) (.cons 6 none (.cons 7 (some [4,1]) (.cons 8 (some []) .nil)))) (.cons 7 (some [4,1]) (.cons 5 (some []) (.cons 6 none (.cons 8 (some []) .nil)))))) (.cons 7 (some [4,1]) (.cons 2 (some [4]) (.cons 5 (some []) (.cons 6 none (.cons 8 (some []) .nil))))))))))]) (.seq (.seq (.ai [qf 13 2 1,ql 14 13,qu 15 (.len 1 14),qu 16 (.aM (qi 0))]) (.block 0 (.loop (.seq (.ai [qu 17 (.aJ .lss 16 15)]) (.seq (.cond 17 .skip (.exit 0)) (.seq (.block 1 (.seq (.ai [qu 18 (.cz 4 14 16),qL 19 4 18,qu 5 (.alloc [(.ah (.val (.bool false))),(.ah (.val (.bool false))),qd 0,.aO]),qw (.store 4 5 19)]) (.seq (.ai [qf 20 3 5,ql 21 20,qu 22 (qc 100 [21]),qf 23 3 5,qw (.store 1 23 22)]) (.ai [qf 24 2 3,ql 25 24,qL 26 4 5,qu 27 (.od 4 [(.ah (.val (.bool false))),(.ah (.val (.bool false))),qd 0,.aO] 1 [(0,26)]),qu 28 (.pO 4 40 25 27),qf 29 2 3,qw (.store 1 29 28)])))) (.ai [qu 30 (.aJ .add 16 (qi 1)),qm 16 30]))))))) (.seq (.ai [qL 31 3 3,qw (.store 3 2 31)]) .ret))))⟩
def c99:LF:= ⟨8,[.tmp 2],(.seq (.ai [qu 2 (.aM qe)]) (.seq (.seq (.ai [qm 3 0,qu 4 (.yP false 3)]) (.cond 4 (.seq (.ai [qu 2 (.aM qe)]) .ret) .skip)) (.seq (.ai [qu 5 (.od 2 [qd 0,qd 0] 0 []),qm 6 0,qu 7 (.pO 2 16 5 6),qm 2 7]) .ret)))⟩
def c100:LF:= ⟨8,[.tmp 2],(.seq (.ai [qu 2 (.aM qe)]) (.seq (.seq (.ai [qm 3 0,qu 4 (.yP false 3)]) (.cond 4 (.seq (.ai [qu 2 (.aM qe)]) .ret) .skip)) (.seq (.ai [qu 5 (.od 3 [(.ah (.val (.bool false))),qd 0,qd 0] 0 []),qm 6 0,qu 7 (.pO 3 24 5 6),qm 2 7]) .ret)))⟩
theorem pY:∀(l:List Obj)(p Q k:Nat),k+l.length<=p->eQ p Q k l=aa (l.map Obj.enc)
 | [],_,_,_,_=>rfl
 |o::r,p,Q,k,h=>by
  have ih:=pY r p Q (k+1) (by simp at h;omega)
  have hk:¬k=p:=by simp at h;omega
  simp only[eQ,ih,sB,if_neg hk];rfl
theorem DC(l:List Obj):Bn l l.length l.length= .aS:=by
 have:Nat.blt l.length l.length=false:=by
  cases h:Nat.blt l.length l.length
  .rfl
  .rw[abJ]at h;omega
 unfold Bn;rw[this]
theorem l99:bz prog f99=some c99:=by kernel_rfl
theorem l100:bz prog f100=some c100:=by kernel_rfl
theorem l59:bz prog f59=some c59:=by kernel_rfl
theorem DD(ops:List bH)(ho:ops.length<=4194304):body prog c99 [.rv (.one (.ah (ff ops)))] [] (λr m=>∃r' m',View 0 ⟨[r],m⟩ ⟨[r'],m'⟩/\r'= .rv (.one (.row 0 2 0 none))/\m'=[.row 2 (aa (ops.map bH.enc))]):=by
 have tw:((([]:List (List CC)).length+((ops.map bH.enc).map λds=>ds.map CC.ah).length)*16)<=140737488355328:=by simp;omega
 have gQ:∃r' m',View 0 ⟨[CV.rv (.one (.row 1 2 0 none))],[.aS,.row 2 (b9 ([]:List (List CC)) 0 none++(ops.map bH.enc).map λds=>ds.map CC.ah)]⟩ ⟨[r'],m'⟩/\r'=CV.rv (.one (.row 0 2 0 none))/\m'=[Bk.row 2 (aa (ops.map bH.enc))]:=
  ⟨_,_,View.o 2 [1] [] (.eq rfl .nil) (.pn rfl rfl rfl),rfl,rfl⟩
 refine aG (λh=>?_) (λh=>?_)
 .have hd:ops=[]:=aag (by simpa using aai h)
  refine⟨?_,tw,gQ⟩;subst hd;exact⟨_,_,View.aO 0 2 0 rfl rfl rfl,rfl,rfl⟩
 .exact⟨tw,gQ⟩
theorem ub(ops:List bH)(ho:ops.length<=4194304){m:Mem}{K:CV->Mem->Prop}(h:K (.rv (.one (.row m.length 2 0 none))) (m++ [.row 2 (aa (ops.map bH.enc))])):ap prog 99 [.rv (.one (.ah (ff ops)))] m K:=by
 refine bu [] m.length rfl rfl rfl rfl (args0:=[.rv (.one (.ah (ff ops)))]) rfl (λi b' hi=>by simp at hi) (K0:=λr m=>r= .rv (.one (.row 0 2 0 none))/\m=[.row 2 (aa (ops.map bH.enc))]) (bJ (aZ func99 l99 (DD ops ho)) λr m1 h=>h) (λr m1 hr=>?_)
 obtain⟨rfl,rfl⟩:=hr;refine⟨aaj _,?_⟩;show K (.rv (.one (.row (m.length+(0-0)) 2 0 none))) (gJ m [.row 2 ((aa (ops.map bH.enc)).map (λcs=>cs.map (CC.bb (sg [] m.length))))])
 rw[dz,cg];exact h
theorem DE(d:List eh)(hb:d.length<=4194304):body prog c100 [nu d] [] (λr m=>cV m r (nu d)):=by
 have tw:((([]:List (List CC)).length+((d.map eh.enc).map λds=>ds.map CC.ah).length)*24)<=140737488355328:=by simp;omega
 refine aG (λh=>?_) (λh=>?_)
 .have hd:d=[]:=aag (by simpa using aai h)
  subst hd;exact⟨.rv (.one (.aO 3)),tw,.rv (.one (fk.fl rfl 0 none))⟩
 .exact⟨tw,.rv (.one (fk.fl rfl 0 none))⟩
theorem jI(d:List eh)(hb:d.length<=4194304){m:Mem}{K:CV->Mem->Prop}(h:K (nu d) m):ap prog 100 [nu d] m K:=
 bh (aZ func100 l100 (DE d hb)) (by simp[nu,ze,CV.dB,CC.dB]) λr m1 hf=>⟨_,hf,h⟩
structure UE where
 k:Nat
 qs:List bi
theorem J2(l:List Obj)(ops:List bH)(ps:List bi)(hf:l5 l)(ho:ops.length<=4194304)(jZ:ps.length<=4194304)(qk:∀p,p∈ps->p.aQ.length<=10)(dh:ps≠[]):
  body prog c59 [eI l ops ps] [] (λr m=>∃r' m',View 0 ⟨[r],m⟩ ⟨[r'],m'⟩/\r'= .rv (.agg [.row 0 9 0 none,.row 1 2 0 none,.row 2 4 0 none])/\m'=[.row 9 (aa (l.map Obj.enc)),.row 2 (aa (ops.map bH.enc)),.row 4 (aa (ps.map bi.enc))]):=by
 refine⟨?_,?_⟩
 .skip
  refine xu l hf l.length ?_;rw[DC];refine⟨⟨rfl,trivial⟩,?_⟩;refine⟨?_,?_⟩
  .refine ub ops ho ?_;refine⟨trivial,⟨rfl,rfl,trivial⟩,trivial,?_⟩;refine bc (λ(a:UE)=>a.k<=ps.length/\a.qs=ps.take a.k) [1,2,14,15] (λa=>[(16,am .i64 (a.k:Nat)),(3,.rv (.one (.ptr 2 0)))]) (λa=>match a.qs with
     | []=>[.var [.ah (dm l),.ah (ff ops),.ah (gG ps)],.var z3,.var [.row 3 9 0 none,.row 4 2 0 none,.aO],.row 9 (aa (l.map Obj.enc)),.row 2 (aa (ops.map bH.enc))]
     |x::r=>[.var [.ah (dm l),.ah (ff ops),.ah (gG ps)],.var z3,.var [.row 3 9 0 none,.row 4 2 0 none,.row 5 4 0 none],.row 9 (aa (l.map Obj.enc)),.row 2 (aa (ops.map bH.enc)),.row 4 (aa ((x::r).map bi.enc))]) (λa=>ps.length-a.k) ⟨0,[]⟩ ⟨aaj _,rfl⟩ ?_ (λa ha=>?_)
   .refine View.o1 6 [0,1,5,2,4] [] ?_
    .exact(.pe rfl rfl rfl (.pe rfl rfl rfl (.pe rfl rfl rfl (.pt rfl rfl (.bL (pY l _ _ _ om)) (.pn rfl rfl rfl)))))
   obtain⟨k,qs⟩:=a;obtain⟨hk,hq⟩:=ha;have hk:k<=ps.length:=hk;have hq:qs=ps.take k:=hq;cases qs with
   |nil=>
    refine aN (λh=>?_) (λh=>?_)
    .have aC:k<ps.length:=by have h:(k:Int)<((ps.map bi.enc).length:Int):=h;rw[Pj]at h;omega
     refine af (dG aC) ?_;refine jI ps[k].aQ (by have:=qk _ (aaw aC);omega) ?_
     refine⟨by simp[b9],?_⟩
     refine⟨⟨k+1,[ps[k]]⟩,⟨aC,(show [ps[k]]=ps.take (k+1) by rw[abG,vU aC,<-hq];rfl)⟩,(show ps.length-(k+1)<ps.length-k by omega),View.o2 8 [0,1,2,3,4,7] [] ?_⟩
     .exact(.pe rfl rfl rfl (.pe rfl rfl rfl (.pe rfl rfl rfl (.pr rfl rfl rfl (.pr rfl rfl rfl (.pt rfl rfl (.bL (by simp[b9,aa,bi.enc])) (.nil _)))))))
    .have Bu:k=ps.length:=by have h:¬(k:Int)<((ps.map bi.enc).length:Int):=h;rw[Pj]at h;omega
     subst Bu;rw[aaV]at hq;exact absurd hq.symm dh
   |cons x r=>
    refine aN (λh=>?_) (λh=>?_)
    .have aC:k<ps.length:=by have h:(k:Int)<((ps.map bi.enc).length:Int):=h;rw[Pj]at h;omega
     refine af (dG aC) ?_;refine jI ps[k].aQ (by have:=qk _ (aaw aC);omega) ?_
     refine⟨by have e:=bg ((x::r).map bi.enc);have e2:=congrArg List.length hq;simp only[Pj,aau,aaA]at e e2;simp only[b9,aau,abl];omega,?_⟩
     refine⟨⟨k+1,((x::r)++ [ps[k]])⟩,⟨aC,(show((x::r)++ [ps[k]])=ps.take (k+1) by rw[abG,vU aC,<-hq];rfl)⟩,(show ps.length-(k+1)<ps.length-k by omega),View.o2 9 [0,1,2,3,4,8] [] ?_⟩
     .exact(.pe rfl rfl rfl (.pe rfl rfl rfl (.pe rfl rfl rfl (.pr rfl rfl rfl (.pr rfl rfl rfl (.pt rfl rfl (.bL (by simp[b9,aa,bi.enc])) (.nil _)))))))
    .have Bu:k=ps.length:=by have h:¬(k:Int)<((ps.map bi.enc).length:Int):=h;rw[Pj]at h;omega
     subst Bu;rw[aaV]at hq;refine⟨.rv (.agg [.row 0 9 0 none,.row 1 2 0 none,.row 2 4 0 none]),_,View.o 6 [3,4,5] [] (.eq rfl .nil) (.pr rfl rfl rfl (.pr rfl rfl rfl (.pn rfl rfl rfl))),rfl,?_⟩;rw[hq]
  .refine⟨⟨rfl,rfl,trivial⟩,?_⟩;refine ub ops ho ?_;refine⟨trivial,trivial,?_⟩;refine bc (λ(a:UE)=>a.k<=ps.length/\a.qs=ps.take a.k) [1,2,14,15] (λa=>[(16,am .i64 (a.k:Nat)),(3,.rv (.one (.ptr 2 0)))]) (λa=>match a.qs with
     | []=>[.var [.ah (dm l),.ah (ff ops),.ah (gG ps)],.var z3,.var [.row 3 9 0 none,.row 4 2 0 none,.aO],.row 9 (aa (l.map Obj.enc)),.row 2 (aa (ops.map bH.enc))]
     |x::r=>[.var [.ah (dm l),.ah (ff ops),.ah (gG ps)],.var z3,.var [.row 3 9 0 none,.row 4 2 0 none,.row 5 4 0 none],.row 9 (aa (l.map Obj.enc)),.row 2 (aa (ops.map bH.enc)),.row 4 (aa ((x::r).map bi.enc))]) (λa=>ps.length-a.k) ⟨0,[]⟩ ⟨aaj _,rfl⟩ ?_ (λa ha=>?_)
   .refine View.o1 6 [0,1,4,2,5] [] ?_
    .exact(.pe rfl rfl rfl (.pe rfl rfl rfl (.pe rfl rfl rfl (.pt rfl rfl (.bL (pY l _ _ _ om)) (.pn rfl rfl rfl)))))
   obtain⟨k,qs⟩:=a;obtain⟨hk,hq⟩:=ha;have hk:k<=ps.length:=hk;have hq:qs=ps.take k:=hq;cases qs with
   |nil=>
    refine aN (λh=>?_) (λh=>?_)
    .have aC:k<ps.length:=by have h:(k:Int)<((ps.map bi.enc).length:Int):=h;rw[Pj]at h;omega
     refine af (dG aC) ?_;refine jI ps[k].aQ (by have:=qk _ (aaw aC);omega) ?_
     refine⟨by simp[b9],?_⟩
     refine⟨⟨k+1,[ps[k]]⟩,⟨aC,(show [ps[k]]=ps.take (k+1) by rw[abG,vU aC,<-hq];rfl)⟩,(show ps.length-(k+1)<ps.length-k by omega),View.o2 8 [0,1,2,3,4,7] [] ?_⟩
     .exact(.pe rfl rfl rfl (.pe rfl rfl rfl (.pe rfl rfl rfl (.pr rfl rfl rfl (.pr rfl rfl rfl (.pt rfl rfl (.bL (by simp[b9,aa,bi.enc])) (.nil _)))))))
    .have Bu:k=ps.length:=by have h:¬(k:Int)<((ps.map bi.enc).length:Int):=h;rw[Pj]at h;omega
     subst Bu;rw[aaV]at hq;exact absurd hq.symm dh
   |cons x r=>
    refine aN (λh=>?_) (λh=>?_)
    .have aC:k<ps.length:=by have h:(k:Int)<((ps.map bi.enc).length:Int):=h;rw[Pj]at h;omega
     refine af (dG aC) ?_;refine jI ps[k].aQ (by have:=qk _ (aaw aC);omega) ?_
     refine⟨by have e:=bg ((x::r).map bi.enc);have e2:=congrArg List.length hq;simp only[Pj,aau,aaA]at e e2;simp only[b9,aau,abl];omega,?_⟩
     refine⟨⟨k+1,((x::r)++ [ps[k]])⟩,⟨aC,(show((x::r)++ [ps[k]])=ps.take (k+1) by rw[abG,vU aC,<-hq];rfl)⟩,(show ps.length-(k+1)<ps.length-k by omega),View.o2 9 [0,1,2,3,4,8] [] ?_⟩
     .exact(.pe rfl rfl rfl (.pe rfl rfl rfl (.pe rfl rfl rfl (.pr rfl rfl rfl (.pr rfl rfl rfl (.pt rfl rfl (.bL (by simp[b9,aa,bi.enc])) (.nil _)))))))
    .have Bu:k=ps.length:=by have h:¬(k:Int)<((ps.map bi.enc).length:Int):=h;rw[Pj]at h;omega
     subst Bu;rw[aaV]at hq;refine⟨.rv (.agg [.row 0 9 0 none,.row 1 2 0 none,.row 2 4 0 none]),_,View.o 6 [3,4,5] [] (.eq rfl .nil) (.pr rfl rfl rfl (.pr rfl rfl rfl (.pn rfl rfl rfl))),rfl,?_⟩;rw[hq]
 .refine⟨⟨rfl,rfl,trivial⟩,?_⟩;refine xu l hf l.length ?_;rw[DC];refine⟨⟨rfl,trivial⟩,?_⟩;refine ub ops ho ?_;refine⟨trivial,trivial,?_⟩;refine bc (λ(a:UE)=>a.k<=ps.length/\a.qs=ps.take a.k) [1,2,14,15] (λa=>[(16,am .i64 (a.k:Nat)),(3,.rv (.one (.ptr 2 0)))]) (λa=>match a.qs with
    | []=>[.var [.ah (dm l),.ah (ff ops),.ah (gG ps)],.var z3,.var [.row 3 9 0 none,.row 4 2 0 none,.aO],.row 9 (aa (l.map Obj.enc)),.row 2 (aa (ops.map bH.enc))]
    |x::r=>[.var [.ah (dm l),.ah (ff ops),.ah (gG ps)],.var z3,.var [.row 3 9 0 none,.row 4 2 0 none,.row 5 4 0 none],.row 9 (aa (l.map Obj.enc)),.row 2 (aa (ops.map bH.enc)),.row 4 (aa ((x::r).map bi.enc))]) (λa=>ps.length-a.k) ⟨0,[]⟩ ⟨aaj _,rfl⟩ ?_ (λa ha=>?_)
  .refine View.o1 6 [0,1,2,3,5] [] ?_
   .exact(.pe rfl rfl rfl (.pe rfl rfl rfl (.pe rfl rfl rfl (.pt rfl rfl (.bL (pY l _ _ _ om)) (.pn rfl rfl rfl)))))
  obtain⟨k,qs⟩:=a;obtain⟨hk,hq⟩:=ha;have hk:k<=ps.length:=hk;have hq:qs=ps.take k:=hq;cases qs with
  |nil=>
   refine aN (λh=>?_) (λh=>?_)
   .have aC:k<ps.length:=by have h:(k:Int)<((ps.map bi.enc).length:Int):=h;rw[Pj]at h;omega
    refine af (dG aC) ?_;refine jI ps[k].aQ (by have:=qk _ (aaw aC);omega) ?_
    refine⟨by simp[b9],?_⟩
    refine⟨⟨k+1,[ps[k]]⟩,⟨aC,(show [ps[k]]=ps.take (k+1) by rw[abG,vU aC,<-hq];rfl)⟩,(show ps.length-(k+1)<ps.length-k by omega),View.o2 8 [0,1,2,3,4,7] [] ?_⟩
    .exact(.pe rfl rfl rfl (.pe rfl rfl rfl (.pe rfl rfl rfl (.pr rfl rfl rfl (.pr rfl rfl rfl (.pt rfl rfl (.bL (by simp[b9,aa,bi.enc])) (.nil _)))))))
   .have Bu:k=ps.length:=by have h:¬(k:Int)<((ps.map bi.enc).length:Int):=h;rw[Pj]at h;omega
    subst Bu;rw[aaV]at hq;exact absurd hq.symm dh
  |cons x r=>
   refine aN (λh=>?_) (λh=>?_)
   .have aC:k<ps.length:=by have h:(k:Int)<((ps.map bi.enc).length:Int):=h;rw[Pj]at h;omega
    refine af (dG aC) ?_;refine jI ps[k].aQ (by have:=qk _ (aaw aC);omega) ?_
    refine⟨by have e:=bg ((x::r).map bi.enc);have e2:=congrArg List.length hq;simp only[Pj,aau,aaA]at e e2;simp only[b9,aau,abl];omega,?_⟩
    refine⟨⟨k+1,((x::r)++ [ps[k]])⟩,⟨aC,(show((x::r)++ [ps[k]])=ps.take (k+1) by rw[abG,vU aC,<-hq];rfl)⟩,(show ps.length-(k+1)<ps.length-k by omega),View.o2 9 [0,1,2,3,4,8] [] ?_⟩
    .exact(.pe rfl rfl rfl (.pe rfl rfl rfl (.pe rfl rfl rfl (.pr rfl rfl rfl (.pr rfl rfl rfl (.pt rfl rfl (.bL (by simp[b9,aa,bi.enc])) (.nil _)))))))
   .have Bu:k=ps.length:=by have h:¬(k:Int)<((ps.map bi.enc).length:Int):=h;rw[Pj]at h;omega
    subst Bu;rw[aaV]at hq;refine⟨.rv (.agg [.row 0 9 0 none,.row 1 2 0 none,.row 2 4 0 none]),_,View.o 6 [3,4,5] [] (.eq rfl .nil) (.pr rfl rfl rfl (.pr rfl rfl rfl (.pn rfl rfl rfl))),rfl,?_⟩;rw[hq]
theorem i4(l:List Obj)(ops:List bH)(ps:List bi)(hf:l5 l)(ho:ops.length<=4194304)(jZ:ps.length<=4194304)(qk:∀p,p∈ps->p.aQ.length<=10)(dh:ps≠[]){m:Mem}{K:CV->Mem->Prop}(h:K (.rv (.agg [.row m.length 9 0 none,.row (m.length+1) 2 0 none,.row (m.length+2) 4 0 none])) (m++ [.row 9 (aa (l.map Obj.enc)),.row 2 (aa (ops.map bH.enc)),.row 4 (aa (ps.map bi.enc))])):ap prog 59 [eI l ops ps] m K:=by
 refine bu [] m.length rfl rfl rfl rfl (args0:=[eI l ops ps]) rfl (λi b' hi=>by simp at hi) (K0:=λr m=>r= .rv (.agg [.row 0 9 0 none,.row 1 2 0 none,.row 2 4 0 none])/\m=[.row 9 (aa (l.map Obj.enc)),.row 2 (aa (ops.map bH.enc)),.row 4 (aa (ps.map bi.enc))])
  (bJ (aZ func59 l59 (J2 l ops ps hf ho jZ qk dh)) λr m1 h=>h) (λr m1 hr=>?_)
 obtain⟨rfl,rfl⟩:=hr;refine⟨aaj _,?_⟩;show K (.rv (.agg [.row (m.length+(0-0)) 9 0 none,.row (m.length+(1-0)) 2 0 none,.row (m.length+(2-0)) 4 0 none])) (gJ m [.row 9 ((aa (l.map Obj.enc)).map (λcs=>cs.map (CC.bb (sg [] m.length)))),.row 2 ((aa (ops.map bH.enc)).map (λcs=>cs.map (CC.bb (sg [] m.length)))),.row 4 ((aa (ps.map bi.enc)).map (λcs=>cs.map (CC.bb (sg [] m.length))))])
 rw[dz,dz,dz,cg];exact h
def c80:LF:= ⟨9,[.tmp 4],(.seq (.ai [qu 4 (.aM (qb false))]) (.seq (.ai [qm 5 0,qm 6 1,qu 7 (qc 121 [5,6]),qu 8 (.aJ .geq 7 (qi 0)),qm 4 8]) .ret))⟩
def c81:LF:= ⟨13,[.tmp 3],(.seq (.ai [qu 2 (.box 0),qu 3 (.aM (qb false))]) (.seq (.ai [qf 4 0 2,ql 5 4,qu 6 (.aJ .eql 5 (qi 5)),qm 7 6,qg 8 (.b8 6 2) 7 true,qg 9 (.load false 1 8) 7 true,qg 10 (.load false 1 1) 7 true,qg 11 (.aJ .eql 9 10) 7 true,qu 12 (.pick 7 11 (qb false)),qm 3 12]) .ret))⟩
def c120:LF:= ⟨13,[.tmp 3],(.seq (.ai [qu 2 (.box 0),qu 3 (.aM (qb false))]) (.seq (.ai [qf 4 0 2,ql 5 4,qu 6 (.aJ .eql 5 (qi 5)),qm 7 6,qg 8 (.b8 6 2) 7 true,qg 9 (.load false 1 8) 7 true,qg 10 (.load false 1 1) 7 true,qg 11 (.aJ .eql 9 10) 7 true,qu 12 (.pick 7 11 (qb false)),qm 3 12]) .ret))⟩
def dJ(p:Int)(o:Obj):Bool:=o.ag==5&&o.ba==p
theorem l120:bz prog f120=some c120:=by kernel_rfl
theorem l81:bz prog f81=some c81:=by kernel_rfl
theorem l80:bz prog f80=some c80:=by kernel_rfl
theorem DF(o:Obj)(p:Int):body prog c120 [o.cv,.rv (.one (.ptr 0 0))] [.var ([Dt.val (.int .i64 p)].map .ah)] (λr m=>r=aD (dJ p o)/\∃ex,m= .var ([Dt.val (.int .i64 p)].map .ah)::ex):=by
 refine aG (λh=>?_) (λh=>?_)
 .refine⟨?_,_,rfl⟩;show aD _=aD _;rw[dJ,h];rfl
 .refine⟨?_,_,rfl⟩;show aD _=aD _;rw[dJ,h];rfl
theorem UF(o:Obj)(p:Int)(K:CV->Mem->Prop)(h:K (aD (dJ p o)) [.var ([Dt.val (.int .i64 p)].map .ah)]):ap prog 120 [o.cv,.rv (.one (.ptr 0 0))] [.var ([Dt.val (.int .i64 p)].map .ah)] K:=
 eY rfl (aZ func120 l120 (DF o p)) h
theorem DG(o:Obj)(p:Int):body prog c81 [o.cv,.rv (.one (.ptr 0 0))] [.var ([Dt.val (.int .i64 p)].map .ah)] (λr m=>r=aD (dJ p o)/\∃ex,m= .var ([Dt.val (.int .i64 p)].map .ah)::ex):=by
 refine aG (λh=>?_) (λh=>?_)
 .refine⟨?_,_,rfl⟩;show aD _=aD _;rw[dJ,h];rfl
 .refine⟨?_,_,rfl⟩;show aD _=aD _;rw[dJ,h];rfl
theorem UG(o:Obj)(p:Int)(K:CV->Mem->Prop)(h:K (aD (dJ p o)) [.var ([Dt.val (.int .i64 p)].map .ah)]):ap prog 81 [o.cv,.rv (.one (.ptr 0 0))] [.var ([Dt.val (.int .i64 p)].map .ah)] K:=
 eY rfl (aZ func81 l81 (DG o p)) h
theorem Ac{l:List Obj}{n:Nat}(h:n<l.length):dZ (n:Int) (lenOf (aa (l.map Obj.enc)).length 0 none)=some n:=bZ (by show n<(aa (l.map Obj.enc)).length;rw[bg,Pj];exact h)
theorem J3(l:List Obj)(hb:l.length<=4194304)(F:Nat)(cs:List Dt)(q:Obj->Bool)(hF:∀s,∀K:CV->Mem->Prop,K (aD (q s)) [.var (cs.map .ah)]->ap prog F [s.cv,.rv (.one (.ptr 0 0))] [.var (cs.map .ah)] K):
  body prog c121 [.rv (.one (.row 0 9 0 none)),.rv (.one (.fn F [1]))] [.row 9 (aa (l.map Obj.enc)),.var (cs.map .ah)] (λr m=>r=am .i64 (oC q l)/\m=[.row 9 (aa (l.map Obj.enc)),.var (cs.map .ah)]):=by
 refine bc (λk=>k<=l.length/\∀(j:Nat)s,j<k->l[j]? =some s->q s=false) [0,1,7] (λk=>[(8,am .i64 (k:Nat))]) (λ_=>[.row 9 (aa (l.map Obj.enc)),.var (cs.map .ah)]) (λk=>l.length-k) 0 ⟨aaj _,λj s h=>absurd h (aaU j)⟩ ?_ (λk hk=>?_)
 .refine View.o1 2 [0,1] [] ?_
  .exact .pr rfl rfl rfl (.pt rfl rfl (.gC rfl) (.nil _))
 .refine aN (λh=>?_) (λh=>?_)
  .have aC:k<l.length:=by have h:(k:Int)<((aa (l.map Obj.enc)).length:Int):=h;rw[bg,Pj]at h;omega
   refine af (Ac aC) ?_;refine af (bK Obj.enc l aC) ?_;have hi:=vU aC;have QS:=lA (q:=q) aC;generalize l[k]=o at hi QS;refine fA (args0:=[o.cv,.rv (.one (.ptr 0 0))]) (cs:=cs) 1 rfl rfl (r0:=aD (q o)) rfl (λK hK=>hF o K hK) ?_
   refine aG (λIi=>?_) (λIi=>?_)
   .rw[QS Ii hk.2];exact⟨rfl,rfl⟩
   .refine⟨k+1,⟨aC,λj s hj hs=>?_⟩,(show l.length-(k+1)<l.length-k by omega),View.o 2 [0,1] [] ?_ ?_⟩
    .rcases aaf j k with h5|h5
     .exact hk.2 j s h5 hs
     .have:j=k:=om;subst this;rw[hi]at hs;cases hs;exact Ii
    .repeat(first|exact .nil|refine .aA ?_|refine .put (.bb (cj om).symm) ?_|refine .eq rfl ?_)
    .exact .pr rfl rfl rfl (.pt rfl rfl (.gC rfl) (.nil _))
  .have d8:¬(k:Int)<((aa (l.map Obj.enc)).length:Int):=h;rw[bg,Pj]at d8;rw[nr λj s hs=>hk.2 j s (by have:=(Km.1 hs).1;omega) hs]
   exact⟨rfl,rfl⟩
theorem FY(l:List Obj)(hb:l.length<=4194304)(F:Nat)(cs:List Dt)(q:Obj->Bool)(hF:∀s,∀K:CV->Mem->Prop,K (aD (q s)) [.var (cs.map .ah)]->ap prog F [s.cv,.rv (.one (.ptr 0 0))] [.var (cs.map .ah)] K):
  body prog c80 [.rv (.one (.row 0 9 0 none)),.rv (.one (.fn F [1]))] [.row 9 (aa (l.map Obj.enc)),.var (cs.map .ah)] (λr m=>r=aD (l.any q)/\m=[.row 9 (aa (l.map Obj.enc)),.var (cs.map .ah)]):=by
 refine(aZ func121 l121 (J3 l hb F cs q hF)).mono λr m⟨hr,hm⟩=>?_
 subst hr hm;refine⟨?_,rfl⟩;show aD _=aD _;rw[<-sF]
theorem NA(l:List Obj)(hb:l.length<=4194304)(F:Nat)(cs:List Dt)(q:Obj->Bool)(hF:∀s,∀K:CV->Mem->Prop,K (aD (q s)) [.var (cs.map .ah)]->ap prog F [s.cv,.rv (.one (.ptr 0 0))] [.var (cs.map .ah)] K):
  ap prog 80 [.rv (.one (.row 0 9 0 none)),.rv (.one (.fn F [1]))] [.row 9 (aa (l.map Obj.enc)),.var (cs.map .ah)] (λr m=>r=aD (l.any q)/\m=[.row 9 (aa (l.map Obj.enc)),.var (cs.map .ah)]):=
 aZ func80 l80 (FY l hb F cs q hF)
def c79:LF:= ⟨146,[.tmp 2],(.seq (.ai [qu 2 (.aM (qb false))]) (.seq (.ai [qm 10 0,qu 11 (qc 119 [10]),qm 3 11]) (.seq (.seq (.ai [qm 12 0,qu 13 (.aP 12),qf 14 0 13,ql 15 14,qu 16 (.len 1 15),qu 17 (.aM (qi 0))]) (.block 0 (.loop (.seq (.ai [qu 18 (.aJ .lss 17 16)]) (.seq (.cond 18 .skip (.exit 0)) (.seq (.block 1 (.seq (.ai [qm 19 17,qm 4 19]) (.seq (.seq (.ai [qm 20 3,qu 21 (.aP 20),qf 22 1 21,ql 23 22,qm 24 4,qu 25 (.cz 1 23 24),ql 26 25,qm 27 26,qg 28 (.aM 0) 27 false,qg 29 (.aP 28) 27 false,qg 30 (.b8 0 29) 27 false,qg 31 (.load false 1 30) 27 false,qg 32 (.aM 4) 27 false,qg 33 (.cz 9 31 32) 27 false,qg 34 (.b8 0 33) 27 false,qg 35 (.load false 1 34) 27 false,qg 36 (.aJ .eql 35 (qi 0)) 27 false,qu 37 (.pick 27 (qb true) 36)]) (.cond 37 (.exit 1) .skip)) (.seq (.seq (.ai [qm 38 0,qu 39 (.aP 38),qf 40 0 39,ql 41 40,qu 42 (.len 1 41),qu 43 (.aM (qi 0))]) (.block 2 (.loop (.seq (.ai [qu 44 (.aJ .lss 43 42)]) (.seq (.cond 44 .skip (.exit 2)) (.seq (.block 3 (.seq (.ai [qm 45 43,qm 5 45]) (.seq (.ai [qm 46 0,qu 47 (.aP 46),qf 48 0 47,ql 49 48,qm 50 5,qu 51 (.cz 9 49 50),qf 52 0 51,ql 53 52,qu 54 (.aJ .eql 53 (qi 4)),qm 55 54,qg 56 (.aM 0) 55 true,qg 57 (.aP 56) 55 true,qg 58 (.b8 0 57) 55 true,qg 59 (.load false 1 58) 55 true,qg 60 (.aM 5) 55 true,qg 61 (.cz 9 59 60) 55 true,qg 62 (.b8 4 61) 55 true,qg 63 (.load false 1 62) 55 true,qg 64 (.aM 4) 55 true,qg 65 (.aJ .eql 63 64) 55 true,qu 66 (.pick 55 65 (qb false))]) (.cond 66 (.ai [qm 67 0,qu 68 (.aP 67),qf 69 0 68,ql 70 69,qm 71 5,qu 72 (.cz 9 70 71),qf 73 4 72,qw (.store 1 73 (qi (-1)))]) .skip)))) (.ai [qu 74 (.aJ .add 43 (qi 1)),qm 43 74]))))))) (.ai [qm 75 0,qu 76 (.aP 75),qf 77 0 76,ql 78 77,qm 79 4,qu 80 (.build [qd 0,.aO,.aO,(.ah (.val (.string ⟨#[]⟩))),qd 0,.aO,qd 0,qd 0,qd 0] []),qu 81 (.cz 9 78 79),qw (.store 9 81 80)]))))) (.ai [qu 82 (.aJ .add 17 (qi 1)),qm 17 82]))))))) (.seq (.seq (.ai [qm 83 0,qu 84 (.aP 83),qf 85 1 84,ql 86 85,qu 87 (.len 1 86),qu 88 (.aM (qi 0))]) (.block 4 (.loop (.seq (.ai [qu 89 (.aJ .lss 88 87)]) (.seq (.cond 89 .skip (.exit 4)) (.seq (.block 5 (.seq (.ai [qm 90 88,qm 6 90]) (.seq (.ai [qm 91 3,qu 92 (.aP 91),qf 93 2 92,ql 94 93,qm 95 6,qu 96 (.cz 1 94 95),ql 97 96,qu 98 (.un .not 97)]) (.cond 98 (.ai [qm 99 0,qu 100 (.aP 99),qf 101 1 100,ql 102 101,qm 103 6,qu 104 (.build [qd 0,qd 0] [(0,1,(qi (-1)))]),qu 105 (.cz 2 102 103),qw (.store 2 105 104)]) .skip)))) (.ai [qu 106 (.aJ .add 88 (qi 1)),qm 88 106]))))))) (.seq (.ai [qu 7 (.aM (qb false))]) (.seq (.seq (.ai [qm 107 0,qu 108 (.aP 107),qf 109 2 108,ql 110 109,qu 111 (.len 1 110),qu 112 (.aM (qi 0))]) (.block 6 (.loop (.seq (.ai [qu 113 (.aJ .lss 112 111)]) (.seq (.cond 113 .skip (.exit 6)) (.seq (.block 7 (.seq (.ai [qm 114 112,qu 8 (.alloc [qd 0]),qw (.store 1 8 114)]) (.seq (.ai [qm 115 0,qu 116 (.aP 115),qf 117 0 116,ql 118 117,qu 119 (.fn 120 [8]),qu 120 (qc 80 [118,119]),qm 9 120]) (.seq (.bV [ql 121 8,qu 122 (.aJ .gtr 121 (qi 0)),qm 123 122,qg 124 (.aM 0) 123 true,qg 125 (.aP 124) 123 true,qg 126 (.b8 2 125) 123 true,qg 127 (.load false 1 126) 123 true,qg 128 (.load false 1 8) 123 true,qg 129 (.cz 4 127 128) 123 true,qg 130 (.b8 0 129) 123 true,qg 131 (.load false 1 130) 123 true,qu 132 (.pick 123 131 (qb false)),qm 133 132,qg 134 (.aM 9) 133 true,qg 135 (.un .not 134) 133 true,qu 136 (.pick 133 135 (qb false))] [eK 16 0 .nil]) (.cond 136 (.seq (.bV [qm 137 0,qu 138 (.aP 137),qf 139 2 138,ql 140 139,ql 141 8,qu 142 (.build [(.ah (.val (.bool false))),(.ah (.val (.bool false))),qd 0,.aO] []),qu 143 (.cz 4 140 141),qw (.store 4 143 142)] [(eK 7 0 (.cons 7 (some []) .nil))]) (.ai [qu 7 (.aM (qb true))])) .skip))))) (.ai [qu 144 (.aJ .add 112 (qi 1)),qm 112 144]))))))) (.seq (.ai [qm 145 7,qm 2 145]) .ret)))))))⟩
def Pt{α:Type}(l L:List α)(f:Nat->α->α):Prop:=L.length=l.length/\∀(t:Nat)o,l[t]? =some o->L[t]? =some (f t o)
theorem Pt.refl{α:Type}(l:List α):Pt l l λ_ o=>o:=⟨rfl,λ_ _ h=>h⟩
theorem Pt.congr{α:Type}{l L:List α}{f g:Nat->α->α}(h:Pt l L f)(hfg:∀(t:Nat)o,l[t]? =some o->f t o=g t o):Pt l L g:=
 ⟨h.1,λt o ho=>by rw[<-hfg t o ho];exact h.2 t o ho⟩
theorem Pt.set{α:Type}{l L:List α}{f g:Nat->α->α}(h:Pt l L f){j:Nat}{x:α}(hx:∀o,l[j]? =some o->g j o=x)(ho:∀(t:Nat)o,t≠j->l[t]? =some o->g t o=f t o):Pt l (L.set j x) g:=by
 refine⟨by simpa using h.1,λt o Bv=>?_⟩
 have aC:t<L.length:=by rw[h.1];exact(Km.1 Bv).1
 by_cases LQ:t=j
 .subst LQ;rw[hx o Bv];simp[aC]
 .rw[U7 (λe=>LQ e.symm),ho t o LQ Bv]
  exact h.2 t o Bv
theorem Pt.at{α:Type}{l L:List α}{f:Nat->α->α}(h:Pt l L f){j:Nat}(hj:j<l.length):∃hL:j<L.length,L[j]=f j l[j]:=by
 have hL:j<L.length:=by rw[h.1];exact hj
 have:=h.2 j l[j] (vU hj);rw[vU hL]at this;exact⟨hL,by simpa using this⟩
theorem mH.NB{Y:Nat->Nat}{m:Mem}{Z:Nat->Prop}{id s:Nat}(ds:List (List Dt))(i:Nat){cs:List CC}{d:List Dt}(hl:cs.length=d.length)(h:∀(j:Nat)c c',cs[j]? =some c->(d.map CC.ah)[j]? =some c'->tv Y m Z (some id) c c'):mH Y m Z id (.row s (aV (aa ds) i cs)) (.row s (aa (ds.set i d))):=by
 rw[aY];have e:aa (ds.set i d)=(aa ds).set i (d.map .ah):=by simp[aa,abv]
 rw[e];refine .row s aE (λt xs ys h1 h2=>?_) (λt xs ys j c c' h1 h2 h3 h4=>?_)
 .rw[aaW]at h1 h2;split at h1
  .rename_i Nc;rw[if_pos Nc]at h2;split at h1
   .rename_i aC;rw[if_pos aC]at h2;cases h1;cases h2;simpa using hl
   .cases h1
  .rename_i Nc;rw[if_neg Nc]at h2;rw[h1]at h2;cases h2;rfl
 .rw[aaW]at h1 h2;split at h1
  .rename_i Nc;rw[if_pos Nc]at h2;split at h1
   .rename_i aC;rw[if_pos aC]at h2;cases h1;cases h2;exact h j c c' h3 h4
   .cases h1
  .rename_i Nc;rw[if_neg Nc]at h2;rw[h1]at h2;cases h2;rw[h3]at h4;cases h4;have hd:∃d,c= .ah d:=by rw[aa,Tm]at h1;obtain⟨es,_,rfl⟩:=aaz.1 h1;rw[Tm]at h3;obtain⟨d,_,rfl⟩:=aaz.1 h3;exact⟨d,rfl⟩
   obtain⟨d,rfl⟩:=hd;exact .bb (.ah d)
def ij:Obj:=⟨0,[],[],⟨#[]⟩,0,[],0,0,0⟩
def S9:List CC:=[.ah (.val (.int .i64 0)),.aO,.aO,.ah (.val (.string ⟨#[]⟩)),.ah (.val (.int .i64 0)),.aO,.ah (.val (.int .i64 0)),.ah (.val (.int .i64 0)),.ah (.val (.int .i64 0))]
theorem abw{Y:Nat->Nat}{m:Mem}{Z:Nat->Prop}{id:Nat}(L:List Obj)(i:Nat):mH Y m Z id (.row 9 (aV (aa (L.map Obj.enc)) i S9)) (.row 9 (aa ((L.set i ij).map Obj.enc))):=by
 rw[abv];refine mH.NB (L.map Obj.enc) i rfl λj c c' h1 h2=>?_
 match j,h1,h2 with
 |0,h1,h2=>cases h1;cases h2;exact .bb (.ah _)
 |1,h1,h2=>cases h1;cases h2;exact .fQ (.aO 1)
 |2,h1,h2=>cases h1;cases h2;exact .fQ (.aO 2)
 |3,h1,h2=>cases h1;cases h2;exact .bb (.ah _)
 |4,h1,h2=>cases h1;cases h2;exact .bb (.ah _)
 |5,h1,h2=>cases h1;cases h2;exact .fQ (.aO 4)
 |6,h1,h2=>cases h1;cases h2;exact .bb (.ah _)
 |7,h1,h2=>cases h1;cases h2;exact .bb (.ah _)
 |8,h1,h2=>cases h1;cases h2;exact .bb (.ah _)
 |n+9,h1,h2=>simp[S9]at h1
def gD:bi:=⟨false,false,0,[]⟩
theorem Ta{Y:Nat->Nat}{m:Mem}{Z:Nat->Prop}{id:Nat}(L:List bi)(i:Nat):mH Y m Z id (.row 4 (aV (aa (L.map bi.enc)) i [.ah (.val (.bool false)),.ah (.val (.bool false)),.ah (.val (.int .i64 0)),.aO])) (.row 4 (aa ((L.set i gD).map bi.enc))):=by
 rw[abv];refine mH.NB (L.map bi.enc) i rfl λj c c' h1 h2=>?_
 match j,h1,h2 with
 |0,h1,h2=>cases h1;cases h2;exact .bb (.ah _)
 |1,h1,h2=>cases h1;cases h2;exact .bb (.ah _)
 |2,h1,h2=>cases h1;cases h2;exact .bb (.ah _)
 |3,h1,h2=>cases h1;cases h2;exact .fQ (.aO 3)
 |n+4,h1,h2=>simp at h1
def e7(b:Mk)(l:List Obj)(i:Nat):Bool:=match l[i]? with
 |some o=>!(b.O[i]? ==some true)&&o.ag !=0
 |none=>false
def mz(b:Mk)(l:List Obj)(k:Nat)(z:Int):Bool:=decide (0<=z/\z.toNat<k)&&e7 b l z.toNat
def cD(b:Mk)(l:List Obj)(k:Nat)(j:Nat)(o:Obj):Obj:=if(e7 b l j&&decide (j<k))=true then ij else if(o.ag==4&&mz b l k o.bp)=true then {o with bp:= -1}else o
def jJ(i:Nat)(o:Obj):Obj:=if(o.ag==4&&o.bp==(i:Int))=true then {o with bp:= -1}else o
theorem xA(b:Mk)(l:List Obj)(i:Nat)(z:Int):mz b l (i+1) z=(mz b l i z||(z==(i:Int)&&e7 b l i)):=by
 unfold mz;by_cases h:z=(i:Int)
 .subst h;simp
 .have h1:(z==(i:Int))=false:=by simpa using h
  rw[h1];have:decide (0<=z/\z.toNat<i+1)=decide (0<=z/\z.toNat<i):=by
   apply decide_eq_decide.2;constructor<;>intro⟨h2,h3⟩<;>exact⟨h2,om⟩
  rw[this];simp
theorem J4{b:Mk}{l:List Obj}{i:Nat}(h:e7 b l i=false)(j:Nat)(o:Obj):cD b l i j o=cD b l (i+1) j o:=by
 have h1:(e7 b l j&&decide (j<i+1))=(e7 b l j&&decide (j<i)):=by
  by_cases hj:j=i
  .subst hj;rw[h];simp
  .have:decide (j<i+1)=decide (j<i):=decide_eq_decide.2 om;rw[this]
 unfold cD;rw[h1,xA,h];simp
theorem FZ{b:Mk}{l:List Obj}{i:Nat}(h:e7 b l i=true){j:Nat}(hj:j≠i)(o:Obj):jJ i (cD b l i j o)=cD b l (i+1) j o:=by
 have h1:(e7 b l j&&decide (j<i+1))=(e7 b l j&&decide (j<i)):=by have:decide (j<i+1)=decide (j<i):=decide_eq_decide.2 om;rw[this]
 unfold cD;rw[h1,xA,h];by_cases hd:(e7 b l j&&decide (j<i))=true
 .rw[if_pos hd,if_pos hd];rfl
 .rw[if_neg hd,if_neg hd];by_cases hk:(o.ag==4)=true
  .by_cases hz:mz b l i o.bp=true
   .rw[hk,hz];simp[jJ]
   .rw[adp]at hz;rw[hk,hz];by_cases hp:(o.bp==(i:Int))=true
    .simp[jJ,hk,hp]
    .rw[adp]at hp;simp[jJ,hp]
  .rw[adp]at hk;rw[hk];simp[jJ,hk]
theorem DH{b:Mk}{l:List Obj}{i:Nat}(h:e7 b l i=true)(o:Obj):cD b l (i+1) i o=ij:=by unfold cD;rw[h];simp
theorem DI(b:Mk)(l:List Obj)(j:Nat)(o:Obj):cD b l 0 j o=o:=by
 unfold cD;have:mz b l 0 o.bp=false:=by simp[mz]
 rw[this];simp
theorem DJ{b:Mk}{l:List Obj}{i:Nat}(o:Obj):(cD b l i i o).ag=o.ag:=by
 unfold cD;simp;split<;>rfl
def iP(L:List Obj)(t:Nat)(o:bi):Bool:=decide (0<t)&&(o.aL&& !(L.any (dJ (t:Int))))
def Bw(b:Mk)(k:Nat)(t:Nat)(o:bH):bH:=if(decide (t<k)&& !(b.P[t]? ==some true))=true then⟨-1,0⟩else o
def yL(L:List Obj)(k:Nat)(t:Nat)(o:bi):bi:=if(decide (t<k)&&iP L t o)=true then gD else o
def jx(L:List Obj)(ps:List bi)(k:Nat):Bool:=(List.range k).any λt=>match ps[t]? with
 |some o=>iP L t o
 |none=>false
structure cW(l:List Obj)(ops:List bH)(ps:List bi)(L:List Obj)(L2:List bH)(L3:List bi)(en:Bool):Prop where
 ex:∃b,gY l ops ps b/\Pt l L (cD b l l.length)/\Pt ops L2 (Bw b ops.length)
 pr:Pt ps L3 (yL L ps.length)
 en:en=jx L ps ps.length
structure StL where
 i:Nat
 L:List Obj
structure abx where
 i:Nat
 L:List bH
structure St3 where
 i:Nat
 L:List bi
 en:Bool
theorem Bx{l:List bH}{n:Nat}(h:n<l.length):dZ (n:Int) (lenOf (aa (l.map bH.enc)).length 0 none)=some n:=bZ (by show n<(aa (l.map bH.enc)).length;rw[bg,Pj];exact h)
theorem mJ{l:List bi}{n:Nat}(h:n<l.length):dZ (n:Int) (lenOf (aa (l.map bi.enc)).length 0 none)=some n:=bZ (by show n<(aa (l.map bi.enc)).length;rw[bg,Pj];exact h)
theorem xD{α:Type}{f:α->List Dt}{l:List α}{k:Nat}(h:(k:Int)<(((aa (l.map f)).length:Nat):Int)):k<l.length:=by rw[bg,Pj]at h;omega
theorem xE{α:Type}{f:α->List Dt}{l:List α}{k:Nat}(h:¬(k:Int)<(((aa (l.map f)).length:Nat):Int)):l.length<=k:=by rw[bg,Pj]at h;omega
theorem F0{L:List Obj}{ps:List bi}{p:Nat}(h:p<ps.length):jx L ps (p+1)=(jx L ps p||iP L p ps[p]):=by
 unfold jx;rw[List.range_succ,List.any_append,vU h|>λe=>(by simp[e]:(List.any [p] λt=>match ps[t]? with|some o=>iP L t o|none=>false)=iP L p ps[p])]
theorem F3(L:List Obj)(L2:List bH)(L3:List bi)(b:Mk)(p:Nat)(hl:L.length<=4194304){K:CV->Mem->Prop}(h:K (aD (L.any (dJ (p:Int)))) [.var [.row 1 9 0 none,.row 2 2 0 none,.row 3 4 0 none],.row 9 (aa (L.map Obj.enc)),.row 2 (aa (L2.map bH.enc)),.row 4 (aa (L3.map bi.enc)),.var [.ptr 0 0,.row 5 1 0 none,.row 6 1 0 none],.row 1 (aa (b.O.map bE)),.row 1 (aa (b.P.map bE)),.var [.ah (.val (.int .i64 (p:Nat)))]]):ap prog 80 [.rv (.one (.row 1 9 0 none)),.rv (.one (.fn 120 [7]))] [.var [.row 1 9 0 none,.row 2 2 0 none,.row 3 4 0 none],.row 9 (aa (L.map Obj.enc)),.row 2 (aa (L2.map bH.enc)),.row 4 (aa (L3.map bi.enc)),.var [.ptr 0 0,.row 5 1 0 none,.row 6 1 0 none],.row 1 (aa (b.O.map bE)),.row 1 (aa (b.P.map bE)),.var [.ah (.val (.int .i64 (p:Nat)))]] K:=by
 refine bu [1,7] 8 rfl rfl rfl rfl (args0:=[.rv (.one (.row 0 9 0 none)),.rv (.one (.fn 120 [1]))]) rfl (λi b' hi=>?_) (NA L hl 120 [.val (.int .i64 (p:Nat))] (dJ (p:Int)) (λs K hK=>UF s p K hK)) (λr m1 hr=>?_)
 .match i,hi with
  |0,hi=>cases hi;exact .inr ⟨λh=>h,_,rfl,.bL rfl⟩
  |1,hi=>cases hi;exact .inr ⟨λh=>h,_,rfl,.gC rfl⟩
  |n+2,hi=>simp at hi
 .obtain⟨rfl,rfl⟩:=hr;refine⟨Ym _,?_⟩;have e:(Bk.row 9 (aa (L.map Obj.enc))).bb (sg [1,7] 8)= .row 9 (aa (L.map Obj.enc)):=by simp only[Bk.bb,dz]
  show K _ [.var [.row 1 9 0 none,.row 2 2 0 none,.row 3 4 0 none],(Bk.row 9 (aa (L.map Obj.enc))).bb (sg [1,7] 8),.row 2 (aa (L2.map bH.enc)),.row 4 (aa (L3.map bi.enc)),.var [.ptr 0 0,.row 5 1 0 none,.row 6 1 0 none],.row 1 (aa (b.O.map bE)),.row 1 (aa (b.P.map bE)),.var [.ah (.val (.int .i64 (p:Nat)))]];rw[e];exact h
theorem l79:bz prog f79=some c79:=by kernel_rfl
theorem J5(l:List Obj)(ops:List bH)(ps:List bi)(g:∀o,o∈l->o.sm)(hl:l.length<=4194304)(ho:ops.length<=4194304)(jZ:ps.length<=4194304)(qk:∀p,p∈ps->p.aQ.length<=10):
  body prog c79 [.rv (.one (.ptr 0 0))] [.var [.row 1 9 0 none,.row 2 2 0 none,.row 3 4 0 none],.row 9 (aa (l.map Obj.enc)),.row 2 (aa (ops.map bH.enc)),.row 4 (aa (ps.map bi.enc))]
   (λr m=>∃r' m',View 4 ⟨[r],m⟩ ⟨[r'],m'⟩/\∃L L2 L3 en,cW l ops ps L L2 L3 en/\r'=aD en/\m'=[.var [.row 1 9 0 none,.row 2 2 0 none,.row 3 4 0 none],.row 9 (aa (L.map Obj.enc)),.row 2 (aa (L2.map bH.enc)),.row 4 (aa (L3.map bi.enc))]):=by
 refine(Nz l ops ps g hl ho jZ qk).mono λr m⟨b,hb,hr,hm⟩=>?_
 subst hr hm;have hbO:=hb.len.1;have hbP:=hb.len.2;refine bc (λ(s:StL)=>s.i<=l.length/\Pt l s.L (cD b l s.i)) [0,3,16] (λs=>[(17,am .i64 (s.i:Nat))]) (λs=>[.var [.row 1 9 0 none,.row 2 2 0 none,.row 3 4 0 none],.row 9 (aa (s.L.map Obj.enc)),.row 2 (aa (ops.map bH.enc)),.row 4 (aa (ps.map bi.enc)),.var [.ptr 0 0,.row 5 1 0 none,.row 6 1 0 none],.row 1 (aa (b.O.map bE)),.row 1 (aa (b.P.map bE))]) (λs=>l.length-s.i) ⟨0,l⟩ ⟨aaj _,(Pt.refl l).congr λt o _=>(DI b l t o).symm⟩ ?_ (λs hs=>?_)
 .refine View.o1 7 [0,1,2,3,4,5,6] [] ?_
  .exact .au
 obtain⟨i,L⟩:=s;obtain⟨hi,Ad⟩:=hs;have hi:i<=l.length:=hi;have Ad:Pt l L (cD b l i):=Ad;refine aN (λh=>?_) (λh=>?_)
 .have aC:i<l.length:=xD h;have ZL:i<b.O.length:=om;refine af (Aa ZL) ?_;refine af (ua ZL) ?_;have qj:∀(hd:e7 b l i=false),Pt l L (cD b l (i+1)):=λhd=>Ad.congr λt o _=>J4 hd t o
  refine aG (λh2=>?_) (λh2=>?_)
  .have hd:e7 b l i=false:=by unfold e7;rw[vU aC,vU ZL,h2];simp
   refine⟨⟨i+1,L⟩,⟨aC,qj hd⟩,(show l.length-(i+1)<l.length-i by omega),View.o2 7 [0,1,2,3,4,5,6] [] ?_⟩
   .exact .au
  .obtain⟨hL,hLi⟩:=Ad.at aC;have H6:L[i].ag=l[i].ag:=by rw[hLi,DJ]
   refine af (Ac hL) ?_;refine af (bK Obj.enc L hL) ?_;refine bs (λh3=>?_) (λh3=>?_)
   .have h3:L[i].ag=0:=h3;have hd:e7 b l i=false:=by unfold e7;rw[vU aC];show(!(b.O[i]? ==some true)&&l[i].ag !=0)=false;rw[<-H6,h3];simp
    refine⟨⟨i+1,L⟩,⟨aC,qj hd⟩,(show l.length-(i+1)<l.length-i by omega),View.o2 7 [0,1,2,3,4,5,6] [] ?_⟩
    .exact .au
   .have h3:L[i].ag≠0:=h3;have hd:e7 b l i=true:=by unfold e7;rw[vU aC,vU ZL,h2];simp[<-H6,h3]
    have hLl:=Ad.1;refine bc (λ(s:StL)=>s.i<=l.length/\Pt l s.L (λt o=>if t<s.i then jJ i (cD b l i t o)else cD b l i t o)) [0,3,4,16,17,42] (λs=>[(43,am .i64 (s.i:Nat))]) (λs=>[.var [.row 1 9 0 none,.row 2 2 0 none,.row 3 4 0 none],.row 9 (aa (s.L.map Obj.enc)),.row 2 (aa (ops.map bH.enc)),.row 4 (aa (ps.map bi.enc)),.var [.ptr 0 0,.row 5 1 0 none,.row 6 1 0 none],.row 1 (aa (b.O.map bE)),.row 1 (aa (b.P.map bE))]) (λs=>l.length-s.i) ⟨0,L⟩ ⟨aaj _,Ad.congr λt o _=>aE⟩ ?_ (λs hs=>?_)
    .refine View.o1 7 [0,1,2,3,4,5,6] [] ?_
     .exact .au
    clear Ad qj;obtain⟨j,M⟩:=s;obtain⟨hj,Ad⟩:=hs;have hj:j<=l.length:=hj;have Ad:Pt l M (λt o=>if t<j then jJ i (cD b l i t o)else cD b l i t o):=Ad
    have hMl:=Ad.1;refine aN (λmh=>?_) (λmh=>?_)
    .have ez:j<L.length:=xD mh;have J6:j<l.length:=om;obtain⟨hM,V9⟩:=Ad.at J6;simp only[Nat.lt_irrefl,if_false]at V9;have jC:=λx=>Ad.set (j:=j) (x:=x) (g:=λt o=>if t<j+1 then jJ i (cD b l i t o)else cD b l i t o)
     have sa:=λ(hh:jJ i M[j]=M[j])=>Ad.congr (g:=λt o=>if t<j+1 then jJ i (cD b l i t o)else cD b l i t o) λt o ho=>by
      by_cases LQ:t=j
      .subst LQ;rw[vU J6]at ho;cases ho;simp only[Nat.lt_irrefl,if_false,ab5,if_true];rw[<-V9,hh]
      .have e1:(t<j+1)↔(t<j):=om;simp only[e1]
     refine af (Ac hM) ?_;refine af (bK Obj.enc M hM) ?_;have Xd:=bK Obj.enc M hM;generalize hx:M[j]=x at V9 sa Xd;refine bs (λh4=>?_) (λh4=>?_)
     .have h4:x.ag=4:=h4;refine af (Ac hM) ?_;refine af Xd ?_;refine bs (λh5=>?_) (λh5=>?_)
      .have h5:x.bp=(i:Int):=h5;refine af (Ac hM) ?_;refine af Xd ?_;have hs:=jC {x with bp:= -1} (λo ho=>by
        rw[vU J6]at ho;cases ho;simp only[ab5,if_true];rw[<-V9];simp[jJ,h4,h5]) (λt o LQ _=>by
        have e1:(t<j+1)↔(t<j):=om;simp only[e1])
       refine⟨⟨j+1,M.set j {x with bp:= -1}⟩,⟨J6,hs⟩,(show l.length-(j+1)<l.length-j by omega),View.o2 7 [0,1,2,3,4,5,6] [] ?_⟩
       .exact(.pe rfl rfl rfl (.pt rfl rfl (.bL (nU Obj.enc M j {x with bp:= -1})) (.pr rfl rfl rfl (.pr rfl rfl rfl (.pe rfl rfl rfl (.pr rfl rfl rfl (.pn rfl rfl rfl)))))))
      .have h5:x.bp≠(i:Int):=h5;refine⟨⟨j+1,M⟩,⟨J6,sa (by simp[jJ,h5])⟩,(show l.length-(j+1)<l.length-j by omega),View.o2 7 [0,1,2,3,4,5,6] [] ?_⟩
       .exact .au
     .have h4:x.ag≠4:=h4;refine⟨⟨j+1,M⟩,⟨J6,sa (by simp[jJ,h4])⟩,(show l.length-(j+1)<l.length-j by omega),View.o2 7 [0,1,2,3,4,5,6] [] ?_⟩
      .exact .au
    .have ET:L.length<=j:=xE mh;have hM:i<M.length:=om;refine af (Ac hM) ?_;refine af (bK Obj.enc M hM) ?_;have hs:=Ad.set (j:=i) (x:=ij) (g:=cD b l (i+1)) (λo _=>DH hd o) (λt o Nc ht=>by
      have:t<j:=by have:=(Km.1 ht).1;omega
      rw[if_pos this,FZ hd Nc])
     refine⟨⟨i+1,M.set i ij⟩,⟨aC,hs⟩,(show l.length-(i+1)<l.length-i by omega),View.o2 7 [0,1,2,3,4,5,6] [] ?_⟩
     .exact(.pe rfl rfl rfl (.pt rfl rfl (abw M i) (.pr rfl rfl rfl (.pr rfl rfl rfl (.pe rfl rfl rfl (.pr rfl rfl rfl (.pn rfl rfl rfl)))))))
 .have h9:l.length<=i:=xE h;have me:i=l.length:=om;subst me;have hLl:=Ad.1;refine bc (λ(s:abx)=>s.i<=ops.length/\Pt ops s.L (Bw b s.i)) [0,3,87] (λs=>[(88,am .i64 (s.i:Nat))]) (λs=>[.var [.row 1 9 0 none,.row 2 2 0 none,.row 3 4 0 none],.row 9 (aa (L.map Obj.enc)),.row 2 (aa (s.L.map bH.enc)),.row 4 (aa (ps.map bi.enc)),.var [.ptr 0 0,.row 5 1 0 none,.row 6 1 0 none],.row 1 (aa (b.O.map bE)),.row 1 (aa (b.P.map bE))]) (λs=>ops.length-s.i) ⟨0,ops⟩ ⟨aaj _,(Pt.refl ops).congr λt o _=>by simp[Bw]⟩ ?_ (λs hs=>?_)
  .refine View.o1 7 [0,1,2,3,4,5,6] [] ?_
   .exact .au
  obtain⟨k,L2⟩:=s;obtain⟨hk,CG⟩:=hs;have hk:k<=ops.length:=hk;have CG:Pt ops L2 (Bw b k):=CG;have afQ:=CG.1;refine aN (λh=>?_) (λh=>?_)
  .have M5:k<ops.length:=xD h;have ZM:k<b.P.length:=om;refine af (Aa ZM) ?_;refine af (ua ZM) ?_;have kF:∀t,t≠k->decide (t<k+1)=decide (t<k):=λt ht=>decide_eq_decide.2 om
   refine aG (λh2=>?_) (λh2=>?_)
   .have h2:b.P[k]=false:=by simpa using h2
    have hL2:k<L2.length:=om;refine af (Bx hL2) ?_;refine af (bK bH.enc L2 hL2) ?_;have hs:=CG.set (j:=k) (x:=⟨-1,0⟩) (g:=Bw b (k+1)) (λo _=>by simp[Bw,vU ZM,h2]) (λt o Tc _=>by unfold Bw;rw[kF t Tc])
    refine⟨⟨k+1,L2.set k ⟨-1,0⟩⟩,⟨M5,hs⟩,(show ops.length-(k+1)<ops.length-k by omega),View.o2 7 [0,1,2,3,4,5,6] [] ?_⟩
    .exact(.pe rfl rfl rfl (.pr rfl rfl rfl (.pt rfl rfl (.bL (nU bH.enc L2 k ⟨-1,0⟩)) (.pr rfl rfl rfl (.pe rfl rfl rfl (.pr rfl rfl rfl (.pn rfl rfl rfl)))))))
   .have h2:b.P[k]=true:=by simpa using h2
    have hs:=CG.congr (g:=Bw b (k+1)) λt o _=>by
     by_cases Tc:t=k
     .subst Tc;simp[Bw,vU ZM,h2]
     .unfold Bw;rw[kF t Tc]
    refine⟨⟨k+1,L2⟩,⟨M5,hs⟩,(show ops.length-(k+1)<ops.length-k by omega),View.o2 7 [0,1,2,3,4,5,6] [] ?_⟩
    .exact .au
  .have h9:ops.length<=k:=xE h;have Bu:k=ops.length:=om;subst Bu;refine bc (λ(s:St3)=>s.i<=ps.length/\Pt ps s.L (yL L s.i)/\s.en=jx L ps s.i) [0,3,111] (λs=>[(112,am .i64 (s.i:Nat)),(7,aD s.en)]) (λs=>[.var [.row 1 9 0 none,.row 2 2 0 none,.row 3 4 0 none],.row 9 (aa (L.map Obj.enc)),.row 2 (aa (L2.map bH.enc)),.row 4 (aa (s.L.map bi.enc)),.var [.ptr 0 0,.row 5 1 0 none,.row 6 1 0 none],.row 1 (aa (b.O.map bE)),.row 1 (aa (b.P.map bE))]) (λs=>ps.length-s.i) ⟨0,ps,false⟩ ⟨aaj _,(Pt.refl ps).congr λt o _=>by simp[yL],rfl⟩ ?_ (λs hs=>?_)
   .refine View.o1 7 [0,1,2,3,4,5,6] [] ?_
    .exact .au
   obtain⟨p,L3,en⟩:=s;obtain⟨hp,UH,qD⟩:=hs;have hp:p<=ps.length:=hp;have UH:Pt ps L3 (yL L p):=UH;have qD:en=jx L ps p:=qD;have afR:=UH.1;refine aN (λh=>?_) (λh=>?_)
   .have jq:p<ps.length:=xD h;obtain⟨ZN,QT⟩:=UH.at jq;have QT:L3[p]=ps[p]:=by rw[QT];simp[yL]
    have kF:∀t,t≠p->decide (t<p+1)=decide (t<p):=λt ht=>decide_eq_decide.2 om
    have X2:=F0 (L:=L) jq;have qE:iP L p ps[p]=false->Pt ps L3 (yL L (p+1))/\en=jx L ps (p+1):=λhf=>⟨UH.congr λt o Bv=>by
     by_cases QU:t=p
     .subst QU;rw[vU jq]at Bv;cases Bv;simp[yL,hf]
     .unfold yL;rw[kF t QU],by rw[X2,hf,qD];simp⟩
    refine F3 L L2 L3 b p om ?_;refine aN (λzh=>?_) (λzh=>?_)
    .have zh:0<p:=by have h:(p:Int)>0:=zh;omega
     refine af (mJ ZN) ?_;refine af (bK bi.enc L3 ZN) ?_;refine aG (λbC=>?_) (λbC=>?_)
     .refine aG (λER=>?_) (λER=>?_)
      .refine af (mJ ZN) ?_;refine af (bK bi.enc L3 ZN) ?_;refine⟨trivial,?_⟩;have he:iP L p ps[p]=true:=by rw[QT]at bC;unfold iP;rw[bC,ER];simp[zh]
       have hs:=UH.set (j:=p) (x:=gD) (g:=yL L (p+1)) (λo Bv=>by rw[vU jq]at Bv;cases Bv;simp[yL,he]) (λt o QU _=>by unfold yL;rw[kF t QU])
       refine⟨⟨p+1,L3.set p gD,true⟩,⟨jq,hs,(by rw[X2,he];simp)⟩,(show ps.length-(p+1)<ps.length-p by omega),View.o2 8 [0,1,2,3,4,5,6] [] ?_⟩
       .exact(.pe rfl rfl rfl (.pr rfl rfl rfl (.pr rfl rfl rfl (.pt rfl rfl (Ta L3 p) (.pe rfl rfl rfl (.pr rfl rfl rfl (.pn rfl rfl rfl)))))))
      .skip
       refine⟨⟨p+1,L3,en⟩,⟨jq,(qE (by unfold iP;rw[ER];simp)).1,(qE (by unfold iP;rw[ER];simp)).2⟩,(show ps.length-(p+1)<ps.length-p by omega),View.o2 8 [0,1,2,3,4,5,6] [] ?_⟩
       .exact .au
     .rw[QT]at bC;refine⟨⟨p+1,L3,en⟩,⟨jq,(qE (by unfold iP;rw[bC];simp)).1,(qE (by unfold iP;rw[bC];simp)).2⟩,(show ps.length-(p+1)<ps.length-p by omega),View.o2 8 [0,1,2,3,4,5,6] [] ?_⟩
      .exact .au
    .have zh:p=0:=by have h:¬(p:Int)>0:=zh;omega
     refine⟨⟨p+1,L3,en⟩,⟨jq,(qE (by simp[iP,zh])).1,(qE (by simp[iP,zh])).2⟩,(show ps.length-(p+1)<ps.length-p by omega),View.o2 8 [0,1,2,3,4,5,6] [] ?_⟩
     .exact .au
   .have h9:ps.length<=p:=xE h;have yV:p=ps.length:=om;subst yV;refine⟨aD en,_,View.o 7 [0,1,2,3] [] (.eq rfl .nil) (.pe rfl rfl rfl (.pr rfl rfl rfl (.pr rfl rfl rfl (.pn rfl rfl rfl)))),L,L2,L3,en,⟨⟨b,hb,Ad,CG⟩,UH,qD⟩,rfl,rfl⟩
theorem QW(l:List Obj)(ops:List bH)(ps:List bi)(g:∀o,o∈l->o.sm)(hl:l.length<=4194304)(ho:ops.length<=4194304)(jZ:ps.length<=4194304)(qk:∀p,p∈ps->p.aQ.length<=10):
  ap prog 79 [.rv (.one (.ptr 0 0))] [.var [.row 1 9 0 none,.row 2 2 0 none,.row 3 4 0 none],.row 9 (aa (l.map Obj.enc)),.row 2 (aa (ops.map bH.enc)),.row 4 (aa (ps.map bi.enc))]
   (λr m=>∃L L2 L3 en,cW l ops ps L L2 L3 en/\r=aD en/\m=[.var [.row 1 9 0 none,.row 2 2 0 none,.row 3 4 0 none],.row 9 (aa (L.map Obj.enc)),.row 2 (aa (L2.map bH.enc)),.row 4 (aa (L3.map bi.enc))]):=
 bJ (aZ func79 l79 (J5 l ops ps g hl ho jZ qk)) λr m1 h=>h
structure dN(l:List Obj)(ops:List bH)(ps:List bi):Prop where
 sm:∀o,o∈l->o.sm
 ll:l.length<=4194304
 lo:ops.length<=4194304
 lp:ps.length<=4194304
 sl:∀p,p∈ps->p.aQ.length<=10
 ne:ps≠[]
theorem ND:ij.sm:=⟨⟨⟨[],rfl⟩,⟨[],rfl⟩,λq hq=>by simp[ij]at hq⟩,by simp[ij],by simp[ij],by simp[ij],λq hq=>by simp[ij]at hq⟩
theorem Pt.all{α:Type}{l L:List α}{f:Nat->α->α}(h:Pt l L f){Q:α->Prop}(hf:∀(t:Nat)o,l[t]? =some o->Q (f t o)):∀x,x∈L->Q x:=by
 intro x hx;obtain⟨t,ht⟩:=aaa hx;have aC:t<l.length:=by have:=(Km.1 ht).1;rw[h.1]at this;exact this
 have:=h.2 t l[t] (vU aC);rw[ht]at this;cases this;exact hf t _ (vU aC)
theorem cW.kr{l:List Obj}{ops:List bH}{ps:List bi}{L:List Obj}{L2:List bH}{L3:List bi}{en:Bool}(h:cW l ops ps L L2 L3 en)(k:dN l ops ps):dN L L2 L3:=by
 obtain⟨b,hb,hP,CG⟩:=h.ex;refine⟨hP.all λt o ho=>?_,by rw[hP.1];exact k.ll,by rw[CG.1];exact k.lo,by rw[h.pr.1];exact k.lp,h.pr.all (Q:=λp=>p.aQ.length<=10) λt o ho=>?_,λe=>k.ne (aag (by rw[<-h.pr.1,e];rfl))⟩
 .have hs:=k.sm o (Tp ho);unfold cD;split
  .exact ND
  .split
   .exact⟨⟨hs.t.1,hs.t.2.1,hs.t.2.2⟩,hs.d,hs.e,hs.q,hs.qd⟩
   .exact hs
 .unfold yL;split
  .simp[gD]
  .exact k.sl o (Tp ho)
def lC(ps:List bi):Nat:=(ps.filter λp=>p.aL).length
theorem DK:∀(a b:List bi),b.length=a.length->(∀(t:Nat)x y,a[t]? =some x->b[t]? =some y->y.aL=true->x.aL=true)->lC b<=lC a/\((∃(t:Nat)(x y:bi),a[t]? =some x/\b[t]? =some y/\x.aL=true/\y.aL=false)->lC b<lC a)
 | [],[],_,_=>⟨Ym _,λ⟨t,x,y,h,_⟩=>by simp at h⟩
 | [],_::_,h,_=>by simp at h
 |_::_,[],h,_=>by simp at h
 |x::a,y::b,h,hm=>by
  obtain⟨ih1,ih2⟩:=DK a b (by simpa using h) (λt u v hu hv=>hm (t+1) u v (by simpa using hu) (by simpa using hv))
  have h0:=hm 0 x y aE aE;refine⟨?_,λ⟨t,u,v,hu,hv,hul,yZ⟩=>?_⟩
  .unfold lC at ih1|-;cases hx:x.aL<;>cases hy:y.aL<;>simp[hx,hy]at h0|-<;>omega
  .cases t with
   |zero=>
    simp at hu hv;subst hu hv;unfold lC at ih1|-;simp[hul,yZ];omega
   |succ t=>
    have:=ih2 ⟨t,u,v,by simpa using hu,by simpa using hv,hul,yZ⟩
    unfold lC at this|-;cases hx:x.aL<;>cases hy:y.aL<;>simp[hx,hy]at h0|-<;>omega
theorem cW.lC{l:List Obj}{ops:List bH}{ps:List bi}{L:List Obj}{L2:List bH}{L3:List bi}(h:cW l ops ps L L2 L3 true):lC L3<Go.Proofs.YtodckkkbiidffaaGreatDoor.lC ps:=by
 have qD:=h.en;unfold jx at qD;have qD:=qD.symm;rw[abc]at qD;obtain⟨t,ht,By⟩:=qD;have HS:t<ps.length:=by simpa using ht
 rw[vU HS]at By;have By:iP L t ps[t]=true:=By;refine(DK ps L3 h.pr.1 (λi x y hx hy hl=>?_)).2 ⟨t,ps[t],gD,vU HS,?_,?_,rfl⟩
 .have:=h.pr.2 i x hx;rw[hy]at this;cases this;unfold yL at hl;split at hl
  .simp[gD]at hl
  .exact hl
 .have:=h.pr.2 t _ (vU HS);rw[this];simp[yL,By,HS]
 .unfold iP at By;simp at By;exact By.2.1
structure Kr where
 l:List Obj
 ops:List bH
 ps:List bi
inductive iQ(k:Kr):Kr->Prop
 |refl:iQ k k
 |step {a b:Kr} (h:iQ k a) (ho:cW a.l a.ops a.ps b.l b.ops b.ps true):iQ k b
theorem NF{Y:Nat->Nat}{m:Mem}{Z:Nat->Prop}{p:Option Nat}{a b:Dt}(h:a=b):tv Y m Z p (.ah a) (.ah b):=h▸ .bb (.ah a)
theorem F4(a:Kr)(ha:dN a.l a.ops a.ps){K:CV->Mem->Prop}(x0:Bk)(h:∀(c:Kr)en,cW a.l a.ops a.ps c.l c.ops c.ps en->K (aD en) [x0,.var z3,.var [.row 3 9 0 none,.row 4 2 0 none,.row 5 4 0 none],.row 9 (aa (c.l.map Obj.enc)),.row 2 (aa (c.ops.map bH.enc)),.row 4 (aa (c.ps.map bi.enc))]):
  ap prog 79 [.rv (.one (.ptr 2 0))] [x0,.var z3,.var [.row 3 9 0 none,.row 4 2 0 none,.row 5 4 0 none],.row 9 (aa (a.l.map Obj.enc)),.row 2 (aa (a.ops.map bH.enc)),.row 4 (aa (a.ps.map bi.enc))] K:=by
 refine bu [2,3,4,5] 6 rfl rfl rfl rfl (args0:=[.rv (.one (.ptr 0 0))]) rfl (λi b' hi=>?_) (QW a.l a.ops a.ps ha.sm ha.ll ha.lo ha.lp ha.sl) (λr m1 hr=>?_)
 .match i,hi with
  |0,hi=>cases hi;exact .inr ⟨λh=>h,_,rfl,.eq rfl aE⟩
  |1,hi=>cases hi;exact .inr ⟨λh=>h,_,rfl,.bL rfl⟩
  |2,hi=>cases hi;exact .inr ⟨λh=>h,_,rfl,.bL rfl⟩
  |3,hi=>cases hi;exact .inr ⟨λh=>h,_,rfl,.bL rfl⟩
  |n+4,hi=>simp at hi
 .obtain⟨L,L2,L3,en,ho,rfl,rfl⟩:=hr;refine⟨Ym _,?_⟩;have e:∀(s:Nat)(ds:List (List Dt)),(Bk.row s (aa ds)).bb (sg [2,3,4,5] 6)= .row s (aa ds):=λs ds=>by simp only[Bk.bb,dz]
  show K _ [x0,.var z3,.var [.row 3 9 0 none,.row 4 2 0 none,.row 5 4 0 none],(Bk.row 9 (aa (L.map Obj.enc))).bb (sg [2,3,4,5] 6),(Bk.row 2 (aa (L2.map bH.enc))).bb (sg [2,3,4,5] 6),(Bk.row 4 (aa (L3.map bi.enc))).bb (sg [2,3,4,5] 6)];rw[e,e,e];exact h ⟨L,L2,L3⟩ en ho
def c82:LF:= ⟨16,[.tmp 3],(.seq (.ai [qu 2 (.box 0),qu 3 (.aM (qb false))]) (.seq (.ai [qf 4 0 2,ql 5 4,qu 6 (.aJ .eql 5 (qi 5)),qm 7 6,qg 8 (.b8 6 2) 7 true,qg 9 (.load false 1 8) 7 true,qg 10 (.b8 2 1) 7 true,qg 11 (.load false 1 10) 7 true,qg 12 (.len 1 11) 7 true,qg 13 (.aJ .sub 12 (qi 1)) 7 true,qg 14 (.aJ .eql 9 13) 7 true,qu 15 (.pick 7 14 (qb false)),qm 3 15]) .ret))⟩
theorem l82:bz prog f82=some c82:=by kernel_rfl
theorem F5(l:List Obj)(hb:l.length<=4194304)(F:Nat)(cs:List Dt)(q:Obj->Bool)(hF:∀s,∀K:CV->Mem->Prop,K (aD (q s)) [.var (cs.map .ah)]->ap prog F [s.cv,.rv (.one (.ptr 0 0))] [.var (cs.map .ah)] K):
  body prog c121 [cC l,.rv (.one (.fn F [0]))] [.var (cs.map .ah)] (λr m=>r=am .i64 (oC q l)/\m=[.var (cs.map .ah)]):=by
 refine bc (λk=>k<=l.length/\∀(j:Nat)s,j<k->l[j]? =some s->q s=false) [0,1,7] (λk=>[(8,am .i64 (k:Nat))]) (λ_=>[.var (cs.map .ah)]) (λk=>l.length-k) 0 ⟨aaj _,λj s h=>absurd h (aaU j)⟩ ?_ (λk hk=>?_)
 .refine View.o1 1 [0] [] ?_
  .exact .pt rfl rfl (.gC rfl) (.nil _)
 .refine aN (λh=>?_) (λh=>?_)
  .have aC:k<l.length:=by have h:(k:Int)<((l.map Obj.enc).length:Int):=h;rw[Pj]at h;omega
   refine af (Bq aC) ?_;have hi:=vU aC;have QS:=lA (q:=q) aC;generalize l[k]=o at hi QS;refine hF o _ ?_;refine aG (λIi=>?_) (λIi=>?_)
   .rw[QS Ii hk.2];exact⟨rfl,rfl⟩
   .refine⟨k+1,⟨aC,λj s hj hs=>?_⟩,(show l.length-(k+1)<l.length-k by omega),View.o 1 [0] [] ?_ ?_⟩
    .rcases aaf j k with h5|h5
     .exact hk.2 j s h5 hs
     .have:j=k:=om;subst this;rw[hi]at hs;cases hs;exact Ii
    .repeat(first|exact .nil|refine .aA ?_|refine .put (.bb (cj om).symm) ?_|refine .eq rfl ?_)
    .exact .pt rfl rfl (.gC rfl) (.nil _)
  .have d8:¬(k:Int)<((l.map Obj.enc).length:Int):=h;rw[Pj]at d8;rw[nr λj s hs=>hk.2 j s (by have:=(Km.1 hs).1;omega) hs]
   exact⟨rfl,rfl⟩
theorem DL(l:List Obj)(hb:l.length<=4194304)(F:Nat)(cs:List Dt)(q:Obj->Bool)(hF:∀s,∀K:CV->Mem->Prop,K (aD (q s)) [.var (cs.map .ah)]->ap prog F [s.cv,.rv (.one (.ptr 0 0))] [.var (cs.map .ah)] K):
  body prog c80 [cC l,.rv (.one (.fn F [0]))] [.var (cs.map .ah)] (λr m=>r=aD (l.any q)/\m=[.var (cs.map .ah)]):=by
 refine(aZ func121 l121 (F5 l hb F cs q hF)).mono λr m⟨hr,hm⟩=>?_
 subst hr hm;refine⟨?_,rfl⟩;show aD _=aD _;rw[<-sF]
theorem uc(l:List Obj)(hb:l.length<=4194304)(F:Nat)(cs:List Dt)(q:Obj->Bool)(hF:∀s,∀K:CV->Mem->Prop,K (aD (q s)) [.var (cs.map .ah)]->ap prog F [s.cv,.rv (.one (.ptr 0 0))] [.var (cs.map .ah)] K)(K:CV->Mem->Prop)(h:K (aD (l.any q)) [.var (cs.map .ah)]):
  ap prog 80 [cC l,.rv (.one (.fn F [0]))] [.var (cs.map .ah)] K:=
 (aZ func80 l80 (DL l hb F cs q hF)).mono λr m⟨hr,hm⟩=>by subst hr hm;exact h
def c41:LF:= ⟨120,[.cell true 3 2],(.seq (.ai [qu 1 (.box 0),qu 2 (.alloc [.aO,.aO,.aO])]) (.seq (.ai [qL 6 3 1,qu 7 (qc 59 [6]),qu 3 (.alloc [.aO,.aO,.aO]),qw (.store 3 3 7)]) (.seq (.block 0 (.loop (.seq (.seq (.ai [qu 8 (qc 79 [3])]) (.cond 8 .skip (.exit 0))) (.block 1 .skip)))) (.seq (.block 2 (.loop (.seq (.seq (.ai [qf 9 0 3,ql 10 9,qu 11 (.len 1 10),qu 12 (.aJ .gtr 11 (qi 1)),qm 13 12,qg 14 (.b8 0 3) 13 true,qg 15 (.load false 1 14) 13 true,qg 16 (.b8 0 3) 13 true,qg 17 (.load false 1 16) 13 true,qg 18 (.len 1 17) 13 true,qg 19 (.aJ .sub 18 (qi 1)) 13 true,qg 20 (.cz 9 15 19) 13 true,qg 21 (.b8 0 20) 13 true,qg 22 (.load false 1 21) 13 true,qg 23 (.aJ .eql 22 (qi 0)) 13 true,qu 24 (.pick 13 23 (qb false))]) (.cond 24 .skip (.exit 2))) (.block 3 (.ai [qf 25 0 3,ql 26 25,qf 27 0 3,ql 28 27,qu 29 (.len 1 28),qu 30 (.aJ .sub 29 (qi 1)),qu 31 (.oG 9 26 none (some 30) none),qf 32 0 3,qw (.store 1 32 31)]))))) (.cX (.seq (.block 4 (.loop (.seq (.seq (.ai [qf 33 1 3,ql 34 33,qu 35 (.len 1 34),qu 36 (.aJ .gtr 35 (qi 0)),qm 37 36,qg 38 (.b8 1 3) 37 true,qg 39 (.load false 1 38) 37 true,qg 40 (.b8 1 3) 37 true,qg 41 (.load false 1 40) 37 true,qg 42 (.len 1 41) 37 true,qg 43 (.aJ .sub 42 (qi 1)) 37 true,qg 44 (.cz 2 39 43) 37 true,qg 45 (.b8 0 44) 37 true,qg 46 (.load false 1 45) 37 true,qg 47 (.aJ .lss 46 (qi 0)) 37 true,qu 48 (.pick 37 47 (qb false))]) (.cond 48 .skip (.exit 4))) (.block 5 (.ai [qf 49 1 3,ql 50 49,qf 51 1 3,ql 52 51,qu 53 (.len 1 52),qu 54 (.aJ .sub 53 (qi 1)),qu 55 (.oG 2 50 none (some 54) none),qf 56 1 3,qw (.store 1 56 55)]))))) (.seq (.cX (.seq (.ai [qf 57 2 3,ql 58 57,qu 59 (.len 1 58),qu 60 (.aM (qi 0))]) (.block 6 (.loop (.seq (.ai [qu 61 (.aJ .lss 60 59)]) (.seq (.cond 61 .skip (.exit 6)) (.seq (.block 7 (.seq (.ai [qm 62 60,qu 4 (.alloc [qd 0]),qw (.store 1 4 62)]) (.seq (.ai [qf 63 0 3,ql 64 63,qu 65 (.fn 81 [4]),qu 66 (qc 80 [64,65]),qm 5 66]) (.seq (.ai [ql 67 4,qu 68 (.aJ .gtr 67 (qi 0)),qm 69 68,qg 70 (.b8 2 3) 69 true,qg 71 (.load false 1 70) 69 true,qg 72 (.load false 1 4) 69 true,qg 73 (.cz 4 71 72) 69 true,qg 74 (.b8 0 73) 69 true,qg 75 (.load false 1 74) 69 true,qg 76 (.un .not 75) 69 true,qu 77 (.pick 69 76 (qb false)),qm 78 77,qg 79 (.aM 5) 78 true,qg 80 (.un .not 79) 78 true,qu 81 (.pick 78 80 (qb false))]) (.cond 81 (.ai [qf 82 2 3,ql 83 82,ql 84 4,qu 85 (.build [(.ah (.val (.bool false))),(.ah (.val (.bool false))),qd 0,.aO] []),qu 86 (.cz 4 83 84),qw (.store 4 86 85)]) .skip))))) (.ai [qu 87 (.aJ .add 60 (qi 1)),qm 60 87])))))))) (.cX (.seq (.block 8 (.loop (.seq (.seq (.ai [qf 88 2 3,ql 89 88,qu 90 (.len 1 89),qu 91 (.aJ .gtr 90 (qi 1)),qm 92 91,qg 93 (.b8 2 3) 92 true,qg 94 (.load false 1 93) 92 true,qg 95 (.b8 2 3) 92 true,qg 96 (.load false 1 95) 92 true,qg 97 (.len 1 96) 92 true,qg 98 (.aJ .sub 97 (qi 1)) 92 true,qg 99 (.cz 4 94 98) 92 true,qg 100 (.b8 0 99) 92 true,qg 101 (.load false 1 100) 92 true,qg 102 (.un .not 101) 92 true,qu 103 (.pick 92 102 (qb false)),qm 104 103,qg 105 (.b8 0 3) 104 true,qg 106 (.load false 1 105) 104 true,qg 107 (.fn 82 [3]) 104 true,qg 108 (qc 80 [106,107]) 104 true,qg 109 (.un .not 108) 104 true,qu 110 (.pick 104 109 (qb false))]) (.cond 110 .skip (.exit 8))) (.block 9 (.ai [qf 111 2 3,ql 112 111,qf 113 2 3,ql 114 113,qu 115 (.len 1 114),qu 116 (.aJ .sub 115 (qi 1)),qu 117 (.oG 4 112 none (some 116) none),qf 118 2 3,qw (.store 1 118 117)]))))) (.seq (.ai [qL 119 3 3,qw (.store 3 2 119)]) .ret))))))))))⟩
theorem l41:bz prog f41=some c41.er:=by kernel_rfl
theorem DM(o:Obj)(a c:Dt)(ps:List bi):body prog c82 [o.cv,.rv (.one (.ptr 0 0))] [.var ([a,c,gG ps].map .ah)] (λr m=>r=aD (dJ (IntKind.i64.wrap (((ps.map bi.enc).length:Int)-1)) o)/\∃ex,m= .var ([a,c,gG ps].map .ah)::ex):=by
 refine aG (λh=>?_) (λh=>?_)
 .refine⟨?_,_,rfl⟩;show aD _=aD _;rw[dJ,h];rfl
 .refine⟨?_,_,rfl⟩;show aD _=aD _;rw[dJ,h];rfl
theorem UI(o:Obj)(a c:Dt)(ps:List bi)(K:CV->Mem->Prop)(h:K (aD (dJ (IntKind.i64.wrap (((ps.map bi.enc).length:Int)-1)) o)) [.var ([a,c,gG ps].map .ah)]):ap prog 82 [o.cv,.rv (.one (.ptr 0 0))] [.var ([a,c,gG ps].map .ah)] K:=
 eY rfl (aZ func82 l82 (DM o a c ps)) h
structure DN{α:Type}(q:Nat->α->Bool)(mn:Nat)(L:List α)(n:Nat):Prop where
 le:n<=L.length
 mn:min mn L.length<=n
 dr:∀(t:Nat)o,n<=t->L[t]? =some o->q t o=true
structure qn{α:Type}(q:Nat->α->Bool)(mn:Nat)(L:List α)(n:Nat):Prop where
 t:DN q mn L n
 e:n<=mn\/∃o,L[n-1]? =some o/\q (n-1) o=false
theorem DN.start{α:Type}(q:Nat->α->Bool)(mn:Nat)(L:List α):DN q mn L L.length:=
 ⟨Ym _,Nat.min_le_right _ _,λt o h ho=>by have:=(Km.1 ho).1;omega⟩
theorem DN.step{α:Type}{q:Nat->α->Bool}{mn:Nat}{L:List α}{n:Nat}(h:DN q mn L n)(hn:mn<n)(hl:n-1<L.length)(hq:q (n-1) L[n-1]=true):DN q mn L (n-1):=
 ⟨om,om,λt o ht ho=>by
  rcases aaf t n with h1|h1
  .have:t=n-1:=om;subst this;rw[vU hl]at ho;cases ho;exact hq
  .exact h.dr t o h1 ho⟩
theorem ik{α:Type}{L:List α}{n:Nat}(h:n<=L.length):(L.take n).length=n:=by rw[aaA];omega
theorem xF{α:Type}(f:α->List Dt)(L:List α){n:Nat}(h:n<=L.length):(((L.take n).map f).take (n-1)).drop 0=(L.take (n-1)).map f:=by rw[adR,<-adh,List.take_take,ads om]
theorem xG{α:Type}(f:α->List Dt)(L:List α){n:Nat}(h1:0<n)(h:n<=L.length):dD ((L.take n).map f) ((n-1:Nat):Int)=some (f (L[n-1]'(by omega))):=by rw[bG,Tm,abV om,vU om];rfl
def qO(_:Nat)(o:Obj):Bool:=o.ag==0
def qP(_:Nat)(o:bH):Bool:=decide (o.bm<0)
def qZ(O:List Obj)(t:Nat)(o:bi):Bool:=decide (0<t)&&(!o.aL&& !(O.any (dJ (t:Int))))
def tx(O:List Obj)(k:Nat)(t:Nat)(o:bi):bi:=if(decide (t<k)&&qZ O t o)=true then gD else o
def qR(O:List Obj)(t:Nat)(o:bi):Bool:= !o.aL&& !(O.any (dJ (t:Int)))
structure gT(c:Kr)(d:Kr):Prop where
 ex:∃(n1 n2 n3:Nat)(P:List bi),qn qO 1 c.l n1/\qn qP 0 c.ops n2/\Pt c.ps P (tx (c.l.take n1) c.ps.length)/\qn (qR (c.l.take n1)) 1 P n3/\d=⟨c.l.take n1,c.ops.take n2,P.take n3⟩
def KS(k:Kr)(r:CV)(m:Mem):Prop:=∃a c d,iQ k a/\cW a.l a.ops a.ps c.l c.ops c.ps false/\gT c d/\cV m r (eI d.l d.ops d.ps)
def EKs(k:Kr):Ex->St->Prop:=oO prog c41.l8 (KS k)
def T4:LC:=rf (bN (bN (bN (bN c41.code))))
def T57:LC:=rf (XU (bN T4))
def R8:LC:=bN (bN T4)
def E60:List CV:=kS 120 [(2,.rv (.one (.ptr 1 0))),(3,.rv (.one (.ptr 2 0)))]
theorem abA(m:Mem)(d:Kr):cV m (.rv (.agg [.ah (dm d.l),.ah (ff d.ops),.ah (gG d.ps)])) (eI d.l d.ops d.ps):=cV.self rfl
theorem abB(k a c:Kr)(ha:iQ k a)(hc:cW a.l a.ops a.ps c.l c.ops c.ps false)(hk:dN c.l c.ops c.ps)(n1 n2:Nat)(h1:qn qO 1 c.l n1)(h2:qn qP 0 c.ops n2)(P:List bi)(O:List Obj)(hO:O=c.l.take n1)(hP:Pt c.ps P (tx (c.l.take n1) c.ps.length)):aw prog 0 (rf R8) (EKs k) ⟨E60,[.aS,.var z3,.var [.ah (dm O),.ah (ff (c.ops.take n2)),.ah (gG P)]]⟩:=by
 have ZO:P.length<=4194304:=by rw[hP.1];exact hk.lp
 have ZP:O.length<=4194304:=by rw[hO,aaA];have:=hk.ll;omega
 have UJ:∀(n:Nat)(m:Mem),DN (qR O) 1 P n->(n<=1\/∃o,P[n-1]? =some o/\qR O (n-1) o=false)->KS k (.rv (.agg [.ah (dm O),.ah (ff (c.ops.take n2)),.ah (gG (P.take n))])) m:=λn m hn he=>
  ⟨a,c,⟨O,c.ops.take n2,P.take n⟩,ha,hc,⟨n1,n2,n,P,h1,h2,hP,by rw[<-hO];exact⟨hn,he⟩,by rw[hO]⟩,abA m ⟨O,c.ops.take n2,P.take n⟩⟩
 refine bc (λn=>DN (qR O) 1 P n) [2,3] (λ_=>[]) (λn=>[.aS,.var z3,.var [.ah (dm O),.ah (ff (c.ops.take n2)),.ah (gG (P.take n))]]) (λn=>n) P.length (.start _ _ _) ?_ (λn hn=>?_)
 .refine View.o1 3 [0,1,2] [] ?_
  .exact(.aS (.pe rfl rfl rfl (.pt rfl rfl (fv.var (.cons (.bb (.ah _)) (.cons (.bb (.ah _)) (.cons (NF (by rw[aaV])) .nil)))) (.nil _))))
 have hn:DN (qR O) 1 P n:=hn;have kG:=hn.le;refine aN (λh=>?_) (λh=>?_)
 .have q8:1<n:=by have h:(((P.take n).map bi.enc).length:Int)>1:=h;rw[Pj,ik kG]at h;omega
  have hz:IntKind.i64.wrap ((((P.take n).map bi.enc).length:Int)-1)=((n-1:Nat):Int):=by rw[Pj,ik kG,iD om om];omega
  have aC:n-1<P.length:=om;have hg:=xG bi.enc P om kG;rw[<-hz]at hg;have ot:=vU aC;have ol:=hn.step om aC;generalize P[n-1]=x at hg ot ol;have hg:dD ((P.take n).map bi.enc) (IntKind.i64.wrap ((((P.take n).map bi.enc).length:Int)-1))=some [.val (.bool x.aL),.val (.bool x.fenced),.val (.int .i64 x.code),ze x.aQ]:=hg;refine af hg ?_;refine aG (λbC=>?_) (λbC=>?_)
  .refine fA (args0:=[cC O,.rv (.one (.fn 82 [0]))]) (cs:=[dm O,ff (c.ops.take n2),gG (P.take n)]) 2 rfl rfl (r0:=aD (O.any (dJ (IntKind.i64.wrap ((((P.take n).map bi.enc).length:Int)-1))))) rfl (λK hK=>uc O ZP 82 _ _ (λs K hK=>UI s _ _ _ K hK) K hK) ?_
   rw[hz];refine aG (λER=>?_) (λER=>?_)
   .have hq:qR O (n-1) x=true:=by unfold qR;rw[bC,ER];rfl
    refine af (x:=n-1) (by show qV (am .i64 (IntKind.i64.wrap ((((P.take n).map bi.enc).length:Int)-1)))=_;rw[hz];rfl) ?_
    refine cN (by simp[aa9];omega) ?_
    refine⟨n-1,ol hq,(show n-1<n by omega),View.o1 3 [0,1,2] [] ?_⟩
    .exact(.aS (.pe rfl rfl rfl (.pt rfl rfl (fv.var (.cons (.bb (.ah _)) (.cons (.bb (.ah _)) (.cons (NF (congrArg (Dt.sl 4) (xF bi.enc P kG))) .nil)))) (.nil _))))
   .have hq:qR O (n-1) x=false:=by unfold qR;rw[bC,ER];rfl
    exact UJ n _ hn (.inr ⟨x,ot,hq⟩)
  .have hq:qR O (n-1) x=false:=by unfold qR;rw[bC];rfl
   exact UJ n _ hn (.inr ⟨x,ot,hq⟩)
 .have q8:n<=1:=by have h:¬(((P.take n).map bi.enc).length:Int)>1:=h;rw[Pj,ik kG]at h;omega
  exact UJ n _ hn (.inl q8)
structure StZ where
 p:Nat
 P:List bi
theorem dN.abC{l:List Obj}{ops:List bH}{ps:List bi}(h:dN l ops ps)(n:Nat):(l.take n).length<=4194304:=by rw[aaA];have:=h.ll;omega
theorem Td(k a c:Kr)(ha:iQ k a)(hc:cW a.l a.ops a.ps c.l c.ops c.ps false)(hk:dN c.l c.ops c.ps)(n1 n2:Nat)(h1:qn qO 1 c.l n1)(h2:qn qP 0 c.ops n2):
  aw prog 0 T57 (TY (aw prog 0 R8) (EKs k)) ⟨E60,[.aS,.var z3,.var [.ah (dm (c.l.take n1)),.ah (ff (c.ops.take n2)),.row 3 4 0 none],.row 4 (aa (c.ps.map bi.enc))]⟩:=by
 have jZ:=hk.lp;have ZP:=hk.abC n1;generalize hO:c.l.take n1=O at ZP;refine bc (λ(s:StZ)=>s.p<=c.ps.length/\Pt c.ps s.P (tx O s.p)) [2,3,59] (λs=>[(60,am .i64 (s.p:Nat))]) (λs=>[.aS,.var z3,.var [.ah (dm O),.ah (ff (c.ops.take n2)),.row 3 4 0 none],.row 4 (aa (s.P.map bi.enc))]) (λs=>c.ps.length-s.p) ⟨0,c.ps⟩ ⟨aaj _,(Pt.refl c.ps).congr λt o _=>by simp[tx]⟩ ?_ (λs hs=>?_)
 .refine View.o1 4 [0,1,2,3] [] ?_
  .exact(.aS (.pe rfl rfl rfl (.pt rfl rfl (fv.var (.cons (.bb (.ah _)) (.cons (.bb (.ah _)) (.cons (.bb (.row 3 4 0 none)) .nil)))) (.pn rfl rfl rfl))))
 obtain⟨p,P⟩:=s;obtain⟨hp,hP⟩:=hs;have hp:p<=c.ps.length:=hp;have hP:Pt c.ps P (tx O p):=hP;have ZO:=hP.1;refine aN (λh=>?_) (λh=>?_)
 .have jq:p<c.ps.length:=xD h;obtain⟨ZQ,Te⟩:=hP.at jq;have Te:P[p]=c.ps[p]:=by rw[Te];simp[tx]
  have kF:∀t,t≠p->decide (t<p+1)=decide (t<p):=λt ht=>decide_eq_decide.2 om
  have qE:qZ O p c.ps[p]=false->Pt c.ps P (tx O (p+1)):=λhf=>hP.congr λt o Bv=>by
   by_cases QU:t=p
   .subst QU;rw[vU jq]at Bv;cases Bv;simp[tx,hf]
   .unfold tx;rw[kF t QU]
  refine fA (args0:=[cC O,.rv (.one (.fn 81 [0]))]) (cs:=[.val (.int .i64 (p:Nat))]) 4 rfl rfl (r0:=aD (O.any (dJ (p:Int)))) rfl (λK hK=>uc O ZP 81 _ _ (λs K hK=>UG s _ K hK) K hK) ?_
  refine aN (λzh=>?_) (λzh=>?_)
  .have zh:0<p:=by have h:(p:Int)>0:=zh;omega
   refine af (mJ ZQ) ?_;refine af (bK bi.enc P ZQ) ?_;refine aG (λbC=>?_) (λbC=>?_)
   .rw[Te]at bC;refine aG (λER=>?_) (λER=>?_)
    .refine af (mJ ZQ) ?_;refine af (bK bi.enc P ZQ) ?_;have he:qZ O p c.ps[p]=true:=by unfold qZ;rw[bC,ER];simp[zh]
     have hs:=hP.set (j:=p) (x:=gD) (g:=tx O (p+1)) (λo Bv=>by rw[vU jq]at Bv;cases Bv;simp[tx,he]) (λt o QU _=>by unfold tx;rw[kF t QU])
     refine⟨⟨p+1,P.set p gD⟩,⟨jq,hs⟩,(show c.ps.length-(p+1)<c.ps.length-p by omega),View.o2 5 [0,1,2,3] [] ?_⟩
     .exact(.aS (.pe rfl rfl rfl (.pt rfl rfl (fv.var (.cons (.bb (.ah _)) (.cons (.bb (.ah _)) (.cons (.bb (.row 3 4 0 none)) .nil)))) (.pt rfl rfl (Ta P p) (.nil _)))))
    .skip
     refine⟨⟨p+1,P⟩,⟨jq,qE (by unfold qZ;rw[ER];simp)⟩,(show c.ps.length-(p+1)<c.ps.length-p by omega),View.o2 5 [0,1,2,3] [] ?_⟩
     .exact(.aS (.pe rfl rfl rfl (.pt rfl rfl (fv.var (.cons (.bb (.ah _)) (.cons (.bb (.ah _)) (.cons (.bb (.row 3 4 0 none)) .nil)))) (.pn rfl rfl rfl))))
   .rw[Te]at bC;refine⟨⟨p+1,P⟩,⟨jq,qE (by unfold qZ;rw[bC];simp)⟩,(show c.ps.length-(p+1)<c.ps.length-p by omega),View.o2 5 [0,1,2,3] [] ?_⟩
    .exact(.aS (.pe rfl rfl rfl (.pt rfl rfl (fv.var (.cons (.bb (.ah _)) (.cons (.bb (.ah _)) (.cons (.bb (.row 3 4 0 none)) .nil)))) (.pn rfl rfl rfl))))
  .have zh:p=0:=by have h:¬(p:Int)>0:=zh;omega
   refine⟨⟨p+1,P⟩,⟨jq,qE (by simp[qZ,zh])⟩,(show c.ps.length-(p+1)<c.ps.length-p by omega),View.o2 5 [0,1,2,3] [] ?_⟩
   .exact(.aS (.pe rfl rfl rfl (.pt rfl rfl (fv.var (.cons (.bb (.ah _)) (.cons (.bb (.ah _)) (.cons (.bb (.row 3 4 0 none)) .nil)))) (.pn rfl rfl rfl))))
 .have h9:c.ps.length<=p:=xE h;have yV:p=c.ps.length:=om;subst yV;rw[<-hO]at hP;refine gL [2,3] [] ([.aS,.var z3,.var [.ah (dm O),.ah (ff (c.ops.take n2)),.ah (gG P)]]) (View.o1 4 [0,1,2] [3] ?_) ?_
  .exact(.aS (.pe rfl rfl rfl (.pt rfl rfl (fv.var (.cons (.bb (.ah _)) (.cons (.bb (.ah _)) (.cons (.fQ (d5.fl (Z:=λk=>br [3] k=true) rfl rfl 0 none)) .nil)))) (.nil _))))
  exact abB k a c ha hc hk n1 n2 h1 h2 P O hO.symm hP
theorem Tf(k a c:Kr)(ha:iQ k a)(hc:cW a.l a.ops a.ps c.l c.ops c.ps false)(hk:dN c.l c.ops c.ps)(n1:Nat)(h1:qn qO 1 c.l n1):
  aw prog 0 T4 (EKs k) ⟨E60,[.aS,.var z3,.var [.ah (dm (c.l.take n1)),.ah (ff c.ops),.row 3 4 0 none],.row 4 (aa (c.ps.map bi.enc))]⟩:=by
 have iT:=hk.lo;refine bc (λn=>DN qP 0 c.ops n) [2,3] (λ_=>[]) (λn=>[.aS,.var z3,.var [.ah (dm (c.l.take n1)),.ah (ff (c.ops.take n)),.row 3 4 0 none],.row 4 (aa (c.ps.map bi.enc))]) (λn=>n) c.ops.length (.start _ _ _) ?_ (λn hn=>?_)
 .refine View.o1 4 [0,1,2,3] [] ?_
  .exact(.aS (.pe rfl rfl rfl (.pt rfl rfl (fv.var (.cons (.bb (.ah _)) (.cons (NF (by rw[aaV])) (.cons (.bb (.row 3 4 0 none)) .nil)))) (.pn rfl rfl rfl))))
 have hn:DN qP 0 c.ops n:=hn;have kG:=hn.le;refine aN (λh=>?_) (λh=>?_)
 .have q8:0<n:=by have h:(((c.ops.take n).map bH.enc).length:Int)>0:=h;rw[Pj,ik kG]at h;omega
  have hz:IntKind.i64.wrap ((((c.ops.take n).map bH.enc).length:Int)-1)=((n-1:Nat):Int):=by rw[Pj,ik kG,iD om om];omega
  have aC:n-1<c.ops.length:=om;have hg:=xG bH.enc c.ops om kG;rw[<-hz]at hg;have ot:=vU aC;have ol:=hn.step om aC;generalize c.ops[n-1]=x at hg ot ol;have hg:dD ((c.ops.take n).map bH.enc) (IntKind.i64.wrap ((((c.ops.take n).map bH.enc).length:Int)-1))=some [.val (.int .i64 x.bm),.val (.int .i64 x.dj)]:=hg;refine af hg ?_;refine aN (λhx=>?_) (λhx=>?_)
  .have hq:qP (n-1) x=true:=decide_eq_true hx;refine af (x:=n-1) (by show qV (am .i64 (IntKind.i64.wrap ((((c.ops.take n).map bH.enc).length:Int)-1)))=_;rw[hz];rfl) ?_
   refine cN (by simp[aa9];omega) ?_
   refine⟨n-1,ol hq,(show n-1<n by omega),View.o1 4 [0,1,2,3] [] ?_⟩
   .exact(.aS (.pe rfl rfl rfl (.pt rfl rfl (fv.var (.cons (.bb (.ah _)) (.cons (NF (congrArg (Dt.sl 2) (xF bH.enc c.ops kG))) (.cons (.bb (.row 3 4 0 none)) .nil)))) (.pn rfl rfl rfl))))
  .have hq:qP (n-1) x=false:=decide_eq_false hx;refine gL [2,3] [] ([.aS,.var z3,.var [.ah (dm (c.l.take n1)),.ah (ff (c.ops.take n)),.row 3 4 0 none],.row 4 (aa (c.ps.map bi.enc))]) (View.o1 4 [0,1,2,3] [] ?_) ?_
   .exact(.aS (.pe rfl rfl rfl (.pt rfl rfl (fv.var (.cons (.bb (.ah _)) (.cons (.bb (.ah _)) (.cons (.bb (.row 3 4 0 none)) .nil)))) (.pn rfl rfl rfl))))
   exact Td k a c ha hc hk n1 n h1 ⟨hn,(.inr ⟨x,ot,hq⟩)⟩
 .have q8:n<=0:=by have h:¬(((c.ops.take n).map bH.enc).length:Int)>0:=h;rw[Pj,ik kG]at h;omega
  refine gL [2,3] [] ([.aS,.var z3,.var [.ah (dm (c.l.take n1)),.ah (ff (c.ops.take n)),.row 3 4 0 none],.row 4 (aa (c.ps.map bi.enc))]) (View.o1 4 [0,1,2,3] [] ?_) ?_
  .exact(.aS (.pe rfl rfl rfl (.pt rfl rfl (fv.var (.cons (.bb (.ah _)) (.cons (.bb (.ah _)) (.cons (.bb (.row 3 4 0 none)) .nil)))) (.pn rfl rfl rfl))))
  exact Td k a c ha hc hk n1 n h1 ⟨hn,.inl q8⟩
theorem F6(k:Kr)(hk:dN k.l k.ops k.ps):body prog c41 [eI k.l k.ops k.ps] [] (KS k):=by
 refine i4 k.l k.ops k.ps ⟨hk.ll,λo ho=>(hk.sm o ho).oB⟩ hk.lo hk.lp hk.sl hk.ne ?_
 refine bc (λ(a:Kr)=>iQ k a/\dN a.l a.ops a.ps) [2] (λ_=>[(3,.rv (.one (.ptr 2 0)))]) (λa=>[.aS,.var z3,.var [.row 3 9 0 none,.row 4 2 0 none,.row 5 4 0 none],.row 9 (aa (a.l.map Obj.enc)),.row 2 (aa (a.ops.map bH.enc)),.row 4 (aa (a.ps.map bi.enc))]) (λa=>lC a.ps) k ⟨.refl,hk⟩ ?_ (λa ha=>?_)
 .refine View.o1 6 [0,1,5,2,3,4] [] ?_
  .exact(.aS (.pe rfl rfl rfl (.pe rfl rfl rfl (.pr rfl rfl rfl (.pr rfl rfl rfl (.pn rfl rfl rfl))))))
 obtain⟨ha,P2⟩:=ha;refine F4 a P2 .aS λc en ho=>?_
 refine aG (λhe=>?_) (λhe=>?_)
 .subst he;refine⟨c,⟨.step ha ho,ho.kr P2⟩,ho.lC,View.o1 6 [0,1,2,3,4,5] [] ?_⟩
  .exact(.aS (.pe rfl rfl rfl (.pe rfl rfl rfl (.pr rfl rfl rfl (.pr rfl rfl rfl (.pn rfl rfl rfl))))))
 .subst he;have hc:=ho;have Qd:=ho.kr P2;have W5:=Qd.ll;refine bc (λn=>DN qO 1 c.l n) [2,3] (λ_=>[]) (λn=>[.aS,.var z3,.var [.ah (dm (c.l.take n)),.ah (ff c.ops),.row 3 4 0 none],.row 4 (aa (c.ps.map bi.enc))]) (λn=>n) c.l.length (.start _ _ _) ?_ (λn hn=>?_)
  .refine View.o1 6 [0,1,2,5] [3,4] ?_
   .exact(.aS (.pe rfl rfl rfl (.pt rfl rfl (fv.var (.cons (by rw[aaV];exact .fQ (d5.fl (Z:=λk=>br [3,4] k=true) rfl rfl 0 none)) (.cons (.fQ (d5.fl (Z:=λk=>br [3,4] k=true) rfl rfl 0 none)) (.cons (.bb (.row 3 4 0 none)) .nil)))) (.pn rfl rfl rfl))))
  have hn:DN qO 1 c.l n:=hn;have kG:=hn.le;refine aN (λh=>?_) (λh=>?_)
  .have q8:1<n:=by have h:(((c.l.take n).map Obj.enc).length:Int)>1:=h;rw[Pj,ik kG]at h;omega
   have hz:IntKind.i64.wrap ((((c.l.take n).map Obj.enc).length:Int)-1)=((n-1:Nat):Int):=by rw[Pj,ik kG,iD om om];omega
   have aC:n-1<c.l.length:=om;have hg:=xG Obj.enc c.l om kG;rw[<-hz]at hg;have ot:=vU aC;have ol:=hn.step om aC;generalize c.l[n-1]=x at hg ot ol;have hg:dD ((c.l.take n).map Obj.enc) (IntKind.i64.wrap ((((c.l.take n).map Obj.enc).length:Int)-1))=some [.val (.int .i64 x.ag),.sl 1 x.data,.sl 2 x.ak,.val (.string x.target),.val (.int .i64 x.bp),.sl 4 (x.ar.map di.enc),.val (.int .i64 x.ba),.val (.int .i64 x.al),.val (.int .i64 x.up)]:=hg;refine af hg ?_;refine bs (λhx=>?_) (λhx=>?_)
   .have hq:qO (n-1) x=true:=(by unfold qO;simpa using hx)
    refine af (x:=n-1) (by show qV (am .i64 (IntKind.i64.wrap ((((c.l.take n).map Obj.enc).length:Int)-1)))=_;rw[hz];rfl) ?_
    refine cN (by simp[aa9];omega) ?_
    refine⟨n-1,ol hq,(show n-1<n by omega),View.o1 4 [0,1,2,3] [] ?_⟩
    .exact(.aS (.pe rfl rfl rfl (.pt rfl rfl (fv.var (.cons (NF (congrArg (Dt.sl 9) (xF Obj.enc c.l kG))) (.cons (.bb (.ah _)) (.cons (.bb (.row 3 4 0 none)) .nil)))) (.pn rfl rfl rfl))))
   .have hq:qO (n-1) x=false:=(by unfold qO;simpa using hx)
    refine gL [2,3] [] ([.aS,.var z3,.var [.ah (dm (c.l.take n)),.ah (ff c.ops),.row 3 4 0 none],.row 4 (aa (c.ps.map bi.enc))]) (View.o1 4 [0,1,2,3] [] ?_) ?_
    .exact(.aS (.pe rfl rfl rfl (.pt rfl rfl (fv.var (.cons (.bb (.ah _)) (.cons (.bb (.ah _)) (.cons (.bb (.row 3 4 0 none)) .nil)))) (.pn rfl rfl rfl))))
    exact Tf k a c ha hc Qd n ⟨hn,(.inr ⟨x,ot,hq⟩)⟩
  .have q8:n<=1:=by have h:¬(((c.l.take n).map Obj.enc).length:Int)>1:=h;rw[Pj,ik kG]at h;omega
   refine gL [2,3] [] ([.aS,.var z3,.var [.ah (dm (c.l.take n)),.ah (ff c.ops),.row 3 4 0 none],.row 4 (aa (c.ps.map bi.enc))]) (View.o1 4 [0,1,2,3] [] ?_) ?_
   .exact(.aS (.pe rfl rfl rfl (.pt rfl rfl (fv.var (.cons (.bb (.ah _)) (.cons (.bb (.ah _)) (.cons (.bb (.row 3 4 0 none)) .nil)))) (.pn rfl rfl rfl))))
   exact Tf k a c ha hc Qd n ⟨hn,.inl q8⟩
theorem NG(k:Kr)(hk:dN k.l k.ops k.ps){m:Mem}{K:CV->Mem->Prop}(h:∀a c d,iQ k a->cW a.l a.ops a.ps c.l c.ops c.ps false->gT c d->K (eI d.l d.ops d.ps) m):ap prog 41 [eI k.l k.ops k.ps] m K:=by
 refine bh (K0:=KS k) (ct func41 l41 (F6 k hk)) (by simp[eI,dm,ff,gG,CV.dB,CC.dB,RV.dB]) λr m1 hr=>?_
 obtain⟨a,c,d,h1,h2,h3,hf⟩:=hr;exact⟨_,hf,h a c d h1 h2 h3⟩
def jU(l L:List Obj):Prop:=L.length<=l.length/\∀(i:Nat)o,L[i]? =some o->o.ag≠0->∃o':Obj,l[i]? =some o'/\o={o' with bp:=o.bp}
def i5(p P:List bi):Prop:=P.length<=p.length/\∀(i:Nat)x,P[i]? =some x->x.aL=true->p[i]? =some x
theorem jU.refl(l:List Obj):jU l l:=⟨Ym _,λi o h _=>⟨o,h,rfl⟩⟩
theorem jU.trans{a b c:List Obj}(h1:jU a b)(h2:jU b c):jU a c:=by
 refine⟨abD h2.1 h1.1,λi o ho hk=>?_⟩
 obtain⟨o',fa,e⟩:=h2.2 i o ho hk;have fZ:o'.ag≠0:=by rw[e]at hk;exact hk
 obtain⟨o2,ia,e2⟩:=h1.2 i o' fa fZ;refine⟨o2,ia,?_⟩;rw[e,e2]
theorem i5.refl(l:List bi):i5 l l:=⟨Ym _,λi o h _=>h⟩
theorem i5.trans{a b c:List bi}(h1:i5 a b)(h2:i5 b c):i5 a c:=
 ⟨abD h2.1 h1.1,λi x hx hl=>h1.2 i x (h2.2 i x hx hl) hl⟩
theorem Pt.get{α:Type}{l L:List α}{f:Nat->α->α}(h:Pt l L f){i:Nat}{x:α}(hx:L[i]? =some x):∃o,l[i]? =some o/\x=f i o:=by
 have aC:i<l.length:=by have:=(Km.1 hx).1;rw[h.1]at this;exact this
 have:=h.2 i l[i] (vU aC);rw[hx]at this;cases this;exact⟨_,vU aC,rfl⟩
theorem cW.eW{l:List Obj}{ops:List bH}{ps:List bi}{L:List Obj}{L2:List bH}{L3:List bi}{en:Bool}(h:cW l ops ps L L2 L3 en):jU l L/\i5 ps L3:=by
 obtain⟨b,hb,hP,CG⟩:=h.ex;refine⟨⟨by rw[hP.1];exact Ym _,λi o ho hk=>?_⟩,by rw[h.pr.1];exact Ym _,λi x hx hl=>?_⟩
 .obtain⟨o',fa,e⟩:=hP.get ho;refine⟨o',fa,?_⟩;unfold cD at e;split at e
  .rw[e]at hk;exact absurd rfl hk
  .split at e
   .rw[e]
   .rw[e]
 .obtain⟨y,hy,e⟩:=h.pr.get hx;unfold yL at e;split at e
  .rw[e]at hl;simp[gD]at hl
  .rw[e];exact hy
theorem iQ.eW{k a:Kr}(h:iQ k a):jU k.l a.l/\i5 k.ps a.ps:=by
 induction h with
 |refl=>exact⟨.refl _,.refl _⟩
 |step h ho ih=>exact⟨ih.1.trans ho.eW.1,ih.2.trans ho.eW.2⟩
theorem iQ.kr{k a:Kr}(h:iQ k a)(hk:dN k.l k.ops k.ps):dN a.l a.ops a.ps:=by
 induction h with
 |refl=>exact hk
 |step h ho ih=>exact ho.kr ih
theorem gT.eW{c d:Kr}(h:gT c d):jU c.l d.l/\i5 c.ps d.ps:=by
 obtain⟨n1,n2,n3,P,h1,h2,hP,h3,rfl⟩:=h.ex;refine⟨⟨by simp[aaA];omega,λi o ho _=>?_⟩,by simp[aaA];have:=hP.1;omega,λi x hx hl=>?_⟩
 .have ho:(c.l.take n1)[i]? =some o:=ho;rw[aaM]at ho;split at ho
  .exact⟨o,ho,rfl⟩
  .cases ho
 .have hx:(P.take n3)[i]? =some x:=hx;rw[aaM]at hx;split at hx
  .obtain⟨y,hy,e⟩:=hP.get hx;unfold tx at e;split at e
   .rw[e]at hl;simp[gD]at hl
   .rw[e];exact hy
  .cases hx
theorem gT.one{c d:Kr}(h:gT c d)(hc:c.ps≠[]):1<=d.ps.length:=by obtain⟨n1,n2,n3,P,h1,h2,hP,h3,rfl⟩:=h.ex;have hl:0<c.ps.length:=adQ.2 hc;have:=h3.t.mn;rw[hP.1]at this;have h4:=h3.t.le;show 1<=(P.take n3).length;rw[aaA];omega
theorem xH{k a c d:Kr}(hk:dN k.l k.ops k.ps)(h1:iQ k a)(h2:cW a.l a.ops a.ps c.l c.ops c.ps false)(h3:gT c d):jU k.l d.l/\i5 k.ps d.ps/\1<=d.ps.length:=
 ⟨(h1.eW.1.trans h2.eW.1).trans h3.eW.1,(h1.eW.2.trans h2.eW.2).trans h3.eW.2,h3.one (h2.kr (h1.kr hk)).ne⟩
theorem gY.ag{l:List Obj}{ops:List bH}{ps:List bi}{b:Mk}(h:gY l ops ps b){i:Nat}(hi:dp b.O i):∃o,l[i]? =some o/\o.ag≠0:=by refine(h.oq (λi=>∃o,l[i]? =some o/\o.ag≠0) (λc=>c<ops.length) ⟨λi o _ _ z n _ hv=>hv.2,λi o _ _ z c _ hv=>hv.2,λc o _ _ n hv=>hv.2⟩ ⟨λn hv=>hv.2,λp pr _ _ s _ _ c hv=>hv.2⟩).1 i hi
theorem gT.kr{c d:Kr}(h:gT c d)(k:dN c.l c.ops c.ps):dN d.l d.ops d.ps:=by
 have h1:=h.one k.ne;obtain⟨n1,n2,n3,P,t1,t2,hP,t3,rfl⟩:=h.ex;refine⟨λo ho=>k.sm o (abo ho),?_,?_,?_,λp hp=>?_,λe=>?_⟩
 .show(c.l.take n1).length<=_;rw[aaA];have:=k.ll;omega
 .show(c.ops.take n2).length<=_;rw[aaA];have:=k.lo;omega
 .show(P.take n3).length<=_;rw[aaA,hP.1];have:=k.lp;omega
 .refine hP.all (Q:=λp=>p.aQ.length<=10) (λt o ho=>?_) p (abo hp)
  unfold tx;split
  .simp[gD]
  .exact k.sl o (Tp ho)
 .have h1:1<=(P.take n3).length:=h1;have e:P.take n3=[]:=e;rw[e]at h1;simp at h1
theorem DN.UK{α:Type}{q:Nat->α->Bool}{mn n n':Nat}{L:List α}(h:qn q mn L n)(h':qn q mn (L.take n) n'):n'=(L.take n).length:=by
 have hn:=h.t.le;have e:(L.take n).length=n:=ik hn;have PT:=h'.t.le;have T7:=h'.t.mn;rw[e]at PT T7|-;rcases aaf n' n with aC|d8
 .exfalso;rcases h.e with h1|⟨o,ho,hq⟩
  .omega
  .have h2:(L.take n)[n-1]? =some o:=by rw[abV om];exact ho
   have:=h'.t.dr (n-1) o om h2;rw[hq]at this;cases this
 .omega
theorem DO{L:List Obj}{ps:List bi}(h:false=jx L ps ps.length){t:Nat}{x:bi}(hx:ps[t]? =some x):iP L t x=false:=by
 cases he:iP L t x with
 |false=>rfl
 |true=>
  have:jx L ps ps.length=true:=by
   unfold jx;rw[abc];exact⟨t,by simpa using(Km.1 hx).1,by rw[hx];exact he⟩
  rw[this]at h;cases h
theorem Pt.id{α:Type}{l L:List α}{f:Nat->α->α}(h:Pt l L f)(hf:∀(t:Nat)o,l[t]? =some o->f t o=o):L=l:=by
 apply abr;intro t;cases ht:l[t]? with
 |some o=>rw[h.2 t o ht,hf t o ht]
 |none=>
  have:l.length<=t:=by simpa using ht
  simp[h.1,this]
theorem xI{p:Int}{o:Obj}(h:dJ p o=true):o.ag≠0:=by intro h0;simp[dJ,h0]at h
structure Left(c:Kr)(b:Mk):Prop where
 ok:gY c.l c.ops c.ps b
 all:∀(i:Nat)o,c.l[i]? =some o->o.ag≠0->dp b.O i
 ops:∀(i:Nat)o,c.ops[i]? =some o->¬dp b.P i->o=⟨-1,0⟩
 prs:∀(t:Nat)x,c.ps[t]? =some x->iP c.l t x=false
theorem cW.left{a c:Kr}(h:cW a.l a.ops a.ps c.l c.ops c.ps false):∃b,Left c b:=by
 obtain⟨b,hb,hP,CG⟩:=h.ex;have qk:c.ps=a.ps:=h.pr.id λt o ho=>by have:=DO h.en ho;simp[yL,this]
 have hlen:=hP.1;have u0:=CG.1;have Ae:∀(i:Nat)o',a.l[i]? =some o'->dp b.O i->∃o,c.l[i]? =some o/\o.ag=o'.ag/\o.ak=o'.ak/\o.ar=o'.ar:=λi o' fa hi=>by
  refine⟨_,hP.2 i o' fa,?_⟩;have hd:e7 b a.l i=false:=by unfold e7;rw[fa];have:b.O[i]? =some true:=hi;simp[this]
  unfold cD;rw[hd];simp only[adS,abL,if_false];split<;>exact⟨rfl,rfl,rfl⟩
 have Tg:∀(i:Nat)o,c.l[i]? =some o->o.ag≠0->dp b.O i/\∃o',a.l[i]? =some o'/\o.ag=o'.ag/\o.ak=o'.ak/\o.ar=o'.ar:=λi o ho hk=>by
  obtain⟨o',fa,e⟩:=hP.get ho;have yU:i<a.l.length:=(Km.1 fa).1;unfold cD at e;split at e
  .rw[e]at hk;exact absurd rfl hk
  .rename_i lX;have hko:o.ag=o'.ag:=by split at e<;>rw[e]
   refine⟨?_,o',fa,hko,by split at e<;>rw[e],by split at e<;>rw[e]⟩
   have hd:e7 b a.l i=false:=by
    cases Qj:e7 b a.l i with
    |false=>rfl
    |true=>exact absurd (by rw[Qj];simpa using yU) lX
   unfold e7 at hd;rw[fa]at hd;have fZ:(o'.ag !=0)=true:=by rw[<-hko];simpa using hk
   simp only[fZ,Bool.and_true]at hd;simpa[dp]using hd
 have W4:∀z n,vO c.l z n->dp b.O n/\vO a.l z n:=λz n hv=>by
  obtain⟨hz,o,ho,hk⟩:=hv;obtain⟨h1,o',fa,fZ,_⟩:=Tg n o ho hk;exact⟨h1,hz,o',fa,by rw[<-fZ];exact hk⟩
 have T8:∀z n,vO a.l z n->dp b.O n->vO c.l z n:=λz n hv hn=>by
  obtain⟨hz,o',fa,hk⟩:=hv;obtain⟨o,ho,fZ,_⟩:=Ae n o' fa hn;exact⟨hz,o,ho,by rw[fZ];exact hk⟩
 have ZR:∀z n,vP c.ops z n↔vP a.ops z n:=λz n=>by unfold vP;rw[u0]
 have afV:∀(i:Nat)o,c.ops[i]? =some o->dp b.P i->a.ops[i]? =some o:=λi o ho hi=>by obtain⟨o',fa,e⟩:=CG.get ho;have:b.P[i]? =some true:=hi;rw[e];simpa[Bw,this]using fa
 refine⟨b,⟨⟨by rw[hlen];exact hb.len.1,by rw[u0];exact hb.len.2⟩,⟨λn hv=>(W4 0 n hv).1,λp pr hp hl s hs hh cc hv=>?_⟩,⟨λi o hi ho z n hz hv=>(W4 z n hv).1,λi o hi ho z cc hz hv=>?_,λcc o hc ho n hv=>(W4 _ n hv).1⟩,λRO RP iB hr=>?_⟩,λi o ho hk=>(Tg i o ho hk).1,λi o ho hn=>?_,λt x hx=>?_⟩
 .rw[qk]at hp;exact hb.nw.2 p pr hp hl s hs hh cc ((ZR _ _).1 hv)
 .obtain⟨o',fa,e⟩:=hP.get ho;obtain⟨o2,ia,_,_,hq⟩:=Ae i o' fa hi;rw[ho]at ia;cases ia;obtain⟨q,Ii,P6,hq3⟩:=hz;exact hb.cl.q i o' hi fa z cc ⟨q,by rw[<-hq];exact Ii,P6,hq3⟩ ((ZR _ _).1 hv)
 ·
  have ir:=hb.oq (λi=>RO i/\dp b.O i) (λcc=>RP cc/\dp b.P cc) ⟨λi o' hi fa z n hz hv=>?_,λi o' hi fa z cc hz hv=>?_,λcc o' hc fa n hv=>?_⟩ ⟨λn hv=>?_,λp pr hp hl s hs hh cc hv=>?_⟩
  .exact⟨λi hi=>(ir.1 i hi).1,λi hi=>(ir.2 i hi).1⟩
  .have hn:=hb.cl.e i o' hi.2 fa z n hz hv;obtain⟨o,ho,_,he,_⟩:=Ae i o' fa hi.2;obtain⟨nm,hm⟩:=hz;exact⟨iB.e i o hi.1 ho z n ⟨nm,by rw[he];exact hm⟩ (T8 z n hv hn),hn⟩
  .have hn:=hb.cl.q i o' hi.2 fa z cc hz hv;obtain⟨o,ho,_,_,hq⟩:=Ae i o' fa hi.2;obtain⟨q,Ii,P6,hq3⟩:=hz;exact⟨iB.q i o hi.1 ho z cc ⟨q,by rw[hq];exact Ii,P6,hq3⟩ ((ZR _ _).2 hv),hn⟩
  .have hn:=hb.cl.p cc o' hc.2 fa n hv;have hco:c.ops[cc]? =some o':=by have:=CG.2 cc o' fa;have NH:b.P[cc]? =some true:=hc.2;simpa[Bw,NH]using this
   exact⟨iB.p cc o' hc.1 hco n (T8 _ n hv hn),hn⟩
  .have hn:=hb.nw.1 n hv;exact⟨hr.1 n (T8 0 n hv hn),hn⟩
  .exact⟨hr.2 p pr (by rw[qk];exact hp) hl s hs hh cc ((ZR _ _).2 hv),hb.nw.2 p pr hp hl s hs hh cc hv⟩
 .obtain⟨o',fa,e⟩:=CG.get ho;have aC:i<a.ops.length:=(Km.1 fa).1;have hn:(b.P[i]? ==some true)=false:=by simpa[dp]using hn
  rw[e];simp[Bw,hn,aC]
 .rw[qk]at hx;exact DO h.en hx
theorem gT.NI{c d:Kr}{b bd:Mk}(hl:Left c b)(hf:gT c d)(hd:gY d.l d.ops d.ps bd):(∀(i:Nat)o,d.l[i]? =some o->o.ag≠0->dp bd.O i)/\(∀(i:Nat)o,d.ops[i]? =some o->¬dp bd.P i->o=⟨-1,0⟩):=by
 obtain⟨n1,n2,n3,P,t1,t2,hP,t3,rfl⟩:=hf.ex;have hd:gY (c.l.take n1) (c.ops.take n2) (P.take n3) bd:=hd;have h1:∀(i:Nat)o,c.l[i]? =some o->o.ag≠0->(c.l.take n1)[i]? =some o:=λi o ho hk=>by
  rcases aaf i n1 with h|h
  .rw[abV h];exact ho
  .have:=t1.t.dr i o h ho;simp[qO]at this;exact absurd this hk
 have hvO:∀z n,vO c.l z n->vO (c.l.take n1) z n:=λz n⟨hz,o,ho,hk⟩=>⟨hz,o,h1 n o ho hk,hk⟩
 have ir:=hl.ok.oq (λi=>dp bd.O i) (λcc=>dp bd.P cc\/n2<=cc) ⟨λi o hi ho z n hz hv=>?_,λi o hi ho z cc hz hv=>?_,λcc o hc ho n hv=>?_⟩ ⟨λn hv=>?_,λp pr hp bC s hs hh cc hv=>?_⟩
 .refine⟨λi o ho hk=>?_,λi o ho hn=>?_⟩
  .have ho:(c.l.take n1)[i]? =some o:=ho;rw[aaM]at ho;split at ho
   .exact ir.1 i (hl.all i o ho hk)
   .cases ho
  .have ho:(c.ops.take n2)[i]? =some o:=ho;rw[aaM]at ho;split at ho
   .rename_i aC;refine hl.ops i o ho λhb=>?_
    rcases ir.2 i hb with h|h
    .exact hn h
    .omega
   .cases ho
 .obtain⟨o',fa,hk⟩:=hd.ag hi;have:(c.l.take n1)[i]? =some o:=by
   rw[aaM]at fa|-;split at fa
   .rename_i aC;rw[if_pos aC];exact ho
   .cases fa
  exact hd.cl.e i o hi this z n hz (hvO z n hv)
 .obtain⟨o',fa,hk⟩:=hd.ag hi;have:(c.l.take n1)[i]? =some o:=by
   rw[aaM]at fa|-;split at fa
   .rename_i aC;rw[if_pos aC];exact ho
   .cases fa
  rcases aaf cc n2 with h|h
  .exact .inl (hd.cl.q i o hi this z cc hz ⟨hv.1,by have:=hv.2;rw[aaA];omega⟩)
  .exact .inr h
 .rcases hc with hc|hc
  .have aC:cc<n2:=by have h2:=(Km.1 hc).1;rw[hd.len.2,aaA]at h2;omega
   exact hd.cl.p cc o hc (by rw[abV aC];exact ho) n (hvO _ n hv)
  .have:=t2.t.dr cc o hc ho;simp[qP]at this;have:=hv.1;omega
 .exact hd.nw.1 n (hvO 0 n hv)
 .rcases aaf cc n2 with h|h
  .refine .inl (hd.nw.2 p pr ?_ bC s hs hh cc ⟨hv.1,by have:=hv.2;rw[aaA];omega⟩)
   have hnz:tx (c.l.take n1) c.ps.length p pr=pr:=by unfold tx qZ;simp[bC]
   have Te:=hP.2 p pr hp;rw[hnz]at Te;rcases aaf p n3 with h3|h3
   .rw[abV h3];exact Te
   .have:=t3.t.dr p pr h3 Te;simp[qR,bC]at this
  .exact .inr h
theorem gT.J7{c d:Kr}{b:Mk}(hl:Left c b)(hf:gT c d){L:List Obj}{L2:List bH}{L3:List bi}{en:Bool}(h:cW d.l d.ops d.ps L L2 L3 en):L=d.l/\L2=d.ops/\L3=d.ps/\en=false:=by
 obtain⟨bd,hbd,hP1,CG⟩:=h.ex;obtain⟨m1,m2⟩:=hf.NI hl hbd;have jv:∀i,e7 bd d.l i=false:=λi=>by
  unfold e7;cases hi:d.l[i]? with
  |none=>rfl
  |some o=>
   by_cases hk:o.ag=0
   .simp[hk]
   .have:bd.O[i]? =some true:=m1 i o hi hk;simp[this]
 have QA:∀(t:Nat)x,d.ps[t]? =some x->iP d.l t x=false:=λt x hx=>by
  obtain⟨n1,n2,n3,P,t1,t2,hP,t3,rfl⟩:=hf.ex;have hx:(P.take n3)[t]? =some x:=hx;rw[aaM]at hx;split at hx
  .obtain⟨y,hy,e⟩:=hP.get hx;cases bC:x.aL with
   |false=>simp[iP,bC]
   |true=>
    have JK:x=y:=by
     unfold tx at e;split at e
     .rw[e]at bC;simp[gD]at bC
     .exact e
    subst JK;have he:=hl.prs t x hy;cases h0:iP (c.l.take n1) t x with
    |false=>rfl
    |true=>
     unfold iP at he h0;simp[bC]at he h0;obtain⟨o,ho,hh⟩:=he h0.1;obtain⟨i,hi⟩:=aaa ho;have hk:=xI hh;have iu:o∈c.l.take n1:=by
      rcases aaf i n1 with h|h
      .exact Tp (by rw[abV h];exact hi)
      .have:=t1.t.dr i o h hi;simp[qO]at this;exact absurd this hk
     have:=h0.2 o iu;rw[hh]at this;cases this
  .cases hx
 have hL:L=d.l:=hP1.id λt o _=>by
  unfold cD;rw[jv t];have:mz bd d.l d.l.length o.bp=false:=by unfold mz;rw[jv];simp
  rw[this];simp
 have vS:=h.pr;have qD:=h.en;rw[hL]at vS qD;refine⟨hL,CG.id λt o ho=>?_,vS.id λt o ho=>?_,?_⟩
 .unfold Bw;split
  .rename_i hh;have hn:¬dp bd.P t:=by intro NH;have NH:bd.P[t]? =some true:=NH;simp[NH]at hh
   exact(m2 t o ho hn).symm
  .rfl
 .simp[yL,QA t o ho]
 .rw[qD];cases he:jx d.l d.ps d.ps.length with
  |false=>rfl
  |true=>
   unfold jx at he;rw[abc]at he;obtain⟨t,ht,By⟩:=he;have HS:t<d.ps.length:=by simpa using ht
   rw[vU HS]at By;have By:iP d.l t d.ps[t]=true:=By;rw[QA t _ (vU HS)]at By;cases By
theorem gT.NJ{c d a2 c2 d2:Kr}{b:Mk}(hl:Left c b)(hf:gT c d)(h1:iQ d a2)(h2:cW a2.l a2.ops a2.ps c2.l c2.ops c2.ps false)(h3:gT c2 d2):d2=d:=by
 have ha:a2=d:=by
  clear h2 h3
  induction h1 with
  |refl=>rfl
  |step h ho ih=>
   subst ih;exact absurd (hf.J7 hl ho).2.2.2 aE
 subst ha;obtain⟨e1,e2,e3,_⟩:=hf.J7 hl h2;obtain⟨n1,n2,n3,P,t1,t2,hP,t3,he⟩:=hf.ex;obtain⟨m1,m2,m3,P',s1,s2,Wa,s3,rfl⟩:=h3.ex;rw[e1]at s1 Wa s3|-;rw[e2]at s2|-;rw[e3]at Wa;obtain⟨dl,vF,dps⟩:=a2;cases he;have k1:=DN.UK t1 s1;have k2:=DN.UK t2 s2;have q1:(c.l.take n1).take m1=c.l.take n1:=by rw[k1,aaV]
 have q2:(c.ops.take n2).take m2=c.ops.take n2:=by rw[k2,aaV]
 have hid:P'=P.take n3:=by
  have Wa:Pt (P.take n3) P' (tx ((c.l.take n1).take m1) (P.take n3).length):=Wa;rw[q1]at Wa;refine Wa.id λt x hx=>?_
  rw[aaM]at hx;split at hx
  .obtain⟨y,hy,e⟩:=hP.get hx;have ZS:t<c.ps.length:=(Km.1 hy).1;by_cases hq:qZ (c.l.take n1) t y=true
   .have:x=gD:=by rw[e];simp[tx,hq,ZS]
    subst this;unfold tx;split<;>rfl
   .have JK:x=y:=by rw[e];simp[tx,hq]
    subst JK;simp[tx,hq]
  .cases hx
 subst hid;have s3:qn (qR ((c.l.take n1).take m1)) 1 (P.take n3) m3:=s3;rw[q1]at s3;have k3:=DN.UK t3 s3;show Kr.mk ((c.l.take n1).take m1) ((c.ops.take n2).take m2) ((P.take n3).take m3)=Kr.mk (c.l.take n1) (c.ops.take n2) (P.take n3);rw[q1,q2,k3,aaV]
namespace Kn
structure J8(k d:Kr):Prop where
 ex:∃a c,iQ k a/\cW a.l a.ops a.ps c.l c.ops c.ps false/\gT c d
theorem o9{α:Type}{l L:List α}{f:Nat->α->α}(h:Pt l L f):L=l.mapIdx f:=by
 refine abr λi=>?_
 rw[ab8];cases hx:l[i]? with
 |none=>exact adu.2 (by rw[h.1];exact adu.1 hx)
 |some x=>rw[h.2 i x hx];rfl
theorem Bz{α:Type}(l:List α)(f:Nat->α->α):Pt l (l.mapIdx f) f:=
 ⟨ab6,λt o ho=>by rw[ab8,ho];rfl⟩
theorem NK{A B:List Bool}(hl:A.length=B.length)(h:∀i,dp A i↔dp B i):A=B:=by
 refine List.ext_getElem hl λi h1 h2=>?_
 have C2:=h i;unfold dp at C2;rw[vU h1,vU h2]at C2;simp only[aav]at C2;cases ha:A[i]<;>cases hb:B[i]<;>simp[ha,hb]at C2|-
theorem J9{l:List Obj}{ops:List bH}{ps:List bi}{b b':Mk}(h:gY l ops ps b)(h':gY l ops ps b'):b=b':=by
 have h1:=h.oq _ _ h'.cl h'.nw;have h2:=h'.oq _ _ h.cl h.nw;obtain⟨O,P⟩:=b;obtain⟨O',P'⟩:=b';have e1:O=O':=NK (h.len.1.trans h'.len.1.symm) λi=>⟨h1.1 i,h2.1 i⟩
 have e2:P=P':=NK (h.len.2.trans h'.len.2.symm) λi=>⟨h1.2 i,h2.2 i⟩
 rw[e1,e2]
theorem ud{k c c':Kr}{e e':Bool}(h:cW k.l k.ops k.ps c.l c.ops c.ps e)(h':cW k.l k.ops k.ps c'.l c'.ops c'.ps e'):c=c'/\e=e':=by
 obtain⟨b,hb,h1,h2⟩:=h.ex;obtain⟨b',tM,C2,LA⟩:=h'.ex;have:=J9 hb tM;subst this;have e1:c.l=c'.l:=(o9 h1).trans (o9 C2).symm;have e2:c.ops=c'.ops:=(o9 h2).trans (o9 LA).symm;have p:=h.pr;rw[e1]at p;have e3:c.ps=c'.ps:=(o9 p).trans (o9 h'.pr).symm;refine⟨?_,?_⟩
 .obtain⟨x,y,z⟩:=c;obtain⟨x',y',z'⟩:=c';simp only at e1 e2 e3;rw[e1,e2,e3]
 .rw[h.en,h'.en,e1]
theorem BA{k a:Kr}(h:iQ k a):a=k\/∃x,cW k.l k.ops k.ps x.l x.ops x.ps true/\iQ x a:=by
 induction h with
 |refl=>exact .inl rfl
 | @step a b h s ih=>
  rcases ih with rfl|⟨x,hx,hxa⟩
  .exact .inr ⟨b,s,.refl⟩
  .exact .inr ⟨x,hx,.step hxa s⟩
theorem QX{k a b:Kr}(h1:iQ k a)(h2:iQ k b):iQ a b\/iQ b a:=by
 induction h2 with
 |refl=>exact .inr h1
 | @step b c h s ih=>
  rcases ih with h|h
  .exact .inl (.step h s)
  .rcases BA h with rfl|⟨x,hx,hxa⟩
   .exact .inl (.step .refl s)
   .have:=(ud hx s).1;subst this;exact .inr hxa
theorem QY{k a b c d:Kr}(h1:iQ k a)(h2:iQ k b)(o1:cW a.l a.ops a.ps c.l c.ops c.ps false)(o2:cW b.l b.ops b.ps d.l d.ops d.ps false):a=b:=by
 have key:∀{a b c:Kr},iQ a b->cW a.l a.ops a.ps c.l c.ops c.ps false->b=a:=λh o=>by
  rcases BA h with h|⟨x,hx,_⟩
  .exact h
  .have:=(ud hx o).2;cases this
 rcases QX h1 h2 with h|h
 .exact(key h o1).symm
 .exact key h o2
theorem xJ{α:Type}{q:Nat->α->Bool}{mn:Nat}{L:List α}{a b:Nat}(ha:qn q mn L a)(hb:qn q mn L b):a=b:=by
 have key:∀{a b:Nat},qn q mn L a->qn q mn L b->¬a<b:=λ{a b}ha hb aC=>by
  have h1:=ha.t.mn;have h2:=hb.t.le;rcases hb.e with h3|⟨o,ho,hq⟩
  .omega
  .have:=ha.t.dr (b-1) o om ho;rw[hq]at this;cases this
 have h1:=key ha hb;have h2:=key hb ha;omega
theorem NL{c d d':Kr}(h:gT c d)(h':gT c d'):d=d':=by obtain⟨n1,n2,n3,P,a1,a2,a3,a4,rfl⟩:=h.ex;obtain⟨m1,m2,m3,P',b1,b2,b3,b4,rfl⟩:=h'.ex;have:=xJ a1 b1;subst this;have:=xJ a2 b2;subst this;have:=(o9 a3).trans (o9 b3).symm;subst this;have:=xJ a4 b4;subst this;rfl
theorem J8.A8{k d d':Kr}(h:J8 k d)(h':J8 k d'):d=d':=by obtain⟨a,c,h1,h2,h3⟩:=h.ex;obtain⟨a',c',C2,LA,ZT⟩:=h'.ex;have:=QY h1 C2 h2 LA;subst this;have:=(ud h2 LA).1;subst this;exact NL h3 ZT
def nzB(l:List Obj)(i:Nat):Bool:=match l[i]? with|some o=>o.ag !=0|none=>false
def toB(l:List Obj)(O:List Bool)(i:Nat):Bool:=(l.zip O).any λy=>y.2&&y.1.ak.any λe=>(oo e).2==(i:Int)
def opB(ops:List bH)(P:List Bool)(i:Nat):Bool:=(ops.zip P).any λy=>y.2&&y.1.bm==(i:Int)
def quB(l:List Obj)(O:List Bool)(c:Nat):Bool:=(l.zip O).any λy=>y.2&&y.1.ar.any λq=>q.has&&q.dF==(c:Int)
def EU(l:List Obj)(ops:List bH)(b:Mk):Mk:=
 ⟨b.O.mapIdx λi x=>x||(nzB l i&&(toB l b.O i||opB ops b.P i)),b.P.mapIdx λc x=>x||quB l b.O c⟩
def Ka(l:List Obj)(ops:List bH)(ps:List bi):Mk:=
 ⟨l.mapIdx λi o=>decide (i=0)&&o.ag !=0,ops.mapIdx λc _=>ps.any λp=>p.aL&&p.aQ.any λs=>s.has&&s.dF==(c:Int)⟩
def UL{α:Type}(f:α->α):Nat->α->α
 |0,a=>a
 |n+1,a=>UL f n (f a)
def pa(l:List Obj)(ops:List bH)(ps:List bi):Mk:=UL (EU l ops) (l.length+ops.length) (Ka l ops ps)
theorem ue:∀(a b:List Bool),b.length=a.length->(∀i,dp a i->dp b i)->a≠b->eA b<eA a
 | [],[],_,_,h=>absurd rfl h
 | [],_::_,h,_,_=>by simp at h
 |_::_,[],h,_,_=>by simp at h
 |x::a,y::b,h,hm,dh=>by
  have hl:b.length=a.length:=by simpa using h
  have T7:∀i,dp a i->dp b i:=λi hi=>by have:=hm (i+1);unfold dp at this hi|-;simp only[abK]at this;exact this hi
  have h0:x=true->y=true:=λhx=>by have:=hm 0;unfold dp at this;simp only[ab9,aav]at this;exact this hx
  have hle:=lh a b hl T7;by_cases EV:a=b
  .subst EV;cases x<;>cases y
   .exact absurd rfl dh
   .simp[eA]
   .exact absurd (h0 rfl) aE
   .exact absurd rfl dh
  .have ih:=ue a b hl T7 EV;cases x<;>cases y
   .simp only[eA]at ih|-;simpa using ih
   .simp only[eA]at ih|-;simp;omega
   .exact absurd (h0 rfl) aE
   .simp only[eA]at ih|-;simpa using ih
theorem xK:∀a:List Bool,eA a<=a.length:=λa=>by unfold eA;exact acW _ _
theorem uf{A:List Bool}{f:Nat->Bool->Bool}{i:Nat}:dp (A.mapIdx f) i↔∃x,A[i]? =some x/\f i x=true:=by
 unfold dp;rw[ab8];cases A[i]? <;>simp
theorem ug{l:List Obj}{ops:List bH}(b:Mk):(∀i,dp b.O i->dp (EU l ops b).O i)/\∀c,dp b.P c->dp (EU l ops b).P c:=
 ⟨λi h=>uf.2 ⟨true,h,aE⟩,λc h=>uf.2 ⟨true,h,aE⟩⟩
theorem nW{l:List Obj}{ops:List bH}(b:Mk):(EU l ops b).O.length=b.O.length/\(EU l ops b).P.length=b.P.length:=
 ⟨ab6,ab6⟩
theorem NM{l:List Obj}{ops:List bH}(b:Mk):EU l ops b=b\/(EU l ops b).mu<b.mu:=by
 have h1:=lh b.O _ (nW b).1 (ug (l:=l) (ops:=ops) b).1;have h2:=lh b.P _ (nW b).2 (ug (l:=l) (ops:=ops) b).2;by_cases e1:b.O=(EU l ops b).O
 .by_cases e2:b.P=(EU l ops b).P
  .refine .inl ?_;cases hb:b with
   |mk O P=>
    rw[hb]at e1 e2;generalize hm:EU l ops ⟨O,P⟩=m at e1 e2;cases m;simp only at e1 e2;rw[e1,e2]
  .have:=ue b.P _ (nW b).2 (ug (l:=l) (ops:=ops) b).2 e2;unfold Mk.mu;omega
 .have:=ue b.O _ (nW b).1 (ug (l:=l) (ops:=ops) b).1 e1;unfold Mk.mu;omega
theorem Ij{l:List Obj}{ops:List bH}:∀(n:Nat)(b:Mk),b.mu<=n->EU l ops (UL (EU l ops) n b)=UL (EU l ops) n b
 |0,b,h=>by
  rcases NM (l:=l) (ops:=ops) b with h1|h1
  .exact h1
  .omega
 |n+1,b,h=>by
  rcases NM (l:=l) (ops:=ops) b with h1|h1
  .have:∀n,UL (EU l ops) n b=b:=λn=>by
    induction n with
    |zero=>rfl
    |succ n ih=>show UL _ n (EU l ops b)=b;rw[h1,ih]
   rw[this,h1]
  .exact Ij n _ om
theorem wm{α:Type}{f:α->α}{Q:α->Prop}(hf:∀a,Q a->Q (f a)):∀(n:Nat)(a:α),Q a->Q (UL f n a)
 |0,_,h=>h
 |n+1,a,h=>wm hf n (f a) (hf a h)
theorem BB{α:Type}{l:List α}{O:List Bool}{g:α->Bool}:(l.zip O).any (λy=>y.2&&g y.1)=true↔∃(i:Nat)(o:α),l[i]? =some o/\dp O i/\g o=true:=by
 rw[abc];constructor
 .rintro⟨⟨o,x⟩,hm,h⟩;obtain⟨i,hi⟩:=aaa hm;rw[List.getElem?_zip_eq_some]at hi;simp only[aab]at h;exact⟨i,o,hi.1,by unfold dp;rw[hi.2,h.1],h.2⟩
 .rintro⟨i,o,h1,h2,h3⟩;refine⟨(o,true),Tp (i:=i) (List.getElem?_zip_eq_some.2 ⟨h1,h2⟩),by simp[h3]⟩
theorem Ik{l:List Obj}{O:List Bool}{n:Nat}:toB l O n=true↔∃(i:Nat)(o:Obj),l[i]? =some o/\dp O i/\(o.ak.any λe=>(oo e).2==(n:Int))=true:=BB (g:=λo:Obj=>o.ak.any λe=>(oo e).2==(n:Int))
theorem Il{ops:List bH}{P:List Bool}{n:Nat}:opB ops P n=true↔∃(i:Nat)(o:bH),ops[i]? =some o/\dp P i/\(o.bm==(n:Int))=true:=BB (g:=λo:bH=>o.bm==(n:Int))
theorem Im{l:List Obj}{O:List Bool}{n:Nat}:quB l O n=true↔∃(i:Nat)(o:Obj),l[i]? =some o/\dp O i/\(o.ar.any λq=>q.has&&q.dF==(n:Int))=true:=BB (g:=λo:Obj=>o.ar.any λq=>q.has&&q.dF==(n:Int))
theorem In{l:List Obj}{i:Nat}:nzB l i=true↔∃o,l[i]? =some o/\o.ag≠0:=by
 unfold nzB;cases l[i]? <;>simp
theorem F7{l:List Obj}{ops:List bH}{ps:List bi}(ht:∀o,o∈l->o.S6){RO RP:Nat->Prop}(hc:Cl l ops RO RP)(hr:Ig l ops ps RO RP):P3 RO RP (pa l ops ps):=by
 refine(wm (Q:=λb=>P3 RO RP b/\b.P.length=ops.length) (λb⟨h,Uq⟩=>⟨⟨λi hi=>?_,λc hi=>?_⟩,(nW b).2.trans Uq⟩) _ _ ⟨⟨λi hi=>?_,λc hi=>?_⟩,ab6⟩).1
 .obtain⟨x,h1,h2⟩:=uf.1 hi;cases x with
  |true=>exact h.1 i h1
  |false=>
   rw[acZ,aab,abX]at h2;have hn:=In.1 h2.1;rcases h2.2 with h2|h2
   .obtain⟨j,o,hj,ho,hg⟩:=Ik.1 h2;obtain⟨e,he,hei⟩:=abc.1 hg;obtain⟨es,oh⟩:=(ht o (Tp hj)).2.1;rw[oh]at he;obtain⟨⟨nm,z⟩,hx,rfl⟩:=aal.1 he;have hz:z=(i:Int):=by simpa[gl,oo]using hei
    refine hc.e j o (h.1 j ho) hj z i ⟨nm,?_⟩ ⟨hz,hn⟩;rw[oh];exact aal.2 ⟨_,hx,rfl⟩
   .obtain⟨c,o,hj,ho,hg⟩:=Il.1 h2;exact hc.p c o (h.2 c ho) hj i ⟨by simpa using hg,hn⟩
 .obtain⟨x,h1,h2⟩:=uf.1 hi;cases x with
  |true=>exact h.2 c h1
  |false=>
   rw[acZ]at h2;obtain⟨j,o,hj,ho,hg⟩:=Im.1 h2;obtain⟨q,hq,y7⟩:=abc.1 hg;rw[aab]at y7;exact hc.q j o (h.1 j ho) hj q.dF c ⟨q,hq,y7.1,rfl⟩ ⟨by simpa using y7.2,Uq▸(Km.1 h1).1⟩
 .unfold dp Ka at hi;simp only[ab8]at hi;cases ho:l[i]? with
  |none=>rw[ho]at hi;cases hi
  |some o=>
   rw[ho]at hi;simp only[aaD,aav,aab,decide_eq_true_eq]at hi;obtain⟨rfl,hk⟩:=hi;exact hr.1 0 ⟨rfl,o,ho,by simpa using hk⟩
 .unfold dp Ka at hi;simp only[ab8]at hi;cases ho:ops[c]? with
  |none=>rw[ho]at hi;cases hi
  |some o=>
   rw[ho]at hi;simp only[aaD,aav]at hi;obtain⟨pr,hp,hi⟩:=abc.1 hi;rw[aab]at hi;obtain⟨s,hs,fg⟩:=abc.1 hi.2;rw[aab]at fg;obtain⟨p,hp⟩:=aaa hp;exact hr.2 p pr hp hi.1 s hs fg.1 c ⟨by simpa using fg.2,(Km.1 ho).1⟩
theorem QZ(l:List Obj)(ops:List bH)(ps:List bi)(ht:∀o,o∈l->o.S6):gY l ops ps (pa l ops ps):=by
 have hl:zf l ops (pa l ops ps):=wm (Q:=zf l ops) (λb h=>⟨(nW b).1.trans h.1,(nW b).2.trans h.2⟩) _ _ ⟨ab6,ab6⟩
 have UM:EU l ops (pa l ops ps)=pa l ops ps:=by refine Ij _ _ ?_;unfold Mk.mu;have h1:=xK (Ka l ops ps).O;have h2:=xK (Ka l ops ps).P;have h3:(Ka l ops ps).O.length=l.length:=ab6;have h4:(Ka l ops ps).P.length=ops.length:=ab6;omega
 have hle:= @F7 l ops ps ht;have qj:(∀i,dp (Ka l ops ps).O i->dp (pa l ops ps).O i)/\∀c,dp (Ka l ops ps).P c->dp (pa l ops ps).P c:=
  wm (Q:=λb=>(∀i,dp (Ka l ops ps).O i->dp b.O i)/\∀c,dp (Ka l ops ps).P c->dp b.P c) (λb h=>⟨λi hi=>(ug b).1 i (h.1 i hi),λc hc=>(ug b).2 c (h.2 c hc)⟩) _ _ ⟨λ_ h=>h,λ_ h=>h⟩
 generalize pa l ops ps=b at hl UM hle qj|-;have hO:∀n:Nat,(∃o,l[n]? =some o/\o.ag≠0)->(toB l b.O n=true\/opB ops b.P n=true)->dp b.O n:=λn hn hx=>by
  rw[<-UM];have:n<b.O.length:=by obtain⟨o,ho,_⟩:=hn;rw[hl.1];exact(Km.1 ho).1
  refine uf.2 ⟨b.O[n],vU this,?_⟩;rw[In.2 hn];rcases hx with hx|hx<;>rw[hx]<;>simp
 have iB:Cl l ops (dp b.O) (dp b.P):=by
  refine⟨λi o hi ho z n hs hv=>?_,λi o hi ho z c hs hv=>?_,λc o hc ho n hv=>?_⟩
  .obtain⟨rfl,hn⟩:=hv;obtain⟨nm,hs⟩:=hs;refine hO n hn (.inl (Ik.2 ⟨i,o,ho,hi,abc.2 ⟨_,hs,?_⟩⟩));show((oo (gl (nm,(n:Int)))).2==(n:Int))=true;simp[gl,oo]
  .obtain⟨rfl,hn⟩:=hv;obtain⟨q,hq,h1,h2⟩:=hs;rw[<-UM];refine uf.2 ⟨b.P[c]'(by rw[hl.2];exact hn),vU _,?_⟩
   have:quB l b.O c=true:=Im.2 ⟨i,o,ho,hi,abc.2 ⟨q,hq,by simp[h1,h2]⟩⟩
   rw[this];simp
  .obtain⟨h1,hn⟩:=hv;exact hO n hn (.inr (Il.2 ⟨c,o,ho,hc,by simp[h1]⟩))
 refine⟨hl,⟨λn hv=>qj.1 n ?_,λp pr hp bC s hs hh c hv=>qj.2 c ?_⟩,iB,λRO RP hc hr=>?_⟩
 .obtain⟨h0,o,ho,hk⟩:=hv;have h0:n=0:=om;subst h0;unfold Ka dp;simp only[ab8,ho,aaD,aav];simp[hk]
 .obtain⟨h0,hn⟩:=hv;unfold Ka dp;simp only[ab8,vU hn,aaD,aav];exact abc.2 ⟨pr,Tp hp,by rw[bC,adg];exact abc.2 ⟨s,hs,by simp[hh,h0]⟩⟩
 .exact hle hc hr
def ou(k:Kr):Kr:=
 ⟨k.l.mapIdx (cD (pa k.l k.ops k.ps) k.l k.l.length),k.ops.mapIdx (Bw (pa k.l k.ops k.ps) k.ops.length),k.ps.mapIdx (yL (k.l.mapIdx (cD (pa k.l k.ops k.ps) k.l k.l.length)) k.ps.length)⟩
theorem NN(k:Kr)(ht:∀o,o∈k.l->o.S6):cW k.l k.ops k.ps (ou k).l (ou k).ops (ou k).ps (jx (ou k).l k.ps k.ps.length):=
 ⟨⟨_,QZ k.l k.ops k.ps ht,Bz _ _,Bz _ _⟩,Bz _ _,rfl⟩
def DP:Nat->Kr->Kr
 |0,k=>ou k
 |n+1,k=>bif jx (ou k).l k.ps k.ps.length then DP n (ou k)else ou k
theorem NO:∀(n:Nat)(k:Kr),dN k.l k.ops k.ps->lC k.ps<=n->∃a,iQ k a/\cW a.l a.ops a.ps (DP n k).l (DP n k).ops (DP n k).ps false
 |n,k,hk,hn=>by
  have h:=NN k λo ho=>(hk.sm o ho).t
  cases he:jx (ou k).l k.ps k.ps.length with
  |false=>
   rw[he]at h;refine⟨k,.refl,?_⟩;have:DP n k=ou k:=by
    cases n with
    |zero=>rfl
    |succ n=>show(bif _ then _ else _)=_;rw[he];rfl
   rw[this];exact h
  |true=>
   rw[he]at h;have aC:=h.lC;cases n with
   |zero=>omega
   |succ n=>
    obtain⟨a,h1,h2⟩:=NO n (ou k) (h.kr hk) om;have e:DP (n+1) k=DP n (ou k):=by show(bif _ then _ else _)=_;rw[he];rfl
    rw[e];refine⟨a,?_,h2⟩;have:∀{x y:Kr},iQ x y->cW k.l k.ops k.ps x.l x.ops x.ps true->iQ k y:=λh3 h4=>by
     induction h3 with
     |refl=>exact .step .refl h4
     |step _ s ih=>exact .step ih s
    exact this h1 h
def mK{α:Type}(q:Nat->α->Bool):List α->Nat->Nat->Nat
 | [],_,b=>b
 |x::r,i,b=>mK q r (i+1) (bif q i x then b else i+1)
def DQ{α:Type}(q:Nat->α->Bool)(mn:Nat)(L:List α):Nat:=min L.length (max mn (mK q L 0 0))
theorem BC{α:Type}(q:Nat->α->Bool):∀(L:List α)(i b:Nat),b<=i->(mK q L i b=b/\(∀(t:Nat)o,L[t]? =some o->q (i+t) o=true))\/
  (i<mK q L i b/\mK q L i b<=i+L.length/\(∃o,L[mK q L i b-1-i]? =some o/\q (mK q L i b-1) o=false)/\∀(t:Nat)o,mK q L i b<=i+t->L[t]? =some o->q (i+t) o=true)
 | [],i,b,h=>.inl ⟨rfl,λt o h=>by simp at h⟩
 |x::r,i,b,h=>by
  cases hq:q i x with
  |true=>
   have e:mK q (x::r) i b=mK q r (i+1) b:=by show mK q r (i+1) (bif q i x then b else i+1)=_;rw[hq];rfl
   rw[e];rcases BC q r (i+1) b om with⟨h1,h2⟩|⟨h1,h2,⟨o,h3,h4⟩,h5⟩
   .refine .inl ⟨h1,λt o ho=>?_⟩
    cases t with
    |zero=>simp at ho;subst ho;exact hq
    |succ t=>have:=h2 t o (by simpa using ho);rwa [show i+(t+1)=i+1+t by omega]
   .refine .inr ⟨om,by simp;omega,⟨o,?_,h4⟩,λt o ht ho=>?_⟩
    .rw[show mK q r (i+1) b-1-i=(mK q r (i+1) b-1-(i+1))+1 by omega];simpa using h3
    .cases t with
     |zero=>simp at ho;subst ho;exact hq
     |succ t=>have:=h5 t o om (by simpa using ho);rwa [show i+(t+1)=i+1+t by omega]
  |false=>
   have e:mK q (x::r) i b=mK q r (i+1) (i+1):=by show mK q r (i+1) (bif q i x then b else i+1)=_;rw[hq];rfl
   rw[e];rcases BC q r (i+1) (i+1) (Ym _)with⟨h1,h2⟩|⟨h1,h2,⟨o,h3,h4⟩,h5⟩
   .refine .inr ⟨om,by simp;omega,⟨x,by rw[h1];simp,by rw[h1];simpa using hq⟩,λt o ht ho=>?_⟩
    cases t with
    |zero=>omega
    |succ t=>have:=h2 t o (by simpa using ho);rwa [show i+(t+1)=i+1+t by omega]
   .refine .inr ⟨om,by simp;omega,⟨o,?_,h4⟩,λt o ht ho=>?_⟩
    .rw[show mK q r (i+1) (i+1)-1-i=(mK q r (i+1) (i+1)-1-(i+1))+1 by omega];simpa using h3
    .cases t with
     |zero=>omega
     |succ t=>have:=h5 t o om (by simpa using ho);rwa [show i+(t+1)=i+1+t by omega]
theorem F8{α:Type}(q:Nat->α->Bool)(mn:Nat)(L:List α):qn q mn L (DQ q mn L):=by
 unfold DQ;rcases BC q L 0 0 (Ym _)with⟨h1,h2⟩|⟨h1,h2,⟨o,h3,h4⟩,h5⟩
 .refine⟨⟨Nat.min_le_left _ _,om,λt o _ ho=>by have:=h2 t o ho;rwa [aaP]at this⟩,.inl om⟩
 .refine⟨⟨Nat.min_le_left _ _,om,λt o ht ho=>?_⟩,?_⟩
  .have aC:=(Km.1 ho).1;have:=h5 t o om ho;rwa [aaP]at this
  .rcases aaf mn (mK q L 0 0)with hm|hm
   .refine .inr ⟨o,?_⟩;have e:min L.length (max mn (mK q L 0 0))=mK q L 0 0:=om;rw[e];exact⟨by simpa using h3,h4⟩
   .exact .inl om
def Kb(c:Kr):Kr:=
 ⟨c.l.take (DQ qO 1 c.l),c.ops.take (DQ qP 0 c.ops),(c.ps.mapIdx (tx (c.l.take (DQ qO 1 c.l)) c.ps.length)).take (DQ (qR (c.l.take (DQ qO 1 c.l))) 1 (c.ps.mapIdx (tx (c.l.take (DQ qO 1 c.l)) c.ps.length)))⟩
theorem F9(c:Kr):gT c (Kb c):=⟨⟨_,_,_,_,F8 _ _ _,F8 _ _ _,Bz _ _,F8 _ _ _,rfl⟩⟩
def eB(k:Kr):Kr:=Kb (DP k.ps.length k)
theorem gq{k:Kr}(hk:dN k.l k.ops k.ps):J8 k (eB k):=by
 obtain⟨a,h1,h2⟩:=NO k.ps.length k hk (by unfold lC;exact acW _ _)
 exact⟨a,_,h1,h2,F9 _⟩
theorem Kc{k a c d:Kr}(hk:dN k.l k.ops k.ps)(h1:iQ k a)(h2:cW a.l a.ops a.ps c.l c.ops c.ps false)(h3:gT c d):d=eB k:=
 J8.A8 ⟨a,c,h1,h2,h3⟩ (gq hk)
theorem Ke(k:Kr)(hk:dN k.l k.ops k.ps){m:Mem}{K:CV->Mem->Prop}(h:K (eI (eB k).l (eB k).ops (eB k).ps) m):ap prog 41 [eI k.l k.ops k.ps] m K:=
 NG k hk λa c d h1 h2 h3=>by rw[Kc hk h1 h2 h3];exact h
end Kn
theorem pZ{l:List bH}{k:Nat}(h:k<l.length):dD (l.map bH.enc) (k:Nat)=some [.val (.int .i64 l[k].bm),.val (.int .i64 l[k].dj)]:=by rw[bG,Tm,vU h];rfl
inductive kN(m:Mem)(Z:Nat->Prop)(p:Option Nat):List CC->List Dt->Prop
 |nil:kN m Z p [] []
 |cons {c:CC} {d:Dt} {r:List CC} {r':List Dt} (h:d5 m Z p c d) (hr:kN m Z p r r'):kN m Z p (c::r) (d::r')
theorem kN.len{m:Mem}{Z:Nat->Prop}{p:Option Nat}{a:List CC}{b:List Dt}(h:kN m Z p a b):a.length=b.length:=by induction h<;>simp[*]
theorem kN.get{m:Mem}{Z:Nat->Prop}{p:Option Nat}{a:List CC}{b:List Dt}(h:kN m Z p a b):∀(i:Nat)c d,a[i]? =some c->b[i]? =some d->d5 m Z p c d:=by
 induction h with
 |nil=>intro i c d h;simp at h
 |cons h hr ih=>
  intro i c d h1 h2;cases i with
  |zero=>simp at h1 h2;subst h1 h2;exact h
  |succ i=>exact ih i c d (by simpa using h1) (by simpa using h2)
inductive gZ(m:Mem)(Z:Nat->Prop)(p:Option Nat):List (List CC)->List (List Dt)->Prop
 |nil:gZ m Z p [] []
 |cons {c:List CC} {d:List Dt} {r:List (List CC)} {r':List (List Dt)} (h:kN m Z p c d) (hr:gZ m Z p r r'):gZ m Z p (c::r) (d::r')
theorem gZ.len{m:Mem}{Z:Nat->Prop}{p:Option Nat}{a:List (List CC)}{b:List (List Dt)}(h:gZ m Z p a b):a.length=b.length:=by induction h<;>simp[*]
theorem gZ.get{m:Mem}{Z:Nat->Prop}{p:Option Nat}{a:List (List CC)}{b:List (List Dt)}(h:gZ m Z p a b):∀(i:Nat)c d,a[i]? =some c->b[i]? =some d->kN m Z p c d:=by
 induction h with
 |nil=>intro i c d h;simp at h
 |cons h hr ih=>
  intro i c d h1 h2;cases i with
  |zero=>simp at h1 h2;subst h1 h2;exact h
  |succ i=>exact ih i c d (by simpa using h1) (by simpa using h2)
theorem gZ.fQ{m:Mem}{Z:Nat->Prop}{p:Option Nat}{id esz:Nat}{elems:List (List CC)}{ds:List (List Dt)}(h:gZ m Z (some id) elems ds)(hz:Z id)(hm:m[id]? =some (.row esz elems)):d5 m Z p (.row id esz 0 none) (.sl esz ds):=
 d5.row id esz 0 none elems ds hz hm h.len (λi cs es h1 h2=>(h.get i cs es h1 h2).len) (λi cs es j c d h1 h2 h3 h4=>(h.get i cs es h1 h2).get j c d h3 h4)
end Go.Proofs.YtodckkkbiidffaaGreatDoor
