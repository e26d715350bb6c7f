/- Part 12 of 16. -/
import Derived.Test.YtodckkkbiidffaaGreatDoorH11
import Derived.Sort.Grow
import Derived.Test.YtodckkkbiidffaaGreatDoorRows
set_option linter.unusedVariables false
set_option linter.unusedSimpArgs false
set_option maxRecDepth 100000
set_option maxHeartbeats 0
namespace Go.AM
section
variable {P:Program} {ρ:bG} {m:Mem} {w:World}
theorem yA(w:World)(MA:Nat)(f:Array Value->Array Value){b:Nat}(h:b≠MA):(Sort.mapBlock w MA f).heap[b]? =w.heap[b]? :=by simp only[Sort.mapBlock,aaV];rw[if_neg (λe=>h e.symm)]
theorem yB(w:World)(n MA off:Nat)(F:Array Value):eM w (Sort.putRow id (Sort.ahead w n) MA off F) MA:=
 ⟨λb hb=>yA _ _ _ hb,by simp[Sort.putRow,Sort.mapBlock,Sort.ahead],rfl,rfl,rfl⟩
theorem Fe{mk:Prop}{w:World}{MA off:Nat}{cur:Array Value}(F:Array Value)(n:Nat)(h:mf mk w MA cur):mf mk (Sort.putRow id (Sort.ahead w n) MA off F) MA (Sort.putCells id off F cur):=by
 obtain⟨ty,fr,hb,h1,h2,h3⟩:=h;refine⟨ty,fr,?_,h1,λi hi=>h2 i (by simpa[Sort.putCells]using hi),by simpa[Sort.putCells]using h3⟩
 have aD:MA<w.heap.size:=(aaw.1 hb).1;have e:(Sort.ahead w n).heap[MA]? =some (.cells cur ty fr):=hb;simp only[Sort.putRow,Sort.mapBlock,aaV,if_true,e,aax,Sort.onCells]
theorem Jh(hM:ax ρ m w){id esz:Nat}{rows mK:List (List CC)}{F:Array Value}(hb:m[id]? =some (.row esz rows))(cH:0<rows.length)(hlen:mK.length=rows.length)(dj:∀cs,cs∈mK->cs.length=esz)(hF:F.size=rows.length*esz)(P1:∀cs,cs∈mK->∀c,c∈cs->∃d,c= .ah d)(cg:∀(i:Nat)cs(j:Nat)c,mK[i]? =some cs->cs[j]? =some c->bi ρ w .none c F[i*esz+j]!)(n:Nat)(os:Array Obj):
  ax ρ (m.set id (.row esz mK)) (Sort.grow (Sort.putRow _root_.id (Sort.ahead w n) (ρ.aH (.aj id)).b (ρ.aH (.aj id)).ar F) os)/\
  Ext ρ m w ρ (m.set id (.row esz mK)) (Sort.grow (Sort.putRow _root_.id (Sort.ahead w n) (ρ.aH (.aj id)).b (ρ.aH (.aj id)).ar F) os):=by
 have hid:id<m.length:=(JJ.1 hb).1;obtain⟨h2,h3,h4,h5,BV⟩:=hM.bk id _ hb;have bc:0<(ρ.aH (.aj id)).cap:=om;obtain⟨cur,bW,h1,hd⟩:=BV bc;have hmul:rows.length*esz<=(ρ.aH (.aj id)).cap*esz:=aaQ _ om;have WD:∀{i' j' rx e},dP (m.set id (.row esz mK)) id i' j' rx e->False:=by rintro i' j' rx e ⟨b2,fx,gQ⟩;rw[SC hid]at fx;cases fx;obtain⟨Yk,eY,lG⟩:=gQ.yi;obtain⟨d,hd⟩:=P1 _ (Sj eY) _ (Sj lG);cases hd
 obtain⟨i4,hX⟩:=hM.KT (yS:= .row esz mK) (w':=Sort.putRow _root_.id (Sort.ahead w n) (ρ.aH (.aj id)).b (ρ.aH (.aj id)).ar F) hb ⟨_,hb,aC,λ_=>bc⟩ (yB w n _ _ F)
  (λg=>⟨by rw[hlen];exact h2,h3,h4,dj,λ_=>⟨_,Fe F n bW,by simpa[Sort.putCells]using h1,λi cs j c hi hj=>by
   have nu:j<esz:=by rw[<-dj cs (Sj hi)];exact(JJ.1 hj).1
   have ym:i<rows.length:=by rw[<-hlen];exact(JJ.1 hi).1
   have pN:i*esz+j<rows.length*esz:=by have:(i+1)*esz<=rows.length*esz:=aaQ _ om;rw[aaZ,ace]at this;omega
   have cu:=cg i cs j c hi hj;refine⟨F[i*esz+j]!,?_,(bi.ce g aC cu).wa _⟩;have hc:(ρ.aH (.aj id)).ar+i*esz+j<cur.size:=om;simp only[Sort.putCells,Array.getElem?_mapIdx,abV hc,aax];rw[if_pos om];congr 2;show F[_]! =_;congr 1;omega⟩⟩)
  (λi j e1 e2 h=>(WD h).elim)
 have hW:eG (Sort.putRow _root_.id (Sort.ahead w n) (ρ.aH (.aj id)).b (ρ.aH (.aj id)).ar F) (Sort.grow (Sort.putRow _root_.id (Sort.ahead w n) (ρ.aH (.aj id)).b (ρ.aH (.aj id)).ar F) os):=
  ⟨λb hb=>Sort.heap_grow_old _ os hb,by simp[Sort.grow],rfl,rfl,rfl⟩
 obtain⟨E3,oP⟩:=i4.Ms hW;exact⟨E3,hX.trans oP⟩
end
section
variable {P:Program}
theorem View.aad{n0:Nat}{e:List CV}{m:Mem}(id j esz n:Nat){cs:List CC}(hn:m.length=n)(hb:cD m id=some (.var cs))(hj:cD cs j=some .aK)(h0:Nat.ble n0 n=true):
  View n0 ⟨e,m⟩ ⟨e,gn (aW m id (.var (aW cs j (.row n esz 0 none)))) [.row esz []]⟩:=by
 subst hn;have h0:=aah h0;rw[aT]at hb hj;rw[aY,aY,b7];have hid:id<m.length:=(JJ.1 hb).1;have nu:j<cs.length:=(JJ.1 hj).1;refine⟨by simp;omega,rfl,λρ w hM=>?_⟩
 have hn:ρ.n=m.length:=hM.n;let U':bG:={n:=m.length+1,aH:=λk=>if k.id=m.length then⟨0,0,0,0⟩else ρ.aH k,S:=ρ.S}
 have bM:∀k:gd,k.id<ρ.n->U'.aH k=ρ.aH k:=λk hk=>by simp only[U'];rw[if_neg om]
 have g:iA ρ w U' w:=⟨by show ρ.n<=m.length+1;omega,bM,λ_ h=>h,λ_ _=>rfl⟩
 have get:∀(k:Nat)b,(m.set id (.var (cs.set j (.row m.length esz 0 none)))++ [Bk.row esz []])[k]? =some b->(k<m.length/\k≠id/\m[k]? =some b)\/(k=id/\b= .var (cs.set j (.row m.length esz 0 none)))\/(k=m.length/\b= .row esz []):=by
  intro k b hk;rcases aaf k m.length with h|h
  .rw[YN (by simpa using h)]at hk
   by_cases K6:k=id
   .subst K6;rw[SC hid]at hk;cases hk;exact .inr (.inl ⟨rfl,rfl⟩)
   .rw[Xg (λe=>K6 e.symm)]at hk
    exact .inl ⟨h,K6,hk⟩
  .have aD:=(JJ.1 hk).1;simp at aD;have:k=m.length:=om;subst this;rw[Xi aC]at hk;simp at hk;exact .inr (.inr ⟨rfl,hk.symm⟩)
 have bX:∀k,Live U' (m.set id (.var (cs.set j (.row m.length esz 0 none)))++ [.row esz []]) k->Live ρ m k:=by
  intro k hk;cases k with
  |aj i=>
   obtain⟨bk,c9,lH,bc⟩:=hk;rcases get i bk c9 with⟨h1,h2,h3⟩|⟨rfl,rfl⟩|⟨rfl,rfl⟩
   .rw[bM (.aj i) (by simp only[gd.id];omega)]at bc
    exact⟨bk,h3,lH,bc⟩
   .exact⟨_,hb,aC,aC⟩
   .have:=bc ⟨_,_,rfl⟩;simp[U',gd.id]at this
  |sub i x y=>
   obtain⟨⟨s,el,b2,c9,ho⟩,bc⟩:=hk;rcases get i _ c9 with⟨h1,h2,h3⟩|⟨rfl,h⟩|⟨rfl,h⟩
   .rw[bM (.sub i x y) (by simp only[gd.id];omega)]at bc
    exact⟨⟨s,el,b2,h3,ho⟩,bc⟩
   .subst h;cases ho
   .subst h;obtain⟨c2,hi,og⟩:=ho.yi;simp at hi
 have jN:∀k,Live ρ m k->U'.aH k=ρ.aH k:=λk hk=>bM k (by rw[hn];exact hk.eK)
 refine⟨U',⟨by simp[U'],hM.S,λk hk=>?_,λk k' hk fS nI=>?_,λi b hbi=>?_,λi x y s el ho bc=>?_⟩,⟨λi hi=>bM (.aj i) (by simp only[gd.id];omega),λ_ h=>h,λ_ h=>.inl h,λk hk=>⟨k,bX k hk,(by rw[jN k (bX k hk)])⟩⟩,λi c' hi=>⟨c',hi,λv hd=>bZ.ce g hd⟩⟩
 .rw[jN k (bX k hk)];exact hM.aP k (bX k hk)
 .rw[jN k (bX k hk),jN k' (bX k' fS)]at nI;exact hM.inj k k' (bX k hk) (bX k' fS) nI
 .rcases get i b hbi with⟨h1,h2,h3⟩|⟨rfl,rfl⟩|⟨rfl,rfl⟩
  .exact(hM.bk i b h3).ce g om λ_ _=>rfl
  .obtain⟨cur,bW,hc⟩:=hM.bk i _ hb;rw[show cI U' w i (.var (cs.set j (.row m.length esz 0 none)))=(∃cur,mf True w (U'.aH (.aj i)).b cur/\∀(j':Nat)c,(cs.set j (.row m.length esz 0 none))[j']? =some c->∃u,cur[(U'.aH (.aj i)).ar+j']? =some u/\bi U' w .none c u)from rfl,bM (.aj i) (by simp only[gd.id];omega)]
   refine⟨cur,bW,λj' c og=>?_⟩
   rw[aaS]at og;split at og
   .rename_i hjj;subst hjj;cases og;obtain⟨u,hu,hd⟩:=hc j _ hj;obtain⟨a,rfl⟩:=hd;exact⟨_,hu,by simp[bi,U',gd.id]⟩
   .obtain⟨u,hu,hd⟩:=hc j' c og;exact⟨u,hu,bi.ce g aC hd⟩
  .simp[cI,U',gd.id]
 .have hk:Live ρ m (.sub i x y):=bX (.sub i x y) ⟨⟨_,_,ho⟩,bc⟩;have pM:=hk.eK;simp only[gd.id]at pM;rw[jN _ hk]at bc|-;obtain⟨b2,c9,ho⟩:=ho;rcases get i _ c9 with⟨h1,h2,h3⟩|⟨rfl,h⟩|⟨rfl,h⟩
  .obtain⟨cur,hc,q1,q2,q3⟩:=hM.d5 i x y s el ⟨b2,h3,ho⟩ bc;exact⟨cur,hc,q1,q2,q3⟩
  .subst h;cases ho
  .subst h;obtain⟨c2,hi,og⟩:=ho.yi;simp at hi
end
end Go.AM
namespace Go.Proofs.YtodckkkbiidffaaGreatDoor
open Proofs.Tryz
open Go.AM Go.ChangeShapes Go.WideShapes Go.ChangeAt Go.RowKit
def c97:LF:= ⟨8,[.tmp 2],(.seq (.ai [qu 2 (.aI qe)]) (.seq (.seq (.ai [qm 3 0,qu 4 (.yj false 3)]) (.cond 4 (.seq (.ai [qu 2 (.aI qe)]) .ret) .skip)) (.seq (.ai [qu 5 (.nw 1 [(.ah (.val (.int .u8 (0))))] 0 []),qm 6 0,qu 7 (.ov 1 1 5 6),qm 2 7]) .ret)))⟩
def c128:LF:= ⟨8,[.tmp 2],(.seq (.ai [qu 2 (.aI qe)]) (.seq (.seq (.ai [qm 3 0,qu 4 (.yj false 3)]) (.cond 4 (.seq (.ai [qu 2 (.aI qe)]) .ret) .skip)) (.seq (.ai [qu 5 (.nw 2 [(.ah (.val (.string ⟨#[]⟩))),qd 0] 0 []),qm 6 0,qu 7 (.ov 2 24 5 6),qm 2 7]) .ret)))⟩
theorem ip{n:Int}(h1: -9223372036854775808<=n)(h2:n<=9223372036854775807):IntKind.i64.wrap n=n:=IntWalk.i64_in n om
structure dh where
 data:List (List Dt)
 has:Bool
 dS:Int
 cj:Int
def dh.enc(m:dh):List Dt:=[.sl 1 m.data,.val (.bool m.has),.val (.int .i64 m.dS),.val (.int .i64 m.cj)]
structure Obj where
 ag:Int
 data:List (List Dt)
 ak:List (List Dt)
 target:ByteArray
 bq:Int
 aq:List dh
 bb:Int
 am:Int
 up:Int
def Obj.enc(o:Obj):List Dt:=[.val (.int .i64 o.ag),.sl 1 o.data,.sl 2 o.ak,.val (.string o.target),.val (.int .i64 o.bq),.sl 4 (o.aq.map dh.enc),.val (.int .i64 o.bb),.val (.int .i64 o.am),.val (.int .i64 o.up)]
abbrev dx(o:Obj)(c:CC)(L U:Int):List CC:=[.ah (.val (.int .i64 o.ag)),.ah (.sl 1 o.data),c,.ah (.val (.string o.target)),.ah (.val (.int .i64 o.bq)),.ah (.sl 4 (o.aq.map dh.enc)),.ah (.val (.int .i64 o.bb)),.ah (.val (.int .i64 L)),.ah (.val (.int .i64 U))]
def dh.cv(m:dh):CV:= .rv (.agg (m.enc.map .ah))
def Obj.cv(o:Obj):CV:= .rv (.agg (o.enc.map .ah))
def dk(l:List Obj):Dt:= .sl 9 (l.map Obj.enc)
def cA(l:List Obj):CV:= .rv (.one (.ah (dk l)))
def Obj.oi(o:Obj):Prop:=o.data.length<=4194304/\o.ak.length<=4194304/\o.aq.length<=4194304/\∀q,q∈o.aq->q.data.length<=4194304
def lM(l:List Obj):Prop:=l.length<=4194304/\∀o,o∈l->o.oi
theorem l97:bw prog f97=some c97:=by kernel_rfl
theorem l128:bw prog f128=some c128:=by kernel_rfl
def rY(esz:Nat)(d:List (List Dt)):CV:= .rv (.one (.ah (.sl esz d)))
theorem CS(d:List (List Dt))(hb:d.length<=4194304):body prog c97 [rY 1 d] [] (λr m=>cL m r (rY 1 d)):=by
 have ta:((([]:List (List CC)).length+(d.map λds=>ds.map CC.ah).length)*1)<=140737488355328:=by simp;omega
 refine aM (λh=>?_) (λh=>?_)
 .have hd:d=[]:=aai (by simpa using aam h)
  subst hd;exact⟨.rv (.one (.aK 1)),ta,.rv (.one (eV.eW rfl 0 none))⟩
 .exact⟨ta,.rv (.one (eV.eW rfl 0 none))⟩
theorem iq(d:List (List Dt))(hb:d.length<=4194304){m:Mem}{K:CV->Mem->Prop}(h:K (rY 1 d) m):ap prog 97 [rY 1 d] m K:=
 be (aZ func97 l97 (CS d hb)) (by simp[rY,CV.dv,CC.dv]) λr m1 hf=>⟨_,hf,h⟩
theorem CT(d:List (List Dt))(hb:d.length<=4194304):body prog c128 [rY 2 d] [] (λr m=>cL m r (rY 2 d)):=by
 have ta:((([]:List (List CC)).length+(d.map λds=>ds.map CC.ah).length)*24)<=140737488355328:=by simp;omega
 refine aM (λh=>?_) (λh=>?_)
 .have hd:d=[]:=aai (by simpa using aam h)
  subst hd;exact⟨.rv (.one (.aK 2)),ta,.rv (.one (eV.eW rfl 0 none))⟩
 .exact⟨ta,.rv (.one (eV.eW rfl 0 none))⟩
theorem tE(d:List (List Dt))(hb:d.length<=4194304){m:Mem}{K:CV->Mem->Prop}(h:K (rY 2 d) m):ap prog 128 [rY 2 d] m K:=
 be (aZ func128 l128 (CT d hb)) (by simp[rY,CV.dv,CC.dv]) λr m1 hf=>⟨_,hf,h⟩
def rZ(p Q k:Nat)(o:Obj):List CC:=[.ah (.val (.int .i64 o.ag)),.ah (.sl 1 o.data),.ah (.sl 2 o.ak),.ah (.val (.string o.target)),.ah (.val (.int .i64 o.bq)),
 (if k=p then .row Q 4 0 none else .ah (.sl 4 (o.aq.map dh.enc))),.ah (.val (.int .i64 o.bb)),.ah (.val (.int .i64 o.am)),.ah (.val (.int .i64 o.up))]
def eJ(p Q:Nat):Nat->List Obj->List (List CC)
 |_,[]=>[]
 |k,o::r=>rZ p Q k o::eJ p Q (k+1) r
theorem r8(p Q:Nat):∀(a:List Obj)(k:Nat)(b:List Obj),eJ p Q k (a++b)=eJ p Q k a++eJ p Q (k+a.length) b
 | [],k,b=>rfl
 |o::r,k,b=>by simp[eJ,r8 p Q r (k+1) b,aaW,Nat.add_comm 1]
theorem mX(p Q:Nat):∀(l:List Obj)(k:Nat),(eJ p Q k l).length=l.length
 | [],_=>rfl
 |o::r,k=>by simp[eJ,mX p Q r (k+1)]
theorem qK(p Q:Nat):∀(l:List Obj)(k:Nat),(p<k\/k+l.length<=p)->eJ p Q k l=aa (l.map Obj.enc)
 | [],_,_=>rfl
 |o::r,k,h=>by simp only[aaj]at h;have hk:¬k=p:=om;simp only[eJ,rZ,if_neg hk,qK p Q r (k+1) om];rfl
theorem tF(p Q:Nat):∀(l:List Obj)(k i:Nat),(eJ p Q k l)[i]? =(l[i]?).map (rZ p Q (k+i))
 | [],k,i=>by simp[eJ]
 |o::r,k,0=>by simp[eJ]
 |o::r,k,i+1=>by
  simp only[eJ,abC,tF p Q r (k+1) i];rw[show k+1+i=k+(i+1) by omega]
theorem MB{Y:Nat->Nat}{p Q k:Nat}(o:Obj):(rZ p Q k o).map (CC.bg Y)=rZ p (Y Q) k o:=by
 by_cases h:k=p<;>simp[rZ,h,CC.bg]
theorem kQ{Y:Nat->Nat}(p Q:Nat):∀(l:List Obj)(k:Nat),(eJ p Q k l).map (λcs=>cs.map (CC.bg Y))=eJ p (Y Q) k l
 | [],_=>rfl
 |o::r,k=>by simp only[eJ,aaJ,kQ p Q r (k+1)];rw[MB]
def c98:LF:= ⟨47,[.tmp 2],(.seq (.ai [qu 2 (.aI qe)]) (.seq (.ai [qu 3 (.aI qe)]) (.seq (.seq (.ai [qm 9 0,qu 10 (.len 1 9),qu 11 (.aI (qi 0))]) (.block 0 (.loop (.seq (.ai [qu 12 (.aJ .lss 11 10)]) (.seq (.cond 12 .skip (.exit 0)) (.seq (.block 1 (.seq (.ai [qu 13 (.cr 9 9 11),qL 14 9 13,qu 5 (.alloc [qd 0,.aK,.aK,(.ah (.val (.string ⟨#[]⟩))),qd 0,.aK,qd 0,qd 0,qd 0]),qw (.store 9 5 14)]) (.seq (.bR [qf 15 1 5,ql 16 15,qu 17 (qc 97 [16]),qf 18 2 5,ql 19 18,qu 20 (qc 128 [19]),qf 21 1 5,qw (.store 1 21 17),qf 22 2 5,qw (.store 1 22 20)] [(.cons 0 none (.cons 1 none (.cons 3 none (.cons 4 none (.cons 2 (some [4]) (.cons 6 none (.cons 5 (some []) (.cons 7 (some []) (.cons 8 none (.cons 9 (some []) .nil))))))))))]) (.seq (.ai [qu 6 (.aI qe)]) (.seq (.seq (.ai [qf 23 5 5,ql 24 23,qu 25 (.len 1 24),qu 26 (.aI (qi 0))]) (.block 2 (.loop (.seq (.ai [qu 27 (.aJ .lss 26 25)]) (.seq (.cond 27 .skip (.exit 2)) (.seq (.block 3 (.seq (.ai [qu 28 (.cr 4 24 26),qL 29 4 28,qu 8 (.alloc [.aK,(.ah (.val (.bool false))),qd 0,qd 0]),qw (.store 4 8 29)]) (.seq (.ai [qf 30 0 8,ql 31 30,qu 32 (qc 97 [31]),qf 33 0 8,qw (.store 1 33 32)]) (.ai [qm 34 6,qL 35 4 8,qu 36 (.nw 4 [.aK,(.ah (.val (.bool false))),qd 0,qd 0] 1 [(0,35)]),qu 37 (.ov 4 48 34 36),qm 6 37])))) (.ai [qu 38 (.aJ .add 26 (qi 1)),qm 26 38]))))))) (.seq (.ai [qm 39 6,qf 40 5 5,qw (.store 1 40 39)]) (.ai [qm 41 3,qL 42 9 5,qu 43 (.nw 9 [qd 0,.aK,.aK,(.ah (.val (.string ⟨#[]⟩))),qd 0,.aK,qd 0,qd 0,qd 0] 1 [(0,42)]),qu 44 (.ov 9 128 41 43),qm 3 44]))))))) (.ai [qu 45 (.aJ .add 11 (qi 1)),qm 11 45]))))))) (.seq (.ai [qm 46 3,qm 2 46]) .ret))))⟩
def quO(l:List Obj)(p:Nat):List dh:=match l[p]? with|some o=>o.aq|none=>[]
def AS(l:List Obj)(p k:Nat):Bk:=match Nat.blt p k with|true=>.row 4 (aa ((quO l p).map dh.enc))|false=>.aR
theorem vD{Y:Nat->Nat}(l:List Obj)(p k:Nat):(AS l p k).bg Y=AS l p k:=by
 unfold AS;split
 .exact Bk.js _ _
 .rfl
theorem p5{α:Type}{l:List α}{i:Nat}{s:α}(h:l[i]? =some s):l.take (i+1)=l.take i++ [s]:=by rw[abQ,h];rfl
theorem da(a b:List (List Dt)):aa (a++b)=aa a++aa b:=by simp[aa]
theorem wK{p Q:Nat}{l:List Obj}{k:Nat}{o:Obj}(h:l[k]? =some o):eJ p Q 0 (l.take (k+1))=eJ p Q 0 (l.take k)++ [rZ p Q k o]:=by have hk:=(JJ.1 h).1;rw[p5 h,r8,aav,acP om,aaM];rfl
theorem l98:bw prog f98=some c98:=by kernel_rfl
theorem MC(l:List Obj)(hf:lM l)(p:Nat):body prog c98 [cA l] [] (λr m=>r= .rv (.one (.row 0 9 0 none))/\m=[.row 9 (eJ p 1 0 l),AS l p l.length]):=by
 obtain⟨hl,UL⟩:=hf;refine ba (λk=>k<=l.length) [0,9,10] (λk=>[(11,an .i64 (k:Nat)),(3,.rv (.one (.row 0 9 0 none)))]) (λk=>[.row 9 (eJ p 1 0 (l.take k)),AS l p k]) (λk=>l.length-k) 0 (aan _) ?_ (λk hk=>?_)
 .refine View.trans (View.aK 2 4 0 rfl rfl rfl) (View.trans (View.aK 3 9 1 rfl rfl rfl) (View.o1 2 [1,0] [] ?_))
  .exact .put (by simp[bx]) rfl (.eq rfl aC) (.aR (.nil _))
 .refine aN (λh=>?_) (λh=>?_)
  .have aD:k<l.length:=by have h:(k:Int)<((l.map Obj.enc).length:Int):=h;rw[Nr]at h;omega
   have hi:=vl aD;have Pg:=UL _ (aar aD);have hg:dC (l.map Obj.enc) (k:Nat)=some (l[k].enc):=by rw[bD,Sf,vl aD];rfl
   generalize l[k]=o at hi Pg hg;obtain⟨ag,data,ak,target,bq,aq,bb,am,up⟩:=o;obtain⟨MD,K7,RT,K8⟩:=Pg;have MD:data.length<=4194304:=MD;have K7:ak.length<=4194304:=K7;have RT:aq.length<=4194304:=RT;have K8:∀q,q∈aq->q.data.length<=4194304:=K8;have hg:dC (l.map Obj.enc) (k:Nat)=some [.val (.int .i64 ag),.sl 1 data,.sl 2 ak,.val (.string target),.val (.int .i64 bq),.sl 4 (aq.map dh.enc),.val (.int .i64 bb),.val (.int .i64 am),.val (.int .i64 up)]:=hg;refine af hg ?_;refine iq data MD ?_;refine⟨⟨rfl,trivial⟩,?_⟩;refine tE ak K7 ?_;refine⟨trivial,?_⟩;refine⟨trivial,?_⟩;refine⟨trivial,?_⟩;refine ba (λj=>j<=aq.length) [0,3,5,9,10,11,24,25] (λj=>[(26,an .i64 (j:Nat)),(6,.rv (.one (.row 3 4 0 none)))])
    (λj=>[.row 9 (eJ p 1 0 (l.take k)),AS l p k,.var ((⟨ag,data,ak,target,bq,aq,bb,am,up⟩:Obj).enc.map .ah),.row 4 (aa ((aq.take j).map dh.enc))]) (λj=>aq.length-j) 0 (aan _) ?_ (λj hj=>?_)
   .refine View.trans (View.aK 6 4 3 rfl rfl rfl) (View.o1 4 [0,1,2,3] [] ?_)
    .exact .pt rfl rfl (.eq (congrArg (Bk.row 9) (kQ p 1 _ _)) aC) (.fW (dD rfl) rfl (vD l p k) (.pe rfl rfl rfl (.pn rfl rfl rfl)))
   .have hj:j<=aq.length:=hj;refine aN (λh=>?_) (λh=>?_)
    .have d9:j<aq.length:=by have h:(j:Int)<((aq.map dh.enc).length:Int):=h;rw[Nr]at h;omega
     have yy:=vl d9;have Ji:=K8 _ (aar d9);generalize aq[j]=q at yy Ji;obtain⟨qd,qh,qo,qr⟩:=q;have B2:dC (aq.map dh.enc) (j:Nat)=some [.sl 1 qd,.val (.bool qh),.val (.int .i64 qo),.val (.int .i64 qr)]:=by rw[bD,Sf,yy];rfl
     refine af B2 ?_;refine iq qd Ji ?_;refine⟨?_,?_⟩
     .show((aa ((aq.take j).map dh.enc)).length+1)*48<=_;simp[aa];omega
     refine⟨j+1,d9,(show aq.length-(j+1)<aq.length-j by omega),View.o2 7 [0,1,2,6] [] ?_⟩
     .refine .pt rfl rfl (.eq (congrArg (Bk.row 9) (kQ p 1 _ _)) aC) (.fW (dD rfl) rfl (vD l p k) (.pe rfl rfl rfl (.pt rfl rfl (.bI ?_) (.nil _))));rw[p5 yy,aby,da];rfl
    .have ek:¬(j:Int)<((aq.map dh.enc).length:Int):=h;rw[Nr]at ek;have hq:aq.take j=aq:=ab1 om;refine⟨?_,?_⟩
     .show((eJ p 1 0 (l.take k)).length+1)*128<=_;rw[mX];simp;omega
     by_cases Ef:k=p
     .subst Ef;have hR:∀Q,eJ k Q 0 (l.take k)=aa ((l.take k).map Obj.enc):=λQ=>qK k Q _ 0 (.inr (by simp;omega))
      have Tt:AS l k (k+1)= .row 4 (aa ((aq.take j).map dh.enc)):=by
       have:Nat.blt k (k+1)=true:=by rw[abW];omega
       simp only[AS,this,quO,hi,hq]
      refine⟨k+1,aD,(show l.length-(k+1)<l.length-k by omega),View.o2 6 [5,3] [] ?_⟩
      .rw[wK hi,Tt];refine .pt rfl rfl (.Jg ?_ rfl ?_) (.pn rfl rfl rfl)
       .rw[kQ,hR,hR];rfl
       .intro j c c' h1 h2;have e5:rZ k 1 k ⟨ag,data,ak,target,bq,aq,bb,am,up⟩=[.ah (.val (.int .i64 ag)),.ah (.sl 1 data),.ah (.sl 2 ak),.ah (.val (.string target)),.ah (.val (.int .i64 bq)),.row 1 4 0 none,.ah (.val (.int .i64 bb)),.ah (.val (.int .i64 am)),.ah (.val (.int .i64 up))]:=by simp[rZ]
        rw[e5]at h2
        match j,h1,h2 with
        |0,h1,h2=>cases h1;cases h2;exact .bg (.ah _)
        |1,h1,h2=>cases h1;cases h2;exact .bg (.ah _)
        |2,h1,h2=>cases h1;cases h2;exact .bg (.ah _)
        |3,h1,h2=>cases h1;cases h2;exact .bg (.ah _)
        |4,h1,h2=>cases h1;cases h2;exact .bg (.ah _)
        |5,h1,h2=>cases h1;cases h2;exact .bg (.row 1 4 0 none)
        |6,h1,h2=>cases h1;cases h2;exact .bg (.ah _)
        |7,h1,h2=>cases h1;cases h2;exact .bg (.ah _)
        |8,h1,h2=>cases h1;cases h2;exact .bg (.ah _)
        |n+9,h1,h2=>simp at h1
     .have Tt:AS l p (k+1)=AS l p k:=by
       have:Nat.blt p (k+1)=Nat.blt p k:=by rw[ac9,abW,abW];omega
       simp only[AS,this]
      refine⟨k+1,aD,(show l.length-(k+1)<l.length-k by omega),View.o2 6 [5,1] [3] ?_⟩
      .rw[wK hi,Tt];refine .pt rfl rfl (.Jg (kQ p 1 _ _) rfl ?_) (.fW (dD rfl) rfl (vD l p k) (.nil _));intro j' c c' h1 h2;have e5:rZ p 1 k ⟨ag,data,ak,target,bq,aq,bb,am,up⟩=[.ah (.val (.int .i64 ag)),.ah (.sl 1 data),.ah (.sl 2 ak),.ah (.val (.string target)),.ah (.val (.int .i64 bq)),.ah (.sl 4 ((aq.take j).map dh.enc)),.ah (.val (.int .i64 bb)),.ah (.val (.int .i64 am)),.ah (.val (.int .i64 up))]:=by simp[rZ,Ef,hq]
       rw[e5]at h2
       match j',h1,h2 with
       |0,h1,h2=>cases h1;cases h2;exact .bg (.ah _)
       |1,h1,h2=>cases h1;cases h2;exact .bg (.ah _)
       |2,h1,h2=>cases h1;cases h2;exact .bg (.ah _)
       |3,h1,h2=>cases h1;cases h2;exact .bg (.ah _)
       |4,h1,h2=>cases h1;cases h2;exact .bg (.ah _)
       |5,h1,h2=>cases h1;cases h2;exact .fE (dR.eW (Z:=λk=>bx [3] k=true) rfl (by rw[<-aT];rfl) 0 none)
       |6,h1,h2=>cases h1;cases h2;exact .bg (.ah _)
       |7,h1,h2=>cases h1;cases h2;exact .bg (.ah _)
       |8,h1,h2=>cases h1;cases h2;exact .bg (.ah _)
       |n+9,h1,h2=>simp at h1
  .have ek:¬(k:Int)<((l.map Obj.enc).length:Int):=h;rw[Nr]at ek;have gj:k=l.length:=by have:k<=l.length:=hk;omega
   subst gj;rw[aaN];exact⟨rfl,rfl⟩
theorem wN(l:List Obj)(hf:lM l)(p:Nat){m:Mem}{K:CV->Mem->Prop}(h:K (.rv (.one (.row m.length 9 0 none))) (m++ [.row 9 (eJ p (m.length+1) 0 l),AS l p l.length])):ap prog 98 [cA l] m K:=by
 refine bu [] m.length rfl rfl rfl rfl rfl (λi b' hi=>by simp at hi) (aZ func98 l98 (MC l hf p)) (λr m1 hr=>?_)
 obtain⟨h1,h2⟩:=hr;subst h1;subst h2;refine⟨aan _,?_⟩;show K (.rv (.one (.row (m.length+(0-0)) 9 0 none))) (gn m [.row 9 ((eJ p 1 0 l).map (λcs=>cs.map (CC.bg (sg [] m.length)))),(AS l p l.length).bg (sg [] m.length)])
 rw[kQ,vD,b7];exact h
def c111:LF:= ⟨34,[.tmp 4,.tmp 5,.tmp 6],(.seq (.ai [qu 3 (.box 1),qu 4 (.aI qe),qu 5 (.aI (qi 0)),qu 6 (.aI (qi 0))]) (.seq (.ai [qm 9 0,qu 10 (qc 121 [9,(.c (.rv (.one (.fn 138 []))))]),qm 7 10]) (.seq (.seq (.ai [qm 11 7,qu 12 (.aJ .lss 11 (qi 0))]) (.cond 12 (.seq (.seq (.ai [qm 13 0,qu 14 (.len 1 13),qu 15 (.aJ .geq 14 (qi 40))]) (.cond 15 (.seq (.ai [qu 4 (.aI qe),qu 5 (.aI (qi 0)),qu 6 (.aI (qi 15))]) .ret) .skip)) (.ai [qm 16 0,qu 17 (.len 1 16),qm 7 17])) .skip)) (.seq (.ai [qm 18 0,qu 19 (qc 98 [18]),qm 8 19]) (.seq (.seq (.ai [qm 20 7,qm 21 8,qu 22 (.len 1 21),qu 23 (.aJ .eql 20 22)]) (.cond 23 (.ai [qm 24 8,qu 25 (.build [qd 0,.aK,.aK,(.ah (.val (.string ⟨#[]⟩))),qd 0,.aK,qd 0,qd 0,qd 0] []),qu 26 (.nw 9 [qd 0,.aK,.aK,(.ah (.val (.string ⟨#[]⟩))),qd 0,.aK,qd 0,qd 0,qd 0] 1 [(0,25)]),qu 27 (.ov 9 128 24 26),qm 8 27]) .skip)) (.seq (.ai [qm 28 8,qm 29 7,qL 30 9 3,qu 31 (.cr 9 28 29),qw (.store 9 31 30)]) (.seq (.ai [qm 32 8,qm 33 7,qm 4 32,qm 5 33,qu 6 (.aI (qi 0))]) .ret)))))))⟩
def c121:LF:= ⟨19,[.tmp 4],(.seq (.ai [qu 4 (.aI (qi 0))]) (.seq (.seq (.ai [qm 6 0,qu 7 (.len 1 6),qu 8 (.aI (qi 0))]) (.block 0 (.loop (.seq (.ai [qu 9 (.aJ .lss 8 7)]) (.seq (.cond 9 .skip (.exit 0)) (.seq (.block 1 (.seq (.ai [qm 10 8,qm 5 10]) (.seq (.ai [qm 11 1,qm 12 0,qm 13 5,qu 14 (.cr 9 12 13),qL 15 9 14,qu 16 (.call 11 [15])]) (.cond 16 (.seq (.ai [qm 17 5,qm 4 17]) .ret) .skip)))) (.ai [qu 18 (.aJ .add 8 (qi 1)),qm 8 18]))))))) (.seq (.ai [qu 4 (.aI (qi (-1)))]) .ret)))⟩
def c138:LF:= ⟨6,[.tmp 2],(.seq (.ai [qu 1 (.box 0),qu 2 (.aI (qb false))]) (.seq (.ai [qf 3 0 1,ql 4 3,qu 5 (.aJ .eql 4 (qi 0)),qm 2 5]) .ret))⟩
def ol{α:Type}(q:α->Bool)(l:List α):Int:=match l.findIdx? q with|some k=>(k:Int)|none=>-1
theorem k7{α:Type}{q:α->Bool}{l:List α}{k:Nat}(h:k<l.length)(hq:q l[k]=true)(hb:∀(j:Nat)s,j<k->l[j]? =some s->q s=false):ol q l=k:=by
 have:l.findIdx? q=some k:=by rw[aaO];exact⟨h,hq,λj hj=>by simpa using hb j _ hj (vl om)⟩
 rw[ol,this]
theorem mY{α:Type}{q:α->Bool}{l:List α}(hb:∀(j:Nat)s,l[j]? =some s->q s=false):ol q l= -1:=by
 have:l.findIdx? q=none:=by rw[acz];intro s hs;obtain⟨i,hi⟩:=X1 hs;simpa using hb i s hi
 rw[ol,this]
theorem r9{α:Type}(q:α->Bool)(l:List α):decide (ol q l>=0)=l.any q:=by
 unfold ol;cases h:l.findIdx? q with
 |none=>
  rw[acz]at h;have:l.any q=false:=by simpa using h
  rw[this];rfl
 |some k=>
  obtain⟨h1,h2,_⟩:=aaO.1 h;have:l.any q=true:=aaT.2 ⟨_,aar h1,h2⟩;rw[this];exact decide_eq_true aC
theorem l111:bw prog f111=some c111:=by kernel_rfl
theorem l121:bw prog f121=some c121:=by kernel_rfl
theorem l138:bw prog f138=some c138:=by kernel_rfl
theorem AT(l:List Obj)(hb:l.length<=4194304)(F:Nat)(q:Obj->Bool)(hF:∀s,s∈l->∀K:CV->Mem->Prop,K (aE (q s)) []->ap prog F [s.cv] [] K):body prog c121 [cA l,(.rv (.one (.fn F [])))] [] (λr m=>r=an .i64 (ol q l)):=by
 refine ba (λk=>k<=l.length/\∀(j:Nat)s,j<k->l[j]? =some s->q s=false) [0,1,7] (λk=>[(8,an .i64 (k:Nat))]) (λ_=>[]) (λk=>l.length-k) 0 ⟨aan _,λj s h=>absurd h (aaR j)⟩ ?_ (λk hk=>?_)
 .refine View.o1 0 [] [] ?_
  .exact .nil _
 .refine aN (λh=>?_) (λh=>?_)
  .have aD:k<l.length:=by have h:(k:Int)<((l.map Obj.enc).length:Int):=h;rw[Nr]at h;omega
   have hg:dC (l.map Obj.enc) (k:Nat)=some (l[k].enc):=by rw[bD,Sf,vl aD];rfl
   refine af hg ?_;refine hF l[k] (aar aD) _ ?_;refine aM (λh=>?_) (λh=>?_)
   .rw[k7 aD h hk.2];exact rfl
   .refine⟨k+1,⟨aD,λj s hj hs=>?_⟩,(show l.length-(k+1)<l.length-k by omega),View.o 0 [] [] ?_ ?_⟩
    .rcases aaf j k with h5|h5
     .exact hk.2 j s h5 hs
     .have:j=k:=om;subst this;rw[vl aD]at hs;cases hs;exact h
    .repeat(first|exact .nil|refine .aF ?_|refine .put (.bg (cP om).symm) ?_|refine .eq rfl ?_)
    .exact .nil _
  .have ek:¬(k:Int)<((l.map Obj.enc).length:Int):=h;rw[Nr]at ek;rw[mY λj s hs=>hk.2 j s (by have:=(JJ.1 hs).1;omega) hs]
   exact rfl
theorem Ff(l:List Obj)(hb:l.length<=4194304)(F:Nat)(q:Obj->Bool)(hF:∀s,s∈l->∀K:CV->Mem->Prop,K (aE (q s)) []->ap prog F [s.cv] [] K){m:Mem}{K:CV->Mem->Prop}(h:K (an .i64 (ol q l)) m):ap prog 121 [cA l,.rv (.one (.fn F []))] m K:=
 bA func121 l121 rfl (aah rfl) (AT l hb F q hF) rfl rfl h
theorem Tu(s:Obj)(K:CV->Mem->Prop)(h:K (aE (s.ag==0)) []):ap prog 138 [s.cv] [] K:=
 bA func138 l138 rfl (aah rfl) (show body prog c138 [s.cv] [] (λr m=>r=aE (s.ag==0))from rfl) rfl rfl h
theorem Hv(l:List Obj)(hf:lM l){m:Mem}{K:CV->Mem->Prop}(h:K (.rv (.one (.row m.length 9 0 none))) (m++ [.row 9 (aa (l.map Obj.enc)),.aR])):ap prog 98 [cA l] m K:=by
 refine wN l hf l.length ?_;have h1:AS l l.length l.length= .aR:=by
  have:Nat.blt l.length l.length=false:=by
   cases hb:Nat.blt l.length l.length with
   |false=>rfl
   |true=>rw[abW]at hb;omega
  simp only[AS,this]
 rw[qK _ _ _ _ (.inr om),h1];exact h
def cG(n:Int):RV:= .one (.ah (.val (.int .i64 n)))
def aG(l:List Obj)(o:Obj):List Obj×Int×Int:=
 match l.findIdx? (λx=>x.ag==0)with
 |some k=>(l.set k o,k,0)
 |none=>if l.length>=40 then([],0,15)else(l++ [o],l.length,0)
def RU(l:List Obj)(o:Obj)(r:CV)(m:Mem):Prop:=
 ((aG l o).2.2=15/\r= .bz [.one .aK,cG (aG l o).2.1,cG (aG l o).2.2]/\m=[])\/
 ((aG l o).2.2=0/\r= .bz [.one (.row 0 9 0 none),cG (aG l o).2.1,cG (aG l o).2.2]/\m=[.row 9 (aa ((aG l o).1.map Obj.enc))])
theorem zp(l:List Obj)(k:Nat)(o:Obj):(aa (l.map Obj.enc)).set k (o.enc.map .ah)=aa ((l.set k o).map Obj.enc):=by simp[aa,abM]
theorem zq(l:List Obj){k:Nat}(h:k<l.length):cD (aa (l.map Obj.enc)) k=some (l[k].enc.map .ah):=by rw[aT];simp[aa,h]
theorem Jj(l:List Obj)(hf:lM l)(o:Obj):body prog c111 [cA l,o.cv] [] (λr m=>∃r' m',View 0 ⟨[r],m⟩ ⟨[r'],m'⟩/\RU l o r' m'):=by
 have hl:=hf.1;refine Ff l hl 138 (λx=>x.ag==0) (λs _ K hs=>Tu s K hs) ?_
 have hlen:(aa (l.map Obj.enc)).length=l.length:=by simp[aa]
 cases hk:l.findIdx? (λx=>x.ag==0)with
 |some k=>
  have hi:ol (λx:Obj=>x.ag==0) l=(k:Int):=by rw[ol,hk]
  have gj:k<l.length:=(aaO.1 hk).1;have hm:aG l o=(l.set k o,(k:Int),0):=by rw[aG,hk]
  rw[hi];refine Hv l hf ?_;refine rP (by simp[hlen,lenOf];omega) ?_
  refine af (ct (k:=k) (by simp[hlen,lenOf];omega)) ?_
  refine af (x:=l[k].enc.map .ah) (by simpa[iB]using zq l gj) ?_
  refine⟨.bz [.one (.row 0 9 0 none),cG k,cG 0],[.row 9 (aa ((l.set k o).map Obj.enc))],View.o 3 [1] [] ?_ ?_,.inr ?_⟩
  .exact .eq rfl .nil
  .refine .pt rfl rfl (.bI ?_) (.nil _);rw[<-zp];simp[aY,iB,Obj.enc]
  .rw[hm];exact⟨rfl,rfl,rfl⟩
 |none=>
  have hi:ol (λx:Obj=>x.ag==0) l= -1:=by rw[ol,hk]
  rw[hi];refine aN (λh=>?_) (λh=>?_)
  .have h:l.length>=40:=by have h:(((l.map Obj.enc).length:Nat):Int)>=40:=h;rw[Nr]at h;omega
   have hm:aG l o=([],0,15):=by rw[aG,hk];simp only;rw[if_pos h]
   refine⟨.bz [.one .aK,cG 0,cG 15],[],View.o 1 [] [] ?_ (.nil _),.inl ?_⟩
   .exact .eq rfl .nil
   .rw[hm];exact⟨rfl,rfl,rfl⟩
  .have h:¬l.length>=40:=by have h:¬(((l.map Obj.enc).length:Nat):Int)>=40:=h;rw[Nr]at h;omega
   have hm:aG l o=(l++ [o],(l.length:Int),0):=by rw[aG,hk];simp only;rw[if_neg h]
   refine Hv l hf ?_;refine cE (by simp[hlen,lenOf]) ?_
   refine⟨by simp[hlen,bV];omega,?_⟩
   have K9:(l.map Obj.enc).length=l.length:=aC;refine af (ct (k:=(l.map Obj.enc).length) (by simp[hlen,lenOf,bV])) ?_
   refine af (x:=[.ah (.val (.int .i64 0)),.aK,.aK,.ah (.val (.string ⟨#[]⟩)),.ah (.val (.int .i64 0)),.aK,.ah (.val (.int .i64 0)),.ah (.val (.int .i64 0)),.ah (.val (.int .i64 0))]) (by simp[aT,hlen,bV,iB]) ?_
   refine⟨.bz [.one (.row 0 9 0 none),cG (((l.map Obj.enc).length:Nat):Int),cG 0],[.row 9 (aa ((l++ [o]).map Obj.enc))],View.o 5 [4] [] ?_ ?_,.inr ?_⟩
   .exact .eq rfl .nil
   .refine .pt rfl rfl (.bI ?_) (.nil _);rw[aby,da];simp only[aY,iB,bV];rw[K9,<-hlen];rw[ac3 _ _ (T5 _),acA];rfl
   .rw[hm];refine⟨rfl,?_,rfl⟩;rw[K9]
theorem zr(l:List Obj)(hf:lM l)(o:Obj):ap prog 111 [cA l,o.cv] [] (RU l o):=
 bH (aZ func111 l111 (Jj l hf o)) λr m1⟨r',m',hv,hp⟩=>⟨r',m',hv,hp⟩
def mZ(l:List Obj):RV:= .one (.ah (dk l))
theorem mj{m:Mem}{a b c d:RV}{x:Int}(h:eP m a b)(hc:eP m c d):cL m (.bz [a,c,cG x]) (.bz [b,d,cG x]):=by
 refine .bz rfl λi r r' h1 h2=>?_
 match i,h1,h2 with
 |0,h1,h2=>cases h1;cases h2;exact h
 |1,h1,h2=>cases h1;cases h2;exact hc
 |2,h1,h2=>cases h1;cases h2;exact eP.self rfl
theorem AU(l:List Obj)(hf:lM l)(o:Obj){m:Mem}{K:CV->Mem->Prop}(h:K (.bz [mZ (aG l o).1,cG (aG l o).2.1,cG (aG l o).2.2]) m):ap prog 111 [cA l,o.cv] m K:=by
 refine be (zr l hf o) (by simp[cA,Obj.cv,CV.dv,CC.dv,RV.dv]) λr m1 hp=>?_
 rcases hp with⟨h1,rfl,rfl⟩|⟨h1,rfl,rfl⟩
 .have h2:(aG l o).1=[]:=by
   unfold aG at h1|-;split at h1
   .simp at h1
   .split at h1
    .rename_i hc;rw[if_pos hc]
    .simp at h1
  refine⟨_,mj (.one (.aK 9)) (eP.self rfl),?_⟩;rw[h2]at h;exact h
 .refine⟨_,mj (.one (eV.eW rfl 0 none)) (eP.self rfl),?_⟩;exact h
theorem MF(l:List Obj)(hf:lM l)(o:Obj){m:Mem}{K:CV->Mem->Prop}(h1:(aG l o).2.2=15->K (.bz [.one .aK,cG (aG l o).2.1,cG (aG l o).2.2]) m)(h2:(aG l o).2.2=0->K (.bz [.one (.row m.length 9 0 none),cG (aG l o).2.1,cG (aG l o).2.2]) (m++ [.row 9 (aa ((aG l o).1.map Obj.enc))])):ap prog 111 [cA l,o.cv] m K:=by
 refine bu [] m.length rfl rfl rfl rfl rfl (λi b' hi=>by simp at hi) (zr l hf o) (λr m1 hp=>⟨aan _,?_⟩)
 rcases hp with⟨e1,rfl,rfl⟩|⟨e1,rfl,rfl⟩
 .have:=h1 e1;show K _ (gn m []);rw[b7,ab3];exact this
 .have:=h2 e1;show K _ (gn m [Bk.bg _ _]);rw[b7,Bk.js];exact this
def c71:LF:= ⟨41,[.tmp 2,.cell true 2 3,.tmp 4],(.seq (.ai [qu 2 (.aI qe),qu 3 (.alloc [qd 0,qd 0]),qu 4 (.aI (qi 0))]) (.seq (.ai [qm 10 0,qu 11 (.build [qd 0,.aK,.aK,(.ah (.val (.string ⟨#[]⟩))),qd 0,.aK,qd 0,qd 0,qd 0] [(0,1,qi 4),(4,1,(qi (-1))),(6,1,(qi (-1)))]),qu 12 (qc 111 [10,11]),qm 9 12,qu 13 (.ext 9 0),qu 14 (.ext 9 1),qu 15 (.ext 9 2),qm 5 13,qm 6 14,qm 7 15]) (.seq (.seq (.ai [qm 16 7,qu 17 (.aJ .neq 16 (qi 0))]) (.cond 17 (.seq (.ai [qu 18 (.build [qd 0,qd 0] []),qm 19 7,qu 2 (.aI qe),qw (.store 2 3 18),qm 4 19]) .ret) .skip)) (.seq (.ai [qm 21 5,qm 22 6,qu 23 (.build [qd 0,.aK,.aK,(.ah (.val (.string ⟨#[]⟩))),qd 0,.aK,qd 0,qd 0,qd 0] [(0,1,qi 4),(4,1,22),(6,1,(qi (-1)))]),qu 24 (qc 111 [21,23]),qm 20 24,qu 25 (.ext 20 0),qu 26 (.ext 20 1),qu 27 (.ext 20 2),qm 5 25,qm 8 26,qm 7 27]) (.seq (.seq (.ai [qm 28 7,qu 29 (.aJ .neq 28 (qi 0))]) (.cond 29 (.seq (.ai [qu 30 (.build [qd 0,qd 0] []),qm 31 7,qu 2 (.aI qe),qw (.store 2 3 30),qm 4 31]) .ret) .skip)) (.seq (.ai [qm 32 5,qm 33 6,qm 34 8,qu 35 (.cr 9 32 33),qf 36 4 35,qw (.store 1 36 34)]) (.seq (.ai [qm 37 5,qm 38 6,qm 39 8,qu 40 (.build [qd 0,qd 0] [(0,1,38),(1,1,39)]),qm 2 37,qw (.store 2 3 40),qu 4 (.aI (qi 0))]) .ret)))))))⟩
theorem Hw{l:List Obj}{o:Obj}(h:(aG l o).2.2=0):∃k:Nat,(aG l o).2.1=k/\k<(aG l o).1.length/\(aG l o).1[k]? =some o/\l.length<=(aG l o).1.length/\(∀j,j≠k->j<l.length->(aG l o).1[j]? =l[j]?):=by
 unfold aG at h|-;split
 .rename_i k hk;have gj:k<l.length:=(aaO.1 hk).1;exact⟨k,rfl,by simpa using gj,by simp[gj],aC,λj hj nu=>by simp[aaS,Ne.symm hj]⟩
 .rename_i hk;rw[hk]at h;simp only at h;split at h
  .simp at h
  .rename_i hc;rw[if_neg hc];exact⟨l.length,rfl,aC,aC,aC,λj hj nu=>by simp[YN nu]⟩
theorem MG{l:List Obj}{o:Obj}(hf:lM l)(ho:o.oi):lM (aG l o).1:=by
 unfold aG;split
 .refine⟨by simpa using hf.1,λx hx=>?_⟩
  rcases aaC hx with h|rfl
  .exact hf.2 x h
  .exact ho
 .split
  .exact⟨aC,aC⟩
  .refine⟨by simp;omega,λx hx=>?_⟩
   rcases abL.1 hx with h|h
   .exact hf.2 x h
   .simp at h;subst h;exact ho
def bN(p:Int):Obj:=⟨4,[],[],⟨#[]⟩,p,[],-1,0,0⟩
theorem MH(p:Int):(bN p).oi:=by simp[Obj.oi,bN]
def l6(l:List Obj)(k:Nat)(b:Int):List Obj:=match l[k]? with|some o=>l.set k {o with bq:=b}|none=>l
def fz(l:List Obj):List Obj×(Int×Int)×Int:=
 if(aG l (bN (-1))).2.2≠0 then([],(0,0),(aG l (bN (-1))).2.2)
 else if(aG (aG l (bN (-1))).1 (bN (aG l (bN (-1))).2.1)).2.2≠0 then([],(0,0),(aG (aG l (bN (-1))).1 (bN (aG l (bN (-1))).2.1)).2.2)
 else(l6 (aG (aG l (bN (-1))).1 (bN (aG l (bN (-1))).2.1)).1 (aG l (bN (-1))).2.1.toNat (aG (aG l (bN (-1))).1 (bN (aG l (bN (-1))).2.1)).2.1,((aG l (bN (-1))).2.1,(aG (aG l (bN (-1))).1 (bN (aG l (bN (-1))).2.1)).2.1),0)
def WE(x:Int×Int):RV:= .agg [.ah (.val (.int .i64 x.1)),.ah (.val (.int .i64 x.2))]
theorem l71:bw prog f71=some c71:=by kernel_rfl
theorem Hx(a b:CV)(p:Int):k6 [a,.rv (.agg [.ah (.val (.int .i64 4)),.aK,.aK,.ah (.val (.string ⟨#[]⟩)),.ah (.val (.int .i64 p)),.aK,.ah (.val (.int .i64 (-1))),.ah (.val (.int .i64 0)),.ah (.val (.int .i64 0))])] [a,(bN p).cv]:=
 .dB _ (.agg (.cons (.dB _) (.cons (.aK 1) (.cons (.aK 2) (.cons (.dB _) (.cons (.dB _) (.cons (.aK 4) (.cons (.dB _) (.cons (.dB _) (.cons (.dB _) .nil))))))))) .nil)
theorem Jk(l:List Obj)(hf:lM l):body prog c71 [cA l] [] (λr m=>cL m r (.bz [mZ (fz l).1,WE (fz l).2.1,cG (fz l).2.2])):=by
 refine mW (Hx _ (.aF) _) (AU l hf (bN (-1)) ?_);have hp:fz l=if(aG l (bN (-1))).2.2≠0 then([],(0,0),(aG l (bN (-1))).2.2)
   else if(aG (aG l (bN (-1))).1 (bN (aG l (bN (-1))).2.1)).2.2≠0 then([],(0,0),(aG (aG l (bN (-1))).1 (bN (aG l (bN (-1))).2.1)).2.2)
   else(l6 (aG (aG l (bN (-1))).1 (bN (aG l (bN (-1))).2.1)).1 (aG l (bN (-1))).2.1.toNat (aG (aG l (bN (-1))).1 (bN (aG l (bN (-1))).2.1)).2.1,((aG l (bN (-1))).2.1,(aG (aG l (bN (-1))).1 (bN (aG l (bN (-1))).2.1)).2.1),0):=rfl
 have kD:=MG (o:=bN (-1)) hf (MH _);generalize hx:aG l (bN (-1))=x at hp kD;obtain⟨l1,a,e1⟩:=x;have kD:lM l1:=kD;refine bt (λh=>?_) (λh=>?_)
 .have h:e1≠0:=h;rw[hp];simp only;rw[if_pos h];exact mj (.one (.aK 9)) (eP.self rfl)
 .have h:e1=0:=h;subst h;have E8:=Hw (l:=l) (o:=bN (-1)) (by rw[hx])
  rw[hx]at E8;obtain⟨ka,Ph,WG,aek,ael,_⟩:=E8;have Ph:a=(ka:Int):=Ph;have WG:ka<l1.length:=WG;subst Ph;simp only[ne_eq,not_true,if_false,aae]at hp;refine mW (Hx _ (.aF) _) (MF l1 kD (bN ka) (λh=>?_) (λh=>?_))
  .rw[h]at hp;rw[h,hp];exact mj (.one (.aK 9)) (eP.self rfl)
  .have E8:=Hw (l:=l1) (o:=bN ka) h;generalize hy:aG l1 (bN ka)=y at hp E8 h;obtain⟨l2,b,e2⟩:=y;have h:e2=0:=h;subst h;obtain⟨kb,Tv,aem,aen,WH,_⟩:=E8;have WH:l1.length<=l2.length:=WH;have aD:ka<l2.length:=om;have hlen:(aa (l2.map Obj.enc)).length=l2.length:=by simp[aa]
   refine af (ct (k:=ka) (by simpa[hlen,lenOf]using aD)) ?_
   refine af (x:=l2[ka].enc.map .ah) (by simpa[iB]using zq l2 aD) ?_
   have jo:aW (aa (l2.map Obj.enc)) (iB 0 ka) (({l2[ka]with bq:=b}:Obj).enc.map .ah)=aa ((l6 l2 ka b).map Obj.enc):=by rw[aY];simp only[l6,vl aD];rw[<-zp];simp[iB]
   have eF:some (Bk.row 9 (aW (aa (l2.map Obj.enc)) (iB 0 ka) (({l2[ka]with bq:=b}:Obj).enc.map .ah)))=some (Bk.row 9 (aa ((l6 l2 ka b).map Obj.enc))):=by rw[jo]
   rw[hp];exact mj (.one (eV.eW eF 0 none)) (eP.self rfl)
theorem P3(l:List Obj)(hf:lM l){m:Mem}{K:CV->Mem->Prop}(h:K (.bz [mZ (fz l).1,WE (fz l).2.1,cG (fz l).2.2]) m):ap prog 71 [cA l] m K:=
 be (aZ func71 l71 (Jk l hf)) (by simp[cA,CV.dv,CC.dv]) λr m1 Wv=>⟨_,Wv,h⟩
def c74:LF:= ⟨80,[.tmp 6,.tmp 7],(.seq (.ai [qu 5 (.box 2),qu 6 (.aI qe),qu 7 (.aI (qi 0))]) (.seq (.seq (.ai [qm 10 1,qu 11 (.aJ .lss 10 (qi 0)),qm 12 11,qg 13 (.aI 1) 12 false,qg 14 (.aI 0) 12 false,qg 15 (.len 1 14) 12 false,qg 16 (.aJ .geq 13 15) 12 false,qu 17 (.pick 12 (qb true) 16),qm 18 17,qg 19 (.aI 0) 18 false,qg 20 (.aI 1) 18 false,qg 21 (.cr 9 19 20) 18 false,qg 22 (.bU 0 21) 18 false,qg 23 (.load false 1 22) 18 false,qg 24 (.aJ .neq 23 (qi 4)) 18 false,qu 25 (.pick 18 (qb true) 24)]) (.cond 25 (.seq (.ai [qu 6 (.aI qe),qu 7 (.aI (qi 8))]) .ret) .skip)) (.seq (.ai [qm 26 0,qm 27 1,qu 28 (.cr 9 26 27),qf 29 4 28,ql 30 29,qm 8 30]) (.seq (.block 0 (.seq (.ai [qm 32 8,qu 33 (.aJ .lss 32 (qi 0)),qm 34 33,qg 35 (.aI 8) 34 false,qg 36 (.aI 0) 34 false,qg 37 (.len 1 36) 34 false,qg 38 (.aJ .geq 35 37) 34 false,qu 39 (.pick 34 (qb true) 38),qm 40 39,qg 41 (.aI 0) 40 false,qg 42 (.aI 8) 40 false,qg 43 (.cr 9 41 42) 40 false,qg 44 (.bU 0 43) 40 false,qg 45 (.load false 1 44) 40 false,qg 46 (.aJ .neq 45 (qi 4)) 40 false,qu 47 (.pick 40 (qb true) 46),qm 31 47]) (.cond 31 (.seq (.ai [qu 6 (.aI qe),qu 7 (.aI (qi 17))]) .ret) (.seq (.ai [qf 49 0 5,ql 50 49,qu 51 (.len 1 50),qu 52 (.aJ .gtr 51 (qi 60)),qm 48 52]) (.cond 48 (.seq (.ai [qu 6 (.aI qe),qu 7 (.aI (qi 4))]) .ret) (.seq (.ai [qm 54 0,qm 55 8,qu 56 (.cr 9 54 55),qf 57 5 56,ql 58 57,qu 59 (.len 1 58),qu 60 (.aJ .geq 59 (qi 4)),qm 53 60]) (.cond 53 (.seq (.ai [qu 6 (.aI qe),qu 7 (.aI (qi 15))]) .ret) .skip))))))) (.seq (.ai [qm 61 0,qu 62 (qc 98 [61]),qm 9 62]) (.seq (.ai [qf 63 0 5,ql 64 63,qu 65 (qc 97 [64]),qf 66 0 5,qw (.store 1 66 65)]) (.seq (.bR [qm 67 9,qm 68 8,qm 69 9,qm 70 8,qu 71 (.cr 9 69 70),qf 72 5 71,ql 73 72,qL 74 4 5,qu 75 (.nw 4 [.aK,(.ah (.val (.bool false))),qd 0,qd 0] 1 [(0,74)]),qu 76 (.ov 4 48 73 75),qu 77 (.cr 9 67 68),qf 78 5 77,qw (.store 1 78 76)] [(eh 8 0 (.cons 8 (some [6,4]) (.cons 9 (some []) (.cons 10 none (.cons 11 none (.cons 12 (some []) .nil))))))]) (.seq (.ai [qm 79 9,qm 6 79,qu 7 (.aI (qi 0))]) .ret))))))))⟩
def Jl(o:Obj)(c:CC):List CC:=[.ah (.val (.int .i64 o.ag)),.ah (.sl 1 o.data),.ah (.sl 2 o.ak),.ah (.val (.string o.target)),.ah (.val (.int .i64 o.bq)),c,.ah (.val (.int .i64 o.bb)),.ah (.val (.int .i64 o.am)),.ah (.val (.int .i64 o.up))]
theorem CU{l:List Obj}{p Q:Nat}{q:Obj}(h:l[p]? =some q):cD (eJ p Q 0 l) p=some (Jl q (.row Q 4 0 none)):=by rw[aT,tF,h];simp[rZ,Jl]
theorem MI{l:List Obj}{p:Nat}{q:Obj}(h:l[p]? =some q):AS l p l.length= .row 4 (aa (q.aq.map dh.enc)):=by
 have hp:=(JJ.1 h).1;have:Nat.blt p l.length=true:=by rw[abW];exact hp
 simp only[AS,this,quO,h]
theorem Hy{m:Mem}{Z:Nat->Prop}{id p Q:Nat}{l:List Obj}{q:Obj}{c:CC}(hz:Z id)(hb:m[id]? =some (.row 9 (aW (eJ p Q 0 l) p (Jl q c))))(hc:dR m Z (some id) c (.sl 4 (q.aq.map dh.enc))):
  dR m Z none (.row id 9 0 none) (.sl 9 ((l.set p q).map Obj.enc)):=by
 have key:∀(i:Nat)cs es,(aW (eJ p Q 0 l) p (Jl q c))[i]? =some cs->((l.set p q).map Obj.enc)[i]? =some es->(cs=Jl q c/\es=q.enc)\/∃o:Obj,cs=o.enc.map .ah/\es=o.enc:=by
  intro i cs es h1 h2;rw[aY,aaS]at h1;rw[Sf,aaS]at h2;by_cases hi:p=i
  .subst hi;rw[if_pos rfl]at h1 h2;split at h1
   .cases h1;split at h2
    .cases h2;exact .inl ⟨rfl,rfl⟩
    .cases h2
   .cases h1
  .rw[if_neg hi]at h1 h2;rw[tF]at h1;cases ho:l[i]? with
   |none=>rw[ho]at h1;cases h1
   |some o=>
    rw[ho]at h1 h2;cases h1;cases h2;refine .inr ⟨o,?_,rfl⟩;simp only[rZ,aaM,if_neg (Ne.symm hi)];rfl
 refine .row id 9 0 none _ ((l.set p q).map Obj.enc) hz hb (by rw[aY];simp[mX]) (λi cs es h1 h2=>?_) (λi cs es j cc d h1 h2 h3 h4=>?_)
 .rcases key i cs es h1 h2 with⟨rfl,rfl⟩|⟨o,rfl,rfl⟩
  .rfl
  .simp
 .rcases key i cs es h1 h2 with⟨rfl,rfl⟩|⟨o,rfl,rfl⟩
  .match j,h3,h4 with
   |0,h3,h4=>cases h3;cases h4;exact .ah _
   |1,h3,h4=>cases h3;cases h4;exact .ah _
   |2,h3,h4=>cases h3;cases h4;exact .ah _
   |3,h3,h4=>cases h3;cases h4;exact .ah _
   |4,h3,h4=>cases h3;cases h4;exact .ah _
   |5,h3,h4=>cases h3;cases h4;exact hc
   |6,h3,h4=>cases h3;cases h4;exact .ah _
   |7,h3,h4=>cases h3;cases h4;exact .ah _
   |8,h3,h4=>cases h3;cases h4;exact .ah _
   |n+9,h3,h4=>simp[Jl]at h3
  .rw[Sf,h4]at h3;cases h3;exact .ah _
def eZ(l:List Obj)(e:Int)(m:dh):List Obj×Int:=
 if e<0\/e>=l.length then([],8)else match l[e.toNat]? with
 |none=>([],8)
 |some o=>if o.ag≠4 then([],8)else if o.bq<0\/o.bq>=l.length then([],17)else match l[o.bq.toNat]? with
  |none=>([],17)
  |some q=>if q.ag≠4 then([],17)else if m.data.length>60 then([],4)else if q.aq.length>=4 then([],15)else(l.set o.bq.toNat {q with aq:=q.aq++ [m]},0)
def MJ(l:List Obj)(e:Int):CV:= .bz [mZ l,cG e]
theorem kH{m:Mem}{a b:RV}{x:Int}(h:eP m a b):cL m (.bz [a,cG x]) (.bz [b,cG x]):=by
 refine .bz rfl λi r r' h1 h2=>?_
 match i,h1,h2 with
 |0,h1,h2=>cases h1;cases h2;exact h
 |1,h1,h2=>cases h1;cases h2;exact eP.self rfl
theorem vw2{Y:Nat->Nat}{m:Mem}{Z:Nat->Prop}{a b:RV}{x:Int}(h:yf Y m Z a b):ri Y m Z (.bz [a,cG x]) (.bz [b,cG x]):=by
 refine .bz rfl λi r r' h1 h2=>?_
 match i,h1,h2 with
 |0,h1,h2=>cases h1;cases h2;exact h
 |1,h1,h2=>cases h1;cases h2;exact .one (.bg (.ah _))
theorem l74:bw prog f74=some c74:=by kernel_rfl
theorem tG(l:List Obj)(hf:lM l)(e:Int)(msg:dh)(hmf:msg.data.length<=4194304):body prog c74 [cA l,an .i64 e,msg.cv] [] (λr m=>∃r' m',View 0 ⟨[r],m⟩ ⟨[r'],m'⟩/\r'=MJ (eZ l e msg).1 (eZ l e msg).2/\m'=[]):=by
 have K9:(((l.map Obj.enc).length:Nat):Int)=(l.length:Int):=aC;have bad:∀(x:Int),eZ l e msg=([],x)->∃r' m',View 0 ⟨[CV.bz [.one .aK,cG x]],[.var (msg.enc.map .ah)]⟩ ⟨[r'],m'⟩/\r'=MJ (eZ l e msg).1 (eZ l e msg).2/\m'=[]:=by intro x hx;refine⟨_,_,View.o 1 [] [] (.put (vw2 (b:=mZ []) (.one (.fE (.aK 9)))) .nil) (.nil _),?_,rfl⟩;rw[hx];rfl
 refine aN (λh=>?_) (λh1=>?_)
 .exact bad 8 (by rw[eZ,if_pos (.inl h)])
 refine aN (λh=>?_) (λh2=>?_)
 .exact bad 8 (by rw[eZ,if_pos (.inr (by rw[<-K9];exact h))])
 have h2:¬e>=(l.length:Int):=by rw[<-K9];exact h2
 obtain⟨k,rfl⟩:∃k:Nat,e=k:=⟨e.toNat,om⟩;have hk:k<l.length:=om;have hi:=vl hk;have pD:eZ l (k:Int) msg=if l[k].ag≠4 then(([],8):List Obj×Int)else if l[k].bq<0\/l[k].bq>=l.length then([],17)else match l[l[k].bq.toNat]? with
   |none=>([],17)
   |some q=>if q.ag≠4 then([],17)else if msg.data.length>60 then([],4)else if q.aq.length>=4 then([],15)else(l.set l[k].bq.toNat {q with aq:=q.aq++ [msg]},0):=by
  rw[eZ,if_neg om,aae,hi]
 have hg:dC (l.map Obj.enc) (k:Nat)=some (l[k].enc):=by rw[bD,Sf,hi];rfl
 generalize l[k]=o at pD hg;obtain⟨ag,data,ak,target,bq,aq,bb,am,up⟩:=o;have hg:dC (l.map Obj.enc) (k:Nat)=some [.val (.int .i64 ag),.sl 1 data,.sl 2 ak,.val (.string target),.val (.int .i64 bq),.sl 4 (aq.map dh.enc),.val (.int .i64 bb),.val (.int .i64 am),.val (.int .i64 up)]:=hg;refine af hg ?_;refine bt (λh=>?_) (λh3=>?_)
 .exact bad 8 (by rw[pD,if_pos h])
 have h3:ag=4:=h3;rw[if_neg (by simpa using h3)]at pD
 simp only at pD;refine af hg ?_;refine aN (λh=>?_) (λh4=>?_)
 .exact bad 17 (by rw[pD,if_pos (.inl h)])
 refine aN (λh=>?_) (λh5=>?_)
 .exact bad 17 (by rw[pD,if_pos (.inr (by rw[<-K9];exact h))])
 have h5:¬bq>=(l.length:Int):=by rw[<-K9];exact h5
 have h4:¬bq<0:=h4;obtain⟨p,rfl⟩:∃p:Nat,bq=p:=⟨bq.toNat,om⟩;have hp:p<l.length:=om;have RW:=vl hp;rw[if_neg om,aae,RW]at pD;simp only at pD;have B2:dC (l.map Obj.enc) (p:Nat)=some (l[p].enc):=by rw[bD,Sf,RW];rfl
 have Ji:=hf.2 _ (aar hp);generalize l[p]=q at pD B2 RW Ji;have B2:dC (l.map Obj.enc) (p:Nat)=some [.val (.int .i64 q.ag),.sl 1 q.data,.sl 2 q.ak,.val (.string q.target),.val (.int .i64 q.bq),.sl 4 (q.aq.map dh.enc),.val (.int .i64 q.bb),.val (.int .i64 q.am),.val (.int .i64 q.up)]:=B2;refine af B2 ?_;refine bt (λh=>?_) (λh6=>?_)
 .exact bad 17 (by rw[pD,if_pos h])
 rw[if_neg (by simpa using h6)]at pD
 refine aN (λh=>?_) (λh7=>?_)
 .exact bad 4 (by rw[pD,if_pos (by have h:((msg.data.length:Nat):Int)>60:=h;omega)])
 rw[if_neg (by have h:¬((msg.data.length:Nat):Int)>60:=h7;omega)]at pD
 refine af B2 ?_;refine aN (λh=>?_) (λh8=>?_)
 .exact bad 15 (by rw[pD,if_pos (by have h:(((q.aq.map dh.enc).length:Nat):Int)>=4:=h;rw[Nr]at h;omega)])
 have h8:¬q.aq.length>=4:=by have h:¬(((q.aq.map dh.enc).length:Nat):Int)>=4:=h8;rw[Nr]at h;omega
 rw[if_neg h8]at pD;refine wN l hf p ?_;rw[MI RW];refine iq msg.data hmf ?_;have tH:dQ (p:Int) (lenOf (eJ p 2 0 l).length 0 none)=some p:=ct (by simp[lenOf,mX];omega)
 have oh:=CU (Q:=2) RW;refine af tH ?_;refine af oh ?_;refine⟨⟨af oh rfl,af tH rfl,trivial⟩,?_⟩;refine⟨?_,?_⟩
 .show((aa (q.aq.map dh.enc)).length+1)*48<=_;simp[aa];omega
 refine⟨trivial,?_⟩;refine af tH ?_;refine af oh ?_;refine⟨trivial,?_⟩;refine⟨MJ (l.set p {q with aq:=q.aq++ [msg]}) 0,[],View.o 5 [] [1,4] (.put (vw2 (.one (.fE ?_))) .nil) (.nil _),?_,rfl⟩
 .refine Hy (p:=p) (Q:=2) (l:=l) (q:={q with aq:=q.aq++ [msg]}) (c:= .row 4 4 0 none) rfl (by rw[<-aT];rfl) ?_
  refine dR.eW (Z:=λk=>bx [1,4] k=true) (ds:=(q.aq++ [msg]).map dh.enc) rfl ?_ 0 none
  rw[<-aT,aby,da];rfl
 .rw[pD]
theorem P4(l:List Obj)(hf:lM l)(e:Int)(msg:dh)(hmf:msg.data.length<=4194304){m:Mem}{K:CV->Mem->Prop}(h:K (MJ (eZ l e msg).1 (eZ l e msg).2) m):ap prog 74 [cA l,an .i64 e,msg.cv] m K:=by
 refine be (K0:=λr m=>r=MJ (eZ l e msg).1 (eZ l e msg).2/\m=[]) (bH (aZ func74 l74 (tG l hf e msg hmf)) λr m1⟨r',m',hv,hp⟩=>⟨r',m',hv,hp⟩) (by simp[cA,an,dh.cv,CV.dv,CC.dv,RV.dv]) λr m1 hr=>?_
 obtain⟨rfl,rfl⟩:=hr;exact⟨_,cL.self rfl,h⟩
def c115:LF:= ⟨33,[.tmp 6],(.seq (.ai [qu 6 (.aI qe)]) (.seq (.ai [qm 8 0,qm 9 1,qm 10 2,qm 11 0,qu 12 (.len 1 11),qu 13 (.nT 4 8 (some 9) (some 10) (some 12))]) (.seq (.seq (.ai [qm 14 1,qm 15 2,qu 16 (.aJ .eql 14 15)]) (.cond 16 (.seq (.ai [qm 17 0,qm 6 17]) .ret) .skip)) (.seq (.ai [qm 18 0,qu 19 (.len 1 18),qm 7 19]) (.seq (.bR [qm 20 0,qm 21 1,qu 22 (.nT 4 20 none (some 21) none),qm 23 0,qm 24 2,qu 25 (.nT 4 23 (some 24) none none),qu 26 (.ov 4 48 22 25),qm 0 26] [(eh 6 0 (.cons 6 (some []) (.cons 7 none .nil)))]) (.seq (.ai [qm 27 0,qm 28 0,qu 29 (.len 1 28),qm 30 7,qu 31 (.nT 4 27 (some 29) (some 30) none),qw (.UK 4 [.aK,(.ah (.val (.bool false))),qd 0,qd 0] 31)]) (.seq (.ai [qm 32 0,qm 6 32]) .ret)))))))⟩
def uU:List CC:=[.aK,.ah (.val (.bool false)),.ah (.val (.int .i64 0)),.ah (.val (.int .i64 0))]
theorem jZ:∀ds:List (List Dt),fw (aa ds)=true
 | []=>rfl
 |d::r=>by
  have h1:∀e:List Dt,qy (e.map CC.ah)=true:=by
   intro e
   induction e with
   |nil=>rfl
   |cons x e ih=>simpa[qy,CC.jc]using ih
  have:=jZ r;simp only[aa,aaJ,fw]at this|-;rw[h1,this];rfl
theorem l115:bw prog f115=some c115:=by kernel_rfl
def fO(x:dh)(r:List dh):List (List CC):=aa (r.map dh.enc)++ [uU]
theorem MK(x:dh)(r:List dh)(hl:r.length<=4194303):body prog c115 [.rv (.one (.row 0 4 0 none)),an .i64 0,an .i64 1] [.row 4 (aa ((x::r).map dh.enc))] (λv m=>v= .rv (.one (.row 0 4 0 (some r.length)))/\m=[.row 4 (fO x r)]):=by
 have hlen:(aa ((x::r).map dh.enc)).length=r.length+1:=by simp[aa]
 have RX:(aa ((x::r).map dh.enc)).drop 1=aa (r.map dh.enc):=rfl;generalize aa ((x::r).map dh.enc)=D at hlen RX;have hL:lenOf D.length 0 none=r.length+1:=by rw[iI,hlen];rfl
 have hE:bV D 1 (some (r.length+1))=aa (r.map dh.enc):=by rw[jE];simp only;rw[<-hlen,aaN,RX]
 have HA:(aa (r.map dh.enc)).length=r.length:=by simp[aa]
 refine cE ?_ ?_
 .show(Nat.ble 0 1&&(Nat.ble 1 (lenOf D.length 0 none)&&Nat.ble (lenOf D.length 0 none) (bV D 0 none).length))=true;rw[hL];simp[bV,hlen,aaU]
 rw[hL];refine cE ?_ ?_
 .show(Nat.ble 1 (lenOf D.length 0 none)&&Nat.ble (lenOf D.length 0 none) (D.length-0))=true;rw[hL,hlen];simp[aaU]
 rw[hL];refine cE ?_ ?_
 .show(Nat.beq 0 0&&(Nat.beq 4 4&&(Nat.beq 4 4&&(Nat.ble 1 D.length&&(Nat.ble (0+(bV D 1 (some (r.length+1))).length) D.length&&fw (bV D 1 (some (r.length+1))))))))=true;rw[hE,jZ,HA,hlen];simp[aaU]
 refine⟨?_,?_⟩
 .rw[hlen];omega
 refine⟨trivial,?_⟩;have wG:(cT D 0 (aa (r.map dh.enc))).length=r.length+1:=by rw[ww (by rw[HA,hlen];omega),hlen]
 refine cE ?_ ?_
 .simp only[lU,aaM,hE,HA,iI,abH,acr,wG];simp[aaU]
 refine cE ?_ ?_
 .simp only[lU,aaM,hE,HA,iI,abH,acr,wG,qz];simp[aaU]
 refine cE ?_ ?_
 .simp only[lU,aaM,hE,HA,iI,abH,acr,wG,qz];simp[abW]
 have eF:cT (cT D 0 (aa (r.map dh.enc))) r.length (gm 1 uU)=fO x r:=by
  have h1:cT D 0 (aa (r.map dh.enc))=aa (r.map dh.enc)++D.drop r.length:=by simp[cT,HA]
  rw[h1];simp only[cT,fM,fO];rw[List.take_append_of_le_length (by rw[HA];exact T5 _),ab1 (by rw[HA];exact T5 _)]
  congr 1;have:(aa (r.map dh.enc)++D.drop r.length).length=r.length+1:=by simp[HA,hlen]
  rw[List.drop_of_length_le (by rw[this];simp)]
  rfl
 refine⟨?_,?_⟩
 .show CV.rv (.one (.row 0 4 0 (some (0+(bV D (iB 0 1) (some (iB 0 (r.length+1)))).length))))=_;simp only[lU,aaM,hE,HA]
 .rw[<-eF];show [Bk.row 4 (cT (cT D 0 (bV D (iB 0 1) (some (iB 0 (r.length+1))))) _ (gm (_-_) uU))]=_;simp only[lU,aaM,hE,HA,iI,abH,acr,wG,qz,Nat.add_sub_cancel_left]
theorem Tw(x:dh)(r:List dh)(hl:r.length<=4194303){m:Mem}{K:CV->Mem->Prop}(id:Nat)(hb:cD m id=some (.row 4 (aa ((x::r).map dh.enc))))(h:K (.rv (.one (.row id 4 0 (some r.length)))) (aW m id (.row 4 (fO x r)))):
  ap prog 115 [.rv (.one (.row id 4 0 none)),an .i64 0,an .i64 1] m K:=by
 have hid:id<m.length:=by rw[aT]at hb;exact(JJ.1 hb).1
 refine bu [id] m.length rfl rfl rfl (by simp[eI,hid]) (args0:=[.rv (.one (.row 0 4 0 none)),an .i64 0,an .i64 1]) rfl (λi b' hi=>?_) (aZ func115 l115 (MK x r hl)) (λr1 m1 hr=>?_)
 .cases i with
  |zero=>
   simp at hi;subst hi;refine .inr ⟨λh=>h,_,?_,.bI rfl⟩
   rw[aT]at hb;exact hb
  |succ i=>simp at hi
 .obtain⟨rfl,rfl⟩:=hr;refine⟨T5 _,?_⟩;have aag:(Bk.row 4 (fO x r)).bg (sg [id] m.length)= .row 4 (fO x r):=by simp only[Bk.bg,fO,aby,dA];rfl
  show K (.rv (.one (.row id 4 0 (some r.length)))) (cW m [id] [(Bk.row 4 (fO x r)).bg (sg [id] m.length)]);rw[aag];simp only[cW,b7,ab3];exact h
def c75:LF:= ⟨78,[.tmp 4,.cell true 4 5,.tmp 6],(.seq (.ai [qu 4 (.aI qe),qu 5 (.alloc [.aK,(.ah (.val (.bool false))),qd 0,qd 0]),qu 6 (.aI (qi 0))]) (.seq (.seq (.ai [qm 10 1,qu 11 (.aJ .lss 10 (qi 0)),qm 12 11,qg 13 (.aI 1) 12 false,qg 14 (.aI 0) 12 false,qg 15 (.len 1 14) 12 false,qg 16 (.aJ .geq 13 15) 12 false,qu 17 (.pick 12 (qb true) 16),qm 18 17,qg 19 (.aI 0) 18 false,qg 20 (.aI 1) 18 false,qg 21 (.cr 9 19 20) 18 false,qg 22 (.bU 0 21) 18 false,qg 23 (.load false 1 22) 18 false,qg 24 (.aJ .neq 23 (qi 4)) 18 false,qu 25 (.pick 18 (qb true) 24)]) (.cond 25 (.seq (.ai [qu 26 (.build [.aK,(.ah (.val (.bool false))),qd 0,qd 0] []),qu 4 (.aI qe),qw (.store 4 5 26),qu 6 (.aI (qi 8))]) .ret) .skip)) (.seq (.seq (.ai [qm 27 0,qm 28 1,qu 29 (.cr 9 27 28),qf 30 5 29,ql 31 30,qu 32 (.len 1 31),qu 33 (.aJ .eql 32 (qi 0))]) (.cond 33 (.seq (.seq (.ai [qm 34 0,qm 35 1,qu 36 (.cr 9 34 35),qf 37 4 36,ql 38 37,qm 7 38]) (.seq (.ai [qm 39 7,qu 40 (.aJ .lss 39 (qi 0)),qm 41 40,qg 42 (.aI 7) 41 false,qg 43 (.aI 0) 41 false,qg 44 (.len 1 43) 41 false,qg 45 (.aJ .geq 42 44) 41 false,qu 46 (.pick 41 (qb true) 45),qm 47 46,qg 48 (.aI 0) 47 false,qg 49 (.aI 7) 47 false,qg 50 (.cr 9 48 49) 47 false,qg 51 (.bU 0 50) 47 false,qg 52 (.load false 1 51) 47 false,qg 53 (.aJ .neq 52 (qi 4)) 47 false,qu 54 (.pick 47 (qb true) 53)]) (.cond 54 (.seq (.ai [qu 55 (.build [.aK,(.ah (.val (.bool false))),qd 0,qd 0] []),qu 4 (.aI qe),qw (.store 4 5 55),qu 6 (.aI (qi 17))]) .ret) .skip))) (.seq (.ai [qu 56 (.build [.aK,(.ah (.val (.bool false))),qd 0,qd 0] []),qu 4 (.aI qe),qw (.store 4 5 56),qu 6 (.aI (qi 16))]) .ret)) .skip)) (.seq (.ai [qm 57 0,qu 58 (qc 98 [57]),qm 8 58]) (.seq (.ai [qm 59 8,qm 60 1,qu 61 (.cr 9 59 60),qf 62 5 61,ql 63 62,qu 64 (.cr 4 63 (qi 0)),qL 65 4 64,qu 9 (.alloc [.aK,(.ah (.val (.bool false))),qd 0,qd 0]),qw (.store 4 9 65)]) (.seq (.ai [qm 66 8,qm 67 1,qm 68 8,qm 69 1,qu 70 (.cr 9 68 69),qf 71 5 70,ql 72 71,qu 73 (qc 115 [72,qi 0,qi 1]),qu 74 (.cr 9 66 67),qf 75 5 74,qw (.store 1 75 73)]) (.seq (.bR [qm 76 8,qL 77 4 9,qm 4 76,qw (.store 4 5 77),qu 6 (.aI (qi 0))] [(eh 3 0 (.cons 3 (some []) (.cons 4 none .nil)))]) .ret)))))))⟩
def m4:dh:=⟨[],false,0,0⟩
def dh.rv(m:dh):RV:= .agg (m.enc.map .ah)
def fG(l:List Obj)(e:Int):List Obj×dh×Int:=
 if e<0\/e>=l.length then([],m4,8)else match l[e.toNat]? with
 |none=>([],m4,8)
 |some o=>if o.ag≠4 then([],m4,8)else match o.aq with
  | []=>if o.bq<0\/o.bq>=l.length then([],m4,17)else match l[o.bq.toNat]? with
   |none=>([],m4,17)
   |some q=>if q.ag≠4 then([],m4,17)else([],m4,16)
  |x::r=>(l.set e.toNat {o with aq:=r},x,0)
def wO(x:List Obj×dh×Int):CV:= .bz [mZ x.1,x.2.1.rv,cG x.2.2]
theorem vw3{Y:Nat->Nat}{m:Mem}{Z:Nat->Prop}{a b c d:RV}{x:Int}(h:yf Y m Z a b)(hc:yf Y m Z c d):ri Y m Z (.bz [a,c,cG x]) (.bz [b,d,cG x]):=by
 refine .bz rfl λi r r' h1 h2=>?_
 match i,h1,h2 with
 |0,h1,h2=>cases h1;cases h2;exact h
 |1,h1,h2=>cases h1;cases h2;exact hc
 |2,h1,h2=>cases h1;cases h2;exact .one (.bg (.ah _))
theorem vwZ{Y:Nat->Nat}{m:Mem}{Z:Nat->Prop}:yf Y m Z (.agg uU) m4.rv:=by
 refine .agg rfl λi c c' h1 h2=>?_
 match i,h1,h2 with
 |0,h1,h2=>cases h1;cases h2;exact .fE (.aK 1)
 |1,h1,h2=>cases h1;cases h2;exact .bg (.ah _)
 |2,h1,h2=>cases h1;cases h2;exact .bg (.ah _)
 |3,h1,h2=>cases h1;cases h2;exact .bg (.ah _)
 |n+4,h1,h2=>simp[uU]at h1
theorem WI{Y:Nat->Nat}{m:Mem}{Z:Nat->Prop}(x:dh):yf Y m Z (.agg (x.enc.map .ah)) x.rv:=by
 refine .agg rfl λi c c' h1 h2=>?_
 rw[h1]at h2;cases h2;rw[Sf]at h1;cases hd:x.enc[i]? with
 |none=>rw[hd]at h1;cases h1
 |some d=>
  rw[hd]at h1;cases h1;exact .bg (.ah d)
theorem Tx{m:Mem}{Z:Nat->Prop}{p:Option Nat}{id:Nat}{x:dh}{r:List dh}(hz:Z id)(hb:m[id]? =some (.row 4 (fO x r))):dR m Z p (.row id 4 0 (some r.length)) (.sl 4 (r.map dh.enc)):=by
 have h:=dR.row (m:=m) (Z:=Z) (p:=p) id 4 0 (some r.length) (fO x r) (r.map dh.enc++ [m4.enc]) hz hb (by simp[fO,aa]) (λi cs es h1 h2=>?_) (λi cs es j c d h1 h2 h3 h4=>?_)
 .have:bV (r.map dh.enc++ [m4.enc]) 0 (some r.length)=r.map dh.enc:=by rw[jE];simp
  rw[this]at h;exact h
 .rcases aaf i r.length with hi|hi
  .rw[fO,YN (by simpa[aa]using hi),aa,Sf]at h1
   rw[YN (by simpa using hi)]at h2
   rw[h2]at h1;cases h1;simp
  .rw[fO,Xi (by simpa[aa]using hi)]at h1
   rw[Xi (by simpa using hi)]at h2
   have e1:(aa (r.map dh.enc)).length=r.length:=by simp[aa]
   have e2:(r.map dh.enc).length=r.length:=aC;rw[e1]at h1;rw[e2]at h2;cases hn:i-r.length with
   |zero=>rw[hn]at h1 h2;cases h1;cases h2;rfl
   |succ n=>rw[hn]at h1;simp at h1
 .rcases aaf i r.length with hi|hi
  .rw[fO,YN (by simpa[aa]using hi),aa,Sf]at h1
   rw[YN (by simpa using hi)]at h2
   rw[h2]at h1;cases h1;rw[Sf,h4]at h3;cases h3;exact .ah _
  .rw[fO,Xi (by simpa[aa]using hi)]at h1
   rw[Xi (by simpa using hi)]at h2
   have e1:(aa (r.map dh.enc)).length=r.length:=by simp[aa]
   have e2:(r.map dh.enc).length=r.length:=aC;rw[e1]at h1;rw[e2]at h2;cases hn:i-r.length with
   |zero=>
    rw[hn]at h1 h2;cases h1;cases h2
    match j,h3,h4 with
    |0,h3,h4=>cases h3;cases h4;exact .aK 1
    |1,h3,h4=>cases h3;cases h4;exact .ah _
    |2,h3,h4=>cases h3;cases h4;exact .ah _
    |3,h3,h4=>cases h3;cases h4;exact .ah _
    |n+4,h3,h4=>simp[uU]at h3
   |succ n=>rw[hn]at h1;simp at h1
theorem l75:bw prog f75=some c75:=by kernel_rfl
theorem tI(l:List Obj)(hf:lM l)(e:Int):body prog c75 [cA l,an .i64 e] [] (λr m=>∃r' m',View 0 ⟨[r],m⟩ ⟨[r'],m'⟩/\r'=wO (fG l e)/\m'=[]):=by
 have K9:(((l.map Obj.enc).length:Nat):Int)=(l.length:Int):=aC;have bad:∀(x:Int),fG l e=([],m4,x)->∃r' m',View 0 ⟨[CV.bz [.one .aK,.agg uU,cG x]],[.var uU]⟩ ⟨[r'],m'⟩/\r'=wO (fG l e)/\m'=[]:=by intro x hx;refine⟨_,_,View.o 1 [] [] (.put (vw3 (b:=mZ []) (.one (.fE (.aK 9))) vwZ) .nil) (.nil _),?_,rfl⟩;rw[hx];rfl
 refine aN (λh=>?_) (λh1=>?_)
 .exact bad 8 (by rw[fG,if_pos (.inl h)])
 refine aN (λh=>?_) (λh2=>?_)
 .exact bad 8 (by rw[fG,if_pos (.inr (by rw[<-K9];exact h))])
 have h2:¬e>=(l.length:Int):=by rw[<-K9];exact h2
 obtain⟨k,rfl⟩:∃k:Nat,e=k:=⟨e.toNat,om⟩;have hk:k<l.length:=om;have hi:=vl hk;have pD:fG l (k:Int)=if l[k].ag≠4 then(([],m4,8):List Obj×dh×Int)else match l[k].aq with
   | []=>if l[k].bq<0\/l[k].bq>=l.length then([],m4,17)else match l[l[k].bq.toNat]? with
    |none=>([],m4,17)
    |some q=>if q.ag≠4 then([],m4,17)else([],m4,16)
   |x::r=>(l.set k {l[k]with aq:=r},x,0):=by
  rw[fG,if_neg om,aae,hi]
 have hg:dC (l.map Obj.enc) (k:Nat)=some (l[k].enc):=by rw[bD,Sf,hi];rfl
 have Pg:=hf.2 _ (aar hk);generalize l[k]=o at pD hg hi Pg;obtain⟨ag,data,ak,target,bq,aq,bb,am,up⟩:=o;have hg:dC (l.map Obj.enc) (k:Nat)=some [.val (.int .i64 ag),.sl 1 data,.sl 2 ak,.val (.string target),.val (.int .i64 bq),.sl 4 (aq.map dh.enc),.val (.int .i64 bb),.val (.int .i64 am),.val (.int .i64 up)]:=hg;refine af hg ?_;refine bt (λh=>?_) (λh3=>?_)
 .exact bad 8 (by rw[pD,if_pos h])
 have h3:ag=4:=h3;rw[if_neg (by simpa using h3)]at pD
 simp only at pD;refine af hg ?_;cases aq with
 |nil=>
  simp only at pD;refine af hg ?_;refine aN (λh=>?_) (λh4=>?_)
  .exact bad 17 (by rw[pD,if_pos (.inl h)])
  refine aN (λh=>?_) (λh5=>?_)
  .exact bad 17 (by rw[pD,if_pos (.inr (by rw[<-K9];exact h))])
  have h5:¬bq>=(l.length:Int):=by rw[<-K9];exact h5
  have h4:¬bq<0:=h4;obtain⟨p,rfl⟩:∃p:Nat,bq=p:=⟨bq.toNat,om⟩;have hp:p<l.length:=om;have RW:=vl hp;rw[if_neg om,aae,RW]at pD;simp only at pD;have B2:dC (l.map Obj.enc) (p:Nat)=some (l[p].enc):=by rw[bD,Sf,RW];rfl
  generalize l[p]=q at pD B2;have B2:dC (l.map Obj.enc) (p:Nat)=some [.val (.int .i64 q.ag),.sl 1 q.data,.sl 2 q.ak,.val (.string q.target),.val (.int .i64 q.bq),.sl 4 (q.aq.map dh.enc),.val (.int .i64 q.bb),.val (.int .i64 q.am),.val (.int .i64 q.up)]:=B2;refine af B2 ?_;refine bt (λh=>?_) (λh6=>?_)
  .exact bad 17 (by rw[pD,if_pos h])
  .exact bad 16 (by rw[pD,if_neg (by simpa using h6)])
 |cons x r=>
  simp only at pD;have HB:(x::r).length<=4194304:=Pg.2.2.1;refine wN l hf k ?_;rw[MI hi];have tH:dQ (k:Int) (lenOf (eJ k 2 0 l).length 0 none)=some k:=ct (by simp[lenOf,mX];omega)
  have oh:=CU (Q:=2) hi;refine af tH ?_;refine af oh ?_;refine af tH ?_;refine af oh ?_;refine Tw x r (by simp at HB;omega) 2 rfl ?_
  refine af tH ?_;refine af oh ?_;refine⟨trivial,?_⟩;refine⟨wO (fG l k),[],View.o 4 [] [1,2] ?_ (.nil _),rfl,rfl⟩;rw[pD];refine .put (vw3 (.one (.fE ?_)) (WI x)) .nil;exact Hy (p:=k) (Q:=2) (l:=l) (q:=⟨ag,data,ak,target,bq,r,bb,am,up⟩) (c:= .row 2 4 0 (some r.length)) rfl (by rw[<-aT];rfl) (Tx (x:=x) rfl (by rw[<-aT];rfl))
theorem P5(l:List Obj)(hf:lM l)(e:Int){m:Mem}{K:CV->Mem->Prop}(h:K (wO (fG l e)) m):ap prog 75 [cA l,an .i64 e] m K:=by
 refine be (K0:=λr m=>r=wO (fG l e)/\m=[]) (bH (aZ func75 l75 (tI l hf e)) λr m1⟨r',m',hv,hp⟩=>⟨r',m',hv,hp⟩) (by simp[cA,an,CV.dv,CC.dv,RV.dv]) λr m1 hr=>?_
 obtain⟨rfl,rfl⟩:=hr;exact⟨_,cL.self rfl,h⟩
def jg(l:List Int):List (List Dt):=l.map λb=>[.val (.int .u8 b)]
theorem CW{m:Mem}{id:Nat}{b:Bk}:cW m [id] [b]=aW m id b:=by simp only[cW,b7,ab3]
theorem tJ:∀b:List Int,vR ((jg b).map λds=>ds.map .ah)=some b
 | []=>rfl
 |x::r=>by have:=tJ r;simp only[jg,aaJ,ac7]at this|-;simp only[vR,this]
def fX(e:ByteArray×Int):List Dt:=[.val (.string e.1),.val (.int .i64 e.2)]
def dh.RY(q:dh):Prop:=∃b:List Int,q.data=jg b
def Obj.RY(o:Obj):Prop:=(∃b:List Int,o.data=jg b)/\(∃es:List (ByteArray×Int),o.ak=es.map fX)/\∀q,q∈o.aq->q.RY
theorem AV{l:List Obj}{k:Nat}(h:k<l.length):dC (l.map Obj.enc) (k:Nat)=some [.val (.int .i64 l[k].ag),.sl 1 l[k].data,.sl 2 l[k].ak,.val (.string l[k].target),.val (.int .i64 l[k].bq),.sl 4 (l[k].aq.map dh.enc),.val (.int .i64 l[k].bb),.val (.int .i64 l[k].am),.val (.int .i64 l[k].up)]:=by rw[bD,Sf,vl h];rfl
inductive p6(Y:Nat->Nat)(m:Mem)(Z:Nat->Prop):List CC->List CC->Prop
 |nil:p6 Y m Z [] []
 |cons {c c':CC} {r r':List CC} (h:s9 Y m Z none c c') (hr:p6 Y m Z r r'):p6 Y m Z (c::r) (c'::r')
theorem p6.len{Y:Nat->Nat}{m:Mem}{Z:Nat->Prop}{cs e7:List CC}(h:p6 Y m Z cs e7):cs.length=e7.length:=by
 induction h<;>simp[*]
theorem p6.get{Y:Nat->Nat}{m:Mem}{Z:Nat->Prop}{cs e7:List CC}(h:p6 Y m Z cs e7):∀(i:Nat)c c',cs[i]? =some c->e7[i]? =some c'->s9 Y m Z none c c':=by
 induction h with
 |nil=>intro i c c' h;simp at h
 |cons h hr ih=>
  intro i c c' h1 h2;cases i with
  |zero=>simp at h1 h2;subst h1 h2;exact h
  |succ i=>exact ih i c c' (by simpa using h1) (by simpa using h2)
theorem p6.agg{Y:Nat->Nat}{m:Mem}{Z:Nat->Prop}{cs e7:List CC}(h:p6 Y m Z cs e7):ri Y m Z (.rv (.agg cs)) (.rv (.agg e7)):= .rv (.agg h.len h.get)
structure Obj.sm(o:Obj):Prop where
 t:o.RY
 d:o.data.length<=64
 e:o.ak.length<=8
 q:o.aq.length<=8
 qd:∀q,q∈o.aq->q.data.length<=64
theorem Obj.sm.oi{o:Obj}(h:o.sm):o.oi:=⟨by have:=h.d;omega,by have:=h.e;omega,by have:=h.q;omega,λq hq=>by have:=h.qd q hq;omega⟩
theorem P6{es:List (ByteArray×Int)}{k:Nat}(h:k<es.length):dC (es.map fX) (k:Nat)=some [.val (.string es[k].1),.val (.int .i64 es[k].2)]:=by rw[bD,Sf,vl h];rfl
structure ft where
 has:Bool
 dS:Int
 cj:Int
def ft.enc(s:ft):List Dt:=[.val (.bool s.has),.val (.int .i64 s.dS),.val (.int .i64 s.cj)]
def yC(l:List ft):Dt:= .sl 3 (l.map ft.enc)
def ML(l:List ft):RV:= .one (.ah (yC l))
def m5(l:List ft):CV:= .rv (.one (.ah (yC l)))
theorem bJ{α:Type}(f:α->List Dt)(l:List α){k:Nat}(h:k<l.length):cD (aa (l.map f)) k=some ((f l[k]).map .ah):=by rw[aT,aa,Sf,Sf,vl h];rfl
theorem nJ{α:Type}(f:α->List Dt)(l:List α)(k:Nat)(x:α):aW (aa (l.map f)) k ((f x).map .ah)=aa ((l.set k x).map f):=by rw[aY,aa,aa,abM,abM]
theorem oR:∀a:List UInt8,Op.bytesLess a a=false
 | []=>rfl
 |x::r=>by simp[Op.bytesLess,oR r]
theorem sa:∀{a b c:List UInt8},Op.bytesLess a b=true->Op.bytesLess b c=true->Op.bytesLess a c=true
 |a,[],_,h,_=>by cases a<;>simp[Op.bytesLess]at h
 |_,_::_,[],_,h=>by simp[Op.bytesLess]at h
 | [],_::_,_::_,_,_=>rfl
 |x::a,y::b,z::c,h1,h2=>by
  simp only[Op.bytesLess,ab8,aac,decide_eq_true_eq,beq_iff_eq]at h1 h2|-;rcases h1 with h1|⟨rfl,h1⟩
  .rcases h2 with h2|⟨rfl,h2⟩
   .exact .inl (UInt8.lt_trans h1 h2)
   .exact .inl h1
  .rcases h2 with h2|⟨rfl,h2⟩
   .exact .inl h2
   .exact .inr ⟨rfl,sa h1 h2⟩
theorem MM:∀a b:List UInt8,Op.bytesLess a b=true\/a=b\/Op.bytesLess b a=true
 | [],[]=>.inr (.inl rfl)
 | [],_::_=>.inl rfl
 |_::_,[]=>.inr (.inr rfl)
 |x::a,y::b=>by
  simp only[Op.bytesLess,ab8,aac,decide_eq_true_eq,beq_iff_eq,adA];by_cases h:x<y
  .exact .inl (.inl h)
  .by_cases h2:y<x
   .exact .inr (.inr (.inl h2))
   .have e:x=y:=by have h3:¬x.toNat<y.toNat:=h;have h4:¬y.toNat<x.toNat:=h2;exact UInt8.toNat_inj.1 om
    subst e;rcases MM a b with h5|h5|h5
    .exact .inl (.inr ⟨rfl,h5⟩)
    .exact .inr (.inl ⟨rfl,h5⟩)
    .exact .inr (.inr (.inr ⟨rfl,h5⟩))
abbrev NE:=ByteArray×Int
def AW(a b:ByteArray):Prop:=Op.bytesLess a.toList b.toList=true
def Fg(es:List NE):Prop:=es.Pairwise λa b=>AW a.1 b.1
def Fh(a b:ByteArray):Bool:= !(Op.bytesLess a.toList b.toList||a.toList==b.toList)
theorem WJ{a b:ByteArray}(h:Fh a b=true):AW b a:=by
 unfold Fh at h;simp only[ab2,Bool.or_eq_false_iff,beq_eq_false_iff_ne]at h;rcases MM a.toList b.toList with h1|h1|h1
 .rw[h.1]at h1;cases h1
 .exact absurd h1 h.2
 .exact h1
theorem Ty{a b:ByteArray}(h:Fh a b=false)(du:a.toList≠b.toList):AW a b:=by unfold Fh at h;simp only[Bool.not_eq_false',ab8,beq_iff_eq]at h;exact h.elim id λh=>absurd h du
structure MN(es:List NE)(x:NE)(k:Nat)(d:Bool)(c6:List NE):Prop where
 f:d=false->c6=es.take k/\∀(j:Nat)e,j<k->es[j]? =some e->Fh e.1 x.1=false
 t:d=true->∃i,i<k/\c6=es.take i++x::(es.take k).drop i/\(∀(j:Nat)e,j<i->es[j]? =some e->Fh e.1 x.1=false)/\∃e,es[i]? =some e/\Fh e.1 x.1=true
theorem Jm{es:List NE}{k:Nat}(h:k<es.length):es.take (k+1)=es.take k++ [es[k]]:=by rw[abQ,vl h];rfl
theorem MN.BU{es:List NE}{x:NE}{k:Nat}{c6:List NE}(h:MN es x k false c6)(hk:k<es.length)(hg:Fh es[k].1 x.1=true):MN es x (k+1) true (c6++ [x,es[k]]):=by
 obtain⟨h1,h2⟩:=h.f rfl;refine⟨λh=>(by cases h),λ_=>⟨k,acf k,?_,h2,es[k],vl hk,hg⟩⟩
 rw[Jm hk,h1,List.drop_left' (by simp;omega)]
def iL(x:NE):List NE->List NE
 | []=>[x]
 |e::r=>if Fh e.1 x.1=true then x::e::r else e::iL x r
theorem CX{x:NE}:∀{a b:List NE},(∀e,e∈a->Fh e.1 x.1=false)->iL x (a++b)=a++iL x b
 | [],_,_=>rfl
 |e::a,b,h=>by
  show iL x (e::(a++b))=_;rw[iL,if_neg (by rw[h e aC];simp),CX λy hy=>h y (by simp[hy])]
  rfl
theorem P7{x e:NE}{r:List NE}(h:Fh e.1 x.1=true):iL x (e::r)=x::e::r:=by rw[iL,if_pos h]
theorem sb{x:NE}:∀{es:List NE}{e:NE},e∈iL x es->e∈es\/e=x
 | [],e,h=>by simp[iL]at h;exact .inr h
 |y::r,e,h=>by
  rw[iL]at h;split at h
  .rcases aaB.1 h with h|h
   .exact .inr h
   .exact .inl h
  .rcases aaB.1 h with h|h
   .exact .inl (by simp[h])
   .rcases sb h with h|h
    .exact .inl (by simp[h])
    .exact .inr h
theorem CY{x:NE}:∀es:List NE,(iL x es).length=es.length+1
 | []=>rfl
 |y::r=>by
  rw[iL];split
  .rfl
  .simp[CY r]
theorem MP{es:List NE}{x:NE}(hs:Fg es)(du:∀e,e∈es->e.1.toList≠x.1.toList):Fg (iL x es):=by
 induction es with
 |nil=>exact acs.2 ⟨aC,List.Pairwise.nil⟩
 |cons e r ih=>
  obtain⟨h1,h2⟩:=acs.1 hs;rw[iL];split
  .rename_i hg;have hx:=WJ hg;refine acs.2 ⟨λy hy=>?_,hs⟩
   rcases aaB.1 hy with rfl|hy
   .exact hx
   .exact sa hx (h1 y hy)
  .rename_i hg;rw[acL]at hg;refine acs.2 ⟨λy hy=>?_,ih h2 λy hy=>du y (by simp[hy])⟩
   rcases sb hy with hy|rfl
   .exact h1 y hy
   .exact Ty hg (du e aC)
def AX(es:List NE)(name:ByteArray)(n:Int):Prop:=(∃e,e∈es/\e.1.toList=name.toList/\n=e.2)\/(n= -1/\∀e,e∈es->e.1.toList≠name.toList)
def fH(es:List NE)(name:ByteArray):Int:=match es.find? (λe=>decide (e.1.toList=name.toList))with
 |some e=>e.2
 |none=>-1
theorem wP{es:List NE}(hs:Fg es){a b:NE}(ha:a∈es)(hb:b∈es)(h:a.1.toList=b.1.toList):a=b:=by
 obtain⟨i,hi⟩:=X1 ha;obtain⟨j,hj⟩:=X1 hb;obtain⟨IF,eY⟩:=JJ.1 hi;obtain⟨yu,lG⟩:=JJ.1 hj;have hp:=ab4.1 hs;rcases acY i j with h3|h3|h3
 .have:=hp i j IF yu h3;rw[eY,lG,AW,h,oR]at this;cases this
 .subst h3;rw[hi]at hj;cases hj;rfl
 .have:=hp j i yu IF h3;rw[eY,lG,AW,h,oR]at this;cases this
theorem iM(es:List NE)(name:ByteArray):AX es name (fH es name):=by
 unfold fH;cases h:es.find? (λe=>decide (e.1.toList=name.toList))with
 |some e=>
  have h1:=List.find?_some h;exact .inl ⟨e,List.mem_of_find?_eq_some h,by simpa using h1,rfl⟩
 |none=>exact .inr ⟨rfl,λe he=>by simpa using adh.1 h e he⟩
theorem uV{es:List NE}(hs:Fg es){name:ByteArray}{n k:Int}(h:AX es name n)(h2:AX es name k):n=k:=by
 rcases h with⟨e,he,h3,rfl⟩|⟨rfl,h3⟩
 .rcases h2 with⟨e',mD,h4,rfl⟩|⟨rfl,h4⟩
  .rw[wP hs he mD (h3.trans h4.symm)]
  .exact absurd h3 (h4 e he)
 .rcases h2 with⟨e',mD,h4,rfl⟩|⟨rfl,h4⟩
  .exact absurd h4 (h3 e' mD)
  .rfl
def noD:Dt:= .val (.slice none 0 0)
structure Ob where
 ag:Int
 data:List (List Dt)
 ak:List (List Dt)
 target:ByteArray
 bq:Int
 aq:Dt
 bb:Int
 am:Int
 up:Int
def Ob.enc(o:Ob):List Dt:=[.val (.int .i64 o.ag),.sl 1 o.data,.sl 2 o.ak,.val (.string o.target),.val (.int .i64 o.bq),o.aq,.val (.int .i64 o.bb),.val (.int .i64 o.am),.val (.int .i64 o.up)]
def P8(l:List Ob):Dt:= .sl 9 (l.map Ob.enc)
def AY(l:List Ob):CV:= .rv (.one (.ah (P8 l)))
def oS(l:List Ob)(k ag:Int):Bool:=decide (k>=0)&&(decide (k<l.length)&&match l[k.toNat]? with|none=>false|some o=>o.ag !=0&&(ag==0||o.ag==ag))
theorem m6{l:List Ob}{k:Nat}(h:k<l.length):dC (l.map Ob.enc) (k:Nat)=some [.val (.int .i64 l[k].ag),.sl 1 l[k].data,.sl 2 l[k].ak,.val (.string l[k].target),.val (.int .i64 l[k].bq),l[k].aq,.val (.int .i64 l[k].bb),.val (.int .i64 l[k].am),.val (.int .i64 l[k].up)]:=by rw[bD,Sf,vl h];rfl
theorem MQ{l:List Ob}{k:Int}(h:oS l k 0=true):∃n:Nat,k=n/\n<l.length:=by
 unfold oS at h;by_cases h0:k>=0
 .obtain⟨n,rfl⟩:∃n:Nat,k=n:=⟨k.toNat,om⟩;by_cases hn:n<l.length
  .exact⟨n,rfl,hn⟩
  .simp[hn]at h
 .simp[h0]at h
structure WK(n:Nat)(ag:Int)(ak:List (List Dt)):Prop where
 ex:∃es:List NE,ak=es.map fX/\Fg es/\(∀e,e∈es->0<=e.2/\e.2<(n:Int))/\(ag≠2->es=[])
def nZ:List Dt->NE
 | [.val (.string s),.val (.int .i64 n)]=>(s,n)
 |_=>(⟨#[]⟩,0)
theorem nK:∀es:List NE,(es.map fX).map nZ=es
 | []=>rfl
 |e::r=>by show(nZ (fX e))::((r.map fX).map nZ)=_;rw[nK r];rfl
def WL:LC->LC
 | .seq a _=>a
 |x=>x
def bL:LC->LC
 | .seq _ b=>b
 |x=>x
def qM:LC->LC
 | .cU a=>a
 |x=>x
structure bF where
 bo:Int
 di:Int
def bF.enc(o:bF):List Dt:=[.val (.int .i64 o.bo),.val (.int .i64 o.di)]
structure bm where
 aP:Bool
 fenced:Bool
 code:Int
 aU:List ft
def bm.enc(p:bm):List Dt:=[.val (.bool p.aP),.val (.bool p.fenced),.val (.int .i64 p.code),yC p.aU]
def eX(l:List bF):Dt:= .sl 2 (l.map bF.enc)
def gl(l:List bm):Dt:= .sl 4 (l.map bm.enc)
def ez(l:List Obj)(op:List bF)(ps:List bm):CV:= .rv (.agg [.ah (dk l),.ah (eX op),.ah (gl ps)])
inductive fh(Y:Nat->Nat)(m:Mem)(Z:Nat->Prop)(p:Option Nat):List CC->List CC->Prop
 |nil:fh Y m Z p [] []
 |cons {c c':CC} {r r':List CC} (h:s9 Y m Z p c c') (hr:fh Y m Z p r r'):fh Y m Z p (c::r) (c'::r')
theorem fh.get{Y:Nat->Nat}{m:Mem}{Z:Nat->Prop}{p:Option Nat}{cs e7:List CC}(h:fh Y m Z p cs e7):∀(i:Nat)c',e7[i]? =some c'->∃c,cs[i]? =some c/\s9 Y m Z p c c':=by
 induction h with
 |nil=>intro i c' h;simp at h
 |cons h hr ih=>
  intro i c' h2;cases i with
  |zero=>simp at h2;subst h2;exact⟨_,rfl,h⟩
  |succ i=>simpa using ih i c' (by simpa using h2)
theorem fh.var{Y:Nat->Nat}{m:Mem}{Z:Nat->Prop}{id:Nat}{cs e7:List CC}(h:fh Y m Z (some id) cs e7):mi Y m Z id (.var cs) (.var e7):= .var h.get
def z3:List CC:=[.aK,.aK,.aK]
theorem bh(ds:List (List Dt)):(aa ds).length=ds.length:=by simp[aa]
theorem dA(Y:Nat->Nat)(ds:List (List Dt)):(aa ds).map (λcs=>cs.map (CC.bg Y))=aa ds:=by simp[aa,acZ,CC.bg]
theorem WM{Y:Nat->Nat}{m:Mem}{Z:Nat->Prop}{id:Nat}(l:List bm)(p:bm){c:CC}{X:List (List CC)}(hc:s9 Y m Z (some id) c (.ah (yC p.aU)))(hX:X=aa (l.map bm.enc)++ [[.ah (.val (.bool p.aP)),.ah (.val (.bool p.fenced)),.ah (.val (.int .i64 p.code)),c]]):mi Y m Z id (.row 4 X) (.row 4 (aa ((l++ [p]).map bm.enc))):=by
 subst hX;have e:aa ((l++ [p]).map bm.enc)=aa (l.map bm.enc)++ [p.enc.map .ah]:=by simp[aa]
 rw[e];refine .Jg (dA Y _) rfl λj c1 c2 h1 h2=>?_
 match j,h1,h2 with
 |0,h1,h2=>cases h1;cases h2;exact .bg (.ah _)
 |1,h1,h2=>cases h1;cases h2;exact .bg (.ah _)
 |2,h1,h2=>cases h1;cases h2;exact .bg (.ah _)
 |3,h1,h2=>cases h1;cases h2;exact hc
 |n+4,h1,h2=>simp at h1
structure Mk where
 O:List Bool
 P:List Bool
def dp(L:List Bool)(i:Nat):Prop:=L[i]? =some true
def vO(l:List Obj)(z:Int)(i:Nat):Prop:=z=i/\∃o,l[i]? =some o/\o.ag≠0
def vP(ops:List bF)(z:Int)(c:Nat):Prop:=z=c/\c<ops.length
def sE(o:Obj)(z:Int):Prop:=∃nm:ByteArray,fX (nm,z)∈o.ak
def sQ(o:Obj)(z:Int):Prop:=∃q,q∈o.aq/\q.has=true/\q.dS=z
structure Step(l:List Obj)(ops:List bF)(E:Nat->Prop)(a b:Mk):Prop where
 lo:b.O.length=a.O.length
 lp:b.P.length=a.P.length
 mo:∀i,dp a.O i->dp b.O i
 mp:∀c,dp a.P c->dp b.P c
 co:∀i o,dp b.O i->¬dp a.O i->¬E i->l[i]? =some o->(∀z n,sE o z->vO l z n->dp b.O n)/\(∀z c,sQ o z->vP ops z c->dp b.P c)
 cp:∀c o,dp b.P c->¬dp a.P c->ops[c]? =some o->∀n,vO l o.bo n->dp b.O n
structure Cl(l:List Obj)(ops:List bF)(RO RP:Nat->Prop):Prop where
 e:∀i o,RO i->l[i]? =some o->∀z n,sE o z->vO l z n->RO n
 q:∀i o,RO i->l[i]? =some o->∀z c,sQ o z->vP ops z c->RP c
 p:∀c o,RP c->ops[c]? =some o->∀n,vO l o.bo n->RO n
def Pi(RO RP:Nat->Prop)(a:Mk):Prop:=(∀i,dp a.O i->RO i)/\(∀c,dp a.P c->RP c)
def ec(L:List Bool):Nat:=(L.filter (λb=>!b)).length
def Mk.mu(a:Mk):Nat:=ec a.O+ec a.P
theorem Step.refl{l:List Obj}{ops:List bF}{E:Nat->Prop}(a:Mk):Step l ops E a a:=
 ⟨rfl,rfl,λ_ h=>h,λ_ h=>h,λ_ _ h h2=>absurd h h2,λ_ _ h h2=>absurd h h2⟩
theorem Step.trans{l:List Obj}{ops:List bF}{E:Nat->Prop}{a b c:Mk}(h1:Step l ops E a b)(h2:Step l ops (λ_=>False) b c):Step l ops E a c:=by
 refine⟨h2.lo.trans h1.lo,h2.lp.trans h1.lp,λi h=>h2.mo i (h1.mo i h),λi h=>h2.mp i (h1.mp i h),λi o hi hn hE ho=>?_,λi o hi hn ho n hv=>?_⟩
 .by_cases hb:dp b.O i
  .obtain⟨k1,k2⟩:=h1.co i o hb hn hE ho;exact⟨λz n hz hv=>h2.mo n (k1 z n hz hv),λz c hz hv=>h2.mp c (k2 z c hz hv)⟩
  .exact h2.co i o hi hb (λh=>h) ho
 .by_cases hb:dp b.P i
  .exact h2.mo n (h1.cp i o hb hn ho n hv)
  .exact h2.cp i o hi hb ho n hv
theorem kR:∀(a b:List Bool),b.length=a.length->(∀i,dp a i->dp b i)->ec b<=ec a
 | [],[],_,_=>T5 _
 | [],_::_,h,_=>by simp at h
 |_::_,[],h,_=>by simp at h
 |x::a,y::b,h,hm=>by
  have ih:=kR a b (by simpa using h) (λi hi=>by simpa[dp]using hm (i+1) (by simpa[dp]using hi))
  have h0:x=true->y=true:=λhx=>by simpa[dp]using hm 0 (by simp[dp,hx])
  unfold ec at ih|-;cases x<;>cases y<;>simp at h0|-<;>omega
theorem qN:∀(a:List Bool)(n:Nat),a[n]? =some false->ec (a.set n true)+1=ec a
 | [],n,h=>by simp at h
 |x::a,0,h=>by simp at h;subst h;simp[ec]
 |x::a,n+1,h=>by
  have ih:=qN a n (by simpa using h)
  unfold ec at ih|-;cases x<;>simp at ih|-<;>omega
theorem HC{L:List Bool}{n i:Nat}(h:dp L i):dp (L.set n true) i:=by
 unfold dp at h|-;rw[aaS];split
 .rename_i e;subst e;have:=(JJ.1 h).1;simp[this]
 .exact h
theorem se{L:List Bool}{n:Nat}(h:n<L.length):dp (L.set n true) n:=by unfold dp;simp[h]
theorem k8{L:List Bool}{n i:Nat}(h:dp (L.set n true) i):dp L i\/i=n:=by
 unfold dp at h|-;rw[aaS]at h;split at h
 .rename_i e;exact .inr e.symm
 .exact .inl h
structure PO(l:List Obj)(ops:List bF)(z:Int)(a b:Mk):Prop where
 st:Step l ops (λ_=>False) a b
 on:∀n,vO l z n->dp b.O n
 sd:∀RO RP,Cl l ops RO RP->Pi RO RP a->(∀n,vO l z n->RO n)->Pi RO RP b
structure PP(l:List Obj)(ops:List bF)(z:Int)(a b:Mk):Prop where
 st:Step l ops (λ_=>False) a b
 on:∀c,vP ops z c->dp b.P c
 sd:∀RO RP,Cl l ops RO RP->Pi RO RP a->(∀c,vP ops z c->RP c)->Pi RO RP b
theorem PO.none{l:List Obj}{ops:List bF}{z:Int}{a:Mk}(h:∀n,vO l z n->dp a.O n):PO l ops z a a:=⟨.refl a,h,λ_ _ _ h _=>h⟩
theorem PP.none{l:List Obj}{ops:List bF}{z:Int}{a:Mk}(h:∀n,vP ops z n->dp a.P n):PP l ops z a a:=⟨.refl a,h,λ_ _ _ h _=>h⟩
structure zs(l:List Obj)(ops:List bF)(n:Nat)(a b:Mk)(nE nQ:Nat)(es:List (ByteArray×Int))(qs:List dh):Prop where
 st:Step l ops (λi=>i=n) a b
 on:dp b.O n
 e:∀j e,j<nE->es[j]? =some e->∀m,vO l e.2 m->dp b.O m
 q:∀j q,j<nQ->qs[j]? =some q->q.has=true->∀c,vP ops q.dS c->dp b.P c
 sd:∀RO RP,Cl l ops RO RP->Pi RO RP a->RO n->Pi RO RP b
theorem zs.start{l:List Obj}{ops:List bF}{n:Nat}{a:Mk}(hn:n<a.O.length)(es:List (ByteArray×Int))(qs:List dh):zs l ops n a ⟨a.O.set n true,a.P⟩ 0 0 es qs:=by
 refine⟨⟨aC,rfl,λi h=>HC h,λi h=>h,λi o h h2 h3=>?_,λ_ _ h h2=>absurd h h2⟩,se hn,λj e h=>absurd h (aaR j),λj e h=>absurd h (aaR j),λRO RP _ h hr=>⟨λi hi=>?_,h.2⟩⟩
 .rcases k8 h with h|h
  .exact absurd h h2
  .exact absurd h h3
 .rcases k8 hi with hi|rfl
  .exact h.1 i hi
  .exact hr
theorem zs.WN{l:List Obj}{ops:List bF}{n:Nat}{a b c:Mk}{j:Nat}{es:List (ByteArray×Int)}{qs:List dh}(h:zs l ops n a b j 0 es qs){e:ByteArray×Int}(he:es[j]? =some e)(hc:PO l ops e.2 b c){o:Obj}(ho:l[n]? =some o)(nV:o.ak=es.map fX):zs l ops n a c (j+1) 0 es qs:=by
 have hse:sE o e.2:=⟨e.1,by rw[nV];exact adb (Sj he)⟩
 refine⟨h.st.trans hc.st,hc.st.mo n h.on,λi x hi hx m hv=>?_,λi x hi=>absurd hi (aaR i),λRO RP im iY hr=>hc.sd RO RP im (h.sd RO RP im iY hr) λm hv=>im.e n o hr ho e.2 m hse hv⟩
 rcases aaf i j with pN|pN
 .exact hc.st.mo m (h.e i x pN hx m hv)
 .have:i=j:=om;subst this;rw[he]at hx;cases hx;exact hc.on m hv
theorem zs.WO{l:List Obj}{ops:List bF}{n:Nat}{a b c:Mk}{k j:Nat}{es:List (ByteArray×Int)}{qs:List dh}(h:zs l ops n a b k j es qs){q:dh}(hq:qs[j]? =some q)(hh:q.has=true)(hc:PP l ops q.dS b c){o:Obj}(ho:l[n]? =some o)(hqs:o.aq=qs):zs l ops n a c k (j+1) es qs:=by
 have hsq:sQ o q.dS:=⟨q,by rw[hqs];exact Sj hq,hh,rfl⟩
 refine⟨h.st.trans hc.st,hc.st.mo n h.on,λi x hi hx m hv=>hc.st.mo m (h.e i x hi hx m hv),λi x hi hx WQ m hv=>?_,λRO RP im iY hr=>hc.sd RO RP im (h.sd RO RP im iY hr) λm hv=>im.q n o hr ho q.dS m hsq hv⟩
 rcases aaf i j with pN|pN
 .exact hc.st.mp m (h.q i x pN hx WQ m hv)
 .have:i=j:=om;subst this;rw[hq]at hx;cases hx;exact hc.on m hv
theorem zs.WR{l:List Obj}{ops:List bF}{n:Nat}{a b:Mk}{k j:Nat}{es:List (ByteArray×Int)}{qs:List dh}(h:zs l ops n a b k j es qs){q:dh}(hq:qs[j]? =some q)(hh:q.has=false):zs l ops n a b k (j+1) es qs:=by
 refine⟨h.st,h.on,h.e,λi x hi hx WQ m hv=>?_,h.sd⟩
 rcases aaf i j with pN|pN
 .exact h.q i x pN hx WQ m hv
 .have:i=j:=om;subst this;rw[hq]at hx;cases hx;rw[hh]at WQ;cases WQ
theorem zs.ib{l:List Obj}{ops:List bF}{n:Nat}{a b:Mk}{es:List (ByteArray×Int)}{qs:List dh}(h:zs l ops n a b es.length qs.length es qs){o:Obj}(ho:l[n]? =some o)(hk:o.ag≠0)(nV:o.ak=es.map fX)(hqs:o.aq=qs):PO l ops (n:Int) a b:=by
 refine⟨⟨h.st.lo,h.st.lp,h.st.mo,h.st.mp,λi x hi PN _ hx=>?_,h.st.cp⟩,λm hv=>?_,λRO RP im iY hr=>h.sd RO RP im iY (hr n ⟨rfl,o,ho,hk⟩)⟩
 .by_cases iY:i=n
  .subst iY;rw[ho]at hx;cases hx;refine⟨λz m⟨nm,hm⟩hv=>?_,λz c⟨q,hq,hh,hz⟩hv=>?_⟩
   .rw[nV]at hm;obtain⟨e,he,nI⟩:=aas.1 hm;have:e.2=z:=by simp[fX]at nI;exact nI.2
    subst this;obtain⟨j,hj⟩:=X1 he;exact h.e j e (JJ.1 hj).1 hj m hv
   .rw[hqs]at hq;obtain⟨j,hj⟩:=X1 hq;subst hz;exact h.q j q (JJ.1 hj).1 hj hh c hv
  .exact h.st.co i x hi PN iY hx
 .have:m=n:=by have:=hv.1;omega
  subst this;exact h.on
theorem PP.of{l:List Obj}{ops:List bF}{a b:Mk}{c:Nat}(hc:c<a.P.length){o:bF}(ho:ops[c]? =some o)(h:PO l ops o.bo ⟨a.O,a.P.set c true⟩ b):PP l ops (c:Int) a b:=by
 have lF:Step l ops (λ_=>False) a b:=by
  refine⟨h.st.lo,by have:=h.st.lp;simpa using this,h.st.mo,λi hi=>h.st.mp i (HC hi),λi x hi PN=>h.st.co i x hi PN,λi x hi PN hx n hv=>?_⟩
  by_cases hic:i=c
  .subst hic;rw[ho]at hx;cases hx;exact h.on n hv
  .exact h.st.cp i x hi (λhs=>(k8 hs).elim PN hic) hx n hv
 refine⟨lF,λd hd=>?_,λRO RP im iY hr=>?_⟩
 .have:d=c:=by have:=hd.1;omega
  subst this;exact h.st.mp d (se hc)
 .have hrc:RP c:=hr c ⟨rfl,(JJ.1 ho).1⟩;exact h.sd RO RP im ⟨iY.1,λi hi=>(k8 hi).elim (iY.2 i) λe=>e▸hrc⟩ λn hv=>im.p c o hrc ho n hv
def c142:LF:= ⟨88,[],(.seq (.seq (.ai [qm 9 1,qu 10 (.aJ .lss 9 (qi 0)),qm 11 10,qg 12 (.aI 1) 11 false,qg 13 (.aI 0) 11 false,qg 14 (.aO 13) 11 false,qg 15 (.bU 1 14) 11 false,qg 16 (.load false 1 15) 11 false,qg 17 (.len 1 16) 11 false,qg 18 (.aJ .geq 12 17) 11 false,qu 19 (.pick 11 (qb true) 18),qm 20 19,qg 21 (.aI 0) 20 false,qg 22 (.aO 21) 20 false,qg 23 (.bU 1 22) 20 false,qg 24 (.load false 1 23) 20 false,qg 25 (.aI 1) 20 false,qg 26 (.cr 1 24 25) 20 false,qg 27 (.load false 1 26) 20 false,qu 28 (.pick 20 (qb true) 27),qm 29 28,qg 30 (.aI 0) 29 false,qg 31 (.aO 30) 29 false,qg 32 (.bU 0 31) 29 false,qg 33 (.load false 1 32) 29 false,qg 34 (.aO 33) 29 false,qg 35 (.bU 0 34) 29 false,qg 36 (.load false 1 35) 29 false,qg 37 (.aI 1) 29 false,qg 38 (.cr 9 36 37) 29 false,qg 39 (.bU 0 38) 29 false,qg 40 (.load false 1 39) 29 false,qg 41 (.aJ .eql 40 (qi 0)) 29 false,qu 42 (.pick 29 (qb true) 41)]) (.cond 42 .ret .skip)) (.seq (.ai [qm 43 0,qu 44 (.aO 43),qf 45 1 44,ql 46 45,qm 47 1,qu 48 (.cr 1 46 47),qw (.store 1 48 (qb true))]) (.seq (.ai [qm 49 0,qu 50 (.aO 49),qf 51 0 50,ql 52 51,qu 53 (.aO 52),qf 54 0 53,ql 55 54,qm 56 1,qu 57 (.cr 9 55 56),qm 4 57]) (.seq (.seq (.ai [qm 58 4,qu 59 (.aO 58),qf 60 2 59,ql 61 60,qu 62 (.len 1 61),qu 63 (.aI (qi 0))]) (.block 0 (.loop (.seq (.ai [qu 64 (.aJ .lss 63 62)]) (.seq (.cond 64 .skip (.exit 0)) (.seq (.block 1 (.seq (.ai [qu 65 (.cr 2 61 63),qL 66 2 65,qu 6 (.alloc [(.ah (.val (.string ⟨#[]⟩))),qd 0]),qw (.store 2 6 66)]) (.ai [qm 67 0,qf 68 1 6,ql 69 68,qu 70 (qc 142 [67,69])]))) (.ai [qu 71 (.aJ .add 63 (qi 1)),qm 63 71]))))))) (.seq (.ai [qm 72 4,qu 73 (.aO 72),qf 74 5 73,ql 75 74,qu 76 (.len 1 75),qu 77 (.aI (qi 0))]) (.block 2 (.loop (.seq (.ai [qu 78 (.aJ .lss 77 76)]) (.seq (.cond 78 .skip (.exit 2)) (.seq (.block 3 (.seq (.ai [qu 79 (.cr 4 75 77),qL 80 4 79,qu 8 (.alloc [.aK,(.ah (.val (.bool false))),qd 0,qd 0]),qw (.store 4 8 80)]) (.seq (.ai [qf 81 1 8,ql 82 81]) (.cond 82 (.ai [qm 83 0,qf 84 2 8,qL 85 2 84,qu 86 (qc 143 [83,85])]) .skip)))) (.ai [qu 87 (.aJ .add 77 (qi 1)),qm 77 87])))))))))))⟩
def c143:LF:= ⟨48,[],(.seq (.ai [qu 3 (.box 1)]) (.seq (.seq (.bR [qf 4 0 3,ql 5 4,qu 6 (.aJ .lss 5 (qi 0)),qm 7 6,qg 8 (.bU 0 3) 7 false,qg 9 (.load false 1 8) 7 false,qg 10 (.aI 0) 7 false,qg 11 (.aO 10) 7 false,qg 12 (.bU 2 11) 7 false,qg 13 (.load false 1 12) 7 false,qg 14 (.len 1 13) 7 false,qg 15 (.aJ .geq 9 14) 7 false,qu 16 (.pick 7 (qb true) 15),qm 17 16,qg 18 (.aI 0) 17 false,qg 19 (.aO 18) 17 false,qg 20 (.bU 2 19) 17 false,qg 21 (.load false 1 20) 17 false,qg 22 (.bU 0 3) 17 false,qg 23 (.load false 1 22) 17 false,qg 24 (.cr 1 21 23) 17 false,qg 25 (.load false 1 24) 17 false,qu 26 (.pick 17 (qb true) 25)] [eh 23 0 .nil]) (.cond 26 .ret .skip)) (.seq (.bR [qm 27 0,qu 28 (.aO 27),qf 29 2 28,ql 30 29,qf 31 0 3,ql 32 31,qu 33 (.cr 1 30 32),qw (.store 1 33 (qb true))] [(eh 7 0 (.cons 7 (some []) .nil))]) (.bR [qm 34 0,qm 35 0,qu 36 (.aO 35),qf 37 0 36,ql 38 37,qu 39 (.aO 38),qf 40 1 39,ql 41 40,qf 42 0 3,ql 43 42,qu 44 (.cr 2 41 43),qf 45 0 44,ql 46 45,qu 47 (qc 142 [34,46])] [(eh 13 0 (.cons 13 (some []) .nil))]))))⟩
def bE(b:Bool):List Dt:=[.val (.bool b)]
theorem l142:bw prog f142=some c142:=by kernel_rfl
theorem l143:bw prog Tryz.f143=some c143:=by kernel_rfl
def yD(l:List Obj)(ops:List bF)(a:Mk):Prop:=a.O.length=l.length/\a.P.length=ops.length
theorem tK{L:List Bool}{n:Nat}(h:n<L.length):cD (aa (L.map bE)) n=some [.ah (.val (.bool L[n]))]:=bJ bE L h
theorem zt{L:List Bool}{n:Nat}(h:n<L.length):dQ (n:Int) (lenOf (aa (L.map bE)).length 0 none)=some n:=ct (by show n<(aa (L.map bE)).length;rw[bh,Nr];exact h)
theorem MR{L:List Bool}{n:Nat}:aW (aa (L.map bE)) n [CC.ah (.val (.bool true))]=aa ((L.set n true).map bE):=nJ bE L n true
theorem zs.RZ{l:List Obj}{ops:List bF}{n:Nat}{a b:Mk}{k j:Nat}{es:List (ByteArray×Int)}{qs:List dh}(h:zs l ops n a b k j es qs):b.mu<=(⟨a.O.set n true,a.P⟩:Mk).mu:=by
 refine Nat.add_le_add (kR _ _ (by rw[aay];exact h.st.lo) λi hi=>?_) (kR _ _ h.st.lp h.st.mp)
 rcases k8 hi with hi|rfl
 .exact h.st.mo i hi
 .exact h.on
theorem P9{qs:List dh}{k:Nat}(h:k<qs.length):dC (qs.map dh.enc) (k:Nat)=some [.sl 1 qs[k].data,.val (.bool qs[k].has),.val (.int .i64 qs[k].dS),.val (.int .i64 qs[k].cj)]:=by rw[bD,Sf,vl h];rfl
structure StM where
 j:Nat
 b:Mk
def vh(l:List Obj)(ops:List bF)(ps:List bm)(a:Mk):Mem:=
 [.var [.ptr 1 0,.row 2 1 0 none,.row 3 1 0 none],.var [.row 4 9 0 none,.row 5 2 0 none,.row 6 4 0 none],.row 1 (aa (a.O.map bE)),.row 1 (aa (a.P.map bE)),.row 9 (aa (l.map Obj.enc)),.row 2 (aa (ops.map bF.enc)),.row 4 (aa (ps.map bm.enc))]
theorem wQ{l:List Obj}{ops:List bF}{ps:List bm}{a:Mk}{f:Nat}{args:List CV}{Q:Mk->Prop}(h:ap prog f args (vh l ops ps a) (λr m=>∃b,Q b/\r= .bz []/\m=vh l ops ps b))(x:Bk)(eO:args=args.map (CV.bg (sg [0,1,2,3,4,5,6] 8))){K:CV->Mem->Prop}(hK:∀b,Q b->K (.bz []) [.var [.ptr 1 0,.row 2 1 0 none,.row 3 1 0 none],.var [.row 4 9 0 none,.row 5 2 0 none,.row 6 4 0 none],.row 1 (aa (b.O.map bE)),.row 1 (aa (b.P.map bE)),.row 9 (aa (l.map Obj.enc)),.row 2 (aa (ops.map bF.enc)),.row 4 (aa (ps.map bm.enc)),x]):
  ap prog f args [.var [.ptr 1 0,.row 2 1 0 none,.row 3 1 0 none],.var [.row 4 9 0 none,.row 5 2 0 none,.row 6 4 0 none],.row 1 (aa (a.O.map bE)),.row 1 (aa (a.P.map bE)),.row 9 (aa (l.map Obj.enc)),.row 2 (aa (ops.map bF.enc)),.row 4 (aa (ps.map bm.enc)),x] K:=by
 refine bu [0,1,2,3,4,5,6] 8 rfl rfl rfl rfl (args0:=args) eO (λi b' hi=>?_) h (λr m1 hr=>?_)
 .match i,hi with
  |0,hi=>cases hi;exact .inr ⟨λh=>h,_,rfl,.eq rfl aC⟩
  |1,hi=>cases hi;exact .inr ⟨λh=>h,_,rfl,.eq rfl aC⟩
  |2,hi=>cases hi;exact .inr ⟨λh=>h,_,rfl,.bI rfl⟩
  |3,hi=>cases hi;exact .inr ⟨λh=>h,_,rfl,.bI rfl⟩
  |4,hi=>cases hi;exact .inr ⟨λh=>h,_,rfl,.bI rfl⟩
  |5,hi=>cases hi;exact .inr ⟨λh=>h,_,rfl,.bI rfl⟩
  |6,hi=>cases hi;exact .inr ⟨λh=>h,_,rfl,.bI rfl⟩
  |n+7,hi=>simp[vh]at hi
 .obtain⟨b,hb,rfl,rfl⟩:=hr;refine⟨T5 _,?_⟩;have e2:(Bk.row 1 (aa (b.O.map bE))).bg (sg [0,1,2,3,4,5,6] 8)= .row 1 (aa (b.O.map bE)):=by simp only[Bk.bg,dA]
  have e3:(Bk.row 1 (aa (b.P.map bE))).bg (sg [0,1,2,3,4,5,6] 8)= .row 1 (aa (b.P.map bE)):=by simp only[Bk.bg,dA]
  show K _ [.var [.ptr 1 0,.row 2 1 0 none,.row 3 1 0 none],.var [.row 4 9 0 none,.row 5 2 0 none,.row 6 4 0 none],(Bk.row 1 (aa (b.O.map bE))).bg (sg [0,1,2,3,4,5,6] 8),(Bk.row 1 (aa (b.P.map bE))).bg (sg [0,1,2,3,4,5,6] 8),(Bk.row 9 (aa (l.map Obj.enc))).bg (sg [0,1,2,3,4,5,6] 8),(Bk.row 2 (aa (ops.map bF.enc))).bg (sg [0,1,2,3,4,5,6] 8),(Bk.row 4 (aa (ps.map bm.enc))).bg (sg [0,1,2,3,4,5,6] 8),x];have e4:(Bk.row 9 (aa (l.map Obj.enc))).bg (sg [0,1,2,3,4,5,6] 8)= .row 9 (aa (l.map Obj.enc)):=by simp only[Bk.bg,dA]
  have e5:(Bk.row 2 (aa (ops.map bF.enc))).bg (sg [0,1,2,3,4,5,6] 8)= .row 2 (aa (ops.map bF.enc)):=by simp only[Bk.bg,dA]
  have e6:(Bk.row 4 (aa (ps.map bm.enc))).bg (sg [0,1,2,3,4,5,6] 8)= .row 4 (aa (ps.map bm.enc)):=by simp only[Bk.bg,dA]
  rw[e2,e3,e4,e5,e6];exact hK b hb
theorem Fi(l:List Obj)(ops:List bF)(ps:List bm)(g:∀o,o∈l->o.sm)(N:Nat)(UZ:∀a z,yD l ops a->a.mu<N->ap prog 142 [.rv (.one (.ptr 0 0)),an .i64 z] (vh l ops ps a) (λr m=>∃b,PO l ops z a b/\r= .bz []/\m=vh l ops ps b))(ihP:∀a z w,yD l ops a->a.mu<N->ap prog 143 [.rv (.one (.ptr 0 0)),.rv (.agg [.ah (.val (.int .i64 z)),.ah (.val (.int .i64 w))])] (vh l ops ps a) (λr m=>∃b,PP l ops z a b/\r= .bz []/\m=vh l ops ps b))(a:Mk)(z:Int)(hbs:yD l ops a)(WS:a.mu<=N):body prog c142 [.rv (.one (.ptr 0 0)),an .i64 z] (vh l ops ps a) (λr m=>∃b,PO l ops z a b/\r= .bz []/\m=vh l ops ps b):=by
 have hlen:∀L:List Bool,(aa (L.map bE)).length=L.length:=λL=>by rw[bh,Nr]
 obtain⟨hO,hP⟩:=hbs;refine aN (λh=>?_) (λh0=>?_)
 .exact⟨a,.none λn hv=>by have:=hv.1;have h:z<0:=h;omega,rfl,rfl⟩
 obtain⟨n,rfl⟩:∃n:Nat,z=n:=⟨z.toNat,by have h:¬z<0:=h0;omega⟩
 refine aN (λh=>?_) (λh1=>?_)
 .refine⟨a,.none λm hv=>?_,rfl,rfl⟩
  obtain⟨hz,o,ho,_⟩:=hv;have h:(n:Int)>=((aa (a.O.map bE)).length:Int):=h;rw[hlen]at h;have:=(JJ.1 ho).1;omega
 have hn:n<a.O.length:=by have h:¬(n:Int)>=((aa (a.O.map bE)).length:Int):=h1;rw[hlen]at h;omega
 have jY:n<l.length:=om;refine af (zt hn) ?_;refine af (tK hn) ?_;refine aM (λh2=>?_) (λh2=>?_)
 .refine⟨a,.none λm hv=>?_,rfl,rfl⟩
  have:m=n:=by have:=hv.1;omega
  subst this;exact(vl hn).trans (congrArg some h2)
 have MS:dQ (n:Int) (lenOf (aa (l.map Obj.enc)).length 0 none)=some n:=ct (by show n<(aa (l.map Obj.enc)).length;rw[bh,Nr];exact jY)
 have Pj:=bJ Obj.enc l jY;have AJ:=vl jY;have EI:=g _ (aar jY);generalize l[n]=o at Pj AJ EI;obtain⟨ag,data,ak,target,bq,aq,bb,am,up⟩:=o;obtain⟨es,rfl⟩:∃es:List (ByteArray×Int),ak=es.map fX:=EI.t.2.1;refine af MS ?_;refine af Pj ?_;refine bs (λh3=>?_) (λh3=>?_)
 .refine⟨a,.none λm hv=>?_,rfl,rfl⟩
  obtain⟨hz,o2,gQ,hk⟩:=hv;have:m=n:=om;subst this;rw[AJ]at gQ;cases gQ;exact absurd h3 hk
 have h3:ag≠0:=h3;have Mn:es.length<=8:=by have:=EI.e;simpa using this
 have HB:aq.length<=8:=EI.q;have sf:=zs.start (l:=l) (ops:=ops) hn es aq;have WT:(⟨a.O.set n true,a.P⟩:Mk).mu<N:=by have:=qN a.O n ((vl hn).trans (congrArg some h2));have WS:ec a.O+ec a.P<=N:=WS;show ec (a.O.set n true)+ec a.P<N;omega
 refine af (zt hn) ?_;refine af (tK hn) ?_;refine af MS ?_;refine af Pj ?_;refine ba (λ(s:StM)=>s.j<=es.length/\zs l ops n a s.b s.j 0 es aq) [0,4,61,62] (λs=>[(63,an .i64 (s.j:Nat))]) (λs=>[.var [.ptr 1 0,.row 2 1 0 none,.row 3 1 0 none],.var [.row 4 9 0 none,.row 5 2 0 none,.row 6 4 0 none],.row 1 (aa (s.b.O.map bE)),.row 1 (aa (s.b.P.map bE)),.row 9 (aa (l.map Obj.enc)),.row 2 (aa (ops.map bF.enc)),.row 4 (aa (ps.map bm.enc))]) (λs=>es.length-s.j) ⟨0,_⟩ ⟨aan _,sf⟩ ?_ (λs hs=>?_)
 .refine View.o1 7 [0,1,2,3,4,5,6] [] ?_
  .exact .pe rfl rfl rfl (.pe rfl rfl rfl (.pt rfl rfl (.bI MR) (.pr rfl rfl rfl (.pr rfl rfl rfl (.pr rfl rfl rfl (.pn rfl rfl rfl))))))
 obtain⟨j,b⟩:=s;obtain⟨hj,hM⟩:=hs;have hj:j<=es.length:=hj;have hM:zs l ops n a b j 0 es aq:=hM;refine aN (λh=>?_) (λh=>?_)
 .have d9:j<es.length:=by have h:(j:Int)<((es.map fX).length:Int):=h;rw[Nr]at h;omega
  refine af (P6 d9) ?_;have We:=hM.RZ;refine wQ (UZ b es[j].2 ⟨hM.st.lo.trans hO,hM.st.lp.trans hP⟩ om) _ rfl λc hc=>?_
  refine⟨⟨j+1,c⟩,⟨d9,hM.WN (vl d9) hc AJ rfl⟩,(show es.length-(j+1)<es.length-j by omega),View.o2 8 [0,1,2,3,4,5,6] [] ?_⟩
  .exact .au
 .have Ei:j=es.length:=by have h:¬(j:Int)<((es.map fX).length:Int):=h;rw[Nr]at h;omega
  subst Ei;refine af Pj ?_;refine ba (λ(s:StM)=>s.j<=aq.length/\zs l ops n a s.b es.length s.j es aq) [0,75,76] (λs=>[(77,an .i64 (s.j:Nat))]) (λs=>[.var [.ptr 1 0,.row 2 1 0 none,.row 3 1 0 none],.var [.row 4 9 0 none,.row 5 2 0 none,.row 6 4 0 none],.row 1 (aa (s.b.O.map bE)),.row 1 (aa (s.b.P.map bE)),.row 9 (aa (l.map Obj.enc)),.row 2 (aa (ops.map bF.enc)),.row 4 (aa (ps.map bm.enc))]) (λs=>aq.length-s.j) ⟨0,b⟩ ⟨aan _,hM⟩ ?_ (λs hs=>?_)
  .refine View.o1 7 [0,1,2,3,4,5,6] [] ?_
   .exact .au
  clear hM hj h;obtain⟨j,b⟩:=s;obtain⟨hj,hM⟩:=hs;have hj:j<=aq.length:=hj;have hM:zs l ops n a b es.length j es aq:=hM;refine aN (λh=>?_) (λh=>?_)
  .have d9:j<aq.length:=by have h:(j:Int)<((aq.map dh.enc).length:Int):=h;rw[Nr]at h;omega
   have Th:=vl d9;refine af (P9 d9) ?_;have We:=hM.RZ;refine aM (λhh=>?_) (λhh=>?_)
   .refine wQ (ihP b aq[j].dS aq[j].cj ⟨hM.st.lo.trans hO,hM.st.lp.trans hP⟩ om) _ rfl λc hc=>?_
    refine⟨⟨j+1,c⟩,⟨d9,hM.WO Th hh hc AJ rfl⟩,(show aq.length-(j+1)<aq.length-j by omega),View.o2 8 [0,1,2,3,4,5,6] [] ?_⟩
    .exact .au
   .skip
    refine⟨⟨j+1,b⟩,⟨d9,hM.WR Th hh⟩,(show aq.length-(j+1)<aq.length-j by omega),View.o2 8 [0,1,2,3,4,5,6] [] ?_⟩
    .exact .au
  .have Ei:j=aq.length:=by have h:¬(j:Int)<((aq.map dh.enc).length:Int):=h;rw[Nr]at h;omega
   subst Ei;exact⟨b,hM.ib AJ h3 rfl rfl,rfl,rfl⟩
theorem Fj(l:List Obj)(ops:List bF)(ps:List bm)(N:Nat)(UZ:∀a z,yD l ops a->a.mu<N->ap prog 142 [.rv (.one (.ptr 0 0)),an .i64 z] (vh l ops ps a) (λr m=>∃b,PO l ops z a b/\r= .bz []/\m=vh l ops ps b))(a:Mk)(z w:Int)(hbs:yD l ops a)(WS:a.mu<=N):body prog c143 [.rv (.one (.ptr 0 0)),.rv (.agg [.ah (.val (.int .i64 z)),.ah (.val (.int .i64 w))])] (vh l ops ps a) (λr m=>∃b m',PP l ops z a b/\r= .bz []/\m=vh l ops ps b++m'):=by
 have hlen:∀L:List Bool,(aa (L.map bE)).length=L.length:=λL=>by rw[bh,Nr]
 obtain⟨hO,hP⟩:=hbs;refine aN (λh=>?_) (λh0=>?_)
 .exact⟨a,[_],.none λn hv=>by have:=hv.1;have h:z<0:=h;omega,rfl,rfl⟩
 obtain⟨n,rfl⟩:∃n:Nat,z=n:=⟨z.toNat,by have h:¬z<0:=h0;omega⟩
 refine aN (λh=>?_) (λh1=>?_)
 .refine⟨a,[_],.none λm hv=>?_,rfl,rfl⟩
  obtain⟨hz,ho⟩:=hv;have h:(n:Int)>=((aa (a.P.map bE)).length:Int):=h;rw[hlen]at h;omega
 have hn:n<a.P.length:=by have h:¬(n:Int)>=((aa (a.P.map bE)).length:Int):=h1;rw[hlen]at h;omega
 have jY:n<ops.length:=om;refine af (zt hn) ?_;refine af (tK hn) ?_;refine aM (λh2=>?_) (λh2=>?_)
 .refine⟨a,[_],.none λm hv=>?_,rfl,rfl⟩
  have:m=n:=by have:=hv.1;omega
  subst this;exact(vl hn).trans (congrArg some h2)
 have WT:(⟨a.O,a.P.set n true⟩:Mk).mu<N:=by have:=qN a.P n ((vl hn).trans (congrArg some h2));have WS:ec a.O+ec a.P<=N:=WS;show ec a.O+ec (a.P.set n true)<N;omega
 refine af (zt hn) ?_;refine af (tK hn) ?_;refine⟨trivial,?_⟩;have MS:dQ (n:Int) (lenOf (aa (ops.map bF.enc)).length 0 none)=some n:=ct (by show n<(aa (ops.map bF.enc)).length;rw[bh,Nr];exact jY)
 refine af MS ?_;refine af (bJ bF.enc ops jY) ?_;refine pC (p4:=[.rv (.one (.ptr 0 0)),an .i64 ops[n].bo]) (m':=vh l ops ps ⟨a.O,a.P.set n true⟩ ++ [.var [.ah (.val (.int .i64 (n:Nat))),.ah (.val (.int .i64 w))]]) (View.o 8 [0,1,2,3,4,5,6,7] [] (.eq rfl (.eq rfl .nil))
  (.pe rfl rfl rfl (.pe rfl rfl rfl (.pr rfl rfl rfl (.pt rfl rfl (.bI MR) (.pr rfl rfl rfl (.pr rfl rfl rfl (.pr rfl rfl rfl (.pm rfl rfl rfl))))))))) ?_
 refine wQ (UZ ⟨a.O,a.P.set n true⟩ ops[n].bo ⟨hO,by simpa using hP⟩ WT) _ rfl λc hc=>?_
 exact⟨trivial,c,[_],PP.of hn (vl jY) hc,rfl,rfl⟩
theorem oT(l:List Obj)(ops:List bF)(ps:List bm)(g:∀o,o∈l->o.sm):∀N,
  (∀a z,yD l ops a->a.mu<N->ap prog 142 [.rv (.one (.ptr 0 0)),an .i64 z] (vh l ops ps a) (λr m=>∃b,PO l ops z a b/\r= .bz []/\m=vh l ops ps b))/\
  (∀a z w,yD l ops a->a.mu<N->ap prog 143 [.rv (.one (.ptr 0 0)),.rv (.agg [.ah (.val (.int .i64 z)),.ah (.val (.int .i64 w))])] (vh l ops ps a) (λr m=>∃b,PP l ops z a b/\r= .bz []/\m=vh l ops ps b))
 |0=>⟨λ_ _ _ h=>absurd h (aaR _),λ_ _ _ _ h=>absurd h (aaR _)⟩
 |N+1=>by
  obtain⟨UZ,ihP⟩:=oT l ops ps g N;refine⟨λa z hb hm=>aZ func142 l142 (Fi l ops ps g N UZ ihP a z hb om),λa z w hb hm=>?_⟩
  refine bH (aZ func143 l143 (Fj l ops ps N UZ a z w hb om)) λr m1⟨b,m',hp,hr,IL⟩=>?_
  subst hr IL;refine⟨.bz [],vh l ops ps b,View.of (7+m'.length) [0,1,2,3,4,5,6] [] (by simp[vh];omega) rfl rfl rfl rfl (by simp[eI]<;>omega) (.put (.bz rfl λi r r' h=>by simp at h) .nil) ?_,⟨b,hp,rfl,rfl⟩⟩
  exact .au
def c119:LF:= ⟨54,[.tmp 2],(.seq (.ai [qu 2 (.aI (.c (.rv (.one (.ah (.val (.pointer none)))))))]) (.seq (.bR [qm 8 0,qm 9 0,qu 10 (.aO 9),qf 11 0 10,ql 12 11,qu 13 (.len 1 12),qu 14 (.pu 1 1 [(.ah (.val (.bool false)))] 13 13),qm 15 0,qu 16 (.aO 15),qf 17 1 16,ql 18 17,qu 19 (.len 1 18),qu 20 (.pu 1 1 [(.ah (.val (.bool false)))] 19 19),qu 21 (.build [(.ah (.val (.pointer none))),.aK,.aK] [(0,1,8),(1,1,14),(2,1,20)]),qu 22 (.box 21),qm 3 22] [(eh 6 0 (eh 5 7 (.vJ (.cons 6 (some [11,10]) (.cons 12 (some [5,4]) (.cons 13 none (.cons 14 (some []) (.cons 15 none .nil))))) (.cons 12 (some [5,4]) (.cons 6 (some [11,10]) (.cons 13 none (.cons 14 (some []) (.cons 15 none .nil))))))))]) (.cU (.seq (.ai [qm 23 3,qu 24 (qc 142 [23,qi 0])]) (.seq (.seq (.ai [qm 25 0,qu 26 (.aO 25),qf 27 2 26,ql 28 27,qu 29 (.len 1 28),qu 30 (.aI (qi 0))]) (.block 0 (.loop (.seq (.ai [qu 31 (.aJ .lss 30 29)]) (.seq (.cond 31 .skip (.exit 0)) (.seq (.block 1 (.seq (.ai [qu 32 (.cr 4 28 30),qL 33 4 32,qu 5 (.alloc [(.ah (.val (.bool false))),(.ah (.val (.bool false))),qd 0,.aK]),qw (.store 4 5 33)]) (.seq (.ai [qf 34 3 5,ql 35 34,qu 36 (.len 1 35),qu 37 (.aI (qi 0))]) (.block 2 (.loop (.seq (.ai [qu 38 (.aJ .lss 37 36)]) (.seq (.cond 38 .skip (.exit 2)) (.seq (.block 3 (.seq (.ai [qu 39 (.cr 3 35 37),qL 40 3 39,qu 7 (.alloc [(.ah (.val (.bool false))),qd 0,qd 0]),qw (.store 3 7 40)]) (.seq (.ai [qf 41 0 5,ql 42 41,qm 43 42,qg 44 (.bU 0 7) 43 true,qg 45 (.load false 1 44) 43 true,qu 46 (.pick 43 45 (qb false))]) (.cond 46 (.ai [qm 47 3,qf 48 1 7,qL 49 2 48,qu 50 (qc 143 [47,49])]) .skip)))) (.ai [qu 51 (.aJ .add 37 (qi 1)),qm 37 51]))))))))) (.ai [qu 52 (.aJ .add 30 (qi 1)),qm 30 52]))))))) (.seq (.ai [qm 53 3,qm 2 53]) .ret))))))⟩
def HD(l:List Obj)(ops:List bF)(ps:List bm)(RO RP:Nat->Prop):Prop:=
 (∀n,vO l 0 n->RO n)/\∀(p:Nat)pr,ps[p]? =some pr->pr.aP=true->∀s,s∈pr.aU->s.has=true->∀c,vP ops s.dS c->RP c
structure gL(l:List Obj)(ops:List bF)(ps:List bm)(b:Mk):Prop where
 len:yD l ops b
 m7:HD l ops ps (dp b.O) (dp b.P)
 cl:Cl l ops (dp b.O) (dp b.P)
 n8:∀RO RP,Cl l ops RO RP->HD l ops ps RO RP->Pi RO RP b
def zu(l:List Obj)(ops:List bF):Mk:=⟨List.replicate l.length false,List.replicate ops.length false⟩
theorem wR{n i:Nat}:¬dp (List.replicate n false) i:=by
 intro h;unfold dp at h;rw[acV]at h;split at h<;>cases h
structure dM(l:List Obj)(ops:List bF)(ps:List bm)(b:Mk)(p j:Nat):Prop where
 st:Step l ops (λ_=>False) (zu l ops) b
 r0:∀n,vO l 0 n->dp b.O n
 rp:∀(i:Nat)pr,i<p->ps[i]? =some pr->pr.aP=true->∀s,s∈pr.aU->s.has=true->∀c,vP ops s.dS c->dp b.P c
 rj:∀pr,ps[p]? =some pr->pr.aP=true->∀(t:Nat)s,t<j->pr.aU[t]? =some s->s.has=true->∀c,vP ops s.dS c->dp b.P c
 n8:∀RO RP,Cl l ops RO RP->HD l ops ps RO RP->Pi RO RP b
theorem dM.start{l:List Obj}{ops:List bF}{ps:List bm}{b:Mk}(h:PO l ops 0 (zu l ops) b):dM l ops ps b 0 0:=
 ⟨h.st,h.on,λi pr h=>absurd h (aaR i),λpr _ _ t s h=>absurd h (aaR t),λRO RP im hr=>h.sd RO RP im ⟨λi hi=>absurd hi wR,λi hi=>absurd hi wR⟩ hr.1⟩
theorem dM.R0{l:List Obj}{ops:List bF}{ps:List bm}{b c:Mk}{p j:Nat}(h:dM l ops ps b p j){pr:bm}(vj:ps[p]? =some pr)(b9:pr.aP=true){s:ft}(hs:pr.aU[j]? =some s)(hh:s.has=true)(hc:PP l ops s.dS b c):dM l ops ps c p (j+1):=by
 refine⟨h.st.trans hc.st,λn hn=>hc.st.mo n (h.r0 n hn),λi x hi hx hl y hy Pk d hd=>hc.st.mp d (h.rp i x hi hx hl y hy Pk d hd),λx hx hl t y ht hy Pk d hd=>?_,λRO RP im hr=>hc.sd RO RP im (h.n8 RO RP im hr) λd hd=>hr.2 p pr vj b9 s (Sj hs) hh d hd⟩
 rcases aaf t j with La|La
 .exact hc.st.mp d (h.rj x hx hl t y La hy Pk d hd)
 .have:t=j:=om;subst this;rw[vj]at hx;cases hx;rw[hs]at hy;cases hy;exact hc.on d hd
theorem dM.skip{l:List Obj}{ops:List bF}{ps:List bm}{b:Mk}{p j:Nat}(h:dM l ops ps b p j){pr:bm}(vj:ps[p]? =some pr){s:ft}(hs:pr.aU[j]? =some s)(hh:pr.aP=true->s.has=false):dM l ops ps b p (j+1):=by
 refine⟨h.st,h.r0,h.rp,λx hx hl t y ht hy Pk d hd=>?_,h.n8⟩
 rcases aaf t j with La|La
 .exact h.rj x hx hl t y La hy Pk d hd
 .have:t=j:=om;subst this;rw[vj]at hx;cases hx;rw[hs]at hy;cases hy;rw[hh hl]at Pk;cases Pk
theorem dM.next{l:List Obj}{ops:List bF}{ps:List bm}{b:Mk}{p:Nat}{pr:bm}(vj:ps[p]? =some pr)(h:dM l ops ps b p pr.aU.length):dM l ops ps b (p+1) 0:=by
 refine⟨h.st,h.r0,λi x hi hx hl y hy Pk d hd=>?_,λx _ _ t y ht=>absurd ht (aaR t),h.n8⟩
 rcases aaf i p with U0|U0
 .exact h.rp i x U0 hx hl y hy Pk d hd
 .have:i=p:=om;subst this;rw[vj]at hx;cases hx;obtain⟨t,ht⟩:=X1 hy;exact h.rj pr vj hl t y (JJ.1 ht).1 ht Pk d hd
theorem dM.ib{l:List Obj}{ops:List bF}{ps:List bm}{b:Mk}(h:dM l ops ps b ps.length 0):gL l ops ps b:=by
 refine⟨⟨by have:=h.st.lo;simpa[zu]using this,by have:=h.st.lp;simpa[zu]using this⟩,⟨h.r0,λp pr hp hl s hs hh c hc=>h.rp p pr (JJ.1 hp).1 hp hl s hs hh c hc⟩,⟨λi o hi ho z n hz hv=>?_,λi o hi ho z c hz hv=>?_,λc o hc ho n hv=>?_⟩,h.n8⟩
 .exact(h.st.co i o hi wR (λh=>h) ho).1 z n hz hv
 .exact(h.st.co i o hi wR (λh=>h) ho).2 z c hz hv
 .exact h.st.cp c o hc wR ho n hv
theorem sh(n:Nat):(gm n [CC.ah (.val (.bool false))])=aa ((List.replicate n false).map bE):=by
 induction n with
 |zero=>rfl
 |succ n ih=>simp only[gm,ih];simp[aa,bE,List.replicate_succ]
theorem l119:bw prog f119=some c119.er:=by kernel_rfl
theorem HE{l:List ft}{k:Nat}(h:k<l.length):dC (l.map ft.enc) (k:Nat)=some [.val (.bool l[k].has),.val (.int .i64 l[k].dS),.val (.int .i64 l[k].cj)]:=by rw[bD,Sf,vl h];rfl
structure Yy where
 p:Nat
 b:Mk
theorem dy{ps:List bm}{k:Nat}(h:k<ps.length):dC (ps.map bm.enc) (k:Nat)=some [.val (.bool ps[k].aP),.val (.bool ps[k].fenced),.val (.int .i64 ps[k].code),yC ps[k].aU]:=by rw[bD,Sf,vl h];rfl
theorem si{l:List Obj}{ops:List bF}{ps:List bm}{a:Mk}{f:Nat}{args args0:List CV}{Q:Mk->Prop}(h:ap prog f args0 (vh l ops ps a) (λr m=>∃b,Q b/\r= .bz []/\m=vh l ops ps b))(X:Mem)(eO:args=args0.map (CV.bg (sg [4,0,5,6,1,2,3] (7+X.length)))){K:CV->Mem->Prop}(hK:∀b,Q b->K (.bz []) ([.var [.row 1 9 0 none,.row 2 2 0 none,.row 3 4 0 none],.row 9 (aa (l.map Obj.enc)),.row 2 (aa (ops.map bF.enc)),.row 4 (aa (ps.map bm.enc)),.var [.ptr 0 0,.row 5 1 0 none,.row 6 1 0 none],.row 1 (aa (b.O.map bE)),.row 1 (aa (b.P.map bE))]++X)):
  ap prog f args ([.var [.row 1 9 0 none,.row 2 2 0 none,.row 3 4 0 none],.row 9 (aa (l.map Obj.enc)),.row 2 (aa (ops.map bF.enc)),.row 4 (aa (ps.map bm.enc)),.var [.ptr 0 0,.row 5 1 0 none,.row 6 1 0 none],.row 1 (aa (a.O.map bE)),.row 1 (aa (a.P.map bE))]++X) K:=by
 refine bu [4,0,5,6,1,2,3] (7+X.length) (by simp;omega) rfl rfl (by simp[eI]<;>omega) (args0:=args0) eO (λi b' hi=>?_) h (λr m1 hr=>?_)
 .match i,hi with
  |0,hi=>cases hi;exact .inr ⟨λh=>h,_,rfl,.eq rfl aC⟩
  |1,hi=>cases hi;exact .inr ⟨λh=>h,_,rfl,.eq rfl aC⟩
  |2,hi=>cases hi;exact .inr ⟨λh=>h,_,rfl,.bI rfl⟩
  |3,hi=>cases hi;exact .inr ⟨λh=>h,_,rfl,.bI rfl⟩
  |4,hi=>cases hi;exact .inr ⟨λh=>h,_,rfl,.bI rfl⟩
  |5,hi=>cases hi;exact .inr ⟨λh=>h,_,rfl,.bI rfl⟩
  |6,hi=>cases hi;exact .inr ⟨λh=>h,_,rfl,.bI rfl⟩
  |n+7,hi=>simp[vh]at hi
 .obtain⟨b,hb,rfl,rfl⟩:=hr;refine⟨T5 _,?_⟩;have e:∀(s:Nat)(ds:List (List Dt)),(Bk.row s (aa ds)).bg (sg [4,0,5,6,1,2,3] (7+X.length))= .row s (aa ds):=λs ds=>by simp only[Bk.bg,dA]
  have hk:=hK b hb;have hw:cW ([.var [.row 1 9 0 none,.row 2 2 0 none,.row 3 4 0 none],.row 9 (aa (l.map Obj.enc)),.row 2 (aa (ops.map bF.enc)),.row 4 (aa (ps.map bm.enc)),.var [.ptr 0 0,.row 5 1 0 none,.row 6 1 0 none],.row 1 (aa (a.O.map bE)),.row 1 (aa (a.P.map bE))]++X) [4,0,5,6,1,2,3] (mU (sg [4,0,5,6,1,2,3] (7+X.length)) (vh l ops ps b))=[.var [.row 1 9 0 none,.row 2 2 0 none,.row 3 4 0 none],.row 9 (aa (l.map Obj.enc)),.row 2 (aa (ops.map bF.enc)),.row 4 (aa (ps.map bm.enc)),.var [.ptr 0 0,.row 5 1 0 none,.row 6 1 0 none],.row 1 (aa (b.O.map bE)),.row 1 (aa (b.P.map bE))]++X:=by simp only[vh,mU,e,cW,b7,ab3];rfl
  rw[hw];exact hk
theorem Fk(l:List Obj)(ops:List bF)(ps:List bm)(g:∀o,o∈l->o.sm)(hl:l.length<=4194304)(ho:ops.length<=4194304)(i3:ps.length<=4194304)(pQ:∀p,p∈ps->p.aU.length<=10):
  body prog c119 [.rv (.one (.ptr 0 0))] [.var [.row 1 9 0 none,.row 2 2 0 none,.row 3 4 0 none],.row 9 (aa (l.map Obj.enc)),.row 2 (aa (ops.map bF.enc)),.row 4 (aa (ps.map bm.enc))] (λr m=>∃b,gL l ops ps b/\r= .rv (.one (.ptr 4 0))/\m=[.var [.row 1 9 0 none,.row 2 2 0 none,.row 3 4 0 none],.row 9 (aa (l.map Obj.enc)),.row 2 (aa (ops.map bF.enc)),.row 4 (aa (ps.map bm.enc)),.var [.ptr 0 0,.row 5 1 0 none,.row 6 1 0 none],.row 1 (aa (b.O.map bE)),.row 1 (aa (b.P.map bE))]):=by
 refine⟨?_,?_⟩
 .skip
  refine cE (ac8 _) ?_;refine⟨(by show(aa (l.map Obj.enc)).length*1<=_;rw[bh,Nr];omega),⟨rfl,rfl,trivial⟩,?_⟩
  refine cE (ac8 _) ?_;refine⟨(by show(aa (ops.map bF.enc)).length*1<=_;rw[bh,Nr];omega),⟨rfl,rfl,trivial⟩,?_⟩
  refine⟨trivial,?_⟩;refine gq [0] [(3,.rv (.one (.ptr 4 0)))] ([.var [.row 1 9 0 none,.row 2 2 0 none,.row 3 4 0 none],.row 9 (aa (l.map Obj.enc)),.row 2 (aa (ops.map bF.enc)),.row 4 (aa (ps.map bm.enc)),.var [.ptr 0 0,.row 5 1 0 none,.row 6 1 0 none],.row 1 (aa ((zu l ops).O.map bE)),.row 1 (aa ((zu l ops).P.map bE))]) (View.o1 7 [0,1,2,3,6,4,5] [] ?_) ?_
  .exact(.pe rfl rfl rfl (.pr rfl rfl rfl (.pr rfl rfl rfl (.pr rfl rfl rfl (.pe rfl rfl rfl (.pt rfl rfl (.bI (by show gm (aa (l.map Obj.enc)).length _=_;rw[sh,bh,Nr];rfl)) (.pt rfl rfl (.bI (by show gm (aa (ops.map bF.enc)).length _=_;rw[sh,bh,Nr];rfl)) (.nil _))))))))
  refine si ((oT l ops ps g ((zu l ops).mu+1)).1 (zu l ops) 0 ⟨by simp[zu],by simp[zu]⟩ (acf _)) [] rfl λb0 IC=>?_
  refine ba (λ(s:Yy)=>s.p<=ps.length/\dM l ops ps s.b s.p 0) [3,28,29] (λs=>[(30,an .i64 (s.p:Nat))]) (λs=>[.var [.row 1 9 0 none,.row 2 2 0 none,.row 3 4 0 none],.row 9 (aa (l.map Obj.enc)),.row 2 (aa (ops.map bF.enc)),.row 4 (aa (ps.map bm.enc)),.var [.ptr 0 0,.row 5 1 0 none,.row 6 1 0 none],.row 1 (aa (s.b.O.map bE)),.row 1 (aa (s.b.P.map bE))]) (λs=>ps.length-s.p) ⟨0,b0⟩ ⟨aan _,.start IC⟩ ?_ (λs hs=>?_)
  .refine View.o1 7 [0,1,2,3,4,5,6] [] ?_
   .exact .au
  obtain⟨p,b⟩:=s;obtain⟨hp,hM⟩:=hs;have hp:p<=ps.length:=hp;have hM:dM l ops ps b p 0:=hM;refine aN (λh=>?_) (λh=>?_)
  .have i7:p<ps.length:=by have h:(p:Int)<((aa (ps.map bm.enc)).length:Int):=h;rw[bh,Nr]at h;omega
   refine af (ct (k:=p) (by show p<(aa (ps.map bm.enc)).length;rw[bh,Nr];exact i7)) ?_
   refine af (bJ bm.enc ps i7) ?_;have vj:=vl i7;have y8:=pQ _ (aar i7);generalize ps[p]=pr at vj y8;refine ba (λ(s:Yy)=>s.p<=pr.aU.length/\dM l ops ps s.b p s.p) [3,5,28,29,30,35,36] (λs=>[(37,an .i64 (s.p:Nat))]) (λs=>[.var [.row 1 9 0 none,.row 2 2 0 none,.row 3 4 0 none],.row 9 (aa (l.map Obj.enc)),.row 2 (aa (ops.map bF.enc)),.row 4 (aa (ps.map bm.enc)),.var [.ptr 0 0,.row 5 1 0 none,.row 6 1 0 none],.row 1 (aa (s.b.O.map bE)),.row 1 (aa (s.b.P.map bE)),.var (pr.enc.map .ah)]) (λs=>pr.aU.length-s.p) ⟨0,b⟩ ⟨aan _,hM⟩ ?_ (λs hs=>?_)
   .refine View.o1 8 [0,1,2,3,4,5,6,7] [] ?_
    .exact .au
   clear hM;obtain⟨j,b⟩:=s;obtain⟨hj,hM⟩:=hs;have hj:j<=pr.aU.length:=hj;have hM:dM l ops ps b p j:=hM;refine aN (λnu=>?_) (λnu=>?_)
   .have d9:j<pr.aU.length:=by have h:(j:Int)<((pr.aU.map ft.enc).length:Int):=nu;rw[Nr]at h;omega
    have Jn:=vl d9;refine af (HE d9) ?_;generalize pr.aU[j]=s at Jn;refine aM (λb9=>?_) (λb9=>?_)
    .refine aM (λhh=>?_) (λhh=>?_)
     .refine si ((oT l ops ps g (b.mu+1)).2 b s.dS s.cj ⟨by have:=hM.st.lo;simpa[zu]using this,by have:=hM.st.lp;simpa[zu]using this⟩ (acf _)) [_,_] rfl λc hc=>?_
      refine⟨⟨j+1,c⟩,⟨d9,hM.R0 vj b9 Jn hh hc⟩,(show pr.aU.length-(j+1)<pr.aU.length-j by omega),View.o2 9 [0,1,2,3,4,5,6,7] [] ?_⟩
      .exact .au
     .skip
      refine⟨⟨j+1,b⟩,⟨d9,hM.skip vj Jn (λ_=>hh)⟩,(show pr.aU.length-(j+1)<pr.aU.length-j by omega),View.o2 9 [0,1,2,3,4,5,6,7] [] ?_⟩
      .exact .au
    .skip
     refine⟨⟨j+1,b⟩,⟨d9,hM.skip vj Jn (λh=>absurd (h.symm.trans b9) aC)⟩,(show pr.aU.length-(j+1)<pr.aU.length-j by omega),View.o2 9 [0,1,2,3,4,5,6,7] [] ?_⟩
     .exact .au
   .have Ei:j=pr.aU.length:=by have h:¬(j:Int)<((pr.aU.map ft.enc).length:Int):=nu;rw[Nr]at h;omega
    subst Ei;refine⟨⟨p+1,b⟩,⟨i7,hM.next vj⟩,(show ps.length-(p+1)<ps.length-p by omega),View.o2 8 [0,1,2,3,4,5,6] [] ?_⟩
    .exact .au
  .have yn:p=ps.length:=by have h:¬(p:Int)<((aa (ps.map bm.enc)).length:Int):=h;rw[bh,Nr]at h;omega
   subst yn;exact⟨b,hM.ib,rfl,rfl⟩
 .skip
  refine cE (ac8 _) ?_;refine⟨(by show(aa (ops.map bF.enc)).length*1<=_;rw[bh,Nr];omega),⟨rfl,rfl,trivial⟩,?_⟩
  refine cE (ac8 _) ?_;refine⟨(by show(aa (l.map Obj.enc)).length*1<=_;rw[bh,Nr];omega),⟨rfl,rfl,trivial⟩,?_⟩
  refine⟨trivial,?_⟩;refine gq [0] [(3,.rv (.one (.ptr 4 0)))] ([.var [.row 1 9 0 none,.row 2 2 0 none,.row 3 4 0 none],.row 9 (aa (l.map Obj.enc)),.row 2 (aa (ops.map bF.enc)),.row 4 (aa (ps.map bm.enc)),.var [.ptr 0 0,.row 5 1 0 none,.row 6 1 0 none],.row 1 (aa ((zu l ops).O.map bE)),.row 1 (aa ((zu l ops).P.map bE))]) (View.o1 7 [0,1,2,3,6,5,4] [] ?_) ?_
  .exact(.pe rfl rfl rfl (.pr rfl rfl rfl (.pr rfl rfl rfl (.pr rfl rfl rfl (.pe rfl rfl rfl (.pt rfl rfl (.bI (by show gm (aa (l.map Obj.enc)).length _=_;rw[sh,bh,Nr];rfl)) (.pt rfl rfl (.bI (by show gm (aa (ops.map bF.enc)).length _=_;rw[sh,bh,Nr];rfl)) (.nil _))))))))
  refine si ((oT l ops ps g ((zu l ops).mu+1)).1 (zu l ops) 0 ⟨by simp[zu],by simp[zu]⟩ (acf _)) [] rfl λb0 IC=>?_
  refine ba (λ(s:Yy)=>s.p<=ps.length/\dM l ops ps s.b s.p 0) [3,28,29] (λs=>[(30,an .i64 (s.p:Nat))]) (λs=>[.var [.row 1 9 0 none,.row 2 2 0 none,.row 3 4 0 none],.row 9 (aa (l.map Obj.enc)),.row 2 (aa (ops.map bF.enc)),.row 4 (aa (ps.map bm.enc)),.var [.ptr 0 0,.row 5 1 0 none,.row 6 1 0 none],.row 1 (aa (s.b.O.map bE)),.row 1 (aa (s.b.P.map bE))]) (λs=>ps.length-s.p) ⟨0,b0⟩ ⟨aan _,.start IC⟩ ?_ (λs hs=>?_)
  .refine View.o1 7 [0,1,2,3,4,5,6] [] ?_
   .exact .au
  obtain⟨p,b⟩:=s;obtain⟨hp,hM⟩:=hs;have hp:p<=ps.length:=hp;have hM:dM l ops ps b p 0:=hM;refine aN (λh=>?_) (λh=>?_)
  .have i7:p<ps.length:=by have h:(p:Int)<((aa (ps.map bm.enc)).length:Int):=h;rw[bh,Nr]at h;omega
   refine af (ct (k:=p) (by show p<(aa (ps.map bm.enc)).length;rw[bh,Nr];exact i7)) ?_
   refine af (bJ bm.enc ps i7) ?_;have vj:=vl i7;have y8:=pQ _ (aar i7);generalize ps[p]=pr at vj y8;refine ba (λ(s:Yy)=>s.p<=pr.aU.length/\dM l ops ps s.b p s.p) [3,5,28,29,30,35,36] (λs=>[(37,an .i64 (s.p:Nat))]) (λs=>[.var [.row 1 9 0 none,.row 2 2 0 none,.row 3 4 0 none],.row 9 (aa (l.map Obj.enc)),.row 2 (aa (ops.map bF.enc)),.row 4 (aa (ps.map bm.enc)),.var [.ptr 0 0,.row 5 1 0 none,.row 6 1 0 none],.row 1 (aa (s.b.O.map bE)),.row 1 (aa (s.b.P.map bE)),.var (pr.enc.map .ah)]) (λs=>pr.aU.length-s.p) ⟨0,b⟩ ⟨aan _,hM⟩ ?_ (λs hs=>?_)
   .refine View.o1 8 [0,1,2,3,4,5,6,7] [] ?_
    .exact .au
   clear hM;obtain⟨j,b⟩:=s;obtain⟨hj,hM⟩:=hs;have hj:j<=pr.aU.length:=hj;have hM:dM l ops ps b p j:=hM;refine aN (λnu=>?_) (λnu=>?_)
   .have d9:j<pr.aU.length:=by have h:(j:Int)<((pr.aU.map ft.enc).length:Int):=nu;rw[Nr]at h;omega
    have Jn:=vl d9;refine af (HE d9) ?_;generalize pr.aU[j]=s at Jn;refine aM (λb9=>?_) (λb9=>?_)
    .refine aM (λhh=>?_) (λhh=>?_)
     .refine si ((oT l ops ps g (b.mu+1)).2 b s.dS s.cj ⟨by have:=hM.st.lo;simpa[zu]using this,by have:=hM.st.lp;simpa[zu]using this⟩ (acf _)) [_,_] rfl λc hc=>?_
      refine⟨⟨j+1,c⟩,⟨d9,hM.R0 vj b9 Jn hh hc⟩,(show pr.aU.length-(j+1)<pr.aU.length-j by omega),View.o2 9 [0,1,2,3,4,5,6,7] [] ?_⟩
      .exact .au
     .skip
      refine⟨⟨j+1,b⟩,⟨d9,hM.skip vj Jn (λ_=>hh)⟩,(show pr.aU.length-(j+1)<pr.aU.length-j by omega),View.o2 9 [0,1,2,3,4,5,6,7] [] ?_⟩
      .exact .au
    .skip
     refine⟨⟨j+1,b⟩,⟨d9,hM.skip vj Jn (λh=>absurd (h.symm.trans b9) aC)⟩,(show pr.aU.length-(j+1)<pr.aU.length-j by omega),View.o2 9 [0,1,2,3,4,5,6,7] [] ?_⟩
     .exact .au
   .have Ei:j=pr.aU.length:=by have h:¬(j:Int)<((pr.aU.map ft.enc).length:Int):=nu;rw[Nr]at h;omega
    subst Ei;refine⟨⟨p+1,b⟩,⟨i7,hM.next vj⟩,(show ps.length-(p+1)<ps.length-p by omega),View.o2 8 [0,1,2,3,4,5,6] [] ?_⟩
    .exact .au
  .have yn:p=ps.length:=by have h:¬(p:Int)<((aa (ps.map bm.enc)).length:Int):=h;rw[bh,Nr]at h;omega
   subst yn;exact⟨b,hM.ib,rfl,rfl⟩
theorem MT(l:List Obj)(ops:List bF)(ps:List bm)(g:∀o,o∈l->o.sm)(hl:l.length<=4194304)(ho:ops.length<=4194304)(i3:ps.length<=4194304)(pQ:∀p,p∈ps->p.aU.length<=10):
  ap prog 119 [.rv (.one (.ptr 0 0))] [.var [.row 1 9 0 none,.row 2 2 0 none,.row 3 4 0 none],.row 9 (aa (l.map Obj.enc)),.row 2 (aa (ops.map bF.enc)),.row 4 (aa (ps.map bm.enc))] (λr m=>∃b,gL l ops ps b/\r= .rv (.one (.ptr 4 0))/\m=[.var [.row 1 9 0 none,.row 2 2 0 none,.row 3 4 0 none],.row 9 (aa (l.map Obj.enc)),.row 2 (aa (ops.map bF.enc)),.row 4 (aa (ps.map bm.enc)),.var [.ptr 0 0,.row 5 1 0 none,.row 6 1 0 none],.row 1 (aa (b.O.map bE)),.row 1 (aa (b.P.map bE))]):=
 b8 func119 l119 (Fk l ops ps g hl ho i3 pQ)
def nE(k:Nat):List Dt:=[.val (.int .i64 (k:Nat))]
def c59:LF:= ⟨32,[.cell true 3 2],(.seq (.ai [qu 1 (.box 0),qu 2 (.alloc [.aK,.aK,.aK])]) (.seq (.bR [qf 6 0 1,ql 7 6,qu 8 (qc 98 [7]),qf 9 1 1,ql 10 9,qu 11 (qc 99 [10]),qu 12 (.build [.aK,.aK,.aK] [(0,1,8),(1,1,11)]),qu 3 (.alloc [.aK,.aK,.aK]),qw (.store 3 3 12)] [(.cons 0 none (.cons 1 none (.cons 3 none (.cons 4 none (.vJ (.cons 2 (some [4]) (.vJ (.cons 5 (some []) (.cons 6 none (.cons 7 (some [4,1]) (.cons 8 (some []) .nil)))) (.cons 7 (some [4,1]) (.cons 5 (some []) (.cons 6 none (.cons 8 (some []) .nil)))))) (.cons 7 (some [4,1]) (.cons 2 (some [4]) (.cons 5 (some []) (.cons 6 none (.cons 8 (some []) .nil))))))))))]) (.seq (.seq (.ai [qf 13 2 1,ql 14 13,qu 15 (.len 1 14),qu 16 (.aI (qi 0))]) (.block 0 (.loop (.seq (.ai [qu 17 (.aJ .lss 16 15)]) (.seq (.cond 17 .skip (.exit 0)) (.seq (.block 1 (.seq (.ai [qu 18 (.cr 4 14 16),qL 19 4 18,qu 5 (.alloc [(.ah (.val (.bool false))),(.ah (.val (.bool false))),qd 0,.aK]),qw (.store 4 5 19)]) (.seq (.ai [qf 20 3 5,ql 21 20,qu 22 (qc 100 [21]),qf 23 3 5,qw (.store 1 23 22)]) (.ai [qf 24 2 3,ql 25 24,qL 26 4 5,qu 27 (.nw 4 [(.ah (.val (.bool false))),(.ah (.val (.bool false))),qd 0,.aK] 1 [(0,26)]),qu 28 (.ov 4 40 25 27),qf 29 2 3,qw (.store 1 29 28)])))) (.ai [qu 30 (.aJ .add 16 (qi 1)),qm 16 30]))))))) (.seq (.ai [qL 31 3 3,qw (.store 3 2 31)]) .ret))))⟩
def c99:LF:= ⟨8,[.tmp 2],(.seq (.ai [qu 2 (.aI qe)]) (.seq (.seq (.ai [qm 3 0,qu 4 (.yj false 3)]) (.cond 4 (.seq (.ai [qu 2 (.aI qe)]) .ret) .skip)) (.seq (.ai [qu 5 (.nw 2 [qd 0,qd 0] 0 []),qm 6 0,qu 7 (.ov 2 16 5 6),qm 2 7]) .ret)))⟩
def c100:LF:= ⟨8,[.tmp 2],(.seq (.ai [qu 2 (.aI qe)]) (.seq (.seq (.ai [qm 3 0,qu 4 (.yj false 3)]) (.cond 4 (.seq (.ai [qu 2 (.aI qe)]) .ret) .skip)) (.seq (.ai [qu 5 (.nw 3 [(.ah (.val (.bool false))),qd 0,qd 0] 0 []),qm 6 0,qu 7 (.ov 3 24 5 6),qm 2 7]) .ret)))⟩
theorem pE:∀(l:List Obj)(p Q k:Nat),k+l.length<=p->eJ p Q k l=aa (l.map Obj.enc)
 | [],_,_,_,_=>rfl
 |o::r,p,Q,k,h=>by
  have ih:=pE r p Q (k+1) (by simp at h;omega)
  have hk:¬k=p:=by simp at h;omega
  simp only[eJ,ih,rZ,if_neg hk];rfl
theorem CZ(l:List Obj):AS l l.length l.length= .aR:=by
 have:Nat.blt l.length l.length=false:=by
  cases h:Nat.blt l.length l.length
  .rfl
  .rw[abW]at h;omega
 unfold AS;rw[this]
theorem l99:bw prog f99=some c99:=by kernel_rfl
theorem l100:bw prog f100=some c100:=by kernel_rfl
theorem l59:bw prog f59=some c59:=by kernel_rfl
theorem C0(ops:List bF)(ho:ops.length<=4194304):body prog c99 [.rv (.one (.ah (eX ops)))] [] (λr m=>∃r' m',View 0 ⟨[r],m⟩ ⟨[r'],m'⟩/\r'= .rv (.one (.row 0 2 0 none))/\m'=[.row 2 (aa (ops.map bF.enc))]):=by
 have ta:((([]:List (List CC)).length+((ops.map bF.enc).map λds=>ds.map CC.ah).length)*16)<=140737488355328:=by simp;omega
 have ib:∃r' m',View 0 ⟨[CV.rv (.one (.row 1 2 0 none))],[.aR,.row 2 (bV ([]:List (List CC)) 0 none++(ops.map bF.enc).map λds=>ds.map CC.ah)]⟩ ⟨[r'],m'⟩/\r'=CV.rv (.one (.row 0 2 0 none))/\m'=[Bk.row 2 (aa (ops.map bF.enc))]:=
  ⟨_,_,View.o 2 [1] [] (.eq rfl .nil) (.pn rfl rfl rfl),rfl,rfl⟩
 refine aM (λh=>?_) (λh=>?_)
 .have hd:ops=[]:=aai (by simpa using aam h)
  refine⟨?_,ta,ib⟩;subst hd;exact⟨_,_,View.aK 0 2 0 rfl rfl rfl,rfl,rfl⟩
 .exact⟨ta,ib⟩
theorem tL(ops:List bF)(ho:ops.length<=4194304){m:Mem}{K:CV->Mem->Prop}(h:K (.rv (.one (.row m.length 2 0 none))) (m++ [.row 2 (aa (ops.map bF.enc))])):ap prog 99 [.rv (.one (.ah (eX ops)))] m K:=by
 refine bu [] m.length rfl rfl rfl rfl (args0:=[.rv (.one (.ah (eX ops)))]) rfl (λi b' hi=>by simp at hi) (K0:=λr m=>r= .rv (.one (.row 0 2 0 none))/\m=[.row 2 (aa (ops.map bF.enc))]) (bH (aZ func99 l99 (C0 ops ho)) λr m1 h=>h) (λr m1 hr=>?_)
 obtain⟨rfl,rfl⟩:=hr;refine⟨aan _,?_⟩;show K (.rv (.one (.row (m.length+(0-0)) 2 0 none))) (gn m [.row 2 ((aa (ops.map bF.enc)).map (λcs=>cs.map (CC.bg (sg [] m.length))))])
 rw[dA,b7];exact h
theorem C1(d:List ft)(hb:d.length<=4194304):body prog c100 [m5 d] [] (λr m=>cL m r (m5 d)):=by
 have ta:((([]:List (List CC)).length+((d.map ft.enc).map λds=>ds.map CC.ah).length)*24)<=140737488355328:=by simp;omega
 refine aM (λh=>?_) (λh=>?_)
 .have hd:d=[]:=aai (by simpa using aam h)
  subst hd;exact⟨.rv (.one (.aK 3)),ta,.rv (.one (eV.eW rfl 0 none))⟩
 .exact⟨ta,.rv (.one (eV.eW rfl 0 none))⟩
theorem jv(d:List ft)(hb:d.length<=4194304){m:Mem}{K:CV->Mem->Prop}(h:K (m5 d) m):ap prog 100 [m5 d] m K:=
 be (aZ func100 l100 (C1 d hb)) (by simp[m5,yC,CV.dv,CC.dv]) λr m1 hf=>⟨_,hf,h⟩
structure Tz where
 k:Nat
 qs:List bm
theorem Jo(l:List Obj)(ops:List bF)(ps:List bm)(hf:lM l)(ho:ops.length<=4194304)(i3:ps.length<=4194304)(pQ:∀p,p∈ps->p.aU.length<=10)(du:ps≠[]):
  body prog c59 [ez l ops ps] [] (λr m=>∃r' m',View 0 ⟨[r],m⟩ ⟨[r'],m'⟩/\r'= .rv (.agg [.row 0 9 0 none,.row 1 2 0 none,.row 2 4 0 none])/\m'=[.row 9 (aa (l.map Obj.enc)),.row 2 (aa (ops.map bF.enc)),.row 4 (aa (ps.map bm.enc))]):=by
 refine⟨?_,?_⟩
 .skip
  refine wN l hf l.length ?_;rw[CZ];refine⟨⟨rfl,trivial⟩,?_⟩;refine⟨?_,?_⟩
  .refine tL ops ho ?_;refine⟨trivial,⟨rfl,rfl,trivial⟩,trivial,?_⟩;refine ba (λ(a:Tz)=>a.k<=ps.length/\a.qs=ps.take a.k) [1,2,14,15] (λa=>[(16,an .i64 (a.k:Nat)),(3,.rv (.one (.ptr 2 0)))]) (λa=>match a.qs with
     | []=>[.var [.ah (dk l),.ah (eX ops),.ah (gl ps)],.var z3,.var [.row 3 9 0 none,.row 4 2 0 none,.aK],.row 9 (aa (l.map Obj.enc)),.row 2 (aa (ops.map bF.enc))]
     |x::r=>[.var [.ah (dk l),.ah (eX ops),.ah (gl ps)],.var z3,.var [.row 3 9 0 none,.row 4 2 0 none,.row 5 4 0 none],.row 9 (aa (l.map Obj.enc)),.row 2 (aa (ops.map bF.enc)),.row 4 (aa ((x::r).map bm.enc))]) (λa=>ps.length-a.k) ⟨0,[]⟩ ⟨aan _,rfl⟩ ?_ (λa ha=>?_)
   .refine View.o1 6 [0,1,5,2,4] [] ?_
    .exact(.pe rfl rfl rfl (.pe rfl rfl rfl (.pe rfl rfl rfl (.pt rfl rfl (.bI (pE l _ _ _ om)) (.pn rfl rfl rfl)))))
   obtain⟨k,qs⟩:=a;obtain⟨hk,hq⟩:=ha;have hk:k<=ps.length:=hk;have hq:qs=ps.take k:=hq;cases qs with
   |nil=>
    refine aN (λh=>?_) (λh=>?_)
    .have aD:k<ps.length:=by have h:(k:Int)<((ps.map bm.enc).length:Int):=h;rw[Nr]at h;omega
     refine af (dy aD) ?_;refine jv ps[k].aU (by have:=pQ _ (aar aD);omega) ?_
     refine⟨by simp[bV],?_⟩
     refine⟨⟨k+1,[ps[k]]⟩,⟨aD,(show [ps[k]]=ps.take (k+1) by rw[abQ,vl aD,<-hq];rfl)⟩,(show ps.length-(k+1)<ps.length-k by omega),View.o2 8 [0,1,2,3,4,7] [] ?_⟩
     .exact(.pe rfl rfl rfl (.pe rfl rfl rfl (.pe rfl rfl rfl (.pr rfl rfl rfl (.pr rfl rfl rfl (.pt rfl rfl (.bI (by simp[bV,aa,bm.enc])) (.nil _)))))))
    .have AZ:k=ps.length:=by have h:¬(k:Int)<((ps.map bm.enc).length:Int):=h;rw[Nr]at h;omega
     subst AZ;rw[aaN]at hq;exact absurd hq.symm du
   |cons x r=>
    refine aN (λh=>?_) (λh=>?_)
    .have aD:k<ps.length:=by have h:(k:Int)<((ps.map bm.enc).length:Int):=h;rw[Nr]at h;omega
     refine af (dy aD) ?_;refine jv ps[k].aU (by have:=pQ _ (aar aD);omega) ?_
     refine⟨by have e:=bh ((x::r).map bm.enc);have e2:=congrArg List.length hq;simp only[Nr,aaj,aav]at e e2;simp only[bV,aaj,aa9];omega,?_⟩
     refine⟨⟨k+1,((x::r)++ [ps[k]])⟩,⟨aD,(show((x::r)++ [ps[k]])=ps.take (k+1) by rw[abQ,vl aD,<-hq];rfl)⟩,(show ps.length-(k+1)<ps.length-k by omega),View.o2 9 [0,1,2,3,4,8] [] ?_⟩
     .exact(.pe rfl rfl rfl (.pe rfl rfl rfl (.pe rfl rfl rfl (.pr rfl rfl rfl (.pr rfl rfl rfl (.pt rfl rfl (.bI (by simp[bV,aa,bm.enc])) (.nil _)))))))
    .have AZ:k=ps.length:=by have h:¬(k:Int)<((ps.map bm.enc).length:Int):=h;rw[Nr]at h;omega
     subst AZ;rw[aaN]at hq;refine⟨.rv (.agg [.row 0 9 0 none,.row 1 2 0 none,.row 2 4 0 none]),_,View.o 6 [3,4,5] [] (.eq rfl .nil) (.pr rfl rfl rfl (.pr rfl rfl rfl (.pn rfl rfl rfl))),rfl,?_⟩;rw[hq]
  .refine⟨⟨rfl,rfl,trivial⟩,?_⟩;refine tL ops ho ?_;refine⟨trivial,trivial,?_⟩;refine ba (λ(a:Tz)=>a.k<=ps.length/\a.qs=ps.take a.k) [1,2,14,15] (λa=>[(16,an .i64 (a.k:Nat)),(3,.rv (.one (.ptr 2 0)))]) (λa=>match a.qs with
     | []=>[.var [.ah (dk l),.ah (eX ops),.ah (gl ps)],.var z3,.var [.row 3 9 0 none,.row 4 2 0 none,.aK],.row 9 (aa (l.map Obj.enc)),.row 2 (aa (ops.map bF.enc))]
     |x::r=>[.var [.ah (dk l),.ah (eX ops),.ah (gl ps)],.var z3,.var [.row 3 9 0 none,.row 4 2 0 none,.row 5 4 0 none],.row 9 (aa (l.map Obj.enc)),.row 2 (aa (ops.map bF.enc)),.row 4 (aa ((x::r).map bm.enc))]) (λa=>ps.length-a.k) ⟨0,[]⟩ ⟨aan _,rfl⟩ ?_ (λa ha=>?_)
   .refine View.o1 6 [0,1,4,2,5] [] ?_
    .exact(.pe rfl rfl rfl (.pe rfl rfl rfl (.pe rfl rfl rfl (.pt rfl rfl (.bI (pE l _ _ _ om)) (.pn rfl rfl rfl)))))
   obtain⟨k,qs⟩:=a;obtain⟨hk,hq⟩:=ha;have hk:k<=ps.length:=hk;have hq:qs=ps.take k:=hq;cases qs with
   |nil=>
    refine aN (λh=>?_) (λh=>?_)
    .have aD:k<ps.length:=by have h:(k:Int)<((ps.map bm.enc).length:Int):=h;rw[Nr]at h;omega
     refine af (dy aD) ?_;refine jv ps[k].aU (by have:=pQ _ (aar aD);omega) ?_
     refine⟨by simp[bV],?_⟩
     refine⟨⟨k+1,[ps[k]]⟩,⟨aD,(show [ps[k]]=ps.take (k+1) by rw[abQ,vl aD,<-hq];rfl)⟩,(show ps.length-(k+1)<ps.length-k by omega),View.o2 8 [0,1,2,3,4,7] [] ?_⟩
     .exact(.pe rfl rfl rfl (.pe rfl rfl rfl (.pe rfl rfl rfl (.pr rfl rfl rfl (.pr rfl rfl rfl (.pt rfl rfl (.bI (by simp[bV,aa,bm.enc])) (.nil _)))))))
    .have AZ:k=ps.length:=by have h:¬(k:Int)<((ps.map bm.enc).length:Int):=h;rw[Nr]at h;omega
     subst AZ;rw[aaN]at hq;exact absurd hq.symm du
   |cons x r=>
    refine aN (λh=>?_) (λh=>?_)
    .have aD:k<ps.length:=by have h:(k:Int)<((ps.map bm.enc).length:Int):=h;rw[Nr]at h;omega
     refine af (dy aD) ?_;refine jv ps[k].aU (by have:=pQ _ (aar aD);omega) ?_
     refine⟨by have e:=bh ((x::r).map bm.enc);have e2:=congrArg List.length hq;simp only[Nr,aaj,aav]at e e2;simp only[bV,aaj,aa9];omega,?_⟩
     refine⟨⟨k+1,((x::r)++ [ps[k]])⟩,⟨aD,(show((x::r)++ [ps[k]])=ps.take (k+1) by rw[abQ,vl aD,<-hq];rfl)⟩,(show ps.length-(k+1)<ps.length-k by omega),View.o2 9 [0,1,2,3,4,8] [] ?_⟩
     .exact(.pe rfl rfl rfl (.pe rfl rfl rfl (.pe rfl rfl rfl (.pr rfl rfl rfl (.pr rfl rfl rfl (.pt rfl rfl (.bI (by simp[bV,aa,bm.enc])) (.nil _)))))))
    .have AZ:k=ps.length:=by have h:¬(k:Int)<((ps.map bm.enc).length:Int):=h;rw[Nr]at h;omega
     subst AZ;rw[aaN]at hq;refine⟨.rv (.agg [.row 0 9 0 none,.row 1 2 0 none,.row 2 4 0 none]),_,View.o 6 [3,4,5] [] (.eq rfl .nil) (.pr rfl rfl rfl (.pr rfl rfl rfl (.pn rfl rfl rfl))),rfl,?_⟩;rw[hq]
 .refine⟨⟨rfl,rfl,trivial⟩,?_⟩;refine wN l hf l.length ?_;rw[CZ];refine⟨⟨rfl,trivial⟩,?_⟩;refine tL ops ho ?_;refine⟨trivial,trivial,?_⟩;refine ba (λ(a:Tz)=>a.k<=ps.length/\a.qs=ps.take a.k) [1,2,14,15] (λa=>[(16,an .i64 (a.k:Nat)),(3,.rv (.one (.ptr 2 0)))]) (λa=>match a.qs with
    | []=>[.var [.ah (dk l),.ah (eX ops),.ah (gl ps)],.var z3,.var [.row 3 9 0 none,.row 4 2 0 none,.aK],.row 9 (aa (l.map Obj.enc)),.row 2 (aa (ops.map bF.enc))]
    |x::r=>[.var [.ah (dk l),.ah (eX ops),.ah (gl ps)],.var z3,.var [.row 3 9 0 none,.row 4 2 0 none,.row 5 4 0 none],.row 9 (aa (l.map Obj.enc)),.row 2 (aa (ops.map bF.enc)),.row 4 (aa ((x::r).map bm.enc))]) (λa=>ps.length-a.k) ⟨0,[]⟩ ⟨aan _,rfl⟩ ?_ (λa ha=>?_)
  .refine View.o1 6 [0,1,2,3,5] [] ?_
   .exact(.pe rfl rfl rfl (.pe rfl rfl rfl (.pe rfl rfl rfl (.pt rfl rfl (.bI (pE l _ _ _ om)) (.pn rfl rfl rfl)))))
  obtain⟨k,qs⟩:=a;obtain⟨hk,hq⟩:=ha;have hk:k<=ps.length:=hk;have hq:qs=ps.take k:=hq;cases qs with
  |nil=>
   refine aN (λh=>?_) (λh=>?_)
   .have aD:k<ps.length:=by have h:(k:Int)<((ps.map bm.enc).length:Int):=h;rw[Nr]at h;omega
    refine af (dy aD) ?_;refine jv ps[k].aU (by have:=pQ _ (aar aD);omega) ?_
    refine⟨by simp[bV],?_⟩
    refine⟨⟨k+1,[ps[k]]⟩,⟨aD,(show [ps[k]]=ps.take (k+1) by rw[abQ,vl aD,<-hq];rfl)⟩,(show ps.length-(k+1)<ps.length-k by omega),View.o2 8 [0,1,2,3,4,7] [] ?_⟩
    .exact(.pe rfl rfl rfl (.pe rfl rfl rfl (.pe rfl rfl rfl (.pr rfl rfl rfl (.pr rfl rfl rfl (.pt rfl rfl (.bI (by simp[bV,aa,bm.enc])) (.nil _)))))))
   .have AZ:k=ps.length:=by have h:¬(k:Int)<((ps.map bm.enc).length:Int):=h;rw[Nr]at h;omega
    subst AZ;rw[aaN]at hq;exact absurd hq.symm du
  |cons x r=>
   refine aN (λh=>?_) (λh=>?_)
   .have aD:k<ps.length:=by have h:(k:Int)<((ps.map bm.enc).length:Int):=h;rw[Nr]at h;omega
    refine af (dy aD) ?_;refine jv ps[k].aU (by have:=pQ _ (aar aD);omega) ?_
    refine⟨by have e:=bh ((x::r).map bm.enc);have e2:=congrArg List.length hq;simp only[Nr,aaj,aav]at e e2;simp only[bV,aaj,aa9];omega,?_⟩
    refine⟨⟨k+1,((x::r)++ [ps[k]])⟩,⟨aD,(show((x::r)++ [ps[k]])=ps.take (k+1) by rw[abQ,vl aD,<-hq];rfl)⟩,(show ps.length-(k+1)<ps.length-k by omega),View.o2 9 [0,1,2,3,4,8] [] ?_⟩
    .exact(.pe rfl rfl rfl (.pe rfl rfl rfl (.pe rfl rfl rfl (.pr rfl rfl rfl (.pr rfl rfl rfl (.pt rfl rfl (.bI (by simp[bV,aa,bm.enc])) (.nil _)))))))
   .have AZ:k=ps.length:=by have h:¬(k:Int)<((ps.map bm.enc).length:Int):=h;rw[Nr]at h;omega
    subst AZ;rw[aaN]at hq;refine⟨.rv (.agg [.row 0 9 0 none,.row 1 2 0 none,.row 2 4 0 none]),_,View.o 6 [3,4,5] [] (.eq rfl .nil) (.pr rfl rfl rfl (.pr rfl rfl rfl (.pn rfl rfl rfl))),rfl,?_⟩;rw[hq]
theorem iN(l:List Obj)(ops:List bF)(ps:List bm)(hf:lM l)(ho:ops.length<=4194304)(i3:ps.length<=4194304)(pQ:∀p,p∈ps->p.aU.length<=10)(du:ps≠[]){m:Mem}{K:CV->Mem->Prop}(h:K (.rv (.agg [.row m.length 9 0 none,.row (m.length+1) 2 0 none,.row (m.length+2) 4 0 none])) (m++ [.row 9 (aa (l.map Obj.enc)),.row 2 (aa (ops.map bF.enc)),.row 4 (aa (ps.map bm.enc))])):ap prog 59 [ez l ops ps] m K:=by
 refine bu [] m.length rfl rfl rfl rfl (args0:=[ez l ops ps]) rfl (λi b' hi=>by simp at hi) (K0:=λr m=>r= .rv (.agg [.row 0 9 0 none,.row 1 2 0 none,.row 2 4 0 none])/\m=[.row 9 (aa (l.map Obj.enc)),.row 2 (aa (ops.map bF.enc)),.row 4 (aa (ps.map bm.enc))])
  (bH (aZ func59 l59 (Jo l ops ps hf ho i3 pQ du)) λr m1 h=>h) (λr m1 hr=>?_)
 obtain⟨rfl,rfl⟩:=hr;refine⟨aan _,?_⟩;show K (.rv (.agg [.row (m.length+(0-0)) 9 0 none,.row (m.length+(1-0)) 2 0 none,.row (m.length+(2-0)) 4 0 none])) (gn m [.row 9 ((aa (l.map Obj.enc)).map (λcs=>cs.map (CC.bg (sg [] m.length)))),.row 2 ((aa (ops.map bF.enc)).map (λcs=>cs.map (CC.bg (sg [] m.length)))),.row 4 ((aa (ps.map bm.enc)).map (λcs=>cs.map (CC.bg (sg [] m.length))))])
 rw[dA,dA,dA,b7];exact h
def c80:LF:= ⟨9,[.tmp 4],(.seq (.ai [qu 4 (.aI (qb false))]) (.seq (.ai [qm 5 0,qm 6 1,qu 7 (qc 121 [5,6]),qu 8 (.aJ .geq 7 (qi 0)),qm 4 8]) .ret))⟩
def c81:LF:= ⟨13,[.tmp 3],(.seq (.ai [qu 2 (.box 0),qu 3 (.aI (qb false))]) (.seq (.ai [qf 4 0 2,ql 5 4,qu 6 (.aJ .eql 5 (qi 5)),qm 7 6,qg 8 (.bU 6 2) 7 true,qg 9 (.load false 1 8) 7 true,qg 10 (.load false 1 1) 7 true,qg 11 (.aJ .eql 9 10) 7 true,qu 12 (.pick 7 11 (qb false)),qm 3 12]) .ret))⟩
def c120:LF:= ⟨13,[.tmp 3],(.seq (.ai [qu 2 (.box 0),qu 3 (.aI (qb false))]) (.seq (.ai [qf 4 0 2,ql 5 4,qu 6 (.aJ .eql 5 (qi 5)),qm 7 6,qg 8 (.bU 6 2) 7 true,qg 9 (.load false 1 8) 7 true,qg 10 (.load false 1 1) 7 true,qg 11 (.aJ .eql 9 10) 7 true,qu 12 (.pick 7 11 (qb false)),qm 3 12]) .ret))⟩
def dF(p:Int)(o:Obj):Bool:=o.ag==5&&o.bb==p
theorem l120:bw prog f120=some c120:=by kernel_rfl
theorem l81:bw prog f81=some c81:=by kernel_rfl
theorem l80:bw prog f80=some c80:=by kernel_rfl
theorem C2(o:Obj)(p:Int):body prog c120 [o.cv,.rv (.one (.ptr 0 0))] [.var ([Dt.val (.int .i64 p)].map .ah)] (λr m=>r=aE (dF p o)/\∃ex,m= .var ([Dt.val (.int .i64 p)].map .ah)::ex):=by
 refine aM (λh=>?_) (λh=>?_)
 .refine⟨?_,_,rfl⟩;show aE _=aE _;rw[dF,h];rfl
 .refine⟨?_,_,rfl⟩;show aE _=aE _;rw[dF,h];rfl
theorem TA(o:Obj)(p:Int)(K:CV->Mem->Prop)(h:K (aE (dF p o)) [.var ([Dt.val (.int .i64 p)].map .ah)]):ap prog 120 [o.cv,.rv (.one (.ptr 0 0))] [.var ([Dt.val (.int .i64 p)].map .ah)] K:=
 eQ rfl (aZ func120 l120 (C2 o p)) h
theorem C3(o:Obj)(p:Int):body prog c81 [o.cv,.rv (.one (.ptr 0 0))] [.var ([Dt.val (.int .i64 p)].map .ah)] (λr m=>r=aE (dF p o)/\∃ex,m= .var ([Dt.val (.int .i64 p)].map .ah)::ex):=by
 refine aM (λh=>?_) (λh=>?_)
 .refine⟨?_,_,rfl⟩;show aE _=aE _;rw[dF,h];rfl
 .refine⟨?_,_,rfl⟩;show aE _=aE _;rw[dF,h];rfl
theorem TB(o:Obj)(p:Int)(K:CV->Mem->Prop)(h:K (aE (dF p o)) [.var ([Dt.val (.int .i64 p)].map .ah)]):ap prog 81 [o.cv,.rv (.one (.ptr 0 0))] [.var ([Dt.val (.int .i64 p)].map .ah)] K:=
 eQ rfl (aZ func81 l81 (C3 o p)) h
theorem zw{l:List Obj}{n:Nat}(h:n<l.length):dQ (n:Int) (lenOf (aa (l.map Obj.enc)).length 0 none)=some n:=ct (by show n<(aa (l.map Obj.enc)).length;rw[bh,Nr];exact h)
theorem Jp(l:List Obj)(hb:l.length<=4194304)(F:Nat)(cs:List Dt)(q:Obj->Bool)(hF:∀s,∀K:CV->Mem->Prop,K (aE (q s)) [.var (cs.map .ah)]->ap prog F [s.cv,.rv (.one (.ptr 0 0))] [.var (cs.map .ah)] K):
  body prog c121 [.rv (.one (.row 0 9 0 none)),.rv (.one (.fn F [1]))] [.row 9 (aa (l.map Obj.enc)),.var (cs.map .ah)] (λr m=>r=an .i64 (ol q l)/\m=[.row 9 (aa (l.map Obj.enc)),.var (cs.map .ah)]):=by
 refine ba (λk=>k<=l.length/\∀(j:Nat)s,j<k->l[j]? =some s->q s=false) [0,1,7] (λk=>[(8,an .i64 (k:Nat))]) (λ_=>[.row 9 (aa (l.map Obj.enc)),.var (cs.map .ah)]) (λk=>l.length-k) 0 ⟨aan _,λj s h=>absurd h (aaR j)⟩ ?_ (λk hk=>?_)
 .refine View.o1 2 [0,1] [] ?_
  .exact .pr rfl rfl rfl (.pt rfl rfl (.l5 rfl) (.nil _))
 .refine aN (λh=>?_) (λh=>?_)
  .have aD:k<l.length:=by have h:(k:Int)<((aa (l.map Obj.enc)).length:Int):=h;rw[bh,Nr]at h;omega
   refine af (zw aD) ?_;refine af (bJ Obj.enc l aD) ?_;have hi:=vl aD;have WU:=k7 (q:=q) aD;generalize l[k]=o at hi WU;refine fo (args0:=[o.cv,.rv (.one (.ptr 0 0))]) (cs:=cs) 1 rfl rfl (r0:=aE (q o)) rfl (λK hK=>hF o K hK) ?_
   refine aM (λHF=>?_) (λHF=>?_)
   .rw[WU HF hk.2];exact⟨rfl,rfl⟩
   .refine⟨k+1,⟨aD,λj s hj hs=>?_⟩,(show l.length-(k+1)<l.length-k by omega),View.o 2 [0,1] [] ?_ ?_⟩
    .rcases aaf j k with h5|h5
     .exact hk.2 j s h5 hs
     .have:j=k:=om;subst this;rw[hi]at hs;cases hs;exact HF
    .repeat(first|exact .nil|refine .aF ?_|refine .put (.bg (cP om).symm) ?_|refine .eq rfl ?_)
    .exact .pr rfl rfl rfl (.pt rfl rfl (.l5 rfl) (.nil _))
  .have ek:¬(k:Int)<((aa (l.map Obj.enc)).length:Int):=h;rw[bh,Nr]at ek;rw[mY λj s hs=>hk.2 j s (by have:=(JJ.1 hs).1;omega) hs]
   exact⟨rfl,rfl⟩
theorem Fl(l:List Obj)(hb:l.length<=4194304)(F:Nat)(cs:List Dt)(q:Obj->Bool)(hF:∀s,∀K:CV->Mem->Prop,K (aE (q s)) [.var (cs.map .ah)]->ap prog F [s.cv,.rv (.one (.ptr 0 0))] [.var (cs.map .ah)] K):
  body prog c80 [.rv (.one (.row 0 9 0 none)),.rv (.one (.fn F [1]))] [.row 9 (aa (l.map Obj.enc)),.var (cs.map .ah)] (λr m=>r=aE (l.any q)/\m=[.row 9 (aa (l.map Obj.enc)),.var (cs.map .ah)]):=by
 refine(aZ func121 l121 (Jp l hb F cs q hF)).mono λr m⟨hr,hm⟩=>?_
 subst hr hm;refine⟨?_,rfl⟩;show aE _=aE _;rw[<-r9]
theorem MU(l:List Obj)(hb:l.length<=4194304)(F:Nat)(cs:List Dt)(q:Obj->Bool)(hF:∀s,∀K:CV->Mem->Prop,K (aE (q s)) [.var (cs.map .ah)]->ap prog F [s.cv,.rv (.one (.ptr 0 0))] [.var (cs.map .ah)] K):
  ap prog 80 [.rv (.one (.row 0 9 0 none)),.rv (.one (.fn F [1]))] [.row 9 (aa (l.map Obj.enc)),.var (cs.map .ah)] (λr m=>r=aE (l.any q)/\m=[.row 9 (aa (l.map Obj.enc)),.var (cs.map .ah)]):=
 aZ func80 l80 (Fl l hb F cs q hF)
def c79:LF:= ⟨146,[.tmp 2],(.seq (.ai [qu 2 (.aI (qb false))]) (.seq (.ai [qm 10 0,qu 11 (qc 119 [10]),qm 3 11]) (.seq (.seq (.ai [qm 12 0,qu 13 (.aO 12),qf 14 0 13,ql 15 14,qu 16 (.len 1 15),qu 17 (.aI (qi 0))]) (.block 0 (.loop (.seq (.ai [qu 18 (.aJ .lss 17 16)]) (.seq (.cond 18 .skip (.exit 0)) (.seq (.block 1 (.seq (.ai [qm 19 17,qm 4 19]) (.seq (.seq (.ai [qm 20 3,qu 21 (.aO 20),qf 22 1 21,ql 23 22,qm 24 4,qu 25 (.cr 1 23 24),ql 26 25,qm 27 26,qg 28 (.aI 0) 27 false,qg 29 (.aO 28) 27 false,qg 30 (.bU 0 29) 27 false,qg 31 (.load false 1 30) 27 false,qg 32 (.aI 4) 27 false,qg 33 (.cr 9 31 32) 27 false,qg 34 (.bU 0 33) 27 false,qg 35 (.load false 1 34) 27 false,qg 36 (.aJ .eql 35 (qi 0)) 27 false,qu 37 (.pick 27 (qb true) 36)]) (.cond 37 (.exit 1) .skip)) (.seq (.seq (.ai [qm 38 0,qu 39 (.aO 38),qf 40 0 39,ql 41 40,qu 42 (.len 1 41),qu 43 (.aI (qi 0))]) (.block 2 (.loop (.seq (.ai [qu 44 (.aJ .lss 43 42)]) (.seq (.cond 44 .skip (.exit 2)) (.seq (.block 3 (.seq (.ai [qm 45 43,qm 5 45]) (.seq (.ai [qm 46 0,qu 47 (.aO 46),qf 48 0 47,ql 49 48,qm 50 5,qu 51 (.cr 9 49 50),qf 52 0 51,ql 53 52,qu 54 (.aJ .eql 53 (qi 4)),qm 55 54,qg 56 (.aI 0) 55 true,qg 57 (.aO 56) 55 true,qg 58 (.bU 0 57) 55 true,qg 59 (.load false 1 58) 55 true,qg 60 (.aI 5) 55 true,qg 61 (.cr 9 59 60) 55 true,qg 62 (.bU 4 61) 55 true,qg 63 (.load false 1 62) 55 true,qg 64 (.aI 4) 55 true,qg 65 (.aJ .eql 63 64) 55 true,qu 66 (.pick 55 65 (qb false))]) (.cond 66 (.ai [qm 67 0,qu 68 (.aO 67),qf 69 0 68,ql 70 69,qm 71 5,qu 72 (.cr 9 70 71),qf 73 4 72,qw (.store 1 73 (qi (-1)))]) .skip)))) (.ai [qu 74 (.aJ .add 43 (qi 1)),qm 43 74]))))))) (.ai [qm 75 0,qu 76 (.aO 75),qf 77 0 76,ql 78 77,qm 79 4,qu 80 (.build [qd 0,.aK,.aK,(.ah (.val (.string ⟨#[]⟩))),qd 0,.aK,qd 0,qd 0,qd 0] []),qu 81 (.cr 9 78 79),qw (.store 9 81 80)]))))) (.ai [qu 82 (.aJ .add 17 (qi 1)),qm 17 82]))))))) (.seq (.seq (.ai [qm 83 0,qu 84 (.aO 83),qf 85 1 84,ql 86 85,qu 87 (.len 1 86),qu 88 (.aI (qi 0))]) (.block 4 (.loop (.seq (.ai [qu 89 (.aJ .lss 88 87)]) (.seq (.cond 89 .skip (.exit 4)) (.seq (.block 5 (.seq (.ai [qm 90 88,qm 6 90]) (.seq (.ai [qm 91 3,qu 92 (.aO 91),qf 93 2 92,ql 94 93,qm 95 6,qu 96 (.cr 1 94 95),ql 97 96,qu 98 (.un .not 97)]) (.cond 98 (.ai [qm 99 0,qu 100 (.aO 99),qf 101 1 100,ql 102 101,qm 103 6,qu 104 (.build [qd 0,qd 0] [(0,1,(qi (-1)))]),qu 105 (.cr 2 102 103),qw (.store 2 105 104)]) .skip)))) (.ai [qu 106 (.aJ .add 88 (qi 1)),qm 88 106]))))))) (.seq (.ai [qu 7 (.aI (qb false))]) (.seq (.seq (.ai [qm 107 0,qu 108 (.aO 107),qf 109 2 108,ql 110 109,qu 111 (.len 1 110),qu 112 (.aI (qi 0))]) (.block 6 (.loop (.seq (.ai [qu 113 (.aJ .lss 112 111)]) (.seq (.cond 113 .skip (.exit 6)) (.seq (.block 7 (.seq (.ai [qm 114 112,qu 8 (.alloc [qd 0]),qw (.store 1 8 114)]) (.seq (.ai [qm 115 0,qu 116 (.aO 115),qf 117 0 116,ql 118 117,qu 119 (.fn 120 [8]),qu 120 (qc 80 [118,119]),qm 9 120]) (.seq (.bR [ql 121 8,qu 122 (.aJ .gtr 121 (qi 0)),qm 123 122,qg 124 (.aI 0) 123 true,qg 125 (.aO 124) 123 true,qg 126 (.bU 2 125) 123 true,qg 127 (.load false 1 126) 123 true,qg 128 (.load false 1 8) 123 true,qg 129 (.cr 4 127 128) 123 true,qg 130 (.bU 0 129) 123 true,qg 131 (.load false 1 130) 123 true,qu 132 (.pick 123 131 (qb false)),qm 133 132,qg 134 (.aI 9) 133 true,qg 135 (.un .not 134) 133 true,qu 136 (.pick 133 135 (qb false))] [eh 16 0 .nil]) (.cond 136 (.seq (.bR [qm 137 0,qu 138 (.aO 137),qf 139 2 138,ql 140 139,ql 141 8,qu 142 (.build [(.ah (.val (.bool false))),(.ah (.val (.bool false))),qd 0,.aK] []),qu 143 (.cr 4 140 141),qw (.store 4 143 142)] [(eh 7 0 (.cons 7 (some []) .nil))]) (.ai [qu 7 (.aI (qb true))])) .skip))))) (.ai [qu 144 (.aJ .add 112 (qi 1)),qm 112 144]))))))) (.seq (.ai [qm 145 7,qm 2 145]) .ret)))))))⟩
def Pt{α:Type}(l L:List α)(f:Nat->α->α):Prop:=L.length=l.length/\∀(t:Nat)o,l[t]? =some o->L[t]? =some (f t o)
theorem Pt.refl{α:Type}(l:List α):Pt l l λ_ o=>o:=⟨rfl,λ_ _ h=>h⟩
theorem Pt.congr{α:Type}{l L:List α}{f g:Nat->α->α}(h:Pt l L f)(hfg:∀(t:Nat)o,l[t]? =some o->f t o=g t o):Pt l L g:=
 ⟨h.1,λt o ho=>by rw[<-hfg t o ho];exact h.2 t o ho⟩
theorem Pt.set{α:Type}{l L:List α}{f g:Nat->α->α}(h:Pt l L f){j:Nat}{x:α}(hx:∀o,l[j]? =some o->g j o=x)(ho:∀(t:Nat)o,t≠j->l[t]? =some o->g t o=f t o):Pt l (L.set j x) g:=by
 refine⟨by simpa using h.1,λt o A0=>?_⟩
 have aD:t<L.length:=by rw[h.1];exact(JJ.1 A0).1
 by_cases La:t=j
 .subst La;rw[hx o A0];simp[aD]
 .rw[Xg (λe=>La e.symm),ho t o La A0]
  exact h.2 t o A0
theorem Pt.at{α:Type}{l L:List α}{f:Nat->α->α}(h:Pt l L f){j:Nat}(hj:j<l.length):∃hL:j<L.length,L[j]=f j l[j]:=by
 have hL:j<L.length:=by rw[h.1];exact hj
 have:=h.2 j l[j] (vl hj);rw[vl hL]at this;exact⟨hL,by simpa using this⟩
theorem mi.MW{Y:Nat->Nat}{m:Mem}{Z:Nat->Prop}{id s:Nat}(ds:List (List Dt))(i:Nat){cs:List CC}{d:List Dt}(hl:cs.length=d.length)(h:∀(j:Nat)c c',cs[j]? =some c->(d.map CC.ah)[j]? =some c'->s9 Y m Z (some id) c c'):mi Y m Z id (.row s (aW (aa ds) i cs)) (.row s (aa (ds.set i d))):=by
 rw[aY];have e:aa (ds.set i d)=(aa ds).set i (d.map .ah):=by simp[aa,abM]
 rw[e];refine .row s aC (λt xs ys h1 h2=>?_) (λt xs ys j c c' h1 h2 h3 h4=>?_)
 .rw[aaS]at h1 h2;split at h1
  .rename_i Mw;rw[if_pos Mw]at h2;split at h1
   .rename_i aD;rw[if_pos aD]at h2;cases h1;cases h2;simpa using hl
   .cases h1
  .rename_i Mw;rw[if_neg Mw]at h2;rw[h1]at h2;cases h2;rfl
 .rw[aaS]at h1 h2;split at h1
  .rename_i Mw;rw[if_pos Mw]at h2;split at h1
   .rename_i aD;rw[if_pos aD]at h2;cases h1;cases h2;exact h j c c' h3 h4
   .cases h1
  .rename_i Mw;rw[if_neg Mw]at h2;rw[h1]at h2;cases h2;rw[h3]at h4;cases h4;have hd:∃d,c= .ah d:=by rw[aa,Sf]at h1;obtain⟨es,_,rfl⟩:=aau.1 h1;rw[Sf]at h3;obtain⟨d,_,rfl⟩:=aau.1 h3;exact⟨d,rfl⟩
   obtain⟨d,rfl⟩:=hd;exact .bg (.ah d)
def gV:Obj:=⟨0,[],[],⟨#[]⟩,0,[],0,0,0⟩
def R1:List CC:=[.ah (.val (.int .i64 0)),.aK,.aK,.ah (.val (.string ⟨#[]⟩)),.ah (.val (.int .i64 0)),.aK,.ah (.val (.int .i64 0)),.ah (.val (.int .i64 0)),.ah (.val (.int .i64 0))]
theorem aak{Y:Nat->Nat}{m:Mem}{Z:Nat->Prop}{id:Nat}(L:List Obj)(i:Nat):mi Y m Z id (.row 9 (aW (aa (L.map Obj.enc)) i R1)) (.row 9 (aa ((L.set i gV).map Obj.enc))):=by
 rw[abM];refine mi.MW (L.map Obj.enc) i rfl λj c c' h1 h2=>?_
 match j,h1,h2 with
 |0,h1,h2=>cases h1;cases h2;exact .bg (.ah _)
 |1,h1,h2=>cases h1;cases h2;exact .fE (.aK 1)
 |2,h1,h2=>cases h1;cases h2;exact .fE (.aK 2)
 |3,h1,h2=>cases h1;cases h2;exact .bg (.ah _)
 |4,h1,h2=>cases h1;cases h2;exact .bg (.ah _)
 |5,h1,h2=>cases h1;cases h2;exact .fE (.aK 4)
 |6,h1,h2=>cases h1;cases h2;exact .bg (.ah _)
 |7,h1,h2=>cases h1;cases h2;exact .bg (.ah _)
 |8,h1,h2=>cases h1;cases h2;exact .bg (.ah _)
 |n+9,h1,h2=>simp[R1]at h1
def gk:bm:=⟨false,false,0,[]⟩
theorem R2{Y:Nat->Nat}{m:Mem}{Z:Nat->Prop}{id:Nat}(L:List bm)(i:Nat):mi Y m Z id (.row 4 (aW (aa (L.map bm.enc)) i [.ah (.val (.bool false)),.ah (.val (.bool false)),.ah (.val (.int .i64 0)),.aK])) (.row 4 (aa ((L.set i gk).map bm.enc))):=by
 rw[abM];refine mi.MW (L.map bm.enc) i rfl λj c c' h1 h2=>?_
 match j,h1,h2 with
 |0,h1,h2=>cases h1;cases h2;exact .bg (.ah _)
 |1,h1,h2=>cases h1;cases h2;exact .bg (.ah _)
 |2,h1,h2=>cases h1;cases h2;exact .bg (.ah _)
 |3,h1,h2=>cases h1;cases h2;exact .fE (.aK 3)
 |n+4,h1,h2=>simp at h1
def eR(b:Mk)(l:List Obj)(i:Nat):Bool:=match l[i]? with
 |some o=>!(b.O[i]? ==some true)&&o.ag !=0
 |none=>false
def l7(b:Mk)(l:List Obj)(k:Nat)(z:Int):Bool:=decide (0<=z/\z.toNat<k)&&eR b l z.toNat
def cC(b:Mk)(l:List Obj)(k:Nat)(j:Nat)(o:Obj):Obj:=if(eR b l j&&decide (j<k))=true then gV else if(o.ag==4&&l7 b l k o.bq)=true then {o with bq:= -1}else o
def jw(i:Nat)(o:Obj):Obj:=if(o.ag==4&&o.bq==(i:Int))=true then {o with bq:= -1}else o
theorem wS(b:Mk)(l:List Obj)(i:Nat)(z:Int):l7 b l (i+1) z=(l7 b l i z||(z==(i:Int)&&eR b l i)):=by
 unfold l7;by_cases h:z=(i:Int)
 .subst h;simp
 .have h1:(z==(i:Int))=false:=by simpa using h
  rw[h1];have:decide (0<=z/\z.toNat<i+1)=decide (0<=z/\z.toNat<i):=by
   apply decide_eq_decide.2;constructor<;>intro⟨h2,h3⟩<;>exact⟨h2,om⟩
  rw[this];simp
theorem Jq{b:Mk}{l:List Obj}{i:Nat}(h:eR b l i=false)(j:Nat)(o:Obj):cC b l i j o=cC b l (i+1) j o:=by
 have h1:(eR b l j&&decide (j<i+1))=(eR b l j&&decide (j<i)):=by
  by_cases hj:j=i
  .subst hj;rw[h];simp
  .have:decide (j<i+1)=decide (j<i):=decide_eq_decide.2 om;rw[this]
 unfold cC;rw[h1,wS,h];simp
theorem Fm{b:Mk}{l:List Obj}{i:Nat}(h:eR b l i=true){j:Nat}(hj:j≠i)(o:Obj):jw i (cC b l i j o)=cC b l (i+1) j o:=by
 have h1:(eR b l j&&decide (j<i+1))=(eR b l j&&decide (j<i)):=by have:decide (j<i+1)=decide (j<i):=decide_eq_decide.2 om;rw[this]
 unfold cC;rw[h1,wS,h];by_cases hd:(eR b l j&&decide (j<i))=true
 .rw[if_pos hd,if_pos hd];rfl
 .rw[if_neg hd,if_neg hd];by_cases hk:(o.ag==4)=true
  .by_cases hz:l7 b l i o.bq=true
   .rw[hk,hz];simp[jw]
   .rw[acL]at hz;rw[hk,hz];by_cases hp:(o.bq==(i:Int))=true
    .simp[jw,hk,hp]
    .rw[acL]at hp;simp[jw,hp]
  .rw[acL]at hk;rw[hk];simp[jw,hk]
theorem C4{b:Mk}{l:List Obj}{i:Nat}(h:eR b l i=true)(o:Obj):cC b l (i+1) i o=gV:=by unfold cC;rw[h];simp
theorem C5(b:Mk)(l:List Obj)(j:Nat)(o:Obj):cC b l 0 j o=o:=by
 unfold cC;have:l7 b l 0 o.bq=false:=by simp[l7]
 rw[this];simp
theorem C6{b:Mk}{l:List Obj}{i:Nat}(o:Obj):(cC b l i i o).ag=o.ag:=by
 unfold cC;simp;split<;>rfl
def iE(L:List Obj)(t:Nat)(o:bm):Bool:=decide (0<t)&&(o.aP&& !(L.any (dF (t:Int))))
def B3(b:Mk)(k:Nat)(t:Nat)(o:bF):bF:=if(decide (t<k)&& !(b.P[t]? ==some true))=true then⟨-1,0⟩else o
def yg(L:List Obj)(k:Nat)(t:Nat)(o:bm):bm:=if(decide (t<k)&&iE L t o)=true then gk else o
def jh(L:List Obj)(ps:List bm)(k:Nat):Bool:=(List.range k).any λt=>match ps[t]? with
 |some o=>iE L t o
 |none=>false
structure cV(l:List Obj)(ops:List bF)(ps:List bm)(L:List Obj)(L2:List bF)(L3:List bm)(en:Bool):Prop where
 ex:∃b,gL l ops ps b/\Pt l L (cC b l l.length)/\Pt ops L2 (B3 b ops.length)
 pr:Pt ps L3 (yg L ps.length)
 en:en=jh L ps ps.length
structure StL where
 i:Nat
 L:List Obj
structure aal where
 i:Nat
 L:List bF
structure St3 where
 i:Nat
 L:List bm
 en:Bool
theorem A2{l:List bF}{n:Nat}(h:n<l.length):dQ (n:Int) (lenOf (aa (l.map bF.enc)).length 0 none)=some n:=ct (by show n<(aa (l.map bF.enc)).length;rw[bh,Nr];exact h)
theorem ml{l:List bm}{n:Nat}(h:n<l.length):dQ (n:Int) (lenOf (aa (l.map bm.enc)).length 0 none)=some n:=ct (by show n<(aa (l.map bm.enc)).length;rw[bh,Nr];exact h)
theorem wT{α:Type}{f:α->List Dt}{l:List α}{k:Nat}(h:(k:Int)<(((aa (l.map f)).length:Nat):Int)):k<l.length:=by rw[bh,Nr]at h;omega
theorem wU{α:Type}{f:α->List Dt}{l:List α}{k:Nat}(h:¬(k:Int)<(((aa (l.map f)).length:Nat):Int)):l.length<=k:=by rw[bh,Nr]at h;omega
theorem Fo{L:List Obj}{ps:List bm}{p:Nat}(h:p<ps.length):jh L ps (p+1)=(jh L ps p||iE L p ps[p]):=by
 unfold jh;rw[List.range_succ,List.any_append,vl h|>λe=>(by simp[e]:(List.any [p] λt=>match ps[t]? with|some o=>iE L t o|none=>false)=iE L p ps[p])]
theorem Fp(L:List Obj)(L2:List bF)(L3:List bm)(b:Mk)(p:Nat)(hl:L.length<=4194304){K:CV->Mem->Prop}(h:K (aE (L.any (dF (p:Int)))) [.var [.row 1 9 0 none,.row 2 2 0 none,.row 3 4 0 none],.row 9 (aa (L.map Obj.enc)),.row 2 (aa (L2.map bF.enc)),.row 4 (aa (L3.map bm.enc)),.var [.ptr 0 0,.row 5 1 0 none,.row 6 1 0 none],.row 1 (aa (b.O.map bE)),.row 1 (aa (b.P.map bE)),.var [.ah (.val (.int .i64 (p:Nat)))]]):ap prog 80 [.rv (.one (.row 1 9 0 none)),.rv (.one (.fn 120 [7]))] [.var [.row 1 9 0 none,.row 2 2 0 none,.row 3 4 0 none],.row 9 (aa (L.map Obj.enc)),.row 2 (aa (L2.map bF.enc)),.row 4 (aa (L3.map bm.enc)),.var [.ptr 0 0,.row 5 1 0 none,.row 6 1 0 none],.row 1 (aa (b.O.map bE)),.row 1 (aa (b.P.map bE)),.var [.ah (.val (.int .i64 (p:Nat)))]] K:=by
 refine bu [1,7] 8 rfl rfl rfl rfl (args0:=[.rv (.one (.row 0 9 0 none)),.rv (.one (.fn 120 [1]))]) rfl (λi b' hi=>?_) (MU L hl 120 [.val (.int .i64 (p:Nat))] (dF (p:Int)) (λs K hK=>TA s p K hK)) (λr m1 hr=>?_)
 .match i,hi with
  |0,hi=>cases hi;exact .inr ⟨λh=>h,_,rfl,.bI rfl⟩
  |1,hi=>cases hi;exact .inr ⟨λh=>h,_,rfl,.l5 rfl⟩
  |n+2,hi=>simp at hi
 .obtain⟨rfl,rfl⟩:=hr;refine⟨T5 _,?_⟩;have e:(Bk.row 9 (aa (L.map Obj.enc))).bg (sg [1,7] 8)= .row 9 (aa (L.map Obj.enc)):=by simp only[Bk.bg,dA]
  show K _ [.var [.row 1 9 0 none,.row 2 2 0 none,.row 3 4 0 none],(Bk.row 9 (aa (L.map Obj.enc))).bg (sg [1,7] 8),.row 2 (aa (L2.map bF.enc)),.row 4 (aa (L3.map bm.enc)),.var [.ptr 0 0,.row 5 1 0 none,.row 6 1 0 none],.row 1 (aa (b.O.map bE)),.row 1 (aa (b.P.map bE)),.var [.ah (.val (.int .i64 (p:Nat)))]];rw[e];exact h
theorem l79:bw prog f79=some c79:=by kernel_rfl
theorem Jr(l:List Obj)(ops:List bF)(ps:List bm)(g:∀o,o∈l->o.sm)(hl:l.length<=4194304)(ho:ops.length<=4194304)(i3:ps.length<=4194304)(pQ:∀p,p∈ps->p.aU.length<=10):
  body prog c79 [.rv (.one (.ptr 0 0))] [.var [.row 1 9 0 none,.row 2 2 0 none,.row 3 4 0 none],.row 9 (aa (l.map Obj.enc)),.row 2 (aa (ops.map bF.enc)),.row 4 (aa (ps.map bm.enc))]
   (λr m=>∃r' m',View 4 ⟨[r],m⟩ ⟨[r'],m'⟩/\∃L L2 L3 en,cV l ops ps L L2 L3 en/\r'=aE en/\m'=[.var [.row 1 9 0 none,.row 2 2 0 none,.row 3 4 0 none],.row 9 (aa (L.map Obj.enc)),.row 2 (aa (L2.map bF.enc)),.row 4 (aa (L3.map bm.enc))]):=by
 refine(MT l ops ps g hl ho i3 pQ).mono λr m⟨b,hb,hr,hm⟩=>?_
 subst hr hm;have hbO:=hb.len.1;have hbP:=hb.len.2;refine ba (λ(s:StL)=>s.i<=l.length/\Pt l s.L (cC b l s.i)) [0,3,16] (λs=>[(17,an .i64 (s.i:Nat))]) (λs=>[.var [.row 1 9 0 none,.row 2 2 0 none,.row 3 4 0 none],.row 9 (aa (s.L.map Obj.enc)),.row 2 (aa (ops.map bF.enc)),.row 4 (aa (ps.map bm.enc)),.var [.ptr 0 0,.row 5 1 0 none,.row 6 1 0 none],.row 1 (aa (b.O.map bE)),.row 1 (aa (b.P.map bE))]) (λs=>l.length-s.i) ⟨0,l⟩ ⟨aan _,(Pt.refl l).congr λt o _=>(C5 b l t o).symm⟩ ?_ (λs hs=>?_)
 .refine View.o1 7 [0,1,2,3,4,5,6] [] ?_
  .exact .au
 obtain⟨i,L⟩:=s;obtain⟨hi,zx⟩:=hs;have hi:i<=l.length:=hi;have zx:Pt l L (cC b l i):=zx;refine aN (λh=>?_) (λh=>?_)
 .have aD:i<l.length:=wT h;have Yz:i<b.O.length:=om;refine af (zt Yz) ?_;refine af (tK Yz) ?_;have pP:∀(hd:eR b l i=false),Pt l L (cC b l (i+1)):=λhd=>zx.congr λt o _=>Jq hd t o
  refine aM (λh2=>?_) (λh2=>?_)
  .have hd:eR b l i=false:=by unfold eR;rw[vl aD,vl Yz,h2];simp
   refine⟨⟨i+1,L⟩,⟨aD,pP hd⟩,(show l.length-(i+1)<l.length-i by omega),View.o2 7 [0,1,2,3,4,5,6] [] ?_⟩
   .exact .au
  .obtain⟨hL,hLi⟩:=zx.at aD;have K6:L[i].ag=l[i].ag:=by rw[hLi,C6]
   refine af (zw hL) ?_;refine af (bJ Obj.enc L hL) ?_;refine bs (λh3=>?_) (λh3=>?_)
   .have h3:L[i].ag=0:=h3;have hd:eR b l i=false:=by unfold eR;rw[vl aD];show(!(b.O[i]? ==some true)&&l[i].ag !=0)=false;rw[<-K6,h3];simp
    refine⟨⟨i+1,L⟩,⟨aD,pP hd⟩,(show l.length-(i+1)<l.length-i by omega),View.o2 7 [0,1,2,3,4,5,6] [] ?_⟩
    .exact .au
   .have h3:L[i].ag≠0:=h3;have hd:eR b l i=true:=by unfold eR;rw[vl aD,vl Yz,h2];simp[<-K6,h3]
    have hLl:=zx.1;refine ba (λ(s:StL)=>s.i<=l.length/\Pt l s.L (λt o=>if t<s.i then jw i (cC b l i t o)else cC b l i t o)) [0,3,4,16,17,42] (λs=>[(43,an .i64 (s.i:Nat))]) (λs=>[.var [.row 1 9 0 none,.row 2 2 0 none,.row 3 4 0 none],.row 9 (aa (s.L.map Obj.enc)),.row 2 (aa (ops.map bF.enc)),.row 4 (aa (ps.map bm.enc)),.var [.ptr 0 0,.row 5 1 0 none,.row 6 1 0 none],.row 1 (aa (b.O.map bE)),.row 1 (aa (b.P.map bE))]) (λs=>l.length-s.i) ⟨0,L⟩ ⟨aan _,zx.congr λt o _=>aC⟩ ?_ (λs hs=>?_)
    .refine View.o1 7 [0,1,2,3,4,5,6] [] ?_
     .exact .au
    clear zx pP;obtain⟨j,M⟩:=s;obtain⟨hj,zx⟩:=hs;have hj:j<=l.length:=hj;have zx:Pt l M (λt o=>if t<j then jw i (cC b l i t o)else cC b l i t o):=zx
    have hMl:=zx.1;refine aN (λnu=>?_) (λnu=>?_)
    .have d9:j<L.length:=wT nu;have Js:j<l.length:=om;obtain⟨hM,U1⟩:=zx.at Js;simp only[Nat.lt_irrefl,if_false]at U1;have jo:=λx=>zx.set (j:=j) (x:=x) (g:=λt o=>if t<j+1 then jw i (cC b l i t o)else cC b l i t o)
     have rJ:=λ(hh:jw i M[j]=M[j])=>zx.congr (g:=λt o=>if t<j+1 then jw i (cC b l i t o)else cC b l i t o) λt o ho=>by
      by_cases La:t=j
      .subst La;rw[vl Js]at ho;cases ho;simp only[Nat.lt_irrefl,if_false,acf,if_true];rw[<-U1,hh]
      .have e1:(t<j+1)↔(t<j):=om;simp only[e1]
     refine af (zw hM) ?_;refine af (bJ Obj.enc M hM) ?_;have V1:=bJ Obj.enc M hM;generalize hx:M[j]=x at U1 rJ V1;refine bs (λh4=>?_) (λh4=>?_)
     .have h4:x.ag=4:=h4;refine af (zw hM) ?_;refine af V1 ?_;refine bs (λh5=>?_) (λh5=>?_)
      .have h5:x.bq=(i:Int):=h5;refine af (zw hM) ?_;refine af V1 ?_;have hs:=jo {x with bq:= -1} (λo ho=>by
        rw[vl Js]at ho;cases ho;simp only[acf,if_true];rw[<-U1];simp[jw,h4,h5]) (λt o La _=>by
        have e1:(t<j+1)↔(t<j):=om;simp only[e1])
       refine⟨⟨j+1,M.set j {x with bq:= -1}⟩,⟨Js,hs⟩,(show l.length-(j+1)<l.length-j by omega),View.o2 7 [0,1,2,3,4,5,6] [] ?_⟩
       .exact(.pe rfl rfl rfl (.pt rfl rfl (.bI (nJ Obj.enc M j {x with bq:= -1})) (.pr rfl rfl rfl (.pr rfl rfl rfl (.pe rfl rfl rfl (.pr rfl rfl rfl (.pn rfl rfl rfl)))))))
      .have h5:x.bq≠(i:Int):=h5;refine⟨⟨j+1,M⟩,⟨Js,rJ (by simp[jw,h5])⟩,(show l.length-(j+1)<l.length-j by omega),View.o2 7 [0,1,2,3,4,5,6] [] ?_⟩
       .exact .au
     .have h4:x.ag≠4:=h4;refine⟨⟨j+1,M⟩,⟨Js,rJ (by simp[jw,h4])⟩,(show l.length-(j+1)<l.length-j by omega),View.o2 7 [0,1,2,3,4,5,6] [] ?_⟩
      .exact .au
    .have Ei:L.length<=j:=wU nu;have hM:i<M.length:=om;refine af (zw hM) ?_;refine af (bJ Obj.enc M hM) ?_;have hs:=zx.set (j:=i) (x:=gV) (g:=cC b l (i+1)) (λo _=>C4 hd o) (λt o Mw ht=>by
      have:t<j:=by have:=(JJ.1 ht).1;omega
      rw[if_pos this,Fm hd Mw])
     refine⟨⟨i+1,M.set i gV⟩,⟨aD,hs⟩,(show l.length-(i+1)<l.length-i by omega),View.o2 7 [0,1,2,3,4,5,6] [] ?_⟩
     .exact(.pe rfl rfl rfl (.pt rfl rfl (aak M i) (.pr rfl rfl rfl (.pr rfl rfl rfl (.pe rfl rfl rfl (.pr rfl rfl rfl (.pn rfl rfl rfl)))))))
 .have h9:l.length<=i:=wU h;have lT:i=l.length:=om;subst lT;have hLl:=zx.1;refine ba (λ(s:aal)=>s.i<=ops.length/\Pt ops s.L (B3 b s.i)) [0,3,87] (λs=>[(88,an .i64 (s.i:Nat))]) (λs=>[.var [.row 1 9 0 none,.row 2 2 0 none,.row 3 4 0 none],.row 9 (aa (L.map Obj.enc)),.row 2 (aa (s.L.map bF.enc)),.row 4 (aa (ps.map bm.enc)),.var [.ptr 0 0,.row 5 1 0 none,.row 6 1 0 none],.row 1 (aa (b.O.map bE)),.row 1 (aa (b.P.map bE))]) (λs=>ops.length-s.i) ⟨0,ops⟩ ⟨aan _,(Pt.refl ops).congr λt o _=>by simp[B3]⟩ ?_ (λs hs=>?_)
  .refine View.o1 7 [0,1,2,3,4,5,6] [] ?_
   .exact .au
  obtain⟨k,L2⟩:=s;obtain⟨hk,B4⟩:=hs;have hk:k<=ops.length:=hk;have B4:Pt ops L2 (B3 b k):=B4;have aew:=B4.1;refine aN (λh=>?_) (λh=>?_)
  .have Mp:k<ops.length:=wT h;have YA:k<b.P.length:=om;refine af (zt YA) ?_;refine af (tK YA) ?_;have jX:∀t,t≠k->decide (t<k+1)=decide (t<k):=λt ht=>decide_eq_decide.2 om
   refine aM (λh2=>?_) (λh2=>?_)
   .have h2:b.P[k]=false:=by simpa using h2
    have hL2:k<L2.length:=om;refine af (A2 hL2) ?_;refine af (bJ bF.enc L2 hL2) ?_;have hs:=B4.set (j:=k) (x:=⟨-1,0⟩) (g:=B3 b (k+1)) (λo _=>by simp[B3,vl YA,h2]) (λt o R3 _=>by unfold B3;rw[jX t R3])
    refine⟨⟨k+1,L2.set k ⟨-1,0⟩⟩,⟨Mp,hs⟩,(show ops.length-(k+1)<ops.length-k by omega),View.o2 7 [0,1,2,3,4,5,6] [] ?_⟩
    .exact(.pe rfl rfl rfl (.pr rfl rfl rfl (.pt rfl rfl (.bI (nJ bF.enc L2 k ⟨-1,0⟩)) (.pr rfl rfl rfl (.pe rfl rfl rfl (.pr rfl rfl rfl (.pn rfl rfl rfl)))))))
   .have h2:b.P[k]=true:=by simpa using h2
    have hs:=B4.congr (g:=B3 b (k+1)) λt o _=>by
     by_cases R3:t=k
     .subst R3;simp[B3,vl YA,h2]
     .unfold B3;rw[jX t R3]
    refine⟨⟨k+1,L2⟩,⟨Mp,hs⟩,(show ops.length-(k+1)<ops.length-k by omega),View.o2 7 [0,1,2,3,4,5,6] [] ?_⟩
    .exact .au
  .have h9:ops.length<=k:=wU h;have AZ:k=ops.length:=om;subst AZ;refine ba (λ(s:St3)=>s.i<=ps.length/\Pt ps s.L (yg L s.i)/\s.en=jh L ps s.i) [0,3,111] (λs=>[(112,an .i64 (s.i:Nat)),(7,aE s.en)]) (λs=>[.var [.row 1 9 0 none,.row 2 2 0 none,.row 3 4 0 none],.row 9 (aa (L.map Obj.enc)),.row 2 (aa (L2.map bF.enc)),.row 4 (aa (s.L.map bm.enc)),.var [.ptr 0 0,.row 5 1 0 none,.row 6 1 0 none],.row 1 (aa (b.O.map bE)),.row 1 (aa (b.P.map bE))]) (λs=>ps.length-s.i) ⟨0,ps,false⟩ ⟨aan _,(Pt.refl ps).congr λt o _=>by simp[yg],rfl⟩ ?_ (λs hs=>?_)
   .refine View.o1 7 [0,1,2,3,4,5,6] [] ?_
    .exact .au
   obtain⟨p,L3,en⟩:=s;obtain⟨hp,TD,p7⟩:=hs;have hp:p<=ps.length:=hp;have TD:Pt ps L3 (yg L p):=TD;have p7:en=jh L ps p:=p7;have aex:=TD.1;refine aN (λh=>?_) (λh=>?_)
   .have i7:p<ps.length:=wT h;obtain⟨YB,Qa⟩:=TD.at i7;have Qa:L3[p]=ps[p]:=by rw[Qa];simp[yg]
    have jX:∀t,t≠p->decide (t<p+1)=decide (t<p):=λt ht=>decide_eq_decide.2 om
    have WV:=Fo (L:=L) i7;have p8:iE L p ps[p]=false->Pt ps L3 (yg L (p+1))/\en=jh L ps (p+1):=λhf=>⟨TD.congr λt o A0=>by
     by_cases Qb:t=p
     .subst Qb;rw[vl i7]at A0;cases A0;simp[yg,hf]
     .unfold yg;rw[jX t Qb],by rw[WV,hf,p7];simp⟩
    refine Fp L L2 L3 b p om ?_;refine aN (λyE=>?_) (λyE=>?_)
    .have yE:0<p:=by have h:(p:Int)>0:=yE;omega
     refine af (ml YB) ?_;refine af (bJ bm.enc L3 YB) ?_;refine aM (λb9=>?_) (λb9=>?_)
     .refine aM (λEg=>?_) (λEg=>?_)
      .refine af (ml YB) ?_;refine af (bJ bm.enc L3 YB) ?_;refine⟨trivial,?_⟩;have he:iE L p ps[p]=true:=by rw[Qa]at b9;unfold iE;rw[b9,Eg];simp[yE]
       have hs:=TD.set (j:=p) (x:=gk) (g:=yg L (p+1)) (λo A0=>by rw[vl i7]at A0;cases A0;simp[yg,he]) (λt o Qb _=>by unfold yg;rw[jX t Qb])
       refine⟨⟨p+1,L3.set p gk,true⟩,⟨i7,hs,(by rw[WV,he];simp)⟩,(show ps.length-(p+1)<ps.length-p by omega),View.o2 8 [0,1,2,3,4,5,6] [] ?_⟩
       .exact(.pe rfl rfl rfl (.pr rfl rfl rfl (.pr rfl rfl rfl (.pt rfl rfl (R2 L3 p) (.pe rfl rfl rfl (.pr rfl rfl rfl (.pn rfl rfl rfl)))))))
      .skip
       refine⟨⟨p+1,L3,en⟩,⟨i7,(p8 (by unfold iE;rw[Eg];simp)).1,(p8 (by unfold iE;rw[Eg];simp)).2⟩,(show ps.length-(p+1)<ps.length-p by omega),View.o2 8 [0,1,2,3,4,5,6] [] ?_⟩
       .exact .au
     .rw[Qa]at b9;refine⟨⟨p+1,L3,en⟩,⟨i7,(p8 (by unfold iE;rw[b9];simp)).1,(p8 (by unfold iE;rw[b9];simp)).2⟩,(show ps.length-(p+1)<ps.length-p by omega),View.o2 8 [0,1,2,3,4,5,6] [] ?_⟩
      .exact .au
    .have yE:p=0:=by have h:¬(p:Int)>0:=yE;omega
     refine⟨⟨p+1,L3,en⟩,⟨i7,(p8 (by simp[iE,yE])).1,(p8 (by simp[iE,yE])).2⟩,(show ps.length-(p+1)<ps.length-p by omega),View.o2 8 [0,1,2,3,4,5,6] [] ?_⟩
     .exact .au
   .have h9:ps.length<=p:=wU h;have yn:p=ps.length:=om;subst yn;refine⟨aE en,_,View.o 7 [0,1,2,3] [] (.eq rfl .nil) (.pe rfl rfl rfl (.pr rfl rfl rfl (.pr rfl rfl rfl (.pn rfl rfl rfl)))),L,L2,L3,en,⟨⟨b,hb,zx,B4⟩,TD,p7⟩,rfl,rfl⟩
theorem Qc(l:List Obj)(ops:List bF)(ps:List bm)(g:∀o,o∈l->o.sm)(hl:l.length<=4194304)(ho:ops.length<=4194304)(i3:ps.length<=4194304)(pQ:∀p,p∈ps->p.aU.length<=10):
  ap prog 79 [.rv (.one (.ptr 0 0))] [.var [.row 1 9 0 none,.row 2 2 0 none,.row 3 4 0 none],.row 9 (aa (l.map Obj.enc)),.row 2 (aa (ops.map bF.enc)),.row 4 (aa (ps.map bm.enc))]
   (λr m=>∃L L2 L3 en,cV l ops ps L L2 L3 en/\r=aE en/\m=[.var [.row 1 9 0 none,.row 2 2 0 none,.row 3 4 0 none],.row 9 (aa (L.map Obj.enc)),.row 2 (aa (L2.map bF.enc)),.row 4 (aa (L3.map bm.enc))]):=
 bH (aZ func79 l79 (Jr l ops ps g hl ho i3 pQ)) λr m1 h=>h
structure dI(l:List Obj)(ops:List bF)(ps:List bm):Prop where
 sm:∀o,o∈l->o.sm
 ll:l.length<=4194304
 lo:ops.length<=4194304
 lp:ps.length<=4194304
 sl:∀p,p∈ps->p.aU.length<=10
 ne:ps≠[]
theorem MX:gV.sm:=⟨⟨⟨[],rfl⟩,⟨[],rfl⟩,λq hq=>by simp[gV]at hq⟩,by simp[gV],by simp[gV],by simp[gV],λq hq=>by simp[gV]at hq⟩
theorem Pt.all{α:Type}{l L:List α}{f:Nat->α->α}(h:Pt l L f){Q:α->Prop}(hf:∀(t:Nat)o,l[t]? =some o->Q (f t o)):∀x,x∈L->Q x:=by
 intro x hx;obtain⟨t,ht⟩:=X1 hx;have aD:t<l.length:=by have:=(JJ.1 ht).1;rw[h.1]at this;exact this
 have:=h.2 t l[t] (vl aD);rw[ht]at this;cases this;exact hf t _ (vl aD)
theorem cV.kr{l:List Obj}{ops:List bF}{ps:List bm}{L:List Obj}{L2:List bF}{L3:List bm}{en:Bool}(h:cV l ops ps L L2 L3 en)(k:dI l ops ps):dI L L2 L3:=by
 obtain⟨b,hb,hP,B4⟩:=h.ex;refine⟨hP.all λt o ho=>?_,by rw[hP.1];exact k.ll,by rw[B4.1];exact k.lo,by rw[h.pr.1];exact k.lp,h.pr.all (Q:=λp=>p.aU.length<=10) λt o ho=>?_,λe=>k.ne (aai (by rw[<-h.pr.1,e];rfl))⟩
 .have hs:=k.sm o (Sj ho);unfold cC;split
  .exact MX
  .split
   .exact⟨⟨hs.t.1,hs.t.2.1,hs.t.2.2⟩,hs.d,hs.e,hs.q,hs.qd⟩
   .exact hs
 .unfold yg;split
  .simp[gk]
  .exact k.sl o (Sj ho)
def k9(ps:List bm):Nat:=(ps.filter λp=>p.aP).length
theorem C7:∀(a b:List bm),b.length=a.length->(∀(t:Nat)x y,a[t]? =some x->b[t]? =some y->y.aP=true->x.aP=true)->k9 b<=k9 a/\((∃(t:Nat)(x y:bm),a[t]? =some x/\b[t]? =some y/\x.aP=true/\y.aP=false)->k9 b<k9 a)
 | [],[],_,_=>⟨T5 _,λ⟨t,x,y,h,_⟩=>by simp at h⟩
 | [],_::_,h,_=>by simp at h
 |_::_,[],h,_=>by simp at h
 |x::a,y::b,h,hm=>by
  obtain⟨ih1,ih2⟩:=C7 a b (by simpa using h) (λt u v hu hv=>hm (t+1) u v (by simpa using hu) (by simpa using hv))
  have h0:=hm 0 x y aC aC;refine⟨?_,λ⟨t,u,v,hu,hv,hul,yr⟩=>?_⟩
  .unfold k9 at ih1|-;cases hx:x.aP<;>cases hy:y.aP<;>simp[hx,hy]at h0|-<;>omega
  .cases t with
   |zero=>
    simp at hu hv;subst hu hv;unfold k9 at ih1|-;simp[hul,yr];omega
   |succ t=>
    have:=ih2 ⟨t,u,v,by simpa using hu,by simpa using hv,hul,yr⟩
    unfold k9 at this|-;cases hx:x.aP<;>cases hy:y.aP<;>simp[hx,hy]at h0|-<;>omega
theorem cV.k9{l:List Obj}{ops:List bF}{ps:List bm}{L:List Obj}{L2:List bF}{L3:List bm}(h:cV l ops ps L L2 L3 true):k9 L3<Go.Proofs.YtodckkkbiidffaaGreatDoor.k9 ps:=by
 have p7:=h.en;unfold jh at p7;have p7:=p7.symm;rw[aaT]at p7;obtain⟨t,ht,A3⟩:=p7;have Hi:t<ps.length:=by simpa using ht
 rw[vl Hi]at A3;have A3:iE L t ps[t]=true:=A3;refine(C7 ps L3 h.pr.1 (λi x y hx hy hl=>?_)).2 ⟨t,ps[t],gk,vl Hi,?_,?_,rfl⟩
 .have:=h.pr.2 i x hx;rw[hy]at this;cases this;unfold yg at hl;split at hl
  .simp[gk]at hl
  .exact hl
 .have:=h.pr.2 t _ (vl Hi);rw[this];simp[yg,A3,Hi]
 .unfold iE at A3;simp at A3;exact A3.2.1
structure Kr where
 l:List Obj
 ops:List bF
 ps:List bm
inductive iF(k:Kr):Kr->Prop
 |refl:iF k k
 |step {a b:Kr} (h:iF k a) (ho:cV a.l a.ops a.ps b.l b.ops b.ps true):iF k b
theorem MY{Y:Nat->Nat}{m:Mem}{Z:Nat->Prop}{p:Option Nat}{a b:Dt}(h:a=b):s9 Y m Z p (.ah a) (.ah b):=h▸ .bg (.ah a)
theorem Fq(a:Kr)(ha:dI a.l a.ops a.ps){K:CV->Mem->Prop}(x0:Bk)(h:∀(c:Kr)en,cV a.l a.ops a.ps c.l c.ops c.ps en->K (aE en) [x0,.var z3,.var [.row 3 9 0 none,.row 4 2 0 none,.row 5 4 0 none],.row 9 (aa (c.l.map Obj.enc)),.row 2 (aa (c.ops.map bF.enc)),.row 4 (aa (c.ps.map bm.enc))]):
  ap prog 79 [.rv (.one (.ptr 2 0))] [x0,.var z3,.var [.row 3 9 0 none,.row 4 2 0 none,.row 5 4 0 none],.row 9 (aa (a.l.map Obj.enc)),.row 2 (aa (a.ops.map bF.enc)),.row 4 (aa (a.ps.map bm.enc))] K:=by
 refine bu [2,3,4,5] 6 rfl rfl rfl rfl (args0:=[.rv (.one (.ptr 0 0))]) rfl (λi b' hi=>?_) (Qc a.l a.ops a.ps ha.sm ha.ll ha.lo ha.lp ha.sl) (λr m1 hr=>?_)
 .match i,hi with
  |0,hi=>cases hi;exact .inr ⟨λh=>h,_,rfl,.eq rfl aC⟩
  |1,hi=>cases hi;exact .inr ⟨λh=>h,_,rfl,.bI rfl⟩
  |2,hi=>cases hi;exact .inr ⟨λh=>h,_,rfl,.bI rfl⟩
  |3,hi=>cases hi;exact .inr ⟨λh=>h,_,rfl,.bI rfl⟩
  |n+4,hi=>simp at hi
 .obtain⟨L,L2,L3,en,ho,rfl,rfl⟩:=hr;refine⟨T5 _,?_⟩;have e:∀(s:Nat)(ds:List (List Dt)),(Bk.row s (aa ds)).bg (sg [2,3,4,5] 6)= .row s (aa ds):=λs ds=>by simp only[Bk.bg,dA]
  show K _ [x0,.var z3,.var [.row 3 9 0 none,.row 4 2 0 none,.row 5 4 0 none],(Bk.row 9 (aa (L.map Obj.enc))).bg (sg [2,3,4,5] 6),(Bk.row 2 (aa (L2.map bF.enc))).bg (sg [2,3,4,5] 6),(Bk.row 4 (aa (L3.map bm.enc))).bg (sg [2,3,4,5] 6)];rw[e,e,e];exact h ⟨L,L2,L3⟩ en ho
def c82:LF:= ⟨16,[.tmp 3],(.seq (.ai [qu 2 (.box 0),qu 3 (.aI (qb false))]) (.seq (.ai [qf 4 0 2,ql 5 4,qu 6 (.aJ .eql 5 (qi 5)),qm 7 6,qg 8 (.bU 6 2) 7 true,qg 9 (.load false 1 8) 7 true,qg 10 (.bU 2 1) 7 true,qg 11 (.load false 1 10) 7 true,qg 12 (.len 1 11) 7 true,qg 13 (.aJ .sub 12 (qi 1)) 7 true,qg 14 (.aJ .eql 9 13) 7 true,qu 15 (.pick 7 14 (qb false)),qm 3 15]) .ret))⟩
theorem l82:bw prog f82=some c82:=by kernel_rfl
theorem Fr(l:List Obj)(hb:l.length<=4194304)(F:Nat)(cs:List Dt)(q:Obj->Bool)(hF:∀s,∀K:CV->Mem->Prop,K (aE (q s)) [.var (cs.map .ah)]->ap prog F [s.cv,.rv (.one (.ptr 0 0))] [.var (cs.map .ah)] K):
  body prog c121 [cA l,.rv (.one (.fn F [0]))] [.var (cs.map .ah)] (λr m=>r=an .i64 (ol q l)/\m=[.var (cs.map .ah)]):=by
 refine ba (λk=>k<=l.length/\∀(j:Nat)s,j<k->l[j]? =some s->q s=false) [0,1,7] (λk=>[(8,an .i64 (k:Nat))]) (λ_=>[.var (cs.map .ah)]) (λk=>l.length-k) 0 ⟨aan _,λj s h=>absurd h (aaR j)⟩ ?_ (λk hk=>?_)
 .refine View.o1 1 [0] [] ?_
  .exact .pt rfl rfl (.l5 rfl) (.nil _)
 .refine aN (λh=>?_) (λh=>?_)
  .have aD:k<l.length:=by have h:(k:Int)<((l.map Obj.enc).length:Int):=h;rw[Nr]at h;omega
   refine af (AV aD) ?_;have hi:=vl aD;have WU:=k7 (q:=q) aD;generalize l[k]=o at hi WU;refine hF o _ ?_;refine aM (λHF=>?_) (λHF=>?_)
   .rw[WU HF hk.2];exact⟨rfl,rfl⟩
   .refine⟨k+1,⟨aD,λj s hj hs=>?_⟩,(show l.length-(k+1)<l.length-k by omega),View.o 1 [0] [] ?_ ?_⟩
    .rcases aaf j k with h5|h5
     .exact hk.2 j s h5 hs
     .have:j=k:=om;subst this;rw[hi]at hs;cases hs;exact HF
    .repeat(first|exact .nil|refine .aF ?_|refine .put (.bg (cP om).symm) ?_|refine .eq rfl ?_)
    .exact .pt rfl rfl (.l5 rfl) (.nil _)
  .have ek:¬(k:Int)<((l.map Obj.enc).length:Int):=h;rw[Nr]at ek;rw[mY λj s hs=>hk.2 j s (by have:=(JJ.1 hs).1;omega) hs]
   exact⟨rfl,rfl⟩
theorem C8(l:List Obj)(hb:l.length<=4194304)(F:Nat)(cs:List Dt)(q:Obj->Bool)(hF:∀s,∀K:CV->Mem->Prop,K (aE (q s)) [.var (cs.map .ah)]->ap prog F [s.cv,.rv (.one (.ptr 0 0))] [.var (cs.map .ah)] K):
  body prog c80 [cA l,.rv (.one (.fn F [0]))] [.var (cs.map .ah)] (λr m=>r=aE (l.any q)/\m=[.var (cs.map .ah)]):=by
 refine(aZ func121 l121 (Fr l hb F cs q hF)).mono λr m⟨hr,hm⟩=>?_
 subst hr hm;refine⟨?_,rfl⟩;show aE _=aE _;rw[<-r9]
theorem tM(l:List Obj)(hb:l.length<=4194304)(F:Nat)(cs:List Dt)(q:Obj->Bool)(hF:∀s,∀K:CV->Mem->Prop,K (aE (q s)) [.var (cs.map .ah)]->ap prog F [s.cv,.rv (.one (.ptr 0 0))] [.var (cs.map .ah)] K)(K:CV->Mem->Prop)(h:K (aE (l.any q)) [.var (cs.map .ah)]):
  ap prog 80 [cA l,.rv (.one (.fn F [0]))] [.var (cs.map .ah)] K:=
 (aZ func80 l80 (C8 l hb F cs q hF)).mono λr m⟨hr,hm⟩=>by subst hr hm;exact h
def c41:LF:= ⟨120,[.cell true 3 2],(.seq (.ai [qu 1 (.box 0),qu 2 (.alloc [.aK,.aK,.aK])]) (.seq (.ai [qL 6 3 1,qu 7 (qc 59 [6]),qu 3 (.alloc [.aK,.aK,.aK]),qw (.store 3 3 7)]) (.seq (.block 0 (.loop (.seq (.seq (.ai [qu 8 (qc 79 [3])]) (.cond 8 .skip (.exit 0))) (.block 1 .skip)))) (.seq (.block 2 (.loop (.seq (.seq (.ai [qf 9 0 3,ql 10 9,qu 11 (.len 1 10),qu 12 (.aJ .gtr 11 (qi 1)),qm 13 12,qg 14 (.bU 0 3) 13 true,qg 15 (.load false 1 14) 13 true,qg 16 (.bU 0 3) 13 true,qg 17 (.load false 1 16) 13 true,qg 18 (.len 1 17) 13 true,qg 19 (.aJ .sub 18 (qi 1)) 13 true,qg 20 (.cr 9 15 19) 13 true,qg 21 (.bU 0 20) 13 true,qg 22 (.load false 1 21) 13 true,qg 23 (.aJ .eql 22 (qi 0)) 13 true,qu 24 (.pick 13 23 (qb false))]) (.cond 24 .skip (.exit 2))) (.block 3 (.ai [qf 25 0 3,ql 26 25,qf 27 0 3,ql 28 27,qu 29 (.len 1 28),qu 30 (.aJ .sub 29 (qi 1)),qu 31 (.nT 9 26 none (some 30) none),qf 32 0 3,qw (.store 1 32 31)]))))) (.cU (.seq (.block 4 (.loop (.seq (.seq (.ai [qf 33 1 3,ql 34 33,qu 35 (.len 1 34),qu 36 (.aJ .gtr 35 (qi 0)),qm 37 36,qg 38 (.bU 1 3) 37 true,qg 39 (.load false 1 38) 37 true,qg 40 (.bU 1 3) 37 true,qg 41 (.load false 1 40) 37 true,qg 42 (.len 1 41) 37 true,qg 43 (.aJ .sub 42 (qi 1)) 37 true,qg 44 (.cr 2 39 43) 37 true,qg 45 (.bU 0 44) 37 true,qg 46 (.load false 1 45) 37 true,qg 47 (.aJ .lss 46 (qi 0)) 37 true,qu 48 (.pick 37 47 (qb false))]) (.cond 48 .skip (.exit 4))) (.block 5 (.ai [qf 49 1 3,ql 50 49,qf 51 1 3,ql 52 51,qu 53 (.len 1 52),qu 54 (.aJ .sub 53 (qi 1)),qu 55 (.nT 2 50 none (some 54) none),qf 56 1 3,qw (.store 1 56 55)]))))) (.seq (.cU (.seq (.ai [qf 57 2 3,ql 58 57,qu 59 (.len 1 58),qu 60 (.aI (qi 0))]) (.block 6 (.loop (.seq (.ai [qu 61 (.aJ .lss 60 59)]) (.seq (.cond 61 .skip (.exit 6)) (.seq (.block 7 (.seq (.ai [qm 62 60,qu 4 (.alloc [qd 0]),qw (.store 1 4 62)]) (.seq (.ai [qf 63 0 3,ql 64 63,qu 65 (.fn 81 [4]),qu 66 (qc 80 [64,65]),qm 5 66]) (.seq (.ai [ql 67 4,qu 68 (.aJ .gtr 67 (qi 0)),qm 69 68,qg 70 (.bU 2 3) 69 true,qg 71 (.load false 1 70) 69 true,qg 72 (.load false 1 4) 69 true,qg 73 (.cr 4 71 72) 69 true,qg 74 (.bU 0 73) 69 true,qg 75 (.load false 1 74) 69 true,qg 76 (.un .not 75) 69 true,qu 77 (.pick 69 76 (qb false)),qm 78 77,qg 79 (.aI 5) 78 true,qg 80 (.un .not 79) 78 true,qu 81 (.pick 78 80 (qb false))]) (.cond 81 (.ai [qf 82 2 3,ql 83 82,ql 84 4,qu 85 (.build [(.ah (.val (.bool false))),(.ah (.val (.bool false))),qd 0,.aK] []),qu 86 (.cr 4 83 84),qw (.store 4 86 85)]) .skip))))) (.ai [qu 87 (.aJ .add 60 (qi 1)),qm 60 87])))))))) (.cU (.seq (.block 8 (.loop (.seq (.seq (.ai [qf 88 2 3,ql 89 88,qu 90 (.len 1 89),qu 91 (.aJ .gtr 90 (qi 1)),qm 92 91,qg 93 (.bU 2 3) 92 true,qg 94 (.load false 1 93) 92 true,qg 95 (.bU 2 3) 92 true,qg 96 (.load false 1 95) 92 true,qg 97 (.len 1 96) 92 true,qg 98 (.aJ .sub 97 (qi 1)) 92 true,qg 99 (.cr 4 94 98) 92 true,qg 100 (.bU 0 99) 92 true,qg 101 (.load false 1 100) 92 true,qg 102 (.un .not 101) 92 true,qu 103 (.pick 92 102 (qb false)),qm 104 103,qg 105 (.bU 0 3) 104 true,qg 106 (.load false 1 105) 104 true,qg 107 (.fn 82 [3]) 104 true,qg 108 (qc 80 [106,107]) 104 true,qg 109 (.un .not 108) 104 true,qu 110 (.pick 104 109 (qb false))]) (.cond 110 .skip (.exit 8))) (.block 9 (.ai [qf 111 2 3,ql 112 111,qf 113 2 3,ql 114 113,qu 115 (.len 1 114),qu 116 (.aJ .sub 115 (qi 1)),qu 117 (.nT 4 112 none (some 116) none),qf 118 2 3,qw (.store 1 118 117)]))))) (.seq (.ai [qL 119 3 3,qw (.store 3 2 119)]) .ret))))))))))⟩
theorem l41:bw prog f41=some c41.er:=by kernel_rfl
theorem C9(o:Obj)(a c:Dt)(ps:List bm):body prog c82 [o.cv,.rv (.one (.ptr 0 0))] [.var ([a,c,gl ps].map .ah)] (λr m=>r=aE (dF (IntKind.i64.wrap (((ps.map bm.enc).length:Int)-1)) o)/\∃ex,m= .var ([a,c,gl ps].map .ah)::ex):=by
 refine aM (λh=>?_) (λh=>?_)
 .refine⟨?_,_,rfl⟩;show aE _=aE _;rw[dF,h];rfl
 .refine⟨?_,_,rfl⟩;show aE _=aE _;rw[dF,h];rfl
theorem TE(o:Obj)(a c:Dt)(ps:List bm)(K:CV->Mem->Prop)(h:K (aE (dF (IntKind.i64.wrap (((ps.map bm.enc).length:Int)-1)) o)) [.var ([a,c,gl ps].map .ah)]):ap prog 82 [o.cv,.rv (.one (.ptr 0 0))] [.var ([a,c,gl ps].map .ah)] K:=
 eQ rfl (aZ func82 l82 (C9 o a c ps)) h
structure Da{α:Type}(q:Nat->α->Bool)(mn:Nat)(L:List α)(n:Nat):Prop where
 le:n<=L.length
 mn:min mn L.length<=n
 dr:∀(t:Nat)o,n<=t->L[t]? =some o->q t o=true
structure pR{α:Type}(q:Nat->α->Bool)(mn:Nat)(L:List α)(n:Nat):Prop where
 t:Da q mn L n
 e:n<=mn\/∃o,L[n-1]? =some o/\q (n-1) o=false
theorem Da.start{α:Type}(q:Nat->α->Bool)(mn:Nat)(L:List α):Da q mn L L.length:=
 ⟨T5 _,Nat.min_le_right _ _,λt o h ho=>by have:=(JJ.1 ho).1;omega⟩
theorem Da.step{α:Type}{q:Nat->α->Bool}{mn:Nat}{L:List α}{n:Nat}(h:Da q mn L n)(hn:mn<n)(hl:n-1<L.length)(hq:q (n-1) L[n-1]=true):Da q mn L (n-1):=
 ⟨om,om,λt o ht ho=>by
  rcases aaf t n with h1|h1
  .have:t=n-1:=om;subst this;rw[vl hl]at ho;cases ho;exact hq
  .exact h.dr t o h1 ho⟩
theorem gW{α:Type}{L:List α}{n:Nat}(h:n<=L.length):(L.take n).length=n:=by rw[aav];omega
theorem wV{α:Type}(f:α->List Dt)(L:List α){n:Nat}(h:n<=L.length):(((L.take n).map f).take (n-1)).drop 0=(L.take (n-1)).map f:=by rw[acU,<-acx,List.take_take,acP om]
theorem wW{α:Type}(f:α->List Dt)(L:List α){n:Nat}(h1:0<n)(h:n<=L.length):dC ((L.take n).map f) ((n-1:Nat):Int)=some (f (L[n-1]'(by omega))):=by rw[bD,Sf,ab7 om,vl om];rfl
def qO(_:Nat)(o:Obj):Bool:=o.ag==0
def qP(_:Nat)(o:bF):Bool:=decide (o.bo<0)
def qZ(O:List Obj)(t:Nat)(o:bm):Bool:=decide (0<t)&&(!o.aP&& !(O.any (dF (t:Int))))
def tc(O:List Obj)(k:Nat)(t:Nat)(o:bm):bm:=if(decide (t<k)&&qZ O t o)=true then gk else o
def qR(O:List Obj)(t:Nat)(o:bm):Bool:= !o.aP&& !(O.any (dF (t:Int)))
structure gG(c:Kr)(d:Kr):Prop where
 ex:∃(n1 n2 n3:Nat)(P:List bm),pR qO 1 c.l n1/\pR qP 0 c.ops n2/\Pt c.ps P (tc (c.l.take n1) c.ps.length)/\pR (qR (c.l.take n1)) 1 P n3/\d=⟨c.l.take n1,c.ops.take n2,P.take n3⟩
def KS(k:Kr)(r:CV)(m:Mem):Prop:=∃a c d,iF k a/\cV a.l a.ops a.ps c.l c.ops c.ps false/\gG c d/\cL m r (ez d.l d.ops d.ps)
def EKs(k:Kr):Ex->St->Prop:=oC prog c41.lP (KS k)
def T4:LC:=qM (bL (bL (bL (bL c41.code))))
def T57:LC:=qM (WL (bL T4))
def R8:LC:=bL (bL T4)
def E60:List CV:=kz 120 [(2,.rv (.one (.ptr 1 0))),(3,.rv (.one (.ptr 2 0)))]
theorem aao(m:Mem)(d:Kr):cL m (.rv (.agg [.ah (dk d.l),.ah (eX d.ops),.ah (gl d.ps)])) (ez d.l d.ops d.ps):=cL.self rfl
theorem aap(k a c:Kr)(ha:iF k a)(hc:cV a.l a.ops a.ps c.l c.ops c.ps false)(hk:dI c.l c.ops c.ps)(n1 n2:Nat)(h1:pR qO 1 c.l n1)(h2:pR qP 0 c.ops n2)(P:List bm)(O:List Obj)(hO:O=c.l.take n1)(hP:Pt c.ps P (tc (c.l.take n1) c.ps.length)):aw prog 0 (qM R8) (EKs k) ⟨E60,[.aR,.var z3,.var [.ah (dk O),.ah (eX (c.ops.take n2)),.ah (gl P)]]⟩:=by
 have YC:P.length<=4194304:=by rw[hP.1];exact hk.lp
 have YD:O.length<=4194304:=by rw[hO,aav];have:=hk.ll;omega
 have TF:∀(n:Nat)(m:Mem),Da (qR O) 1 P n->(n<=1\/∃o,P[n-1]? =some o/\qR O (n-1) o=false)->KS k (.rv (.agg [.ah (dk O),.ah (eX (c.ops.take n2)),.ah (gl (P.take n))])) m:=λn m hn he=>
  ⟨a,c,⟨O,c.ops.take n2,P.take n⟩,ha,hc,⟨n1,n2,n,P,h1,h2,hP,by rw[<-hO];exact⟨hn,he⟩,by rw[hO]⟩,aao m ⟨O,c.ops.take n2,P.take n⟩⟩
 refine ba (λn=>Da (qR O) 1 P n) [2,3] (λ_=>[]) (λn=>[.aR,.var z3,.var [.ah (dk O),.ah (eX (c.ops.take n2)),.ah (gl (P.take n))]]) (λn=>n) P.length (.start _ _ _) ?_ (λn hn=>?_)
 .refine View.o1 3 [0,1,2] [] ?_
  .exact(.aR (.pe rfl rfl rfl (.pt rfl rfl (fh.var (.cons (.bg (.ah _)) (.cons (.bg (.ah _)) (.cons (MY (by rw[aaN])) .nil)))) (.nil _))))
 have hn:Da (qR O) 1 P n:=hn;have jY:=hn.le;refine aN (λh=>?_) (λh=>?_)
 .have qE:1<n:=by have h:(((P.take n).map bm.enc).length:Int)>1:=h;rw[Nr,gW jY]at h;omega
  have hz:IntKind.i64.wrap ((((P.take n).map bm.enc).length:Int)-1)=((n-1:Nat):Int):=by rw[Nr,gW jY,ip om om];omega
  have aD:n-1<P.length:=om;have hg:=wW bm.enc P om jY;rw[<-hz]at hg;have l8:=vl aD;have nX:=hn.step om aD;generalize P[n-1]=x at hg l8 nX;have hg:dC ((P.take n).map bm.enc) (IntKind.i64.wrap ((((P.take n).map bm.enc).length:Int)-1))=some [.val (.bool x.aP),.val (.bool x.fenced),.val (.int .i64 x.code),yC x.aU]:=hg;refine af hg ?_;refine aM (λb9=>?_) (λb9=>?_)
  .refine fo (args0:=[cA O,.rv (.one (.fn 82 [0]))]) (cs:=[dk O,eX (c.ops.take n2),gl (P.take n)]) 2 rfl rfl (r0:=aE (O.any (dF (IntKind.i64.wrap ((((P.take n).map bm.enc).length:Int)-1))))) rfl (λK hK=>tM O YD 82 _ _ (λs K hK=>TE s _ _ _ K hK) K hK) ?_
   rw[hz];refine aM (λEg=>?_) (λEg=>?_)
   .have hq:qR O (n-1) x=true:=by unfold qR;rw[b9,Eg];rfl
    refine af (x:=n-1) (by show qA (an .i64 (IntKind.i64.wrap ((((P.take n).map bm.enc).length:Int)-1)))=_;rw[hz];rfl) ?_
    refine cE (by simp[aaU];omega) ?_
    refine⟨n-1,nX hq,(show n-1<n by omega),View.o1 3 [0,1,2] [] ?_⟩
    .exact(.aR (.pe rfl rfl rfl (.pt rfl rfl (fh.var (.cons (.bg (.ah _)) (.cons (.bg (.ah _)) (.cons (MY (congrArg (Dt.sl 4) (wV bm.enc P jY))) .nil)))) (.nil _))))
   .have hq:qR O (n-1) x=false:=by unfold qR;rw[b9,Eg];rfl
    exact TF n _ hn (.inr ⟨x,l8,hq⟩)
  .have hq:qR O (n-1) x=false:=by unfold qR;rw[b9];rfl
   exact TF n _ hn (.inr ⟨x,l8,hq⟩)
 .have qE:n<=1:=by have h:¬(((P.take n).map bm.enc).length:Int)>1:=h;rw[Nr,gW jY]at h;omega
  exact TF n _ hn (.inl qE)
structure StZ where
 p:Nat
 P:List bm
theorem dI.aaq{l:List Obj}{ops:List bF}{ps:List bm}(h:dI l ops ps)(n:Nat):(l.take n).length<=4194304:=by rw[aav];have:=h.ll;omega
theorem R5(k a c:Kr)(ha:iF k a)(hc:cV a.l a.ops a.ps c.l c.ops c.ps false)(hk:dI c.l c.ops c.ps)(n1 n2:Nat)(h1:pR qO 1 c.l n1)(h2:pR qP 0 c.ops n2):
  aw prog 0 T57 (SM (aw prog 0 R8) (EKs k)) ⟨E60,[.aR,.var z3,.var [.ah (dk (c.l.take n1)),.ah (eX (c.ops.take n2)),.row 3 4 0 none],.row 4 (aa (c.ps.map bm.enc))]⟩:=by
 have i3:=hk.lp;have YD:=hk.aaq n1;generalize hO:c.l.take n1=O at YD;refine ba (λ(s:StZ)=>s.p<=c.ps.length/\Pt c.ps s.P (tc O s.p)) [2,3,59] (λs=>[(60,an .i64 (s.p:Nat))]) (λs=>[.aR,.var z3,.var [.ah (dk O),.ah (eX (c.ops.take n2)),.row 3 4 0 none],.row 4 (aa (s.P.map bm.enc))]) (λs=>c.ps.length-s.p) ⟨0,c.ps⟩ ⟨aan _,(Pt.refl c.ps).congr λt o _=>by simp[tc]⟩ ?_ (λs hs=>?_)
 .refine View.o1 4 [0,1,2,3] [] ?_
  .exact(.aR (.pe rfl rfl rfl (.pt rfl rfl (fh.var (.cons (.bg (.ah _)) (.cons (.bg (.ah _)) (.cons (.bg (.row 3 4 0 none)) .nil)))) (.pn rfl rfl rfl))))
 obtain⟨p,P⟩:=s;obtain⟨hp,hP⟩:=hs;have hp:p<=c.ps.length:=hp;have hP:Pt c.ps P (tc O p):=hP;have YC:=hP.1;refine aN (λh=>?_) (λh=>?_)
 .have i7:p<c.ps.length:=wT h;obtain⟨YE,R6⟩:=hP.at i7;have R6:P[p]=c.ps[p]:=by rw[R6];simp[tc]
  have jX:∀t,t≠p->decide (t<p+1)=decide (t<p):=λt ht=>decide_eq_decide.2 om
  have p8:qZ O p c.ps[p]=false->Pt c.ps P (tc O (p+1)):=λhf=>hP.congr λt o A0=>by
   by_cases Qb:t=p
   .subst Qb;rw[vl i7]at A0;cases A0;simp[tc,hf]
   .unfold tc;rw[jX t Qb]
  refine fo (args0:=[cA O,.rv (.one (.fn 81 [0]))]) (cs:=[.val (.int .i64 (p:Nat))]) 4 rfl rfl (r0:=aE (O.any (dF (p:Int)))) rfl (λK hK=>tM O YD 81 _ _ (λs K hK=>TB s _ K hK) K hK) ?_
  refine aN (λyE=>?_) (λyE=>?_)
  .have yE:0<p:=by have h:(p:Int)>0:=yE;omega
   refine af (ml YE) ?_;refine af (bJ bm.enc P YE) ?_;refine aM (λb9=>?_) (λb9=>?_)
   .rw[R6]at b9;refine aM (λEg=>?_) (λEg=>?_)
    .refine af (ml YE) ?_;refine af (bJ bm.enc P YE) ?_;have he:qZ O p c.ps[p]=true:=by unfold qZ;rw[b9,Eg];simp[yE]
     have hs:=hP.set (j:=p) (x:=gk) (g:=tc O (p+1)) (λo A0=>by rw[vl i7]at A0;cases A0;simp[tc,he]) (λt o Qb _=>by unfold tc;rw[jX t Qb])
     refine⟨⟨p+1,P.set p gk⟩,⟨i7,hs⟩,(show c.ps.length-(p+1)<c.ps.length-p by omega),View.o2 5 [0,1,2,3] [] ?_⟩
     .exact(.aR (.pe rfl rfl rfl (.pt rfl rfl (fh.var (.cons (.bg (.ah _)) (.cons (.bg (.ah _)) (.cons (.bg (.row 3 4 0 none)) .nil)))) (.pt rfl rfl (R2 P p) (.nil _)))))
    .skip
     refine⟨⟨p+1,P⟩,⟨i7,p8 (by unfold qZ;rw[Eg];simp)⟩,(show c.ps.length-(p+1)<c.ps.length-p by omega),View.o2 5 [0,1,2,3] [] ?_⟩
     .exact(.aR (.pe rfl rfl rfl (.pt rfl rfl (fh.var (.cons (.bg (.ah _)) (.cons (.bg (.ah _)) (.cons (.bg (.row 3 4 0 none)) .nil)))) (.pn rfl rfl rfl))))
   .rw[R6]at b9;refine⟨⟨p+1,P⟩,⟨i7,p8 (by unfold qZ;rw[b9];simp)⟩,(show c.ps.length-(p+1)<c.ps.length-p by omega),View.o2 5 [0,1,2,3] [] ?_⟩
    .exact(.aR (.pe rfl rfl rfl (.pt rfl rfl (fh.var (.cons (.bg (.ah _)) (.cons (.bg (.ah _)) (.cons (.bg (.row 3 4 0 none)) .nil)))) (.pn rfl rfl rfl))))
  .have yE:p=0:=by have h:¬(p:Int)>0:=yE;omega
   refine⟨⟨p+1,P⟩,⟨i7,p8 (by simp[qZ,yE])⟩,(show c.ps.length-(p+1)<c.ps.length-p by omega),View.o2 5 [0,1,2,3] [] ?_⟩
   .exact(.aR (.pe rfl rfl rfl (.pt rfl rfl (fh.var (.cons (.bg (.ah _)) (.cons (.bg (.ah _)) (.cons (.bg (.row 3 4 0 none)) .nil)))) (.pn rfl rfl rfl))))
 .have h9:c.ps.length<=p:=wU h;have yn:p=c.ps.length:=om;subst yn;rw[<-hO]at hP;refine gq [2,3] [] ([.aR,.var z3,.var [.ah (dk O),.ah (eX (c.ops.take n2)),.ah (gl P)]]) (View.o1 4 [0,1,2] [3] ?_) ?_
  .exact(.aR (.pe rfl rfl rfl (.pt rfl rfl (fh.var (.cons (.bg (.ah _)) (.cons (.bg (.ah _)) (.cons (.fE (dR.eW (Z:=λk=>bx [3] k=true) rfl rfl 0 none)) .nil)))) (.nil _))))
  exact aap k a c ha hc hk n1 n2 h1 h2 P O hO.symm hP
theorem R7(k a c:Kr)(ha:iF k a)(hc:cV a.l a.ops a.ps c.l c.ops c.ps false)(hk:dI c.l c.ops c.ps)(n1:Nat)(h1:pR qO 1 c.l n1):
  aw prog 0 T4 (EKs k) ⟨E60,[.aR,.var z3,.var [.ah (dk (c.l.take n1)),.ah (eX c.ops),.row 3 4 0 none],.row 4 (aa (c.ps.map bm.enc))]⟩:=by
 have ia:=hk.lo;refine ba (λn=>Da qP 0 c.ops n) [2,3] (λ_=>[]) (λn=>[.aR,.var z3,.var [.ah (dk (c.l.take n1)),.ah (eX (c.ops.take n)),.row 3 4 0 none],.row 4 (aa (c.ps.map bm.enc))]) (λn=>n) c.ops.length (.start _ _ _) ?_ (λn hn=>?_)
 .refine View.o1 4 [0,1,2,3] [] ?_
  .exact(.aR (.pe rfl rfl rfl (.pt rfl rfl (fh.var (.cons (.bg (.ah _)) (.cons (MY (by rw[aaN])) (.cons (.bg (.row 3 4 0 none)) .nil)))) (.pn rfl rfl rfl))))
 have hn:Da qP 0 c.ops n:=hn;have jY:=hn.le;refine aN (λh=>?_) (λh=>?_)
 .have qE:0<n:=by have h:(((c.ops.take n).map bF.enc).length:Int)>0:=h;rw[Nr,gW jY]at h;omega
  have hz:IntKind.i64.wrap ((((c.ops.take n).map bF.enc).length:Int)-1)=((n-1:Nat):Int):=by rw[Nr,gW jY,ip om om];omega
  have aD:n-1<c.ops.length:=om;have hg:=wW bF.enc c.ops om jY;rw[<-hz]at hg;have l8:=vl aD;have nX:=hn.step om aD;generalize c.ops[n-1]=x at hg l8 nX;have hg:dC ((c.ops.take n).map bF.enc) (IntKind.i64.wrap ((((c.ops.take n).map bF.enc).length:Int)-1))=some [.val (.int .i64 x.bo),.val (.int .i64 x.di)]:=hg;refine af hg ?_;refine aN (λhx=>?_) (λhx=>?_)
  .have hq:qP (n-1) x=true:=decide_eq_true hx;refine af (x:=n-1) (by show qA (an .i64 (IntKind.i64.wrap ((((c.ops.take n).map bF.enc).length:Int)-1)))=_;rw[hz];rfl) ?_
   refine cE (by simp[aaU];omega) ?_
   refine⟨n-1,nX hq,(show n-1<n by omega),View.o1 4 [0,1,2,3] [] ?_⟩
   .exact(.aR (.pe rfl rfl rfl (.pt rfl rfl (fh.var (.cons (.bg (.ah _)) (.cons (MY (congrArg (Dt.sl 2) (wV bF.enc c.ops jY))) (.cons (.bg (.row 3 4 0 none)) .nil)))) (.pn rfl rfl rfl))))
  .have hq:qP (n-1) x=false:=decide_eq_false hx;refine gq [2,3] [] ([.aR,.var z3,.var [.ah (dk (c.l.take n1)),.ah (eX (c.ops.take n)),.row 3 4 0 none],.row 4 (aa (c.ps.map bm.enc))]) (View.o1 4 [0,1,2,3] [] ?_) ?_
   .exact(.aR (.pe rfl rfl rfl (.pt rfl rfl (fh.var (.cons (.bg (.ah _)) (.cons (.bg (.ah _)) (.cons (.bg (.row 3 4 0 none)) .nil)))) (.pn rfl rfl rfl))))
   exact R5 k a c ha hc hk n1 n h1 ⟨hn,(.inr ⟨x,l8,hq⟩)⟩
 .have qE:n<=0:=by have h:¬(((c.ops.take n).map bF.enc).length:Int)>0:=h;rw[Nr,gW jY]at h;omega
  refine gq [2,3] [] ([.aR,.var z3,.var [.ah (dk (c.l.take n1)),.ah (eX (c.ops.take n)),.row 3 4 0 none],.row 4 (aa (c.ps.map bm.enc))]) (View.o1 4 [0,1,2,3] [] ?_) ?_
  .exact(.aR (.pe rfl rfl rfl (.pt rfl rfl (fh.var (.cons (.bg (.ah _)) (.cons (.bg (.ah _)) (.cons (.bg (.row 3 4 0 none)) .nil)))) (.pn rfl rfl rfl))))
  exact R5 k a c ha hc hk n1 n h1 ⟨hn,.inl qE⟩
theorem Fs(k:Kr)(hk:dI k.l k.ops k.ps):body prog c41 [ez k.l k.ops k.ps] [] (KS k):=by
 refine iN k.l k.ops k.ps ⟨hk.ll,λo ho=>(hk.sm o ho).oi⟩ hk.lo hk.lp hk.sl hk.ne ?_
 refine ba (λ(a:Kr)=>iF k a/\dI a.l a.ops a.ps) [2] (λ_=>[(3,.rv (.one (.ptr 2 0)))]) (λa=>[.aR,.var z3,.var [.row 3 9 0 none,.row 4 2 0 none,.row 5 4 0 none],.row 9 (aa (a.l.map Obj.enc)),.row 2 (aa (a.ops.map bF.enc)),.row 4 (aa (a.ps.map bm.enc))]) (λa=>k9 a.ps) k ⟨.refl,hk⟩ ?_ (λa ha=>?_)
 .refine View.o1 6 [0,1,5,2,3,4] [] ?_
  .exact(.aR (.pe rfl rfl rfl (.pe rfl rfl rfl (.pr rfl rfl rfl (.pr rfl rfl rfl (.pn rfl rfl rfl))))))
 obtain⟨ha,Ph⟩:=ha;refine Fq a Ph .aR λc en ho=>?_
 refine aM (λhe=>?_) (λhe=>?_)
 .subst he;refine⟨c,⟨.step ha ho,ho.kr Ph⟩,ho.k9,View.o1 6 [0,1,2,3,4,5] [] ?_⟩
  .exact(.aR (.pe rfl rfl rfl (.pe rfl rfl rfl (.pr rfl rfl rfl (.pr rfl rfl rfl (.pn rfl rfl rfl))))))
 .subst he;have hc:=ho;have Pw:=ho.kr Ph;have VT:=Pw.ll;refine ba (λn=>Da qO 1 c.l n) [2,3] (λ_=>[]) (λn=>[.aR,.var z3,.var [.ah (dk (c.l.take n)),.ah (eX c.ops),.row 3 4 0 none],.row 4 (aa (c.ps.map bm.enc))]) (λn=>n) c.l.length (.start _ _ _) ?_ (λn hn=>?_)
  .refine View.o1 6 [0,1,2,5] [3,4] ?_
   .exact(.aR (.pe rfl rfl rfl (.pt rfl rfl (fh.var (.cons (by rw[aaN];exact .fE (dR.eW (Z:=λk=>bx [3,4] k=true) rfl rfl 0 none)) (.cons (.fE (dR.eW (Z:=λk=>bx [3,4] k=true) rfl rfl 0 none)) (.cons (.bg (.row 3 4 0 none)) .nil)))) (.pn rfl rfl rfl))))
  have hn:Da qO 1 c.l n:=hn;have jY:=hn.le;refine aN (λh=>?_) (λh=>?_)
  .have qE:1<n:=by have h:(((c.l.take n).map Obj.enc).length:Int)>1:=h;rw[Nr,gW jY]at h;omega
   have hz:IntKind.i64.wrap ((((c.l.take n).map Obj.enc).length:Int)-1)=((n-1:Nat):Int):=by rw[Nr,gW jY,ip om om];omega
   have aD:n-1<c.l.length:=om;have hg:=wW Obj.enc c.l om jY;rw[<-hz]at hg;have l8:=vl aD;have nX:=hn.step om aD;generalize c.l[n-1]=x at hg l8 nX;have hg:dC ((c.l.take n).map Obj.enc) (IntKind.i64.wrap ((((c.l.take n).map Obj.enc).length:Int)-1))=some [.val (.int .i64 x.ag),.sl 1 x.data,.sl 2 x.ak,.val (.string x.target),.val (.int .i64 x.bq),.sl 4 (x.aq.map dh.enc),.val (.int .i64 x.bb),.val (.int .i64 x.am),.val (.int .i64 x.up)]:=hg;refine af hg ?_;refine bs (λhx=>?_) (λhx=>?_)
   .have hq:qO (n-1) x=true:=(by unfold qO;simpa using hx)
    refine af (x:=n-1) (by show qA (an .i64 (IntKind.i64.wrap ((((c.l.take n).map Obj.enc).length:Int)-1)))=_;rw[hz];rfl) ?_
    refine cE (by simp[aaU];omega) ?_
    refine⟨n-1,nX hq,(show n-1<n by omega),View.o1 4 [0,1,2,3] [] ?_⟩
    .exact(.aR (.pe rfl rfl rfl (.pt rfl rfl (fh.var (.cons (MY (congrArg (Dt.sl 9) (wV Obj.enc c.l jY))) (.cons (.bg (.ah _)) (.cons (.bg (.row 3 4 0 none)) .nil)))) (.pn rfl rfl rfl))))
   .have hq:qO (n-1) x=false:=(by unfold qO;simpa using hx)
    refine gq [2,3] [] ([.aR,.var z3,.var [.ah (dk (c.l.take n)),.ah (eX c.ops),.row 3 4 0 none],.row 4 (aa (c.ps.map bm.enc))]) (View.o1 4 [0,1,2,3] [] ?_) ?_
    .exact(.aR (.pe rfl rfl rfl (.pt rfl rfl (fh.var (.cons (.bg (.ah _)) (.cons (.bg (.ah _)) (.cons (.bg (.row 3 4 0 none)) .nil)))) (.pn rfl rfl rfl))))
    exact R7 k a c ha hc Pw n ⟨hn,(.inr ⟨x,l8,hq⟩)⟩
  .have qE:n<=1:=by have h:¬(((c.l.take n).map Obj.enc).length:Int)>1:=h;rw[Nr,gW jY]at h;omega
   refine gq [2,3] [] ([.aR,.var z3,.var [.ah (dk (c.l.take n)),.ah (eX c.ops),.row 3 4 0 none],.row 4 (aa (c.ps.map bm.enc))]) (View.o1 4 [0,1,2,3] [] ?_) ?_
   .exact(.aR (.pe rfl rfl rfl (.pt rfl rfl (fh.var (.cons (.bg (.ah _)) (.cons (.bg (.ah _)) (.cons (.bg (.row 3 4 0 none)) .nil)))) (.pn rfl rfl rfl))))
   exact R7 k a c ha hc Pw n ⟨hn,.inl qE⟩
theorem MZ(k:Kr)(hk:dI k.l k.ops k.ps){m:Mem}{K:CV->Mem->Prop}(h:∀a c d,iF k a->cV a.l a.ops a.ps c.l c.ops c.ps false->gG c d->K (ez d.l d.ops d.ps) m):ap prog 41 [ez k.l k.ops k.ps] m K:=by
 refine be (K0:=KS k) (b8 func41 l41 (Fs k hk)) (by simp[ez,dk,eX,gl,CV.dv,CC.dv,RV.dv]) λr m1 hr=>?_
 obtain⟨a,c,d,h1,h2,h3,hf⟩:=hr;exact⟨_,hf,h a c d h1 h2 h3⟩
def jF(l L:List Obj):Prop:=L.length<=l.length/\∀(i:Nat)o,L[i]? =some o->o.ag≠0->∃o':Obj,l[i]? =some o'/\o={o' with bq:=o.bq}
def jG(p P:List bm):Prop:=P.length<=p.length/\∀(i:Nat)x,P[i]? =some x->x.aP=true->p[i]? =some x
theorem jF.refl(l:List Obj):jF l l:=⟨T5 _,λi o h _=>⟨o,h,rfl⟩⟩
theorem jF.trans{a b c:List Obj}(h1:jF a b)(h2:jF b c):jF a c:=by
 refine⟨abP h2.1 h1.1,λi o ho hk=>?_⟩
 obtain⟨o',e8,e⟩:=h2.2 i o ho hk;have fS:o'.ag≠0:=by rw[e]at hk;exact hk
 obtain⟨o2,gQ,e2⟩:=h1.2 i o' e8 fS;refine⟨o2,gQ,?_⟩;rw[e,e2]
theorem jG.refl(l:List bm):jG l l:=⟨T5 _,λi o h _=>h⟩
theorem jG.trans{a b c:List bm}(h1:jG a b)(h2:jG b c):jG a c:=
 ⟨abP h2.1 h1.1,λi x hx hl=>h1.2 i x (h2.2 i x hx hl) hl⟩
theorem Pt.get{α:Type}{l L:List α}{f:Nat->α->α}(h:Pt l L f){i:Nat}{x:α}(hx:L[i]? =some x):∃o,l[i]? =some o/\x=f i o:=by
 have aD:i<l.length:=by have:=(JJ.1 hx).1;rw[h.1]at this;exact this
 have:=h.2 i l[i] (vl aD);rw[hx]at this;cases this;exact⟨_,vl aD,rfl⟩
theorem cV.eN{l:List Obj}{ops:List bF}{ps:List bm}{L:List Obj}{L2:List bF}{L3:List bm}{en:Bool}(h:cV l ops ps L L2 L3 en):jF l L/\jG ps L3:=by
 obtain⟨b,hb,hP,B4⟩:=h.ex;refine⟨⟨by rw[hP.1];exact T5 _,λi o ho hk=>?_⟩,by rw[h.pr.1];exact T5 _,λi x hx hl=>?_⟩
 .obtain⟨o',e8,e⟩:=hP.get ho;refine⟨o',e8,?_⟩;unfold cC at e;split at e
  .rw[e]at hk;exact absurd rfl hk
  .split at e
   .rw[e]
   .rw[e]
 .obtain⟨y,hy,e⟩:=h.pr.get hx;unfold yg at e;split at e
  .rw[e]at hl;simp[gk]at hl
  .rw[e];exact hy
theorem iF.eN{k a:Kr}(h:iF k a):jF k.l a.l/\jG k.ps a.ps:=by
 induction h with
 |refl=>exact⟨.refl _,.refl _⟩
 |step h ho ih=>exact⟨ih.1.trans ho.eN.1,ih.2.trans ho.eN.2⟩
theorem iF.kr{k a:Kr}(h:iF k a)(hk:dI k.l k.ops k.ps):dI a.l a.ops a.ps:=by
 induction h with
 |refl=>exact hk
 |step h ho ih=>exact ho.kr ih
theorem gG.eN{c d:Kr}(h:gG c d):jF c.l d.l/\jG c.ps d.ps:=by
 obtain⟨n1,n2,n3,P,h1,h2,hP,h3,rfl⟩:=h.ex;refine⟨⟨by simp[aav];omega,λi o ho _=>?_⟩,by simp[aav];have:=hP.1;omega,λi x hx hl=>?_⟩
 .have ho:(c.l.take n1)[i]? =some o:=ho;rw[aaF]at ho;split at ho
  .exact⟨o,ho,rfl⟩
  .cases ho
 .have hx:(P.take n3)[i]? =some x:=hx;rw[aaF]at hx;split at hx
  .obtain⟨y,hy,e⟩:=hP.get hx;unfold tc at e;split at e
   .rw[e]at hl;simp[gk]at hl
   .rw[e];exact hy
  .cases hx
theorem gG.one{c d:Kr}(h:gG c d)(hc:c.ps≠[]):1<=d.ps.length:=by obtain⟨n1,n2,n3,P,h1,h2,hP,h3,rfl⟩:=h.ex;have hl:0<c.ps.length:=ade.2 hc;have:=h3.t.mn;rw[hP.1]at this;have h4:=h3.t.le;show 1<=(P.take n3).length;rw[aav];omega
theorem Ft{k a c d:Kr}(hk:dI k.l k.ops k.ps)(h1:iF k a)(h2:cV a.l a.ops a.ps c.l c.ops c.ps false)(h3:gG c d):jF k.l d.l/\jG k.ps d.ps/\1<=d.ps.length:=
 ⟨(h1.eN.1.trans h2.eN.1).trans h3.eN.1,(h1.eN.2.trans h2.eN.2).trans h3.eN.2,h3.one (h2.kr (h1.kr hk)).ne⟩
theorem gL.ag{l:List Obj}{ops:List bF}{ps:List bm}{b:Mk}(h:gL l ops ps b){i:Nat}(hi:dp b.O i):∃o,l[i]? =some o/\o.ag≠0:=by refine(h.n8 (λi=>∃o,l[i]? =some o/\o.ag≠0) (λc=>c<ops.length) ⟨λi o _ _ z n _ hv=>hv.2,λi o _ _ z c _ hv=>hv.2,λc o _ _ n hv=>hv.2⟩ ⟨λn hv=>hv.2,λp pr _ _ s _ _ c hv=>hv.2⟩).1 i hi
theorem gG.kr{c d:Kr}(h:gG c d)(k:dI c.l c.ops c.ps):dI d.l d.ops d.ps:=by
 have h1:=h.one k.ne;obtain⟨n1,n2,n3,P,t1,t2,hP,t3,rfl⟩:=h.ex;refine⟨λo ho=>k.sm o (aaY ho),?_,?_,?_,λp hp=>?_,λe=>?_⟩
 .show(c.l.take n1).length<=_;rw[aav];have:=k.ll;omega
 .show(c.ops.take n2).length<=_;rw[aav];have:=k.lo;omega
 .show(P.take n3).length<=_;rw[aav,hP.1];have:=k.lp;omega
 .refine hP.all (Q:=λp=>p.aU.length<=10) (λt o ho=>?_) p (aaY hp)
  unfold tc;split
  .simp[gk]
  .exact k.sl o (Sj ho)
 .have h1:1<=(P.take n3).length:=h1;have e:P.take n3=[]:=e;rw[e]at h1;simp at h1
theorem Da.TG{α:Type}{q:Nat->α->Bool}{mn n n':Nat}{L:List α}(h:pR q mn L n)(h':pR q mn (L.take n) n'):n'=(L.take n).length:=by
 have hn:=h.t.le;have e:(L.take n).length=n:=gW hn;have O7:=h'.t.le;have SY:=h'.t.mn;rw[e]at O7 SY|-;rcases aaf n' n with aD|ek
 .exfalso;rcases h.e with h1|⟨o,ho,hq⟩
  .omega
  .have h2:(L.take n)[n-1]? =some o:=by rw[ab7 om];exact ho
   have:=h'.t.dr (n-1) o om h2;rw[hq]at this;cases this
 .omega
theorem Db{L:List Obj}{ps:List bm}(h:false=jh L ps ps.length){t:Nat}{x:bm}(hx:ps[t]? =some x):iE L t x=false:=by
 cases he:iE L t x with
 |false=>rfl
 |true=>
  have:jh L ps ps.length=true:=by
   unfold jh;rw[aaT];exact⟨t,by simpa using(JJ.1 hx).1,by rw[hx];exact he⟩
  rw[this]at h;cases h
theorem Pt.id{α:Type}{l L:List α}{f:Nat->α->α}(h:Pt l L f)(hf:∀(t:Nat)o,l[t]? =some o->f t o=o):L=l:=by
 apply abN;intro t;cases ht:l[t]? with
 |some o=>rw[h.2 t o ht,hf t o ht]
 |none=>
  have:l.length<=t:=by simpa using ht
  simp[h.1,this]
theorem wX{p:Int}{o:Obj}(h:dF p o=true):o.ag≠0:=by intro h0;simp[dF,h0]at h
structure Left(c:Kr)(b:Mk):Prop where
 ok:gL c.l c.ops c.ps b
 all:∀(i:Nat)o,c.l[i]? =some o->o.ag≠0->dp b.O i
 ops:∀(i:Nat)o,c.ops[i]? =some o->¬dp b.P i->o=⟨-1,0⟩
 prs:∀(t:Nat)x,c.ps[t]? =some x->iE c.l t x=false
theorem cV.left{a c:Kr}(h:cV a.l a.ops a.ps c.l c.ops c.ps false):∃b,Left c b:=by
 obtain⟨b,hb,hP,B4⟩:=h.ex;have pQ:c.ps=a.ps:=h.pr.id λt o ho=>by have:=Db h.en ho;simp[yg,this]
 have hlen:=hP.1;have uF:=B4.1;have zy:∀(i:Nat)o',a.l[i]? =some o'->dp b.O i->∃o,c.l[i]? =some o/\o.ag=o'.ag/\o.ak=o'.ak/\o.aq=o'.aq:=λi o' e8 hi=>by
  refine⟨_,hP.2 i o' e8,?_⟩;have hd:eR b a.l i=false:=by unfold eR;rw[e8];have:b.O[i]? =some true:=hi;simp[this]
  unfold cC;rw[hd];simp only[Bool.false_and,ab0,if_false];split<;>exact⟨rfl,rfl,rfl⟩
 have R9:∀(i:Nat)o,c.l[i]? =some o->o.ag≠0->dp b.O i/\∃o',a.l[i]? =some o'/\o.ag=o'.ag/\o.ak=o'.ak/\o.aq=o'.aq:=λi o ho hk=>by
  obtain⟨o',e8,e⟩:=hP.get ho;have ym:i<a.l.length:=(JJ.1 e8).1;unfold cC at e;split at e
  .rw[e]at hk;exact absurd rfl hk
  .rename_i lH;have hko:o.ag=o'.ag:=by split at e<;>rw[e]
   refine⟨?_,o',e8,hko,by split at e<;>rw[e],by split at e<;>rw[e]⟩
   have hd:eR b a.l i=false:=by
    cases PC:eR b a.l i with
    |false=>rfl
    |true=>exact absurd (by rw[PC];simpa using ym) lH
   unfold eR at hd;rw[e8]at hd;have fS:(o'.ag !=0)=true:=by rw[<-hko];simpa using hk
   simp only[fS,Bool.and_true]at hd;simpa[dp]using hd
 have VS:∀z n,vO c.l z n->dp b.O n/\vO a.l z n:=λz n hv=>by
  obtain⟨hz,o,ho,hk⟩:=hv;obtain⟨h1,o',e8,fS,_⟩:=R9 n o ho hk;exact⟨h1,hz,o',e8,by rw[<-fS];exact hk⟩
 have SZ:∀z n,vO a.l z n->dp b.O n->vO c.l z n:=λz n hv hn=>by
  obtain⟨hz,o',e8,hk⟩:=hv;obtain⟨o,ho,fS,_⟩:=zy n o' e8 hn;exact⟨hz,o,ho,by rw[fS];exact hk⟩
 have YF:∀z n,vP c.ops z n↔vP a.ops z n:=λz n=>by unfold vP;rw[uF]
 have aeB:∀(i:Nat)o,c.ops[i]? =some o->dp b.P i->a.ops[i]? =some o:=λi o ho hi=>by obtain⟨o',e8,e⟩:=B4.get ho;have:b.P[i]? =some true:=hi;rw[e];simpa[B3,this]using e8
 refine⟨b,⟨⟨by rw[hlen];exact hb.len.1,by rw[uF];exact hb.len.2⟩,⟨λn hv=>(VS 0 n hv).1,λp pr hp hl s hs hh cc hv=>?_⟩,⟨λi o hi ho z n hz hv=>(VS z n hv).1,λi o hi ho z cc hz hv=>?_,λcc o hc ho n hv=>(VS _ n hv).1⟩,λRO RP im hr=>?_⟩,λi o ho hk=>(R9 i o ho hk).1,λi o ho hn=>?_,λt x hx=>?_⟩
 .rw[pQ]at hp;exact hb.m7.2 p pr hp hl s hs hh cc ((YF _ _).1 hv)
 .obtain⟨o',e8,e⟩:=hP.get ho;obtain⟨o2,gQ,_,_,hq⟩:=zy i o' e8 hi;rw[ho]at gQ;cases gQ;obtain⟨q,HF,Pl,hq3⟩:=hz;exact hb.cl.q i o' hi e8 z cc ⟨q,by rw[<-hq];exact HF,Pl,hq3⟩ ((YF _ _).1 hv)
 ·
  have iY:=hb.n8 (λi=>RO i/\dp b.O i) (λcc=>RP cc/\dp b.P cc) ⟨λi o' hi e8 z n hz hv=>?_,λi o' hi e8 z cc hz hv=>?_,λcc o' hc e8 n hv=>?_⟩ ⟨λn hv=>?_,λp pr hp hl s hs hh cc hv=>?_⟩
  .exact⟨λi hi=>(iY.1 i hi).1,λi hi=>(iY.2 i hi).1⟩
  .have hn:=hb.cl.e i o' hi.2 e8 z n hz hv;obtain⟨o,ho,_,he,_⟩:=zy i o' e8 hi.2;obtain⟨nm,hm⟩:=hz;exact⟨im.e i o hi.1 ho z n ⟨nm,by rw[he];exact hm⟩ (SZ z n hv hn),hn⟩
  .have hn:=hb.cl.q i o' hi.2 e8 z cc hz hv;obtain⟨o,ho,_,_,hq⟩:=zy i o' e8 hi.2;obtain⟨q,HF,Pl,hq3⟩:=hz;exact⟨im.q i o hi.1 ho z cc ⟨q,by rw[hq];exact HF,Pl,hq3⟩ ((YF _ _).2 hv),hn⟩
  .have hn:=hb.cl.p cc o' hc.2 e8 n hv;have hco:c.ops[cc]? =some o':=by have:=B4.2 cc o' e8;have M0:b.P[cc]? =some true:=hc.2;simpa[B3,M0]using this
   exact⟨im.p cc o' hc.1 hco n (SZ _ n hv hn),hn⟩
  .have hn:=hb.m7.1 n hv;exact⟨hr.1 n (SZ 0 n hv hn),hn⟩
  .exact⟨hr.2 p pr (by rw[pQ];exact hp) hl s hs hh cc ((YF _ _).2 hv),hb.m7.2 p pr hp hl s hs hh cc hv⟩
 .obtain⟨o',e8,e⟩:=B4.get ho;have aD:i<a.ops.length:=(JJ.1 e8).1;have hn:(b.P[i]? ==some true)=false:=by simpa[dp]using hn
  rw[e];simp[B3,hn,aD]
 .rw[pQ]at hx;exact Db h.en hx
theorem gG.M1{c d:Kr}{b bd:Mk}(hl:Left c b)(hf:gG c d)(hd:gL d.l d.ops d.ps bd):(∀(i:Nat)o,d.l[i]? =some o->o.ag≠0->dp bd.O i)/\(∀(i:Nat)o,d.ops[i]? =some o->¬dp bd.P i->o=⟨-1,0⟩):=by
 obtain⟨n1,n2,n3,P,t1,t2,hP,t3,rfl⟩:=hf.ex;have hd:gL (c.l.take n1) (c.ops.take n2) (P.take n3) bd:=hd;have h1:∀(i:Nat)o,c.l[i]? =some o->o.ag≠0->(c.l.take n1)[i]? =some o:=λi o ho hk=>by
  rcases aaf i n1 with h|h
  .rw[ab7 h];exact ho
  .have:=t1.t.dr i o h ho;simp[qO]at this;exact absurd this hk
 have hvO:∀z n,vO c.l z n->vO (c.l.take n1) z n:=λz n⟨hz,o,ho,hk⟩=>⟨hz,o,h1 n o ho hk,hk⟩
 have iY:=hl.ok.n8 (λi=>dp bd.O i) (λcc=>dp bd.P cc\/n2<=cc) ⟨λi o hi ho z n hz hv=>?_,λi o hi ho z cc hz hv=>?_,λcc o hc ho n hv=>?_⟩ ⟨λn hv=>?_,λp pr hp b9 s hs hh cc hv=>?_⟩
 .refine⟨λi o ho hk=>?_,λi o ho hn=>?_⟩
  .have ho:(c.l.take n1)[i]? =some o:=ho;rw[aaF]at ho;split at ho
   .exact iY.1 i (hl.all i o ho hk)
   .cases ho
  .have ho:(c.ops.take n2)[i]? =some o:=ho;rw[aaF]at ho;split at ho
   .rename_i aD;refine hl.ops i o ho λhb=>?_
    rcases iY.2 i hb with h|h
    .exact hn h
    .omega
   .cases ho
 .obtain⟨o',e8,hk⟩:=hd.ag hi;have:(c.l.take n1)[i]? =some o:=by
   rw[aaF]at e8|-;split at e8
   .rename_i aD;rw[if_pos aD];exact ho
   .cases e8
  exact hd.cl.e i o hi this z n hz (hvO z n hv)
 .obtain⟨o',e8,hk⟩:=hd.ag hi;have:(c.l.take n1)[i]? =some o:=by
   rw[aaF]at e8|-;split at e8
   .rename_i aD;rw[if_pos aD];exact ho
   .cases e8
  rcases aaf cc n2 with h|h
  .exact .inl (hd.cl.q i o hi this z cc hz ⟨hv.1,by have:=hv.2;rw[aav];omega⟩)
  .exact .inr h
 .rcases hc with hc|hc
  .have aD:cc<n2:=by have h2:=(JJ.1 hc).1;rw[hd.len.2,aav]at h2;omega
   exact hd.cl.p cc o hc (by rw[ab7 aD];exact ho) n (hvO _ n hv)
  .have:=t2.t.dr cc o hc ho;simp[qP]at this;have:=hv.1;omega
 .exact hd.m7.1 n (hvO 0 n hv)
 .rcases aaf cc n2 with h|h
  .refine .inl (hd.m7.2 p pr ?_ b9 s hs hh cc ⟨hv.1,by have:=hv.2;rw[aav];omega⟩)
   have hnz:tc (c.l.take n1) c.ps.length p pr=pr:=by unfold tc qZ;simp[b9]
   have R6:=hP.2 p pr hp;rw[hnz]at R6;rcases aaf p n3 with h3|h3
   .rw[ab7 h3];exact R6
   .have:=t3.t.dr p pr h3 R6;simp[qR,b9]at this
  .exact .inr h
theorem gG.Jt{c d:Kr}{b:Mk}(hl:Left c b)(hf:gG c d){L:List Obj}{L2:List bF}{L3:List bm}{en:Bool}(h:cV d.l d.ops d.ps L L2 L3 en):L=d.l/\L2=d.ops/\L3=d.ps/\en=false:=by
 obtain⟨bd,hbd,hP1,B4⟩:=h.ex;obtain⟨m1,m2⟩:=hf.M1 hl hbd;have je:∀i,eR bd d.l i=false:=λi=>by
  unfold eR;cases hi:d.l[i]? with
  |none=>rfl
  |some o=>
   by_cases hk:o.ag=0
   .simp[hk]
   .have:bd.O[i]? =some true:=m1 i o hi hk;simp[this]
 have PU:∀(t:Nat)x,d.ps[t]? =some x->iE d.l t x=false:=λt x hx=>by
  obtain⟨n1,n2,n3,P,t1,t2,hP,t3,rfl⟩:=hf.ex;have hx:(P.take n3)[t]? =some x:=hx;rw[aaF]at hx;split at hx
  .obtain⟨y,hy,e⟩:=hP.get hx;cases b9:x.aP with
   |false=>simp[iE,b9]
   |true=>
    have I6:x=y:=by
     unfold tc at e;split at e
     .rw[e]at b9;simp[gk]at b9
     .exact e
    subst I6;have he:=hl.prs t x hy;cases h0:iE (c.l.take n1) t x with
    |false=>rfl
    |true=>
     unfold iE at he h0;simp[b9]at he h0;obtain⟨o,ho,hh⟩:=he h0.1;obtain⟨i,hi⟩:=X1 ho;have hk:=wX hh;have ic:o∈c.l.take n1:=by
      rcases aaf i n1 with h|h
      .exact Sj (by rw[ab7 h];exact hi)
      .have:=t1.t.dr i o h hi;simp[qO]at this;exact absurd this hk
     have:=h0.2 o ic;rw[hh]at this;cases this
  .cases hx
 have hL:L=d.l:=hP1.id λt o _=>by
  unfold cC;rw[je t];have:l7 bd d.l d.l.length o.bq=false:=by unfold l7;rw[je];simp
  rw[this];simp
 have vj:=h.pr;have p7:=h.en;rw[hL]at vj p7;refine⟨hL,B4.id λt o ho=>?_,vj.id λt o ho=>?_,?_⟩
 .unfold B3;split
  .rename_i hh;have hn:¬dp bd.P t:=by intro M0;have M0:bd.P[t]? =some true:=M0;simp[M0]at hh
   exact(m2 t o ho hn).symm
  .rfl
 .simp[yg,PU t o ho]
 .rw[p7];cases he:jh d.l d.ps d.ps.length with
  |false=>rfl
  |true=>
   unfold jh at he;rw[aaT]at he;obtain⟨t,ht,A3⟩:=he;have Hi:t<d.ps.length:=by simpa using ht
   rw[vl Hi]at A3;have A3:iE d.l t d.ps[t]=true:=A3;rw[PU t _ (vl Hi)]at A3;cases A3
theorem gG.M2{c d a2 c2 d2:Kr}{b:Mk}(hl:Left c b)(hf:gG c d)(h1:iF d a2)(h2:cV a2.l a2.ops a2.ps c2.l c2.ops c2.ps false)(h3:gG c2 d2):d2=d:=by
 have ha:a2=d:=by
  clear h2 h3
  induction h1 with
  |refl=>rfl
  |step h ho ih=>
   subst ih;exact absurd (hf.Jt hl ho).2.2.2 aC
 subst ha;obtain⟨e1,e2,e3,_⟩:=hf.Jt hl h2;obtain⟨n1,n2,n3,P,t1,t2,hP,t3,he⟩:=hf.ex;obtain⟨m1,m2,m3,P',s1,s2,U2,s3,rfl⟩:=h3.ex;rw[e1]at s1 U2 s3|-;rw[e2]at s2|-;rw[e3]at U2;obtain⟨dl,u5,dps⟩:=a2;cases he;have k1:=Da.TG t1 s1;have k2:=Da.TG t2 s2;have q1:(c.l.take n1).take m1=c.l.take n1:=by rw[k1,aaN]
 have q2:(c.ops.take n2).take m2=c.ops.take n2:=by rw[k2,aaN]
 have hid:P'=P.take n3:=by
  have U2:Pt (P.take n3) P' (tc ((c.l.take n1).take m1) (P.take n3).length):=U2;rw[q1]at U2;refine U2.id λt x hx=>?_
  rw[aaF]at hx;split at hx
  .obtain⟨y,hy,e⟩:=hP.get hx;have YG:t<c.ps.length:=(JJ.1 hy).1;by_cases hq:qZ (c.l.take n1) t y=true
   .have:x=gk:=by rw[e];simp[tc,hq,YG]
    subst this;unfold tc;split<;>rfl
   .have I6:x=y:=by rw[e];simp[tc,hq]
    subst I6;simp[tc,hq]
  .cases hx
 subst hid;have s3:pR (qR ((c.l.take n1).take m1)) 1 (P.take n3) m3:=s3;rw[q1]at s3;have k3:=Da.TG t3 s3;show Kr.mk ((c.l.take n1).take m1) ((c.ops.take n2).take m2) ((P.take n3).take m3)=Kr.mk (c.l.take n1) (c.ops.take n2) (P.take n3);rw[q1,q2,k3,aaN]
namespace Kn
structure Ju(k d:Kr):Prop where
 ex:∃a c,iF k a/\cV a.l a.ops a.ps c.l c.ops c.ps false/\gG c d
theorem oU{α:Type}{l L:List α}{f:Nat->α->α}(h:Pt l L f):L=l.mapIdx f:=by
 refine abN λi=>?_
 rw[acj];cases hx:l[i]? with
 |none=>exact acR.2 (by rw[h.1];exact acR.1 hx)
 |some x=>rw[h.2 i x hx];rfl
theorem A4{α:Type}(l:List α)(f:Nat->α->α):Pt l (l.mapIdx f) f:=
 ⟨acg,λt o ho=>by rw[acj,ho];rfl⟩
theorem M3{A B:List Bool}(hl:A.length=B.length)(h:∀i,dp A i↔dp B i):A=B:=by
 refine List.ext_getElem hl λi h1 h2=>?_
 have Cp:=h i;unfold dp at Cp;rw[vl h1,vl h2]at Cp;simp only[aat]at Cp;cases ha:A[i]<;>cases hb:B[i]<;>simp[ha,hb]at Cp|-
theorem Jv{l:List Obj}{ops:List bF}{ps:List bm}{b b':Mk}(h:gL l ops ps b)(h':gL l ops ps b'):b=b':=by
 have h1:=h.n8 _ _ h'.cl h'.m7;have h2:=h'.n8 _ _ h.cl h.m7;obtain⟨O,P⟩:=b;obtain⟨O',P'⟩:=b';have e1:O=O':=M3 (h.len.1.trans h'.len.1.symm) λi=>⟨h1.1 i,h2.1 i⟩
 have e2:P=P':=M3 (h.len.2.trans h'.len.2.symm) λi=>⟨h1.2 i,h2.2 i⟩
 rw[e1,e2]
theorem tN{k c c':Kr}{e e':Bool}(h:cV k.l k.ops k.ps c.l c.ops c.ps e)(h':cV k.l k.ops k.ps c'.l c'.ops c'.ps e'):c=c'/\e=e':=by
 obtain⟨b,hb,h1,h2⟩:=h.ex;obtain⟨b',tn,Cp,KX⟩:=h'.ex;have:=Jv hb tn;subst this;have e1:c.l=c'.l:=(oU h1).trans (oU Cp).symm;have e2:c.ops=c'.ops:=(oU h2).trans (oU KX).symm;have p:=h.pr;rw[e1]at p;have e3:c.ps=c'.ps:=(oU p).trans (oU h'.pr).symm;refine⟨?_,?_⟩
 .obtain⟨x,y,z⟩:=c;obtain⟨x',y',z'⟩:=c';simp only at e1 e2 e3;rw[e1,e2,e3]
 .rw[h.en,h'.en,e1]
theorem A5{k a:Kr}(h:iF k a):a=k\/∃x,cV k.l k.ops k.ps x.l x.ops x.ps true/\iF x a:=by
 induction h with
 |refl=>exact .inl rfl
 | @step a b h s ih=>
  rcases ih with rfl|⟨x,hx,hxa⟩
  .exact .inr ⟨b,s,.refl⟩
  .exact .inr ⟨x,hx,.step hxa s⟩
theorem Qd{k a b:Kr}(h1:iF k a)(h2:iF k b):iF a b\/iF b a:=by
 induction h2 with
 |refl=>exact .inr h1
 | @step b c h s ih=>
  rcases ih with h|h
  .exact .inl (.step h s)
  .rcases A5 h with rfl|⟨x,hx,hxa⟩
   .exact .inl (.step .refl s)
   .have:=(tN hx s).1;subst this;exact .inr hxa
theorem Qe{k a b c d:Kr}(h1:iF k a)(h2:iF k b)(o1:cV a.l a.ops a.ps c.l c.ops c.ps false)(o2:cV b.l b.ops b.ps d.l d.ops d.ps false):a=b:=by
 have key:∀{a b c:Kr},iF a b->cV a.l a.ops a.ps c.l c.ops c.ps false->b=a:=λh o=>by
  rcases A5 h with h|⟨x,hx,_⟩
  .exact h
  .have:=(tN hx o).2;cases this
 rcases Qd h1 h2 with h|h
 .exact(key h o1).symm
 .exact key h o2
theorem wY{α:Type}{q:Nat->α->Bool}{mn:Nat}{L:List α}{a b:Nat}(ha:pR q mn L a)(hb:pR q mn L b):a=b:=by
 have key:∀{a b:Nat},pR q mn L a->pR q mn L b->¬a<b:=λ{a b}ha hb aD=>by
  have h1:=ha.t.mn;have h2:=hb.t.le;rcases hb.e with h3|⟨o,ho,hq⟩
  .omega
  .have:=ha.t.dr (b-1) o om ho;rw[hq]at this;cases this
 have h1:=key ha hb;have h2:=key hb ha;omega
theorem M4{c d d':Kr}(h:gG c d)(h':gG c d'):d=d':=by obtain⟨n1,n2,n3,P,a1,a2,a3,a4,rfl⟩:=h.ex;obtain⟨m1,m2,m3,P',b1,b2,b3,b4,rfl⟩:=h'.ex;have:=wY a1 b1;subst this;have:=wY a2 b2;subst this;have:=(oU a3).trans (oU b3).symm;subst this;have:=wY a4 b4;subst this;rfl
theorem Ju.AE{k d d':Kr}(h:Ju k d)(h':Ju k d'):d=d':=by obtain⟨a,c,h1,h2,h3⟩:=h.ex;obtain⟨a',c',Cp,KX,YH⟩:=h'.ex;have:=Qe h1 Cp h2 KX;subst this;have:=(tN h2 KX).1;subst this;exact M4 h3 YH
def nzB(l:List Obj)(i:Nat):Bool:=match l[i]? with|some o=>o.ag !=0|none=>false
def toB(l:List Obj)(O:List Bool)(i:Nat):Bool:=(l.zip O).any λy=>y.2&&y.1.ak.any λe=>(nZ e).2==(i:Int)
def opB(ops:List bF)(P:List Bool)(i:Nat):Bool:=(ops.zip P).any λy=>y.2&&y.1.bo==(i:Int)
def quB(l:List Obj)(O:List Bool)(c:Nat):Bool:=(l.zip O).any λy=>y.2&&y.1.aq.any λq=>q.has&&q.dS==(c:Int)
def Ej(l:List Obj)(ops:List bF)(b:Mk):Mk:=
 ⟨b.O.mapIdx λi x=>x||(nzB l i&&(toB l b.O i||opB ops b.P i)),b.P.mapIdx λc x=>x||quB l b.O c⟩
def Jy(l:List Obj)(ops:List bF)(ps:List bm):Mk:=
 ⟨l.mapIdx λi o=>decide (i=0)&&o.ag !=0,ops.mapIdx λc _=>ps.any λp=>p.aP&&p.aU.any λs=>s.has&&s.dS==(c:Int)⟩
def TH{α:Type}(f:α->α):Nat->α->α
 |0,a=>a
 |n+1,a=>TH f n (f a)
def oV(l:List Obj)(ops:List bF)(ps:List bm):Mk:=TH (Ej l ops) (l.length+ops.length) (Jy l ops ps)
theorem tO:∀(a b:List Bool),b.length=a.length->(∀i,dp a i->dp b i)->a≠b->ec b<ec a
 | [],[],_,_,h=>absurd rfl h
 | [],_::_,h,_,_=>by simp at h
 |_::_,[],h,_,_=>by simp at h
 |x::a,y::b,h,hm,du=>by
  have hl:b.length=a.length:=by simpa using h
  have SY:∀i,dp a i->dp b i:=λi hi=>by have:=hm (i+1);unfold dp at this hi|-;simp only[abC]at this;exact this hi
  have h0:x=true->y=true:=λhx=>by have:=hm 0;unfold dp at this;simp only[ack,aat]at this;exact this hx
  have hle:=kR a b hl SY;by_cases Ek:a=b
  .subst Ek;cases x<;>cases y
   .exact absurd rfl du
   .simp[ec]
   .exact absurd (h0 rfl) aC
   .exact absurd rfl du
  .have ih:=tO a b hl SY Ek;cases x<;>cases y
   .simp only[ec]at ih|-;simpa using ih
   .simp only[ec]at ih|-;simp;omega
   .exact absurd (h0 rfl) aC
   .simp only[ec]at ih|-;simpa using ih
theorem wZ:∀a:List Bool,ec a<=a.length:=λa=>by unfold ec;exact acu _ _
theorem tP{A:List Bool}{f:Nat->Bool->Bool}{i:Nat}:dp (A.mapIdx f) i↔∃x,A[i]? =some x/\f i x=true:=by
 unfold dp;rw[acj];cases A[i]? <;>simp
theorem tQ{l:List Obj}{ops:List bF}(b:Mk):(∀i,dp b.O i->dp (Ej l ops b).O i)/\∀c,dp b.P c->dp (Ej l ops b).P c:=
 ⟨λi h=>tP.2 ⟨true,h,aC⟩,λc h=>tP.2 ⟨true,h,aC⟩⟩
theorem nL{l:List Obj}{ops:List bF}(b:Mk):(Ej l ops b).O.length=b.O.length/\(Ej l ops b).P.length=b.P.length:=
 ⟨acg,acg⟩
theorem M5{l:List Obj}{ops:List bF}(b:Mk):Ej l ops b=b\/(Ej l ops b).mu<b.mu:=by
 have h1:=kR b.O _ (nL b).1 (tQ (l:=l) (ops:=ops) b).1;have h2:=kR b.P _ (nL b).2 (tQ (l:=l) (ops:=ops) b).2;by_cases e1:b.O=(Ej l ops b).O
 .by_cases e2:b.P=(Ej l ops b).P
  .refine .inl ?_;cases hb:b with
   |mk O P=>
    rw[hb]at e1 e2;generalize hm:Ej l ops ⟨O,P⟩=m at e1 e2;cases m;simp only at e1 e2;rw[e1,e2]
  .have:=tO b.P _ (nL b).2 (tQ (l:=l) (ops:=ops) b).2 e2;unfold Mk.mu;omega
 .have:=tO b.O _ (nL b).1 (tQ (l:=l) (ops:=ops) b).1 e1;unfold Mk.mu;omega
theorem HG{l:List Obj}{ops:List bF}:∀(n:Nat)(b:Mk),b.mu<=n->Ej l ops (TH (Ej l ops) n b)=TH (Ej l ops) n b
 |0,b,h=>by
  rcases M5 (l:=l) (ops:=ops) b with h1|h1
  .exact h1
  .omega
 |n+1,b,h=>by
  rcases M5 (l:=l) (ops:=ops) b with h1|h1
  .have:∀n,TH (Ej l ops) n b=b:=λn=>by
    induction n with
    |zero=>rfl
    |succ n ih=>show TH _ n (Ej l ops b)=b;rw[h1,ih]
   rw[this,h1]
  .exact HG n _ om
theorem vE{α:Type}{f:α->α}{Q:α->Prop}(hf:∀a,Q a->Q (f a)):∀(n:Nat)(a:α),Q a->Q (TH f n a)
 |0,_,h=>h
 |n+1,a,h=>vE hf n (f a) (hf a h)
theorem A6{α:Type}{l:List α}{O:List Bool}{g:α->Bool}:(l.zip O).any (λy=>y.2&&g y.1)=true↔∃(i:Nat)(o:α),l[i]? =some o/\dp O i/\g o=true:=by
 rw[aaT];constructor
 .rintro⟨⟨o,x⟩,hm,h⟩;obtain⟨i,hi⟩:=X1 hm;rw[List.getElem?_zip_eq_some]at hi;simp only[aac]at h;exact⟨i,o,hi.1,by unfold dp;rw[hi.2,h.1],h.2⟩
 .rintro⟨i,o,h1,h2,h3⟩;refine⟨(o,true),Sj (i:=i) (List.getElem?_zip_eq_some.2 ⟨h1,h2⟩),by simp[h3]⟩
theorem HH{l:List Obj}{O:List Bool}{n:Nat}:toB l O n=true↔∃(i:Nat)(o:Obj),l[i]? =some o/\dp O i/\(o.ak.any λe=>(nZ e).2==(n:Int))=true:=A6 (g:=λo:Obj=>o.ak.any λe=>(nZ e).2==(n:Int))
theorem HI{ops:List bF}{P:List Bool}{n:Nat}:opB ops P n=true↔∃(i:Nat)(o:bF),ops[i]? =some o/\dp P i/\(o.bo==(n:Int))=true:=A6 (g:=λo:bF=>o.bo==(n:Int))
theorem HK{l:List Obj}{O:List Bool}{n:Nat}:quB l O n=true↔∃(i:Nat)(o:Obj),l[i]? =some o/\dp O i/\(o.aq.any λq=>q.has&&q.dS==(n:Int))=true:=A6 (g:=λo:Obj=>o.aq.any λq=>q.has&&q.dS==(n:Int))
theorem HL{l:List Obj}{i:Nat}:nzB l i=true↔∃o,l[i]? =some o/\o.ag≠0:=by
 unfold nzB;cases l[i]? <;>simp
theorem Fu{l:List Obj}{ops:List bF}{ps:List bm}(ht:∀o,o∈l->o.RY){RO RP:Nat->Prop}(hc:Cl l ops RO RP)(hr:HD l ops ps RO RP):Pi RO RP (oV l ops ps):=by
 refine(vE (Q:=λb=>Pi RO RP b/\b.P.length=ops.length) (λb⟨h,Tl⟩=>⟨⟨λi hi=>?_,λc hi=>?_⟩,(nL b).2.trans Tl⟩) _ _ ⟨⟨λi hi=>?_,λc hi=>?_⟩,acg⟩).1
 .obtain⟨x,h1,h2⟩:=tP.1 hi;cases x with
  |true=>exact h.1 i h1
  |false=>
   rw[acw,aac,ab8]at h2;have hn:=HL.1 h2.1;rcases h2.2 with h2|h2
   .obtain⟨j,o,hj,ho,hg⟩:=HH.1 h2;obtain⟨e,he,hei⟩:=aaT.1 hg;obtain⟨es,nV⟩:=(ht o (Sj hj)).2.1;rw[nV]at he;obtain⟨⟨nm,z⟩,hx,rfl⟩:=aas.1 he;have hz:z=(i:Int):=by simpa[fX,nZ]using hei
    refine hc.e j o (h.1 j ho) hj z i ⟨nm,?_⟩ ⟨hz,hn⟩;rw[nV];exact aas.2 ⟨_,hx,rfl⟩
   .obtain⟨c,o,hj,ho,hg⟩:=HI.1 h2;exact hc.p c o (h.2 c ho) hj i ⟨by simpa using hg,hn⟩
 .obtain⟨x,h1,h2⟩:=tP.1 hi;cases x with
  |true=>exact h.2 c h1
  |false=>
   rw[acw]at h2;obtain⟨j,o,hj,ho,hg⟩:=HK.1 h2;obtain⟨q,hq,yy⟩:=aaT.1 hg;rw[aac]at yy;exact hc.q j o (h.1 j ho) hj q.dS c ⟨q,hq,yy.1,rfl⟩ ⟨by simpa using yy.2,Tl▸(JJ.1 h1).1⟩
 .unfold dp Jy at hi;simp only[acj]at hi;cases ho:l[i]? with
  |none=>rw[ho]at hi;cases hi
  |some o=>
   rw[ho]at hi;simp only[aax,aat,aac,decide_eq_true_eq]at hi;obtain⟨rfl,hk⟩:=hi;exact hr.1 0 ⟨rfl,o,ho,by simpa using hk⟩
 .unfold dp Jy at hi;simp only[acj]at hi;cases ho:ops[c]? with
  |none=>rw[ho]at hi;cases hi
  |some o=>
   rw[ho]at hi;simp only[aax,aat]at hi;obtain⟨pr,hp,hi⟩:=aaT.1 hi;rw[aac]at hi;obtain⟨s,hs,eY⟩:=aaT.1 hi.2;rw[aac]at eY;obtain⟨p,hp⟩:=X1 hp;exact hr.2 p pr hp hi.1 s hs eY.1 c ⟨by simpa using eY.2,(JJ.1 ho).1⟩
theorem Qf(l:List Obj)(ops:List bF)(ps:List bm)(ht:∀o,o∈l->o.RY):gL l ops ps (oV l ops ps):=by
 have hl:yD l ops (oV l ops ps):=vE (Q:=yD l ops) (λb h=>⟨(nL b).1.trans h.1,(nL b).2.trans h.2⟩) _ _ ⟨acg,acg⟩
 have TI:Ej l ops (oV l ops ps)=oV l ops ps:=by refine HG _ _ ?_;unfold Mk.mu;have h1:=wZ (Jy l ops ps).O;have h2:=wZ (Jy l ops ps).P;have h3:(Jy l ops ps).O.length=l.length:=acg;have h4:(Jy l ops ps).P.length=ops.length:=acg;omega
 have hle:= @Fu l ops ps ht;have pP:(∀i,dp (Jy l ops ps).O i->dp (oV l ops ps).O i)/\∀c,dp (Jy l ops ps).P c->dp (oV l ops ps).P c:=
  vE (Q:=λb=>(∀i,dp (Jy l ops ps).O i->dp b.O i)/\∀c,dp (Jy l ops ps).P c->dp b.P c) (λb h=>⟨λi hi=>(tQ b).1 i (h.1 i hi),λc hc=>(tQ b).2 c (h.2 c hc)⟩) _ _ ⟨λ_ h=>h,λ_ h=>h⟩
 generalize oV l ops ps=b at hl TI hle pP|-;have hO:∀n:Nat,(∃o,l[n]? =some o/\o.ag≠0)->(toB l b.O n=true\/opB ops b.P n=true)->dp b.O n:=λn hn hx=>by
  rw[<-TI];have:n<b.O.length:=by obtain⟨o,ho,_⟩:=hn;rw[hl.1];exact(JJ.1 ho).1
  refine tP.2 ⟨b.O[n],vl this,?_⟩;rw[HL.2 hn];rcases hx with hx|hx<;>rw[hx]<;>simp
 have im:Cl l ops (dp b.O) (dp b.P):=by
  refine⟨λi o hi ho z n hs hv=>?_,λi o hi ho z c hs hv=>?_,λc o hc ho n hv=>?_⟩
  .obtain⟨rfl,hn⟩:=hv;obtain⟨nm,hs⟩:=hs;refine hO n hn (.inl (HH.2 ⟨i,o,ho,hi,aaT.2 ⟨_,hs,?_⟩⟩));show((nZ (fX (nm,(n:Int)))).2==(n:Int))=true;simp[fX,nZ]
  .obtain⟨rfl,hn⟩:=hv;obtain⟨q,hq,h1,h2⟩:=hs;rw[<-TI];refine tP.2 ⟨b.P[c]'(by rw[hl.2];exact hn),vl _,?_⟩
   have:quB l b.O c=true:=HK.2 ⟨i,o,ho,hi,aaT.2 ⟨q,hq,by simp[h1,h2]⟩⟩
   rw[this];simp
  .obtain⟨h1,hn⟩:=hv;exact hO n hn (.inr (HI.2 ⟨c,o,ho,hc,by simp[h1]⟩))
 refine⟨hl,⟨λn hv=>pP.1 n ?_,λp pr hp b9 s hs hh c hv=>pP.2 c ?_⟩,im,λRO RP hc hr=>?_⟩
 .obtain⟨h0,o,ho,hk⟩:=hv;have h0:n=0:=om;subst h0;unfold Jy dp;simp only[acj,ho,aax,aat];simp[hk]
 .obtain⟨h0,hn⟩:=hv;unfold Jy dp;simp only[acj,vl hn,aax,aat];exact aaT.2 ⟨pr,Sj hp,by rw[b9,adl];exact aaT.2 ⟨s,hs,by simp[hh,h0]⟩⟩
 .exact hle hc hr
def n9(k:Kr):Kr:=
 ⟨k.l.mapIdx (cC (oV k.l k.ops k.ps) k.l k.l.length),k.ops.mapIdx (B3 (oV k.l k.ops k.ps) k.ops.length),k.ps.mapIdx (yg (k.l.mapIdx (cC (oV k.l k.ops k.ps) k.l k.l.length)) k.ps.length)⟩
theorem M6(k:Kr)(ht:∀o,o∈k.l->o.RY):cV k.l k.ops k.ps (n9 k).l (n9 k).ops (n9 k).ps (jh (n9 k).l k.ps k.ps.length):=
 ⟨⟨_,Qf k.l k.ops k.ps ht,A4 _ _,A4 _ _⟩,A4 _ _,rfl⟩
def Dc:Nat->Kr->Kr
 |0,k=>n9 k
 |n+1,k=>bif jh (n9 k).l k.ps k.ps.length then Dc n (n9 k)else n9 k
theorem M7:∀(n:Nat)(k:Kr),dI k.l k.ops k.ps->k9 k.ps<=n->∃a,iF k a/\cV a.l a.ops a.ps (Dc n k).l (Dc n k).ops (Dc n k).ps false
 |n,k,hk,hn=>by
  have h:=M6 k λo ho=>(hk.sm o ho).t
  cases he:jh (n9 k).l k.ps k.ps.length with
  |false=>
   rw[he]at h;refine⟨k,.refl,?_⟩;have:Dc n k=n9 k:=by
    cases n with
    |zero=>rfl
    |succ n=>show(bif _ then _ else _)=_;rw[he];rfl
   rw[this];exact h
  |true=>
   rw[he]at h;have aD:=h.k9;cases n with
   |zero=>omega
   |succ n=>
    obtain⟨a,h1,h2⟩:=M7 n (n9 k) (h.kr hk) om;have e:Dc (n+1) k=Dc n (n9 k):=by show(bif _ then _ else _)=_;rw[he];rfl
    rw[e];refine⟨a,?_,h2⟩;have:∀{x y:Kr},iF x y->cV k.l k.ops k.ps x.l x.ops x.ps true->iF k y:=λh3 h4=>by
     induction h3 with
     |refl=>exact .step .refl h4
     |step _ s ih=>exact .step ih s
    exact this h1 h
def mq{α:Type}(q:Nat->α->Bool):List α->Nat->Nat->Nat
 | [],_,b=>b
 |x::r,i,b=>mq q r (i+1) (bif q i x then b else i+1)
def Dd{α:Type}(q:Nat->α->Bool)(mn:Nat)(L:List α):Nat:=min L.length (max mn (mq q L 0 0))
theorem A7{α:Type}(q:Nat->α->Bool):∀(L:List α)(i b:Nat),b<=i->(mq q L i b=b/\(∀(t:Nat)o,L[t]? =some o->q (i+t) o=true))\/
  (i<mq q L i b/\mq q L i b<=i+L.length/\(∃o,L[mq q L i b-1-i]? =some o/\q (mq q L i b-1) o=false)/\∀(t:Nat)o,mq q L i b<=i+t->L[t]? =some o->q (i+t) o=true)
 | [],i,b,h=>.inl ⟨rfl,λt o h=>by simp at h⟩
 |x::r,i,b,h=>by
  cases hq:q i x with
  |true=>
   have e:mq q (x::r) i b=mq q r (i+1) b:=by show mq q r (i+1) (bif q i x then b else i+1)=_;rw[hq];rfl
   rw[e];rcases A7 q r (i+1) b om with⟨h1,h2⟩|⟨h1,h2,⟨o,h3,h4⟩,h5⟩
   .refine .inl ⟨h1,λt o ho=>?_⟩
    cases t with
    |zero=>simp at ho;subst ho;exact hq
    |succ t=>have:=h2 t o (by simpa using ho);rwa [show i+(t+1)=i+1+t by omega]
   .refine .inr ⟨om,by simp;omega,⟨o,?_,h4⟩,λt o ht ho=>?_⟩
    .rw[show mq q r (i+1) b-1-i=(mq q r (i+1) b-1-(i+1))+1 by omega];simpa using h3
    .cases t with
     |zero=>simp at ho;subst ho;exact hq
     |succ t=>have:=h5 t o om (by simpa using ho);rwa [show i+(t+1)=i+1+t by omega]
  |false=>
   have e:mq q (x::r) i b=mq q r (i+1) (i+1):=by show mq q r (i+1) (bif q i x then b else i+1)=_;rw[hq];rfl
   rw[e];rcases A7 q r (i+1) (i+1) (T5 _)with⟨h1,h2⟩|⟨h1,h2,⟨o,h3,h4⟩,h5⟩
   .refine .inr ⟨om,by simp;omega,⟨x,by rw[h1];simp,by rw[h1];simpa using hq⟩,λt o ht ho=>?_⟩
    cases t with
    |zero=>omega
    |succ t=>have:=h2 t o (by simpa using ho);rwa [show i+(t+1)=i+1+t by omega]
   .refine .inr ⟨om,by simp;omega,⟨o,?_,h4⟩,λt o ht ho=>?_⟩
    .rw[show mq q r (i+1) (i+1)-1-i=(mq q r (i+1) (i+1)-1-(i+1))+1 by omega];simpa using h3
    .cases t with
     |zero=>omega
     |succ t=>have:=h5 t o om (by simpa using ho);rwa [show i+(t+1)=i+1+t by omega]
theorem Fv{α:Type}(q:Nat->α->Bool)(mn:Nat)(L:List α):pR q mn L (Dd q mn L):=by
 unfold Dd;rcases A7 q L 0 0 (T5 _)with⟨h1,h2⟩|⟨h1,h2,⟨o,h3,h4⟩,h5⟩
 .refine⟨⟨Nat.min_le_left _ _,om,λt o _ ho=>by have:=h2 t o ho;rwa [aaM]at this⟩,.inl om⟩
 .refine⟨⟨Nat.min_le_left _ _,om,λt o ht ho=>?_⟩,?_⟩
  .have aD:=(JJ.1 ho).1;have:=h5 t o om ho;rwa [aaM]at this
  .rcases aaf mn (mq q L 0 0)with hm|hm
   .refine .inr ⟨o,?_⟩;have e:min L.length (max mn (mq q L 0 0))=mq q L 0 0:=om;rw[e];exact⟨by simpa using h3,h4⟩
   .exact .inl om
def Jz(c:Kr):Kr:=
 ⟨c.l.take (Dd qO 1 c.l),c.ops.take (Dd qP 0 c.ops),(c.ps.mapIdx (tc (c.l.take (Dd qO 1 c.l)) c.ps.length)).take (Dd (qR (c.l.take (Dd qO 1 c.l))) 1 (c.ps.mapIdx (tc (c.l.take (Dd qO 1 c.l)) c.ps.length)))⟩
theorem Fw(c:Kr):gG c (Jz c):=⟨⟨_,_,_,_,Fv _ _ _,Fv _ _ _,A4 _ _,Fv _ _ _,rfl⟩⟩
def gM(k:Kr):Kr:=Jz (Dc k.ps.length k)
theorem ir{k:Kr}(hk:dI k.l k.ops k.ps):Ju k (gM k):=by
 obtain⟨a,h1,h2⟩:=M7 k.ps.length k hk (by unfold k9;exact acu _ _)
 exact⟨a,_,h1,h2,Fw _⟩
theorem JA{k a c d:Kr}(hk:dI k.l k.ops k.ps)(h1:iF k a)(h2:cV a.l a.ops a.ps c.l c.ops c.ps false)(h3:gG c d):d=gM k:=
 Ju.AE ⟨a,c,h1,h2,h3⟩ (ir hk)
theorem JB(k:Kr)(hk:dI k.l k.ops k.ps){m:Mem}{K:CV->Mem->Prop}(h:K (ez (gM k).l (gM k).ops (gM k).ps) m):ap prog 41 [ez k.l k.ops k.ps] m K:=
 MZ k hk λa c d h1 h2 h3=>by rw[JA hk h1 h2 h3];exact h
end Kn
theorem pF{l:List bF}{k:Nat}(h:k<l.length):dC (l.map bF.enc) (k:Nat)=some [.val (.int .i64 l[k].bo),.val (.int .i64 l[k].di)]:=by rw[bD,Sf,vl h];rfl
inductive kh(m:Mem)(Z:Nat->Prop)(p:Option Nat):List CC->List Dt->Prop
 |nil:kh m Z p [] []
 |cons {c:CC} {d:Dt} {r:List CC} {r':List Dt} (h:dR m Z p c d) (hr:kh m Z p r r'):kh m Z p (c::r) (d::r')
theorem kh.len{m:Mem}{Z:Nat->Prop}{p:Option Nat}{a:List CC}{b:List Dt}(h:kh m Z p a b):a.length=b.length:=by induction h<;>simp[*]
theorem kh.get{m:Mem}{Z:Nat->Prop}{p:Option Nat}{a:List CC}{b:List Dt}(h:kh m Z p a b):∀(i:Nat)c d,a[i]? =some c->b[i]? =some d->dR m Z p c d:=by
 induction h with
 |nil=>intro i c d h;simp at h
 |cons h hr ih=>
  intro i c d h1 h2;cases i with
  |zero=>simp at h1 h2;subst h1 h2;exact h
  |succ i=>exact ih i c d (by simpa using h1) (by simpa using h2)
inductive gN(m:Mem)(Z:Nat->Prop)(p:Option Nat):List (List CC)->List (List Dt)->Prop
 |nil:gN m Z p [] []
 |cons {c:List CC} {d:List Dt} {r:List (List CC)} {r':List (List Dt)} (h:kh m Z p c d) (hr:gN m Z p r r'):gN m Z p (c::r) (d::r')
theorem gN.len{m:Mem}{Z:Nat->Prop}{p:Option Nat}{a:List (List CC)}{b:List (List Dt)}(h:gN m Z p a b):a.length=b.length:=by induction h<;>simp[*]
theorem gN.get{m:Mem}{Z:Nat->Prop}{p:Option Nat}{a:List (List CC)}{b:List (List Dt)}(h:gN m Z p a b):∀(i:Nat)c d,a[i]? =some c->b[i]? =some d->kh m Z p c d:=by
 induction h with
 |nil=>intro i c d h;simp at h
 |cons h hr ih=>
  intro i c d h1 h2;cases i with
  |zero=>simp at h1 h2;subst h1 h2;exact h
  |succ i=>exact ih i c d (by simpa using h1) (by simpa using h2)
theorem gN.fE{m:Mem}{Z:Nat->Prop}{p:Option Nat}{id esz:Nat}{elems:List (List CC)}{ds:List (List Dt)}(h:gN m Z (some id) elems ds)(hz:Z id)(hm:m[id]? =some (.row esz elems)):dR m Z p (.row id esz 0 none) (.sl esz ds):=
 dR.row id esz 0 none elems ds hz hm h.len (λi cs es h1 h2=>(h.get i cs es h1 h2).len) (λi cs es j c d h1 h2 h3 h4=>(h.get i cs es h1 h2).get j c d h3 h4)
end Go.Proofs.YtodckkkbiidffaaGreatDoor
