/- Part 11 of 18. -/
import Derived.Test.YtojhmadmlnfpcaaGreatDoorS10
import Derived.Sort.Grow
import Derived.Test.YtojhmadmlnfpcaaGreatDoorRows
set_option linter.unusedVariables false
set_option linter.unusedSimpArgs false
set_option linter.unnecessarySimpa false
set_option maxRecDepth 100000
set_option maxHeartbeats 0
namespace Go.AM
section
variable {P:Program} {ρ:bQ} {m:Mem} {w:World}
theorem xr(w:World)(Ld:Nat)(f:Array Value->Array Value){b:Nat}(h:b≠Ld):(Sort.mapBlock w Ld f).heap[b]? =w.heap[b]? :=by simp only[Sort.mapBlock,abN];rw[if_neg (fun e=>h e.symm)]
theorem xt(w:World)(n Ld off:Nat)(F:Array Value):kI w (Sort.putRow id (Sort.ahead w n) Ld off F) Ld:=
 ⟨fun b hb=>xr _ _ _ hb,by simp[Sort.putRow,Sort.mapBlock,Sort.ahead],rfl,rfl,rfl⟩
theorem D5{mk:Prop}{w:World}{Ld off:Nat}{cur:Array Value}(F:Array Value)(n:Nat)(h:lS mk w Ld cur):lS mk (Sort.putRow id (Sort.ahead w n) Ld off F) Ld (Sort.putCells id off F cur):=by
 obtain⟨ty,fr,hb,h1,h2,h3⟩:=h;refine⟨ty,fr,?_,h1,fun i hi=>h2 i (by simpa[Sort.putCells]using hi),by simpa[Sort.putCells]using h3⟩
 have aB:Ld<w.heap.size:=(aaK.1 hb).1;have e:(Sort.ahead w n).heap[Ld]? =some (.cells cur ty fr):=hb;simp only[Sort.putRow,Sort.mapBlock,abN,if_true,e,aaG,Sort.onCells]
theorem Ig(hM:aL ρ m w){id esz:Nat}{rows lC:List (List CC)}{F:Array Value}(hb:m[id]? =some (.row esz rows))(dz:0<rows.length)(hlen:lC.length=rows.length)(dN:∀cs,cs∈lC->cs.length=esz)(hF:F.size=rows.length*esz)(OE:∀cs,cs∈lC->∀c,c∈cs->∃d,c= .aa d)(cw:∀(i:Nat)cs(j:Nat)c,lC[i]? =some cs->cs[j]? =some c->bC ρ w .none c F[i*esz+j]!)(n:Nat)(os:Array Obj):
  aL ρ (m.set id (.row esz lC)) (Sort.grow (Sort.putRow _root_.id (Sort.ahead w n) (ρ.aV (.ar id)).b (ρ.aV (.ar id)).aA F) os)/\
  Ext ρ m w ρ (m.set id (.row esz lC)) (Sort.grow (Sort.putRow _root_.id (Sort.ahead w n) (ρ.aV (.ar id)).b (ρ.aV (.ar id)).aA F) os):=by
 have hid:id<m.length:=(Mh.1 hb).1;obtain⟨h2,h3,h4,h5,AO⟩:=hM.bk id _ hb;have bq:0<(ρ.aV (.ar id)).cap:=om;obtain⟨cur,cj,h1,hd⟩:=AO bq;have hmul:rows.length*esz<=(ρ.aV (.ar id)).cap*esz:=abq _ om;have VG:∀{i' j' xf e},fJ (m.set id (.row esz lC)) id i' j' xf e->False:=by rintro i' j' xf e ⟨es,Qx,Kp,mj,eC,kj⟩;rw[Wl hid]at mj;cases mj;obtain⟨d,hd⟩:=OE _ (Rq eC) _ (Rq kj);cases hd
 obtain⟨lU,hX⟩:=hM.RD (Dr:= .row esz lC) (w':=Sort.putRow _root_.id (Sort.ahead w n) (ρ.aV (.ar id)).b (ρ.aV (.ar id)).aA F) hb ⟨_,hb,aG,fun _=>bq⟩ (xt w n _ _ F)
  (fun g=>⟨by rw[hlen];exact h2,h3,h4,dN,fun _=>⟨_,D5 F n cj,by simpa[Sort.putCells]using h1,fun i cs j c hi hj=>by
   have km:j<esz:=by rw[<-dN cs (Rq hi)];exact(Mh.1 hj).1
   have Qv:i<rows.length:=by rw[<-hlen];exact(Mh.1 hi).1
   have qy:i*esz+j<rows.length*esz:=by have:(i+1)*esz<=rows.length*esz:=abq _ om;rw[abE,ab3]at this;omega
   have cz:=cw i cs j c hi hj;refine⟨F[i*esz+j]!,?_,(bC.cQ g aG cz).u0 _⟩;have hc:(ρ.aV (.ar id)).aA+i*esz+j<cur.size:=om;simp only[Sort.putCells,Array.getElem?_mapIdx,abR hc,aaG];rw[if_pos om];congr 2;show F[_]! =_;congr 1;omega⟩⟩)
  (fun i j e1 e2 h=>(VG h).elim)
 have hW:eD (Sort.putRow _root_.id (Sort.ahead w n) (ρ.aV (.ar id)).b (ρ.aV (.ar id)).aA F) (Sort.grow (Sort.putRow _root_.id (Sort.ahead w n) (ρ.aV (.ar id)).b (ρ.aV (.ar id)).aA F) os):=
  ⟨fun b hb=>Sort.heap_grow_old _ os hb,by simp[Sort.grow],rfl,rfl,rfl⟩
 obtain⟨DX,n9⟩:=lU.K4 hW;exact⟨DX,hX.trans n9⟩
end
section
variable {P:Program}
theorem View.Sf{n0:Nat}{e:List CV}{m:Mem}(id j esz n:Nat){cs:List CC}(hn:m.length=n)(hb:dd m id=some (.var cs))(hj:dd cs j=some .aI)(h0:Nat.ble n0 n=true):
  View n0 ⟨e,m⟩ ⟨e,gh (bb m id (.var (bb cs j (.row n esz 0 none)))) [.row esz []]⟩:=by
 subst hn;have h0:=X5 h0;rw[aZ]at hb hj;rw[bj,bj,b9];have hid:id<m.length:=(Mh.1 hb).1;have km:j<cs.length:=(Mh.1 hj).1;refine⟨by simp;omega,rfl,fun ρ w hM=>?_⟩
 have hn:ρ.n=m.length:=hM.n;let ρ':bQ:={n:=m.length+1,aV:=fun k=>if k.id=m.length then⟨0,0,0,0⟩else ρ.aV k,S:=ρ.S}
 have cC:∀k:jz,k.id<ρ.n->ρ'.aV k=ρ.aV k:=fun k hk=>by simp only[ρ'];rw[if_neg om]
 have g:iD ρ w ρ' w:=⟨by show ρ.n<=m.length+1;omega,cC,fun _ h=>h,fun _ _=>rfl⟩
 have get:∀(k:Nat)b,(m.set id (.var (cs.set j (.row m.length esz 0 none)))++ [Bk.row esz []])[k]? =some b->(k<m.length/\k≠id/\m[k]? =some b)\/(k=id/\b= .var (cs.set j (.row m.length esz 0 none)))\/(k=m.length/\b= .row esz []):=by
  intro k b hk;rcases ZX k m.length with h|h
  .rw[ZY (by simpa using h)]at hk
   by_cases Db:k=id
   .subst Db;rw[Wl hid]at hk;cases hk;exact .inr (.inl ⟨rfl,rfl⟩)
   .rw[ZZ (fun e=>Db e.symm)]at hk
    exact .inl ⟨h,Db,hk⟩
  .have aB:=(Mh.1 hk).1;simp at aB;have:k=m.length:=om;subst this;rw[ZW aG]at hk;simp at hk;exact .inr (.inr ⟨rfl,hk.symm⟩)
 have cG:∀k,Live ρ' (m.set id (.var (cs.set j (.row m.length esz 0 none)))++ [.row esz []]) k->Live ρ m k:=by
  intro k hk;cases k with
  |ar i=>
   obtain⟨bk,eY,qz,bq⟩:=hk;rcases get i bk eY with⟨h1,h2,h3⟩|⟨rfl,rfl⟩|⟨rfl,rfl⟩
   .rw[cC (.ar i) (by simp only[jz.id];omega)]at bq
    exact⟨bk,h3,qz,bq⟩
   .exact⟨_,hb,aG,aG⟩
   .have:=bq ⟨_,_,rfl⟩;simp[ρ',jz.id]at this
  |sub i x y=>
   obtain⟨⟨s,el,es,rows,c2,eY,hi,pP⟩,bq⟩:=hk;rcases get i _ eY with⟨h1,h2,h3⟩|⟨rfl,h⟩|⟨rfl,h⟩
   .rw[cC (.sub i x y) (by simp only[jz.id];omega)]at bq
    exact⟨⟨s,el,es,rows,c2,h3,hi,pP⟩,bq⟩
   .cases h
   .cases h;simp at hi
 have jm:∀k,Live ρ m k->ρ'.aV k=ρ.aV k:=fun k hk=>cC k (by rw[hn];exact hk.fS)
 refine⟨ρ',⟨by simp[ρ'],hM.S,fun k hk=>?_,fun k k' hk gK mU=>?_,fun i b hbi=>?_,fun i x y s el ho bq=>?_⟩,⟨fun i hi=>cC (.ar i) (by simp only[jz.id];omega),fun _ h=>h,fun _ h=>.inl h,fun k hk=>⟨k,cG k hk,(by rw[jm k (cG k hk)])⟩⟩,fun i c' hi=>⟨c',hi,fun v hd=>cm.cQ g hd⟩⟩
 .rw[jm k (cG k hk)];exact hM.aQ k (cG k hk)
 .rw[jm k (cG k hk),jm k' (cG k' gK)]at mU;exact hM.inj k k' (cG k hk) (cG k' gK) mU
 .rcases get i b hbi with⟨h1,h2,h3⟩|⟨rfl,rfl⟩|⟨rfl,rfl⟩
  .exact(hM.bk i b h3).cQ g om fun _ _=>rfl
  .obtain⟨cur,cj,hc⟩:=hM.bk i _ hb;rw[show d8 ρ' w i (.var (cs.set j (.row m.length esz 0 none)))=(∃cur,lS True w (ρ'.aV (.ar i)).b cur/\∀(j':Nat)c,(cs.set j (.row m.length esz 0 none))[j']? =some c->∃u,cur[(ρ'.aV (.ar i)).aA+j']? =some u/\bC ρ' w .none c u)from rfl,cC (.ar i) (by simp only[jz.id];omega)]
   refine⟨cur,cj,fun j' c pP=>?_⟩
   rw[abw]at pP;split at pP
   .rename_i hjj;subst hjj;cases pP;obtain⟨u,hu,hd⟩:=hc j _ hj;obtain⟨a,rfl⟩:=hd;exact⟨_,hu,by simp[bC,ρ',jz.id]⟩
   .obtain⟨u,hu,hd⟩:=hc j' c pP;exact⟨u,hu,bC.cQ g aG hd⟩
  .simp[d8,ρ',jz.id]
 .have hk:Live ρ m (.sub i x y):=cG (.sub i x y) ⟨⟨_,_,ho⟩,bq⟩;have Zk:=hk.fS;simp only[jz.id]at Zk;rw[jm _ hk]at bq⊢;obtain⟨es,rows,c2,eY,hi,pP⟩:=ho;rcases get i _ eY with⟨h1,h2,h3⟩|⟨rfl,h⟩|⟨rfl,h⟩
  .obtain⟨cur,hc,q1,q2,q3⟩:=hM.gO i x y s el ⟨es,rows,c2,h3,hi,pP⟩ bq;exact⟨cur,hc,q1,q2,q3⟩
  .cases h
  .cases h;simp at hi
end
end Go.AM
namespace Go.Proofs.YtojhmadmlnfpcaaGreatDoor
open Go.AM Go.ChangeShapes Go.WideShapes Go.ChangeAt Go.RowKit
def c104:LF:= ⟨8,[.tmp 2],(.seq (.ai [qu 2 (.aH qe)]) (.seq (.seq (.ai [qm 3 0,qu 4 (.xb false 3)]) (.cond 4 (.seq (.ai [qu 2 (.aH qe)]) .ret) .skip)) (.seq (.ai [qu 5 (.ln 1 [(.aa (.val (.int .u8 (0))))] 0 []),qm 6 0,qu 7 (.ni 1 1 5 6),qm 2 7]) .ret)))⟩
def c135:LF:= ⟨8,[.tmp 2],(.seq (.ai [qu 2 (.aH qe)]) (.seq (.seq (.ai [qm 3 0,qu 4 (.xb false 3)]) (.cond 4 (.seq (.ai [qu 2 (.aH qe)]) .ret) .skip)) (.seq (.ai [qu 5 (.ln 2 [(.aa (.val (.string ⟨#[]⟩))),qd 0] 0 []),qm 6 0,qu 7 (.ni 2 24 5 6),qm 2 7]) .ret)))⟩
theorem gY{n:Int}(h1: -9223372036854775808<=n)(h2:n<=9223372036854775807):IntKind.i64.wrap n=n:=IntWalk.i64_in n om
structure bw where
 data:List (List Dt)
 has:Bool
 dk:Int
 bZ:Int
def bw.enc(m:bw):List Dt:=[.sl 1 m.data,.val (.bool m.has),.val (.int .i64 m.dk),.val (.int .i64 m.bZ)]
structure Obj where
 ah:Int
 data:List (List Dt)
 ak:List (List Dt)
 target:ByteArray
 aD:Int
 aj:List bw
 aM:Int
 am:Int
 up:Int
def Obj.enc(o:Obj):List Dt:=[.val (.int .i64 o.ah),.sl 1 o.data,.sl 2 o.ak,.val (.string o.target),.val (.int .i64 o.aD),.sl 4 (o.aj.map bw.enc),.val (.int .i64 o.aM),.val (.int .i64 o.am),.val (.int .i64 o.up)]
def bw.cv(m:bw):CV:= .rv (.agg (m.enc.map .aa))
def Obj.cv(o:Obj):CV:= .rv (.agg (o.enc.map .aa))
def cU(l:List Obj):Dt:= .sl 9 (l.map Obj.enc)
def b8(l:List Obj):CV:= .rv (.one (.aa (cU l)))
def Obj.mL(o:Obj):Prop:=o.data.length<=4194304/\o.ak.length<=4194304/\o.aj.length<=4194304/\∀q,q∈o.aj->q.data.length<=4194304
def jW(l:List Obj):Prop:=l.length<=4194304/\∀o,o∈l->o.mL
theorem l104:bx Tryz.prog Tryz.f104=some c104:=by kernel_rfl
theorem l135:bx Tryz.prog Tryz.f135=some c135:=by kernel_rfl
def rf(esz:Nat)(d:List (List Dt)):CV:= .rv (.one (.aa (.sl esz d)))
theorem BJ(d:List (List Dt))(hb:d.length<=4194304):body Tryz.prog c104 [rf 1 d] [] (fun r m=>cJ m r (rf 1 d)):=by
 have lJ:((([]:List (List CC)).length+(d.map fun ds=>ds.map CC.aa).length)*1)<=140737488355328:=by simp;omega
 refine aC (fun h=>?_) (fun h=>?_)
 .have hd:d=[]:=Z1 (by simpa using Z2 h)
  subst hd;exact⟨.rv (.one (.aI 1)),lJ,.rv (.one (d9.dJ rfl 0 none))⟩
 .exact⟨lJ,.rv (.one (d9.dJ rfl 0 none))⟩
theorem gZ(d:List (List Dt))(hb:d.length<=4194304){m:Mem}{K:CV->Mem->Prop}(h:K (rf 1 d) m):au Tryz.prog 104 [rf 1 d] m K:=
 be (aX Tryz.func104 l104 (BJ d hb)) (by simp[rf,CV.dm,CC.dm]) fun r m1 hf=>⟨_,hf,h⟩
theorem BK(d:List (List Dt))(hb:d.length<=4194304):body Tryz.prog c135 [rf 2 d] [] (fun r m=>cJ m r (rf 2 d)):=by
 have lJ:((([]:List (List CC)).length+(d.map fun ds=>ds.map CC.aa).length)*24)<=140737488355328:=by simp;omega
 refine aC (fun h=>?_) (fun h=>?_)
 .have hd:d=[]:=Z1 (by simpa using Z2 h)
  subst hd;exact⟨.rv (.one (.aI 2)),lJ,.rv (.one (d9.dJ rfl 0 none))⟩
 .exact⟨lJ,.rv (.one (d9.dJ rfl 0 none))⟩
theorem sq(d:List (List Dt))(hb:d.length<=4194304){m:Mem}{K:CV->Mem->Prop}(h:K (rf 2 d) m):au Tryz.prog 135 [rf 2 d] m K:=
 be (aX Tryz.func135 l135 (BK d hb)) (by simp[rf,CV.dm,CC.dm]) fun r m1 hf=>⟨_,hf,h⟩
def rh(p Q k:Nat)(o:Obj):List CC:=[.aa (.val (.int .i64 o.ah)),.aa (.sl 1 o.data),.aa (.sl 2 o.ak),.aa (.val (.string o.target)),.aa (.val (.int .i64 o.aD)),
 (if k=p then .row Q 4 0 none else .aa (.sl 4 (o.aj.map bw.enc))),.aa (.val (.int .i64 o.aM)),.aa (.val (.int .i64 o.am)),.aa (.val (.int .i64 o.up))]
def ez(p Q:Nat):Nat->List Obj->List (List CC)
 |_,[]=>[]
 |k,o::r=>rh p Q k o::ez p Q (k+1) r
theorem ri(p Q:Nat):∀(a:List Obj)(k:Nat)(b:List Obj),ez p Q k (a++b)=ez p Q k a++ez p Q (k+a.length) b
 | [],k,b=>rfl
 |o::r,k,b=>by simp[ez,ri p Q r (k+1) b,abA,Nat.add_comm 1]
theorem mz(p Q:Nat):∀(l:List Obj)(k:Nat),(ez p Q k l).length=l.length
 | [],_=>rfl
 |o::r,k=>by simp[ez,mz p Q r (k+1)]
theorem pX(p Q:Nat):∀(l:List Obj)(k:Nat),(p<k\/k+l.length<=p)->ez p Q k l=af (l.map Obj.enc)
 | [],_,_=>rfl
 |o::r,k,h=>by simp only[aar]at h;have hk:¬k=p:=om;simp only[ez,rh,if_neg hk,pX p Q r (k+1) om];rfl
theorem sr(p Q:Nat):∀(l:List Obj)(k i:Nat),(ez p Q k l)[i]? =(l[i]?).map (rh p Q (k+i))
 | [],k,i=>by simp[ez]
 |o::r,k,0=>by simp[ez]
 |o::r,k,i+1=>by
  simp only[ez,abY,sr p Q r (k+1) i];rw[show k+1+i=k+(i+1) by omega]
theorem Le{σ:Nat->Nat}{p Q k:Nat}(o:Obj):(rh p Q k o).map (CC.aO σ)=rh p (σ Q) k o:=by
 by_cases h:k=p<;>simp[rh,h,CC.aO]
theorem ku{σ:Nat->Nat}(p Q:Nat):∀(l:List Obj)(k:Nat),(ez p Q k l).map (fun cs=>cs.map (CC.aO σ))=ez p (σ Q) k l
 | [],_=>rfl
 |o::r,k=>by simp only[ez,abv,ku p Q r (k+1)];rw[Le]
def c105:LF:= ⟨47,[.tmp 2],(.seq (.ai [qu 2 (.aH qe)]) (.seq (.ai [qu 3 (.aH qe)]) (.seq (.seq (.ai [qm 9 0,qu 10 (.len 1 9),qu 11 (.aH (qi 0))]) (.block 0 (.loop (.seq (.ai [qu 12 (.aF .lss 11 10)]) (.seq (.cond 12 .skip (.exit 0)) (.seq (.block 1 (.seq (.ai [qu 13 (.bW 9 9 11),qL 14 9 13,qu 5 (.alloc [qd 0,.aI,.aI,(.aa (.val (.string ⟨#[]⟩))),qd 0,.aI,qd 0,qd 0,qd 0]),qw (.store 9 5 14)]) (.seq (.bX [qf 15 1 5,ql 16 15,qu 17 (qc 104 [16]),qf 18 2 5,ql 19 18,qu 20 (qc 135 [19]),qf 21 1 5,qw (.store 1 21 17),qf 22 2 5,qw (.store 1 22 20)] [(.cons 0 none (.cons 1 none (.cons 3 none (.cons 4 none (.cons 2 (some [4]) (.cons 6 none (.cons 5 (some []) (.cons 7 (some []) (.cons 8 none (.cons 9 (some []) .nil))))))))))]) (.seq (.ai [qu 6 (.aH qe)]) (.seq (.seq (.ai [qf 23 5 5,ql 24 23,qu 25 (.len 1 24),qu 26 (.aH (qi 0))]) (.block 2 (.loop (.seq (.ai [qu 27 (.aF .lss 26 25)]) (.seq (.cond 27 .skip (.exit 2)) (.seq (.block 3 (.seq (.ai [qu 28 (.bW 4 24 26),qL 29 4 28,qu 8 (.alloc [.aI,(.aa (.val (.bool false))),qd 0,qd 0]),qw (.store 4 8 29)]) (.seq (.ai [qf 30 0 8,ql 31 30,qu 32 (qc 104 [31]),qf 33 0 8,qw (.store 1 33 32)]) (.ai [qm 34 6,qL 35 4 8,qu 36 (.ln 4 [.aI,(.aa (.val (.bool false))),qd 0,qd 0] 1 [(0,35)]),qu 37 (.ni 4 48 34 36),qm 6 37])))) (.ai [qu 38 (.aF .add 26 (qi 1)),qm 26 38]))))))) (.seq (.ai [qm 39 6,qf 40 5 5,qw (.store 1 40 39)]) (.ai [qm 41 3,qL 42 9 5,qu 43 (.ln 9 [qd 0,.aI,.aI,(.aa (.val (.string ⟨#[]⟩))),qd 0,.aI,qd 0,qd 0,qd 0] 1 [(0,42)]),qu 44 (.ni 9 128 41 43),qm 3 44]))))))) (.ai [qu 45 (.aF .add 11 (qi 1)),qm 11 45]))))))) (.seq (.ai [qm 46 3,qm 2 46]) .ret))))⟩
def Zl(l:List Obj)(p:Nat):List bw:=match l[p]? with|some o=>o.aj|none=>[]
def zF(l:List Obj)(p k:Nat):Bk:=match Nat.blt p k with|true=>.row 4 (af ((Zl l p).map bw.enc))|false=>.aW
theorem uF{σ:Nat->Nat}(l:List Obj)(p k:Nat):(zF l p k).aO σ=zF l p k:=by
 unfold zF;split
 .exact Bk.kn _ _
 .rfl
theorem py{α:Type}{l:List α}{i:Nat}{s:α}(h:l[i]? =some s):l.take (i+1)=l.take i++ [s]:=by rw[abM,h];rfl
theorem bN(a b:List (List Dt)):af (a++b)=af a++af b:=by simp[af]
theorem vC{p Q:Nat}{l:List Obj}{k:Nat}{o:Obj}(h:l[k]? =some o):ez p Q 0 (l.take (k+1))=ez p Q 0 (l.take k)++ [rh p Q k o]:=by have hk:=(Mh.1 h).1;rw[py h,ri,Z4,acZ om,abx];rfl
theorem l105:bx Tryz.prog Tryz.f105=some c105:=by kernel_rfl
theorem Lg(l:List Obj)(hf:jW l)(p:Nat):body Tryz.prog c105 [b8 l] [] (fun r m=>r= .rv (.one (.row 0 9 0 none))/\m=[.row 9 (ez p 1 0 l),zF l p l.length]):=by
 obtain⟨hl,TU⟩:=hf;refine aK (fun k=>k<=l.length) [0,9,10] (fun k=>[(11,an .i64 (k:Nat)),(3,.rv (.one (.row 0 9 0 none)))]) (fun k=>[.row 9 (ez p 1 0 (l.take k)),zF l p k]) (fun k=>l.length-k) 0 (Wi _) ?_ (fun k hk=>?_)
 .refine View.trans (View.aI 2 4 0 rfl rfl rfl) (View.trans (View.aI 3 9 1 rfl rfl rfl) (View.o1 2 [1,0] [] ?_))
  .exact .put (by simp[bz]) rfl (.eq rfl aG) (.aW (.nil _))
 .refine ay (fun h=>?_) (fun h=>?_)
  .have aB:k<l.length:=by have h:(k:Int)<((l.map Obj.enc).length:Int):=h;rw[Nq]at h;omega
   have hi:=IE aB;have N1:=TU _ (Z0 aB);have hg:cR (l.map Obj.enc) (k:Nat)=some (l[k].enc):=by rw[bn,Q8,IE aB];rfl
   generalize l[k]=o at hi N1 hg;obtain⟨ah,data,ak,target,aD,aj,aM,am,up⟩:=o;obtain⟨Lh,D6,N2,JX⟩:=N1;have Lh:data.length<=4194304:=Lh;have D6:ak.length<=4194304:=D6;have N2:aj.length<=4194304:=N2;have JX:∀q,q∈aj->q.data.length<=4194304:=JX;have hg:cR (l.map Obj.enc) (k:Nat)=some [.val (.int .i64 ah),.sl 1 data,.sl 2 ak,.val (.string target),.val (.int .i64 aD),.sl 4 (aj.map bw.enc),.val (.int .i64 aM),.val (.int .i64 am),.val (.int .i64 up)]:=hg;refine ag hg ?_;refine gZ data Lh ?_;refine⟨⟨rfl,trivial⟩,?_⟩;refine sq ak D6 ?_;refine⟨trivial,?_⟩;refine⟨trivial,?_⟩;refine⟨trivial,?_⟩;refine aK (fun j=>j<=aj.length) [0,3,5,9,10,11,24,25] (fun j=>[(26,an .i64 (j:Nat)),(6,.rv (.one (.row 3 4 0 none)))])
    (fun j=>[.row 9 (ez p 1 0 (l.take k)),zF l p k,.var ((⟨ah,data,ak,target,aD,aj,aM,am,up⟩:Obj).enc.map .aa),.row 4 (af ((aj.take j).map bw.enc))]) (fun j=>aj.length-j) 0 (Wi _) ?_ (fun j hj=>?_)
   .refine View.trans (View.aI 6 4 3 rfl rfl rfl) (View.o1 4 [0,1,2,3] [] ?_)
    .exact .pt rfl rfl (.eq (congrArg (Bk.row 9) (ku p 1 _ _)) aG) (.yi (e9 rfl) rfl (uF l p k) (.pe rfl rfl rfl (.pn rfl rfl rfl)))
   .have hj:j<=aj.length:=hj;refine ay (fun h=>?_) (fun h=>?_)
    .have da:j<aj.length:=by have h:(j:Int)<((aj.map bw.enc).length:Int):=h;rw[Nq]at h;omega
     have xn:=IE da;have Ih:=JX _ (Z0 da);generalize aj[j]=q at xn Ih;obtain⟨qd,qh,qo,qr⟩:=q;have pz:cR (aj.map bw.enc) (j:Nat)=some [.sl 1 qd,.val (.bool qh),.val (.int .i64 qo),.val (.int .i64 qr)]:=by rw[bn,Q8,xn];rfl
     refine ag pz ?_;refine gZ qd Ih ?_;refine⟨?_,?_⟩
     .show((af ((aj.take j).map bw.enc)).length+1)*48<=_;simp[af];omega
     refine⟨j+1,da,(show aj.length-(j+1)<aj.length-j by omega),View.o 7 [0,1,2,6] [] ?_ ?_⟩
     .repeat(first|exact .nil|refine .aq ?_|refine .put (.aO (ap om).symm) ?_|refine .eq rfl ?_)
     .refine .pt rfl rfl (.eq (congrArg (Bk.row 9) (ku p 1 _ _)) aG) (.yi (e9 rfl) rfl (uF l p k) (.pe rfl rfl rfl (.pt rfl rfl (.bM ?_) (.nil _))));rw[py xn,abn,bN];rfl
    .have ew:¬(j:Int)<((aj.map bw.enc).length:Int):=h;rw[Nq]at ew;have hq:aj.take j=aj:=abS om;refine⟨?_,?_⟩
     .show((ez p 1 0 (l.take k)).length+1)*128<=_;rw[mz];simp;omega
     by_cases RQ:k=p
     .subst RQ;have hR:∀Q,ez k Q 0 (l.take k)=af ((l.take k).map Obj.enc):=fun Q=>pX k Q _ 0 (.inr (by simp;omega))
      have Sg:zF l k (k+1)= .row 4 (af ((aj.take j).map bw.enc)):=by
       have:Nat.blt k (k+1)=true:=by rw[abU];omega
       simp only[zF,this,Zl,hi,hq]
      refine⟨k+1,aB,(show l.length-(k+1)<l.length-k by omega),View.o 6 [5,3] [] ?_ ?_⟩
      .repeat(first|exact .nil|refine .aq ?_|refine .put (.aO (ap om).symm) ?_|refine .eq rfl ?_)
      .rw[vC hi,Sg];refine .pt rfl rfl (.zE ?_ rfl ?_) (.pn rfl rfl rfl)
       .rw[ku,hR,hR];rfl
       .intro j c c' h1 h2;have e5:rh k 1 k ⟨ah,data,ak,target,aD,aj,aM,am,up⟩=[.aa (.val (.int .i64 ah)),.aa (.sl 1 data),.aa (.sl 2 ak),.aa (.val (.string target)),.aa (.val (.int .i64 aD)),.row 1 4 0 none,.aa (.val (.int .i64 aM)),.aa (.val (.int .i64 am)),.aa (.val (.int .i64 up))]:=by simp[rh]
        rw[e5]at h2
        match j,h1,h2 with
        |0,h1,h2=>cases h1;cases h2;exact .aO (.aa _)
        |1,h1,h2=>cases h1;cases h2;exact .aO (.aa _)
        |2,h1,h2=>cases h1;cases h2;exact .aO (.aa _)
        |3,h1,h2=>cases h1;cases h2;exact .aO (.aa _)
        |4,h1,h2=>cases h1;cases h2;exact .aO (.aa _)
        |5,h1,h2=>cases h1;cases h2;exact .aO (.row 1 4 0 none)
        |6,h1,h2=>cases h1;cases h2;exact .aO (.aa _)
        |7,h1,h2=>cases h1;cases h2;exact .aO (.aa _)
        |8,h1,h2=>cases h1;cases h2;exact .aO (.aa _)
        |n+9,h1,h2=>simp at h1
     .have Sg:zF l p (k+1)=zF l p k:=by
       have:Nat.blt p (k+1)=Nat.blt p k:=by rw[ac2,abU,abU];omega
       simp only[zF,this]
      refine⟨k+1,aB,(show l.length-(k+1)<l.length-k by omega),View.o 6 [5,1] [3] ?_ ?_⟩
      .repeat(first|exact .nil|refine .aq ?_|refine .put (.aO (ap om).symm) ?_|refine .eq rfl ?_)
      .rw[vC hi,Sg];refine .pt rfl rfl (.zE (ku p 1 _ _) rfl ?_) (.yi (e9 rfl) rfl (uF l p k) (.nil _));intro j' c c' h1 h2;have e5:rh p 1 k ⟨ah,data,ak,target,aD,aj,aM,am,up⟩=[.aa (.val (.int .i64 ah)),.aa (.sl 1 data),.aa (.sl 2 ak),.aa (.val (.string target)),.aa (.val (.int .i64 aD)),.aa (.sl 4 ((aj.take j).map bw.enc)),.aa (.val (.int .i64 aM)),.aa (.val (.int .i64 am)),.aa (.val (.int .i64 up))]:=by simp[rh,RQ,hq]
       rw[e5]at h2
       match j',h1,h2 with
       |0,h1,h2=>cases h1;cases h2;exact .aO (.aa _)
       |1,h1,h2=>cases h1;cases h2;exact .aO (.aa _)
       |2,h1,h2=>cases h1;cases h2;exact .aO (.aa _)
       |3,h1,h2=>cases h1;cases h2;exact .aO (.aa _)
       |4,h1,h2=>cases h1;cases h2;exact .aO (.aa _)
       |5,h1,h2=>cases h1;cases h2;exact .e8 (dC.dJ (Z:=fun k=>bz [3] k=true) rfl (by rw[<-aZ];rfl) 0 none)
       |6,h1,h2=>cases h1;cases h2;exact .aO (.aa _)
       |7,h1,h2=>cases h1;cases h2;exact .aO (.aa _)
       |8,h1,h2=>cases h1;cases h2;exact .aO (.aa _)
       |n+9,h1,h2=>simp at h1
  .have ew:¬(k:Int)<((l.map Obj.enc).length:Int):=h;rw[Nq]at ew;have fj:k=l.length:=by have:k<=l.length:=hk;omega
   subst fj;rw[abp];exact⟨rfl,rfl⟩
theorem vD(l:List Obj)(hf:jW l)(p:Nat){m:Mem}{K:CV->Mem->Prop}(h:K (.rv (.one (.row m.length 9 0 none))) (m++ [.row 9 (ez p (m.length+1) 0 l),zF l p l.length])):au Tryz.prog 105 [b8 l] m K:=by
 refine bu [] m.length rfl rfl rfl rfl rfl (fun i b' hi=>by simp at hi) (aX Tryz.func105 l105 (Lg l hf p)) (fun r m1 hr=>?_)
 obtain⟨h1,h2⟩:=hr;subst h1;subst h2;refine⟨Wi _,?_⟩;show K (.rv (.one (.row (m.length+(0-0)) 9 0 none))) (gh m [.row 9 ((ez p 1 0 l).map (fun cs=>cs.map (CC.aO (sg [] m.length)))),(zF l p l.length).aO (sg [] m.length)])
 rw[ku,uF,b9];exact h
def c118:LF:= ⟨34,[.tmp 4,.tmp 5,.tmp 6],(.seq (.ai [qu 3 (.box 1),qu 4 (.aH qe),qu 5 (.aH (qi 0)),qu 6 (.aH (qi 0))]) (.seq (.ai [qm 9 0,qu 10 (qc 128 [9,(.c (.rv (.one (.fn 145 []))))]),qm 7 10]) (.seq (.seq (.ai [qm 11 7,qu 12 (.aF .lss 11 (qi 0))]) (.cond 12 (.seq (.seq (.ai [qm 13 0,qu 14 (.len 1 13),qu 15 (.aF .geq 14 (qi 40))]) (.cond 15 (.seq (.ai [qu 4 (.aH qe),qu 5 (.aH (qi 0)),qu 6 (.aH (qi 15))]) .ret) .skip)) (.ai [qm 16 0,qu 17 (.len 1 16),qm 7 17])) .skip)) (.seq (.ai [qm 18 0,qu 19 (qc 105 [18]),qm 8 19]) (.seq (.seq (.ai [qm 20 7,qm 21 8,qu 22 (.len 1 21),qu 23 (.aF .eql 20 22)]) (.cond 23 (.ai [qm 24 8,qu 25 (.build [qd 0,.aI,.aI,(.aa (.val (.string ⟨#[]⟩))),qd 0,.aI,qd 0,qd 0,qd 0] []),qu 26 (.ln 9 [qd 0,.aI,.aI,(.aa (.val (.string ⟨#[]⟩))),qd 0,.aI,qd 0,qd 0,qd 0] 1 [(0,25)]),qu 27 (.ni 9 128 24 26),qm 8 27]) .skip)) (.seq (.ai [qm 28 8,qm 29 7,qL 30 9 3,qu 31 (.bW 9 28 29),qw (.store 9 31 30)]) (.seq (.ai [qm 32 8,qm 33 7,qm 4 32,qm 5 33,qu 6 (.aH (qi 0))]) .ret)))))))⟩
def c128:LF:= ⟨19,[.tmp 4],(.seq (.ai [qu 4 (.aH (qi 0))]) (.seq (.seq (.ai [qm 6 0,qu 7 (.len 1 6),qu 8 (.aH (qi 0))]) (.block 0 (.loop (.seq (.ai [qu 9 (.aF .lss 8 7)]) (.seq (.cond 9 .skip (.exit 0)) (.seq (.block 1 (.seq (.ai [qm 10 8,qm 5 10]) (.seq (.ai [qm 11 1,qm 12 0,qm 13 5,qu 14 (.bW 9 12 13),qL 15 9 14,qu 16 (.call 11 [15])]) (.cond 16 (.seq (.ai [qm 17 5,qm 4 17]) .ret) .skip)))) (.ai [qu 18 (.aF .add 8 (qi 1)),qm 8 18]))))))) (.seq (.ai [qu 4 (.aH (qi (-1)))]) .ret)))⟩
def c145:LF:= ⟨6,[.tmp 2],(.seq (.ai [qu 1 (.box 0),qu 2 (.aH (qb false))]) (.seq (.ai [qf 3 0 1,ql 4 3,qu 5 (.aF .eql 4 (qi 0)),qm 2 5]) .ret))⟩
def nC{α:Type}(q:α->Bool)(l:List α):Int:=match l.findIdx? q with|some k=>(k:Int)|none=>-1
theorem kO{α:Type}{q:α->Bool}{l:List α}{k:Nat}(h:k<l.length)(hq:q l[k]=true)(hb:∀(j:Nat)s,j<k->l[j]? =some s->q s=false):nC q l=k:=by
 have:l.findIdx? q=some k:=by rw[abz];exact⟨h,hq,fun j hj=>by simpa using hb j _ hj (IE om)⟩
 rw[nC,this]
theorem mA{α:Type}{q:α->Bool}{l:List α}(hb:∀(j:Nat)s,l[j]? =some s->q s=false):nC q l= -1:=by
 have:l.findIdx? q=none:=by rw[aco];intro s hs;obtain⟨i,hi⟩:=Xf hs;simpa using hb i s hi
 rw[nC,this]
theorem rk{α:Type}(q:α->Bool)(l:List α):decide (nC q l>=0)=l.any q:=by
 unfold nC;cases h:l.findIdx? q with
 |none=>
  rw[aco]at h;have:l.any q=false:=by simpa using h
  rw[this];rfl
 |some k=>
  obtain⟨h1,h2,_⟩:=abz.1 h;have:l.any q=true:=abt.2 ⟨_,Z0 h1,h2⟩;rw[this];exact decide_eq_true aG
theorem l118:bx Tryz.prog Tryz.f118=some c118:=by kernel_rfl
theorem l128:bx Tryz.prog Tryz.f128=some c128:=by kernel_rfl
theorem l145:bx Tryz.prog Tryz.f145=some c145:=by kernel_rfl
theorem zG(l:List Obj)(hb:l.length<=4194304)(F:Nat)(q:Obj->Bool)(hF:∀s,s∈l->∀K:CV->Mem->Prop,K (ax (q s)) []->au Tryz.prog F [s.cv] [] K):body Tryz.prog c128 [b8 l,(.rv (.one (.fn F [])))] [] (fun r m=>r=an .i64 (nC q l)):=by
 refine aK (fun k=>k<=l.length/\∀(j:Nat)s,j<k->l[j]? =some s->q s=false) [0,1,7] (fun k=>[(8,an .i64 (k:Nat))]) (fun _=>[]) (fun k=>l.length-k) 0 ⟨Wi _,fun j s h=>absurd h (abb j)⟩ ?_ (fun k hk=>?_)
 .refine View.o1 0 [] [] ?_
  .exact .nil _
 .refine ay (fun h=>?_) (fun h=>?_)
  .have aB:k<l.length:=by have h:(k:Int)<((l.map Obj.enc).length:Int):=h;rw[Nq]at h;omega
   have hg:cR (l.map Obj.enc) (k:Nat)=some (l[k].enc):=by rw[bn,Q8,IE aB];rfl
   refine ag hg ?_;refine hF l[k] (Z0 aB) _ ?_;refine aC (fun h=>?_) (fun h=>?_)
   .rw[kO aB h hk.2];exact rfl
   .refine⟨k+1,⟨aB,fun j s hj hs=>?_⟩,(show l.length-(k+1)<l.length-k by omega),View.o 0 [] [] ?_ ?_⟩
    .rcases ZX j k with h5|h5
     .exact hk.2 j s h5 hs
     .have:j=k:=om;subst this;rw[IE aB]at hs;cases hs;exact h
    .repeat(first|exact .nil|refine .aq ?_|refine .put (.aO (ap om).symm) ?_|refine .eq rfl ?_)
    .exact .nil _
  .have ew:¬(k:Int)<((l.map Obj.enc).length:Int):=h;rw[Nq]at ew;rw[mA fun j s hs=>hk.2 j s (by have:=(Mh.1 hs).1;omega) hs]
   exact rfl
theorem D7(l:List Obj)(hb:l.length<=4194304)(F:Nat)(q:Obj->Bool)(hF:∀s,s∈l->∀K:CV->Mem->Prop,K (ax (q s)) []->au Tryz.prog F [s.cv] [] K){m:Mem}{K:CV->Mem->Prop}(h:K (an .i64 (nC q l)) m):au Tryz.prog 128 [b8 l,.rv (.one (.fn F []))] m K:=
 bs Tryz.func128 l128 rfl (X5 rfl) (zG l hb F q hF) rfl rfl h
theorem Si(s:Obj)(K:CV->Mem->Prop)(h:K (ax (s.ah==0)) []):au Tryz.prog 145 [s.cv] [] K:=
 bs Tryz.func145 l145 rfl (X5 rfl) (show body Tryz.prog c145 [s.cv] [] (fun r m=>r=ax (s.ah==0))from rfl) rfl rfl h
theorem Gr(l:List Obj)(hf:jW l){m:Mem}{K:CV->Mem->Prop}(h:K (.rv (.one (.row m.length 9 0 none))) (m++ [.row 9 (af (l.map Obj.enc)),.aW])):au Tryz.prog 105 [b8 l] m K:=by
 refine vD l hf l.length ?_;have h1:zF l l.length l.length= .aW:=by
  have:Nat.blt l.length l.length=false:=by
   cases hb:Nat.blt l.length l.length with
   |false=>rfl
   |true=>rw[abU]at hb;omega
  simp only[zF,this]
 rw[pX _ _ _ _ (.inr om),h1];exact h
def cS(n:Int):RV:= .one (.aa (.val (.int .i64 n)))
def aN(l:List Obj)(o:Obj):List Obj×Int×Int:=
 match l.findIdx? (fun x=>x.ah==0)with
 |some k=>(l.set k o,k,0)
 |none=>if l.length>=40 then([],0,15)else(l++ [o],l.length,0)
def QR(l:List Obj)(o:Obj)(r:CV)(m:Mem):Prop:=
 ((aN l o).2.2=15/\r= .bK [.one .aI,cS (aN l o).2.1,cS (aN l o).2.2]/\m=[])\/
 ((aN l o).2.2=0/\r= .bK [.one (.row 0 9 0 none),cS (aN l o).2.1,cS (aN l o).2.2]/\m=[.row 9 (af ((aN l o).1.map Obj.enc))])
theorem yj(l:List Obj)(k:Nat)(o:Obj):(af (l.map Obj.enc)).set k (o.enc.map .aa)=af ((l.set k o).map Obj.enc):=by simp[af,abJ]
theorem yk(l:List Obj){k:Nat}(h:k<l.length):dd (af (l.map Obj.enc)) k=some (l[k].enc.map .aa):=by rw[aZ];simp[af,h]
theorem Ii(l:List Obj)(hf:jW l)(o:Obj):body Tryz.prog c118 [b8 l,o.cv] [] (fun r m=>∃r' m',View 0 ⟨[r],m⟩ ⟨[r'],m'⟩/\QR l o r' m'):=by
 have hl:=hf.1;refine D7 l hl 145 (fun x=>x.ah==0) (fun s _ K hs=>Si s K hs) ?_
 have hlen:(af (l.map Obj.enc)).length=l.length:=by simp[af]
 cases hk:l.findIdx? (fun x=>x.ah==0)with
 |some k=>
  have hi:nC (fun x:Obj=>x.ah==0) l=(k:Int):=by rw[nC,hk]
  have fj:k<l.length:=(abz.1 hk).1;have hm:aN l o=(l.set k o,(k:Int),0):=by rw[aN,hk]
  rw[hi];refine Gr l hf ?_;refine dU (by simp[hlen,lenOf];omega) ?_
  refine ag (cn (k:=k) (by simp[hlen,lenOf];omega)) ?_
  refine ag (x:=l[k].enc.map .aa) (by simpa[ib]using yk l fj) ?_
  refine⟨.bK [.one (.row 0 9 0 none),cS k,cS 0],[.row 9 (af ((l.set k o).map Obj.enc))],View.o 3 [1] [] ?_ ?_,.inr ?_⟩
  .exact .eq rfl .nil
  .refine .pt rfl rfl (.bM ?_) (.nil _);rw[<-yj];simp[bj,ib,Obj.enc]
  .rw[hm];exact⟨rfl,rfl,rfl⟩
 |none=>
  have hi:nC (fun x:Obj=>x.ah==0) l= -1:=by rw[nC,hk]
  rw[hi];refine ay (fun h=>?_) (fun h=>?_)
  .have h:l.length>=40:=by have h:(((l.map Obj.enc).length:Nat):Int)>=40:=h;rw[Nq]at h;omega
   have hm:aN l o=([],0,15):=by rw[aN,hk];simp only;rw[if_pos h]
   refine⟨.bK [.one .aI,cS 0,cS 15],[],View.o 1 [] [] ?_ (.nil _),.inl ?_⟩
   .exact .eq rfl .nil
   .rw[hm];exact⟨rfl,rfl,rfl⟩
  .have h:¬l.length>=40:=by have h:¬(((l.map Obj.enc).length:Nat):Int)>=40:=h;rw[Nq]at h;omega
   have hm:aN l o=(l++ [o],(l.length:Int),0):=by rw[aN,hk];simp only;rw[if_neg h]
   refine Gr l hf ?_;refine bY (by simp[hlen,lenOf]) ?_
   refine⟨by simp[hlen,cD];omega,?_⟩
   have JY:(l.map Obj.enc).length=l.length:=aG;refine ag (cn (k:=(l.map Obj.enc).length) (by simp[hlen,lenOf,cD])) ?_
   refine ag (x:=[.aa (.val (.int .i64 0)),.aI,.aI,.aa (.val (.string ⟨#[]⟩)),.aa (.val (.int .i64 0)),.aI,.aa (.val (.int .i64 0)),.aa (.val (.int .i64 0)),.aa (.val (.int .i64 0))]) (by simp[aZ,hlen,cD,ib]) ?_
   refine⟨.bK [.one (.row 0 9 0 none),cS (((l.map Obj.enc).length:Nat):Int),cS 0],[.row 9 (af ((l++ [o]).map Obj.enc))],View.o 5 [4] [] ?_ ?_,.inr ?_⟩
   .exact .eq rfl .nil
   .refine .pt rfl rfl (.bM ?_) (.nil _);rw[abn,bN];simp only[bj,ib,cD];rw[JY,<-hlen];rw[acU _ _ (SS _),acH];rfl
   .rw[hm];refine⟨rfl,?_,rfl⟩;rw[JY]
theorem ym(l:List Obj)(hf:jW l)(o:Obj):au Tryz.prog 118 [b8 l,o.cv] [] (QR l o):=
 bJ (aX Tryz.func118 l118 (Ii l hf o)) fun r m1⟨r',m',hv,hp⟩=>⟨r',m',hv,hp⟩
def mB(l:List Obj):RV:= .one (.aa (cU l))
theorem lW{m:Mem}{a b c d:RV}{x:Int}(h:eT m a b)(hc:eT m c d):cJ m (.bK [a,c,cS x]) (.bK [b,d,cS x]):=by
 refine .bK rfl fun i r r' h1 h2=>?_
 match i,h1,h2 with
 |0,h1,h2=>cases h1;cases h2;exact h
 |1,h1,h2=>cases h1;cases h2;exact hc
 |2,h1,h2=>cases h1;cases h2;exact eT.self rfl
theorem zH(l:List Obj)(hf:jW l)(o:Obj){m:Mem}{K:CV->Mem->Prop}(h:K (.bK [mB (aN l o).1,cS (aN l o).2.1,cS (aN l o).2.2]) m):au Tryz.prog 118 [b8 l,o.cv] m K:=by
 refine be (ym l hf o) (by simp[b8,Obj.cv,CV.dm,CC.dm,RV.dm]) fun r m1 hp=>?_
 rcases hp with⟨h1,rfl,rfl⟩|⟨h1,rfl,rfl⟩
 .have h2:(aN l o).1=[]:=by
   unfold aN at h1⊢;split at h1
   .simp at h1
   .split at h1
    .rename_i hc;rw[if_pos hc]
    .simp at h1
  refine⟨_,lW (.one (.aI 9)) (eT.self rfl),?_⟩;rw[h2]at h;exact h
 .refine⟨_,lW (.one (d9.dJ rfl 0 none)) (eT.self rfl),?_⟩;exact h
theorem Li(l:List Obj)(hf:jW l)(o:Obj){m:Mem}{K:CV->Mem->Prop}(h1:(aN l o).2.2=15->K (.bK [.one .aI,cS (aN l o).2.1,cS (aN l o).2.2]) m)(h2:(aN l o).2.2=0->K (.bK [.one (.row m.length 9 0 none),cS (aN l o).2.1,cS (aN l o).2.2]) (m++ [.row 9 (af ((aN l o).1.map Obj.enc))])):au Tryz.prog 118 [b8 l,o.cv] m K:=by
 refine bu [] m.length rfl rfl rfl rfl rfl (fun i b' hi=>by simp at hi) (ym l hf o) (fun r m1 hp=>⟨Wi _,?_⟩)
 rcases hp with⟨e1,rfl,rfl⟩|⟨e1,rfl,rfl⟩
 .have:=h1 e1;show K _ (gh m []);rw[b9,ab5];exact this
 .have:=h2 e1;show K _ (gh m [Bk.aO _ _]);rw[b9,Bk.kn];exact this
def c78:LF:= ⟨41,[.tmp 2,.cell true 2 3,.tmp 4],(.seq (.ai [qu 2 (.aH qe),qu 3 (.alloc [qd 0,qd 0]),qu 4 (.aH (qi 0))]) (.seq (.ai [qm 10 0,qu 11 (.build [qd 0,.aI,.aI,(.aa (.val (.string ⟨#[]⟩))),qd 0,.aI,qd 0,qd 0,qd 0] [(0,1,qi 4),(4,1,(qi (-1))),(6,1,(qi (-1)))]),qu 12 (qc 118 [10,11]),qm 9 12,qu 13 (.ext 9 0),qu 14 (.ext 9 1),qu 15 (.ext 9 2),qm 5 13,qm 6 14,qm 7 15]) (.seq (.seq (.ai [qm 16 7,qu 17 (.aF .neq 16 (qi 0))]) (.cond 17 (.seq (.ai [qu 18 (.build [qd 0,qd 0] []),qm 19 7,qu 2 (.aH qe),qw (.store 2 3 18),qm 4 19]) .ret) .skip)) (.seq (.ai [qm 21 5,qm 22 6,qu 23 (.build [qd 0,.aI,.aI,(.aa (.val (.string ⟨#[]⟩))),qd 0,.aI,qd 0,qd 0,qd 0] [(0,1,qi 4),(4,1,22),(6,1,(qi (-1)))]),qu 24 (qc 118 [21,23]),qm 20 24,qu 25 (.ext 20 0),qu 26 (.ext 20 1),qu 27 (.ext 20 2),qm 5 25,qm 8 26,qm 7 27]) (.seq (.seq (.ai [qm 28 7,qu 29 (.aF .neq 28 (qi 0))]) (.cond 29 (.seq (.ai [qu 30 (.build [qd 0,qd 0] []),qm 31 7,qu 2 (.aH qe),qw (.store 2 3 30),qm 4 31]) .ret) .skip)) (.seq (.ai [qm 32 5,qm 33 6,qm 34 8,qu 35 (.bW 9 32 33),qf 36 4 35,qw (.store 1 36 34)]) (.seq (.ai [qm 37 5,qm 38 6,qm 39 8,qu 40 (.build [qd 0,qd 0] [(0,1,38),(1,1,39)]),qm 2 37,qw (.store 2 3 40),qu 4 (.aH (qi 0))]) .ret)))))))⟩
theorem Gs{l:List Obj}{o:Obj}(h:(aN l o).2.2=0):∃k:Nat,(aN l o).2.1=k/\k<(aN l o).1.length/\(aN l o).1[k]? =some o/\l.length<=(aN l o).1.length/\(∀j,j≠k->j<l.length->(aN l o).1[j]? =l[j]?):=by
 unfold aN at h⊢;split
 .rename_i k hk;have fj:k<l.length:=(abz.1 hk).1;exact⟨k,rfl,by simpa using fj,by simp[fj],aG,fun j hj km=>by simp[abw,Ne.symm hj]⟩
 .rename_i hk;rw[hk]at h;simp only at h;split at h
  .simp at h
  .rename_i hc;rw[if_neg hc];exact⟨l.length,rfl,aG,aG,aG,fun j hj km=>by simp[ZY km]⟩
theorem Lj{l:List Obj}{o:Obj}(hf:jW l)(ho:o.mL):jW (aN l o).1:=by
 unfold aN;split
 .refine⟨by simpa using hf.1,fun x hx=>?_⟩
  rcases aaX hx with h|rfl
  .exact hf.2 x h
  .exact ho
 .split
  .exact⟨aG,aG⟩
  .refine⟨by simp;omega,fun x hx=>?_⟩
   rcases abL.1 hx with h|h
   .exact hf.2 x h
   .simp at h;subst h;exact ho
def bU(p:Int):Obj:=⟨4,[],[],⟨#[]⟩,p,[],-1,0,0⟩
theorem Ll(p:Int):(bU p).mL:=by simp[Obj.mL,bU]
def lK(l:List Obj)(k:Nat)(b:Int):List Obj:=match l[k]? with|some o=>l.set k {o with aD:=b}|none=>l
def fC(l:List Obj):List Obj×(Int×Int)×Int:=
 if(aN l (bU (-1))).2.2≠0 then([],(0,0),(aN l (bU (-1))).2.2)
 else if(aN (aN l (bU (-1))).1 (bU (aN l (bU (-1))).2.1)).2.2≠0 then([],(0,0),(aN (aN l (bU (-1))).1 (bU (aN l (bU (-1))).2.1)).2.2)
 else(lK (aN (aN l (bU (-1))).1 (bU (aN l (bU (-1))).2.1)).1 (aN l (bU (-1))).2.1.toNat (aN (aN l (bU (-1))).1 (bU (aN l (bU (-1))).2.1)).2.1,((aN l (bU (-1))).2.1,(aN (aN l (bU (-1))).1 (bU (aN l (bU (-1))).2.1)).2.1),0)
def VH(x:Int×Int):RV:= .agg [.aa (.val (.int .i64 x.1)),.aa (.val (.int .i64 x.2))]
theorem l78:bx Tryz.prog Tryz.f78=some c78:=by kernel_rfl
theorem Gt(a b:CV)(p:Int):kN [a,.rv (.agg [.aa (.val (.int .i64 4)),.aI,.aI,.aa (.val (.string ⟨#[]⟩)),.aa (.val (.int .i64 p)),.aI,.aa (.val (.int .i64 (-1))),.aa (.val (.int .i64 0)),.aa (.val (.int .i64 0))])] [a,(bU p).cv]:=
 .dn _ (.agg (.cons (.dn _) (.cons (.aI 1) (.cons (.aI 2) (.cons (.dn _) (.cons (.dn _) (.cons (.aI 4) (.cons (.dn _) (.cons (.dn _) (.cons (.dn _) .nil))))))))) .nil)
theorem Ij(l:List Obj)(hf:jW l):body Tryz.prog c78 [b8 l] [] (fun r m=>cJ m r (.bK [mB (fC l).1,VH (fC l).2.1,cS (fC l).2.2])):=by
 refine mw (Gt _ (.aq) _) (zH l hf (bU (-1)) ?_);have hp:fC l=if(aN l (bU (-1))).2.2≠0 then([],(0,0),(aN l (bU (-1))).2.2)
   else if(aN (aN l (bU (-1))).1 (bU (aN l (bU (-1))).2.1)).2.2≠0 then([],(0,0),(aN (aN l (bU (-1))).1 (bU (aN l (bU (-1))).2.1)).2.2)
   else(lK (aN (aN l (bU (-1))).1 (bU (aN l (bU (-1))).2.1)).1 (aN l (bU (-1))).2.1.toNat (aN (aN l (bU (-1))).1 (bU (aN l (bU (-1))).2.1)).2.1,((aN l (bU (-1))).2.1,(aN (aN l (bU (-1))).1 (bU (aN l (bU (-1))).2.1)).2.1),0):=rfl
 have jk:=Lj (o:=bU (-1)) hf (Ll _);generalize hx:aN l (bU (-1))=x at hp jk;obtain⟨l1,a,e1⟩:=x;have jk:jW l1:=jk;refine bG (fun h=>?_) (fun h=>?_)
 .have h:e1≠0:=h;rw[hp];simp only;rw[if_pos h];exact lW (.one (.aI 9)) (eT.self rfl)
 .have h:e1=0:=h;subst h;have Da:=Gs (l:=l) (o:=bU (-1)) (by rw[hx])
  rw[hx]at Da;obtain⟨ka,N3,VI,adN,adO,_⟩:=Da;have N3:a=(ka:Int):=N3;have VI:ka<l1.length:=VI;subst N3;simp only[ne_eq,not_true,if_false,Z3]at hp;refine mw (Gt _ (.aq) _) (Li l1 jk (bU ka) (fun h=>?_) (fun h=>?_))
  .rw[h]at hp;rw[h,hp];exact lW (.one (.aI 9)) (eT.self rfl)
  .have Da:=Gs (l:=l1) (o:=bU ka) h;generalize hy:aN l1 (bU ka)=y at hp Da h;obtain⟨l2,b,e2⟩:=y;have h:e2=0:=h;subst h;obtain⟨kb,Sj,adP,adQ,VJ,_⟩:=Da;have VJ:l1.length<=l2.length:=VJ;have aB:ka<l2.length:=om;have hlen:(af (l2.map Obj.enc)).length=l2.length:=by simp[af]
   refine ag (cn (k:=ka) (by simpa[hlen,lenOf]using aB)) ?_
   refine ag (x:=l2[ka].enc.map .aa) (by simpa[ib]using yk l2 aB) ?_
   have jT:bb (af (l2.map Obj.enc)) (ib 0 ka) (({l2[ka]with aD:=b}:Obj).enc.map .aa)=af ((lK l2 ka b).map Obj.enc):=by rw[bj];simp only[lK,IE aB];rw[<-yj];simp[ib]
   have eA:some (Bk.row 9 (bb (af (l2.map Obj.enc)) (ib 0 ka) (({l2[ka]with aD:=b}:Obj).enc.map .aa)))=some (Bk.row 9 (af ((lK l2 ka b).map Obj.enc))):=by rw[jT]
   rw[hp];exact lW (.one (d9.dJ eA 0 none)) (eT.self rfl)
theorem OH(l:List Obj)(hf:jW l){m:Mem}{K:CV->Mem->Prop}(h:K (.bK [mB (fC l).1,VH (fC l).2.1,cS (fC l).2.2]) m):au Tryz.prog 78 [b8 l] m K:=
 be (aX Tryz.func78 l78 (Ij l hf)) (by simp[b8,CV.dm,CC.dm]) fun r m1 Vy=>⟨_,Vy,h⟩
def c81:LF:= ⟨80,[.tmp 6,.tmp 7],(.seq (.ai [qu 5 (.box 2),qu 6 (.aH qe),qu 7 (.aH (qi 0))]) (.seq (.seq (.ai [qm 10 1,qu 11 (.aF .lss 10 (qi 0)),qm 12 11,qg 13 (.aH 1) 12 false,qg 14 (.aH 0) 12 false,qg 15 (.len 1 14) 12 false,qg 16 (.aF .geq 13 15) 12 false,qu 17 (.pick 12 (qb true) 16),qm 18 17,qg 19 (.aH 0) 18 false,qg 20 (.aH 1) 18 false,qg 21 (.bW 9 19 20) 18 false,qg 22 (.br 0 21) 18 false,qg 23 (.load false 1 22) 18 false,qg 24 (.aF .neq 23 (qi 4)) 18 false,qu 25 (.pick 18 (qb true) 24)]) (.cond 25 (.seq (.ai [qu 6 (.aH qe),qu 7 (.aH (qi 8))]) .ret) .skip)) (.seq (.ai [qm 26 0,qm 27 1,qu 28 (.bW 9 26 27),qf 29 4 28,ql 30 29,qm 8 30]) (.seq (.block 0 (.seq (.ai [qm 32 8,qu 33 (.aF .lss 32 (qi 0)),qm 34 33,qg 35 (.aH 8) 34 false,qg 36 (.aH 0) 34 false,qg 37 (.len 1 36) 34 false,qg 38 (.aF .geq 35 37) 34 false,qu 39 (.pick 34 (qb true) 38),qm 40 39,qg 41 (.aH 0) 40 false,qg 42 (.aH 8) 40 false,qg 43 (.bW 9 41 42) 40 false,qg 44 (.br 0 43) 40 false,qg 45 (.load false 1 44) 40 false,qg 46 (.aF .neq 45 (qi 4)) 40 false,qu 47 (.pick 40 (qb true) 46),qm 31 47]) (.cond 31 (.seq (.ai [qu 6 (.aH qe),qu 7 (.aH (qi 17))]) .ret) (.seq (.ai [qf 49 0 5,ql 50 49,qu 51 (.len 1 50),qu 52 (.aF .gtr 51 (qi 60)),qm 48 52]) (.cond 48 (.seq (.ai [qu 6 (.aH qe),qu 7 (.aH (qi 4))]) .ret) (.seq (.ai [qm 54 0,qm 55 8,qu 56 (.bW 9 54 55),qf 57 5 56,ql 58 57,qu 59 (.len 1 58),qu 60 (.aF .geq 59 (qi 4)),qm 53 60]) (.cond 53 (.seq (.ai [qu 6 (.aH qe),qu 7 (.aH (qi 15))]) .ret) .skip))))))) (.seq (.ai [qm 61 0,qu 62 (qc 105 [61]),qm 9 62]) (.seq (.ai [qf 63 0 5,ql 64 63,qu 65 (qc 104 [64]),qf 66 0 5,qw (.store 1 66 65)]) (.seq (.bX [qm 67 9,qm 68 8,qm 69 9,qm 70 8,qu 71 (.bW 9 69 70),qf 72 5 71,ql 73 72,qL 74 4 5,qu 75 (.ln 4 [.aI,(.aa (.val (.bool false))),qd 0,qd 0] 1 [(0,74)]),qu 76 (.ni 4 48 73 75),qu 77 (.bW 9 67 68),qf 78 5 77,qw (.store 1 78 76)] [(.cons 0 none (.cons 1 none (.cons 2 none (.cons 3 none (.cons 4 none (.cons 5 none (.cons 6 none (.cons 7 none (.cons 8 (some [6,4]) (.cons 9 (some []) (.cons 10 none (.cons 11 none (.cons 12 (some []) .nil)))))))))))))]) (.seq (.ai [qm 79 9,qm 6 79,qu 7 (.aH (qi 0))]) .ret))))))))⟩
def Ik(o:Obj)(c:CC):List CC:=[.aa (.val (.int .i64 o.ah)),.aa (.sl 1 o.data),.aa (.sl 2 o.ak),.aa (.val (.string o.target)),.aa (.val (.int .i64 o.aD)),c,.aa (.val (.int .i64 o.aM)),.aa (.val (.int .i64 o.am)),.aa (.val (.int .i64 o.up))]
theorem BL{l:List Obj}{p Q:Nat}{q:Obj}(h:l[p]? =some q):dd (ez p Q 0 l) p=some (Ik q (.row Q 4 0 none)):=by rw[aZ,sr,h];simp[rh,Ik]
theorem Lm{l:List Obj}{p:Nat}{q:Obj}(h:l[p]? =some q):zF l p l.length= .row 4 (af (q.aj.map bw.enc)):=by
 have hp:=(Mh.1 h).1;have:Nat.blt p l.length=true:=by rw[abU];exact hp
 simp only[zF,this,Zl,h]
theorem Gu{m:Mem}{Z:Nat->Prop}{id p Q:Nat}{l:List Obj}{q:Obj}{c:CC}(hz:Z id)(hb:m[id]? =some (.row 9 (bb (ez p Q 0 l) p (Ik q c))))(hc:dC m Z (some id) c (.sl 4 (q.aj.map bw.enc))):
  dC m Z none (.row id 9 0 none) (.sl 9 ((l.set p q).map Obj.enc)):=by
 have key:∀(i:Nat)cs es,(bb (ez p Q 0 l) p (Ik q c))[i]? =some cs->((l.set p q).map Obj.enc)[i]? =some es->(cs=Ik q c/\es=q.enc)\/∃o:Obj,cs=o.enc.map .aa/\es=o.enc:=by
  intro i cs es h1 h2;rw[bj,abw]at h1;rw[Q8,abw]at h2;by_cases hi:p=i
  .subst hi;rw[if_pos rfl]at h1 h2;split at h1
   .cases h1;split at h2
    .cases h2;exact .inl ⟨rfl,rfl⟩
    .cases h2
   .cases h1
  .rw[if_neg hi]at h1 h2;rw[sr]at h1;cases ho:l[i]? with
   |none=>rw[ho]at h1;cases h1
   |some o=>
    rw[ho]at h1 h2;cases h1;cases h2;refine .inr ⟨o,?_,rfl⟩;simp only[rh,abx,if_neg (Ne.symm hi)];rfl
 refine .row id 9 0 none _ ((l.set p q).map Obj.enc) hz hb (by rw[bj];simp[mz]) (fun i cs es h1 h2=>?_) (fun i cs es j cc d h1 h2 h3 h4=>?_)
 .rcases key i cs es h1 h2 with⟨rfl,rfl⟩|⟨o,rfl,rfl⟩
  .rfl
  .simp
 .rcases key i cs es h1 h2 with⟨rfl,rfl⟩|⟨o,rfl,rfl⟩
  .match j,h3,h4 with
   |0,h3,h4=>cases h3;cases h4;exact .aa _
   |1,h3,h4=>cases h3;cases h4;exact .aa _
   |2,h3,h4=>cases h3;cases h4;exact .aa _
   |3,h3,h4=>cases h3;cases h4;exact .aa _
   |4,h3,h4=>cases h3;cases h4;exact .aa _
   |5,h3,h4=>cases h3;cases h4;exact hc
   |6,h3,h4=>cases h3;cases h4;exact .aa _
   |7,h3,h4=>cases h3;cases h4;exact .aa _
   |8,h3,h4=>cases h3;cases h4;exact .aa _
   |n+9,h3,h4=>simp[Ik]at h3
  .rw[Q8,h4]at h3;cases h3;exact .aa _
def fk(l:List Obj)(e:Int)(m:bw):List Obj×Int:=
 if e<0\/e>=l.length then([],8)else match l[e.toNat]? with
 |none=>([],8)
 |some o=>if o.ah≠4 then([],8)else if o.aD<0\/o.aD>=l.length then([],17)else match l[o.aD.toNat]? with
  |none=>([],17)
  |some q=>if q.ah≠4 then([],17)else if m.data.length>60 then([],4)else if q.aj.length>=4 then([],15)else(l.set o.aD.toNat {q with aj:=q.aj++ [m]},0)
def Ln(l:List Obj)(e:Int):CV:= .bK [mB l,cS e]
theorem jX{m:Mem}{a b:RV}{x:Int}(h:eT m a b):cJ m (.bK [a,cS x]) (.bK [b,cS x]):=by
 refine .bK rfl fun i r r' h1 h2=>?_
 match i,h1,h2 with
 |0,h1,h2=>cases h1;cases h2;exact h
 |1,h1,h2=>cases h1;cases h2;exact eT.self rfl
theorem vw2{σ:Nat->Nat}{m:Mem}{Z:Nat->Prop}{a b:RV}{x:Int}(h:wZ σ m Z a b):pW σ m Z (.bK [a,cS x]) (.bK [b,cS x]):=by
 refine .bK rfl fun i r r' h1 h2=>?_
 match i,h1,h2 with
 |0,h1,h2=>cases h1;cases h2;exact h
 |1,h1,h2=>cases h1;cases h2;exact .one (.aO (.aa _))
theorem l81:bx Tryz.prog Tryz.f81=some c81:=by kernel_rfl
theorem su(l:List Obj)(hf:jW l)(e:Int)(msg:bw)(Zm:msg.data.length<=4194304):body Tryz.prog c81 [b8 l,an .i64 e,msg.cv] [] (fun r m=>∃r' m',View 0 ⟨[r],m⟩ ⟨[r'],m'⟩/\r'=Ln (fk l e msg).1 (fk l e msg).2/\m'=[]):=by
 have JY:(((l.map Obj.enc).length:Nat):Int)=(l.length:Int):=aG;have bad:∀(x:Int),fk l e msg=([],x)->∃r' m',View 0 ⟨[CV.bK [.one .aI,cS x]],[.var (msg.enc.map .aa)]⟩ ⟨[r'],m'⟩/\r'=Ln (fk l e msg).1 (fk l e msg).2/\m'=[]:=by intro x hx;refine⟨_,_,View.o 1 [] [] (.put (vw2 (b:=mB []) (.one (.e8 (.aI 9)))) .nil) (.nil _),?_,rfl⟩;rw[hx];rfl
 refine ay (fun h=>?_) (fun h1=>?_)
 .exact bad 8 (by rw[fk,if_pos (.inl h)])
 refine ay (fun h=>?_) (fun h2=>?_)
 .exact bad 8 (by rw[fk,if_pos (.inr (by rw[<-JY];exact h))])
 have h2:¬e>=(l.length:Int):=by rw[<-JY];exact h2
 obtain⟨k,rfl⟩:∃k:Nat,e=k:=⟨e.toNat,om⟩;have hk:k<l.length:=om;have hi:=IE hk;have oY:fk l (k:Int) msg=if l[k].ah≠4 then(([],8):List Obj×Int)else if l[k].aD<0\/l[k].aD>=l.length then([],17)else match l[l[k].aD.toNat]? with
   |none=>([],17)
   |some q=>if q.ah≠4 then([],17)else if msg.data.length>60 then([],4)else if q.aj.length>=4 then([],15)else(l.set l[k].aD.toNat {q with aj:=q.aj++ [msg]},0):=by
  rw[fk,if_neg om,Z3,hi]
 have hg:cR (l.map Obj.enc) (k:Nat)=some (l[k].enc):=by rw[bn,Q8,hi];rfl
 generalize l[k]=o at oY hg;obtain⟨ah,data,ak,target,aD,aj,aM,am,up⟩:=o;have hg:cR (l.map Obj.enc) (k:Nat)=some [.val (.int .i64 ah),.sl 1 data,.sl 2 ak,.val (.string target),.val (.int .i64 aD),.sl 4 (aj.map bw.enc),.val (.int .i64 aM),.val (.int .i64 am),.val (.int .i64 up)]:=hg;refine ag hg ?_;refine bG (fun h=>?_) (fun h3=>?_)
 .exact bad 8 (by rw[oY,if_pos h])
 have h3:ah=4:=h3;rw[if_neg (by simpa using h3)]at oY
 simp only at oY;refine ag hg ?_;refine ay (fun h=>?_) (fun h4=>?_)
 .exact bad 17 (by rw[oY,if_pos (.inl h)])
 refine ay (fun h=>?_) (fun h5=>?_)
 .exact bad 17 (by rw[oY,if_pos (.inr (by rw[<-JY];exact h))])
 have h5:¬aD>=(l.length:Int):=by rw[<-JY];exact h5
 have h4:¬aD<0:=h4;obtain⟨p,rfl⟩:∃p:Nat,aD=p:=⟨aD.toNat,om⟩;have hp:p<l.length:=om;have QS:=IE hp;rw[if_neg om,Z3,QS]at oY;simp only at oY;have pz:cR (l.map Obj.enc) (p:Nat)=some (l[p].enc):=by rw[bn,Q8,QS];rfl
 have Ih:=hf.2 _ (Z0 hp);generalize l[p]=q at oY pz QS Ih;have pz:cR (l.map Obj.enc) (p:Nat)=some [.val (.int .i64 q.ah),.sl 1 q.data,.sl 2 q.ak,.val (.string q.target),.val (.int .i64 q.aD),.sl 4 (q.aj.map bw.enc),.val (.int .i64 q.aM),.val (.int .i64 q.am),.val (.int .i64 q.up)]:=pz;refine ag pz ?_;refine bG (fun h=>?_) (fun h6=>?_)
 .exact bad 17 (by rw[oY,if_pos h])
 rw[if_neg (by simpa using h6)]at oY
 refine ay (fun h=>?_) (fun h7=>?_)
 .exact bad 4 (by rw[oY,if_pos (by have h:((msg.data.length:Nat):Int)>60:=h;omega)])
 rw[if_neg (by have h:¬((msg.data.length:Nat):Int)>60:=h7;omega)]at oY
 refine ag pz ?_;refine ay (fun h=>?_) (fun h8=>?_)
 .exact bad 15 (by rw[oY,if_pos (by have h:(((q.aj.map bw.enc).length:Nat):Int)>=4:=h;rw[Nq]at h;omega)])
 have h8:¬q.aj.length>=4:=by have h:¬(((q.aj.map bw.enc).length:Nat):Int)>=4:=h8;rw[Nq]at h;omega
 rw[if_neg h8]at oY;refine vD l hf p ?_;rw[Lm QS];refine gZ msg.data Zm ?_;have sw:dH (p:Int) (lenOf (ez p 2 0 l).length 0 none)=some p:=cn (by simp[lenOf,mz];omega)
 have nA:=BL (Q:=2) QS;refine ag sw ?_;refine ag nA ?_;refine⟨⟨ag nA rfl,ag sw rfl,trivial⟩,?_⟩;refine⟨?_,?_⟩
 .show((af (q.aj.map bw.enc)).length+1)*48<=_;simp[af];omega
 refine⟨trivial,?_⟩;refine ag sw ?_;refine ag nA ?_;refine⟨trivial,?_⟩;refine⟨Ln (l.set p {q with aj:=q.aj++ [msg]}) 0,[],View.o 5 [] [1,4] (.put (vw2 (.one (.e8 ?_))) .nil) (.nil _),?_,rfl⟩
 .refine Gu (p:=p) (Q:=2) (l:=l) (q:={q with aj:=q.aj++ [msg]}) (c:= .row 4 4 0 none) rfl (by rw[<-aZ];rfl) ?_
  refine dC.dJ (Z:=fun k=>bz [1,4] k=true) (ds:=(q.aj++ [msg]).map bw.enc) rfl ?_ 0 none
  rw[<-aZ,abn,bN];rfl
 .rw[oY]
theorem OI(l:List Obj)(hf:jW l)(e:Int)(msg:bw)(Zm:msg.data.length<=4194304){m:Mem}{K:CV->Mem->Prop}(h:K (Ln (fk l e msg).1 (fk l e msg).2) m):au Tryz.prog 81 [b8 l,an .i64 e,msg.cv] m K:=by
 refine be (K0:=fun r m=>r=Ln (fk l e msg).1 (fk l e msg).2/\m=[]) (bJ (aX Tryz.func81 l81 (su l hf e msg Zm)) fun r m1⟨r',m',hv,hp⟩=>⟨r',m',hv,hp⟩) (by simp[b8,an,bw.cv,CV.dm,CC.dm,RV.dm]) fun r m1 hr=>?_
 obtain⟨rfl,rfl⟩:=hr;exact⟨_,cJ.self rfl,h⟩
def c122:LF:= ⟨33,[.tmp 6],(.seq (.ai [qu 6 (.aH qe)]) (.seq (.ai [qm 8 0,qm 9 1,qm 10 2,qm 11 0,qu 12 (.len 1 11),qu 13 (.nh 4 8 (some 9) (some 10) (some 12))]) (.seq (.seq (.ai [qm 14 1,qm 15 2,qu 16 (.aF .eql 14 15)]) (.cond 16 (.seq (.ai [qm 17 0,qm 6 17]) .ret) .skip)) (.seq (.ai [qm 18 0,qu 19 (.len 1 18),qm 7 19]) (.seq (.bX [qm 20 0,qm 21 1,qu 22 (.nh 4 20 none (some 21) none),qm 23 0,qm 24 2,qu 25 (.nh 4 23 (some 24) none none),qu 26 (.ni 4 48 22 25),qm 0 26] [(.cons 0 none (.cons 1 none (.cons 2 none (.cons 3 none (.cons 4 none (.cons 5 none (.cons 6 (some []) (.cons 7 none .nil))))))))]) (.seq (.ai [qm 27 0,qm 28 0,qu 29 (.len 1 28),qm 30 7,qu 31 (.nh 4 27 (some 29) (some 30) none),qw (.TT 4 [.aI,(.aa (.val (.bool false))),qd 0,qd 0] 31)]) (.seq (.ai [qm 32 0,qm 6 32]) .ret)))))))⟩
def tQ:List CC:=[.aI,.aa (.val (.bool false)),.aa (.val (.int .i64 0)),.aa (.val (.int .i64 0))]
theorem jC:∀ds:List (List Dt),fp (af ds)=true
 | []=>rfl
 |d::r=>by
  have h1:∀e:List Dt,pJ (e.map CC.aa)=true:=by
   intro e
   induction e with
   |nil=>rfl
   |cons x e ih=>simpa[pJ,CC.iK]using ih
  have:=jC r;simp only[af,abv,fp]at this⊢;rw[h1,this];rfl
theorem l122:bx Tryz.prog Tryz.f122=some c122:=by kernel_rfl
def fH(x:bw)(r:List bw):List (List CC):=af (r.map bw.enc)++ [tQ]
theorem Lo(x:bw)(r:List bw)(hl:r.length<=4194303):body Tryz.prog c122 [.rv (.one (.row 0 4 0 none)),an .i64 0,an .i64 1] [.row 4 (af ((x::r).map bw.enc))] (fun v m=>v= .rv (.one (.row 0 4 0 (some r.length)))/\m=[.row 4 (fH x r)]):=by
 have hlen:(af ((x::r).map bw.enc)).length=r.length+1:=by simp[af]
 have QT:(af ((x::r).map bw.enc)).drop 1=af (r.map bw.enc):=rfl;generalize af ((x::r).map bw.enc)=D at hlen QT;have hL:lenOf D.length 0 none=r.length+1:=by rw[io,hlen];rfl
 have hE:cD D 1 (some (r.length+1))=af (r.map bw.enc):=by rw[lD];simp only;rw[<-hlen,abp,QT]
 have Gv:(af (r.map bw.enc)).length=r.length:=by simp[af]
 refine bY ?_ ?_
 .show(Nat.ble 0 1&&(Nat.ble 1 (lenOf D.length 0 none)&&Nat.ble (lenOf D.length 0 none) (cD D 0 none).length))=true;rw[hL];simp[cD,hlen,abr]
 rw[hL];refine bY ?_ ?_
 .show(Nat.ble 1 (lenOf D.length 0 none)&&Nat.ble (lenOf D.length 0 none) (D.length-0))=true;rw[hL,hlen];simp[abr]
 rw[hL];refine bY ?_ ?_
 .show(Nat.beq 0 0&&(Nat.beq 4 4&&(Nat.beq 4 4&&(Nat.ble 1 D.length&&(Nat.ble (0+(cD D 1 (some (r.length+1))).length) D.length&&fp (cD D 1 (some (r.length+1))))))))=true;rw[hE,jC,Gv,hlen];simp[abr]
 refine⟨?_,?_⟩
 .rw[hlen];omega
 refine⟨trivial,?_⟩;have zw:(cV D 0 (af (r.map bw.enc))).length=r.length+1:=by rw[vj (by rw[Gv,hlen];omega),hlen]
 refine bY ?_ ?_
 .simp only[lw,abx,hE,Gv,io,abI,aci,zw];simp[abr]
 refine bY ?_ ?_
 .simp only[lw,abx,hE,Gv,io,abI,aci,zw,pK];simp[abr]
 refine bY ?_ ?_
 .simp only[lw,abx,hE,Gv,io,abI,aci,zw,pK];simp[abU]
 have eA:cV (cV D 0 (af (r.map bw.enc))) r.length (fT 1 tQ)=fH x r:=by
  have h1:cV D 0 (af (r.map bw.enc))=af (r.map bw.enc)++D.drop r.length:=by simp[cV,Gv]
  rw[h1];simp only[cV,fG,fH];rw[List.take_append_of_le_length (by rw[Gv];exact SS _),abS (by rw[Gv];exact SS _)]
  congr 1;have:(af (r.map bw.enc)++D.drop r.length).length=r.length+1:=by simp[Gv,hlen]
  rw[List.drop_of_length_le (by rw[this];simp)]
  rfl
 refine⟨?_,?_⟩
 .show CV.rv (.one (.row 0 4 0 (some (0+(cD D (ib 0 1) (some (ib 0 (r.length+1)))).length))))=_;simp only[lw,abx,hE,Gv]
 .rw[<-eA];show [Bk.row 4 (cV (cV D 0 (cD D (ib 0 1) (some (ib 0 (r.length+1))))) _ (fT (_-_) tQ))]=_;simp only[lw,abx,hE,Gv,io,abI,aci,zw,pK,Nat.add_sub_cancel_left]
theorem Sl(x:bw)(r:List bw)(hl:r.length<=4194303){m:Mem}{K:CV->Mem->Prop}(id:Nat)(hb:dd m id=some (.row 4 (af ((x::r).map bw.enc))))(h:K (.rv (.one (.row id 4 0 (some r.length)))) (bb m id (.row 4 (fH x r)))):
  au Tryz.prog 122 [.rv (.one (.row id 4 0 none)),an .i64 0,an .i64 1] m K:=by
 have hid:id<m.length:=by rw[aZ]at hb;exact(Mh.1 hb).1
 refine bu [id] m.length rfl rfl rfl (by simp[eO,hid]) (args0:=[.rv (.one (.row 0 4 0 none)),an .i64 0,an .i64 1]) rfl (fun i b' hi=>?_) (aX Tryz.func122 l122 (Lo x r hl)) (fun r1 m1 hr=>?_)
 .cases i with
  |zero=>
   simp at hi;subst hi;refine .inr ⟨fun h=>h,_,?_,.bM rfl⟩
   rw[aZ]at hb;exact hb
  |succ i=>simp at hi
 .obtain⟨rfl,rfl⟩:=hr;refine⟨SS _,?_⟩;have Zn:(Bk.row 4 (fH x r)).aO (sg [id] m.length)= .row 4 (fH x r):=by simp only[Bk.aO,fH,abn,db];rfl
  show K (.rv (.one (.row id 4 0 (some r.length)))) (dp m [id] [(Bk.row 4 (fH x r)).aO (sg [id] m.length)]);rw[Zn];simp only[dp,b9,ab5];exact h
def c82:LF:= ⟨78,[.tmp 4,.cell true 4 5,.tmp 6],(.seq (.ai [qu 4 (.aH qe),qu 5 (.alloc [.aI,(.aa (.val (.bool false))),qd 0,qd 0]),qu 6 (.aH (qi 0))]) (.seq (.seq (.ai [qm 10 1,qu 11 (.aF .lss 10 (qi 0)),qm 12 11,qg 13 (.aH 1) 12 false,qg 14 (.aH 0) 12 false,qg 15 (.len 1 14) 12 false,qg 16 (.aF .geq 13 15) 12 false,qu 17 (.pick 12 (qb true) 16),qm 18 17,qg 19 (.aH 0) 18 false,qg 20 (.aH 1) 18 false,qg 21 (.bW 9 19 20) 18 false,qg 22 (.br 0 21) 18 false,qg 23 (.load false 1 22) 18 false,qg 24 (.aF .neq 23 (qi 4)) 18 false,qu 25 (.pick 18 (qb true) 24)]) (.cond 25 (.seq (.ai [qu 26 (.build [.aI,(.aa (.val (.bool false))),qd 0,qd 0] []),qu 4 (.aH qe),qw (.store 4 5 26),qu 6 (.aH (qi 8))]) .ret) .skip)) (.seq (.seq (.ai [qm 27 0,qm 28 1,qu 29 (.bW 9 27 28),qf 30 5 29,ql 31 30,qu 32 (.len 1 31),qu 33 (.aF .eql 32 (qi 0))]) (.cond 33 (.seq (.seq (.ai [qm 34 0,qm 35 1,qu 36 (.bW 9 34 35),qf 37 4 36,ql 38 37,qm 7 38]) (.seq (.ai [qm 39 7,qu 40 (.aF .lss 39 (qi 0)),qm 41 40,qg 42 (.aH 7) 41 false,qg 43 (.aH 0) 41 false,qg 44 (.len 1 43) 41 false,qg 45 (.aF .geq 42 44) 41 false,qu 46 (.pick 41 (qb true) 45),qm 47 46,qg 48 (.aH 0) 47 false,qg 49 (.aH 7) 47 false,qg 50 (.bW 9 48 49) 47 false,qg 51 (.br 0 50) 47 false,qg 52 (.load false 1 51) 47 false,qg 53 (.aF .neq 52 (qi 4)) 47 false,qu 54 (.pick 47 (qb true) 53)]) (.cond 54 (.seq (.ai [qu 55 (.build [.aI,(.aa (.val (.bool false))),qd 0,qd 0] []),qu 4 (.aH qe),qw (.store 4 5 55),qu 6 (.aH (qi 17))]) .ret) .skip))) (.seq (.ai [qu 56 (.build [.aI,(.aa (.val (.bool false))),qd 0,qd 0] []),qu 4 (.aH qe),qw (.store 4 5 56),qu 6 (.aH (qi 16))]) .ret)) .skip)) (.seq (.ai [qm 57 0,qu 58 (qc 105 [57]),qm 8 58]) (.seq (.ai [qm 59 8,qm 60 1,qu 61 (.bW 9 59 60),qf 62 5 61,ql 63 62,qu 64 (.bW 4 63 (qi 0)),qL 65 4 64,qu 9 (.alloc [.aI,(.aa (.val (.bool false))),qd 0,qd 0]),qw (.store 4 9 65)]) (.seq (.ai [qm 66 8,qm 67 1,qm 68 8,qm 69 1,qu 70 (.bW 9 68 69),qf 71 5 70,ql 72 71,qu 73 (qc 122 [72,qi 0,qi 1]),qu 74 (.bW 9 66 67),qf 75 5 74,qw (.store 1 75 73)]) (.seq (.bX [qm 76 8,qL 77 4 9,qm 4 76,qw (.store 4 5 77),qu 6 (.aH (qi 0))] [(.cons 0 none (.cons 1 none (.cons 2 none (.cons 3 (some []) (.cons 4 none .nil)))))]) .ret)))))))⟩
def mC:bw:=⟨[],false,0,0⟩
def bw.rv(m:bw):RV:= .agg (m.enc.map .aa)
def fD(l:List Obj)(e:Int):List Obj×bw×Int:=
 if e<0\/e>=l.length then([],mC,8)else match l[e.toNat]? with
 |none=>([],mC,8)
 |some o=>if o.ah≠4 then([],mC,8)else match o.aj with
  | []=>if o.aD<0\/o.aD>=l.length then([],mC,17)else match l[o.aD.toNat]? with
   |none=>([],mC,17)
   |some q=>if q.ah≠4 then([],mC,17)else([],mC,16)
  |x::r=>(l.set e.toNat {o with aj:=r},x,0)
def vE(x:List Obj×bw×Int):CV:= .bK [mB x.1,x.2.1.rv,cS x.2.2]
theorem vw3{σ:Nat->Nat}{m:Mem}{Z:Nat->Prop}{a b c d:RV}{x:Int}(h:wZ σ m Z a b)(hc:wZ σ m Z c d):pW σ m Z (.bK [a,c,cS x]) (.bK [b,d,cS x]):=by
 refine .bK rfl fun i r r' h1 h2=>?_
 match i,h1,h2 with
 |0,h1,h2=>cases h1;cases h2;exact h
 |1,h1,h2=>cases h1;cases h2;exact hc
 |2,h1,h2=>cases h1;cases h2;exact .one (.aO (.aa _))
theorem vwZ{σ:Nat->Nat}{m:Mem}{Z:Nat->Prop}:wZ σ m Z (.agg tQ) mC.rv:=by
 refine .agg rfl fun i c c' h1 h2=>?_
 match i,h1,h2 with
 |0,h1,h2=>cases h1;cases h2;exact .e8 (.aI 1)
 |1,h1,h2=>cases h1;cases h2;exact .aO (.aa _)
 |2,h1,h2=>cases h1;cases h2;exact .aO (.aa _)
 |3,h1,h2=>cases h1;cases h2;exact .aO (.aa _)
 |n+4,h1,h2=>simp[tQ]at h1
theorem VK{σ:Nat->Nat}{m:Mem}{Z:Nat->Prop}(x:bw):wZ σ m Z (.agg (x.enc.map .aa)) x.rv:=by
 refine .agg rfl fun i c c' h1 h2=>?_
 rw[h1]at h2;cases h2;rw[Q8]at h1;cases hd:x.enc[i]? with
 |none=>rw[hd]at h1;cases h1
 |some d=>
  rw[hd]at h1;cases h1;exact .aO (.aa d)
theorem Sm{m:Mem}{Z:Nat->Prop}{p:Option Nat}{id:Nat}{x:bw}{r:List bw}(hz:Z id)(hb:m[id]? =some (.row 4 (fH x r))):dC m Z p (.row id 4 0 (some r.length)) (.sl 4 (r.map bw.enc)):=by
 have h:=dC.row (m:=m) (Z:=Z) (p:=p) id 4 0 (some r.length) (fH x r) (r.map bw.enc++ [mC.enc]) hz hb (by simp[fH,af]) (fun i cs es h1 h2=>?_) (fun i cs es j c d h1 h2 h3 h4=>?_)
 .have:cD (r.map bw.enc++ [mC.enc]) 0 (some r.length)=r.map bw.enc:=by rw[lD];simp
  rw[this]at h;exact h
 .rcases ZX i r.length with hi|hi
  .rw[fH,ZY (by simpa[af]using hi),af,Q8]at h1
   rw[ZY (by simpa using hi)]at h2
   rw[h2]at h1;cases h1;simp
  .rw[fH,ZW (by simpa[af]using hi)]at h1
   rw[ZW (by simpa using hi)]at h2
   have e1:(af (r.map bw.enc)).length=r.length:=by simp[af]
   have e2:(r.map bw.enc).length=r.length:=aG;rw[e1]at h1;rw[e2]at h2;cases hn:i-r.length with
   |zero=>rw[hn]at h1 h2;cases h1;cases h2;rfl
   |succ n=>rw[hn]at h1;simp at h1
 .rcases ZX i r.length with hi|hi
  .rw[fH,ZY (by simpa[af]using hi),af,Q8]at h1
   rw[ZY (by simpa using hi)]at h2
   rw[h2]at h1;cases h1;rw[Q8,h4]at h3;cases h3;exact .aa _
  .rw[fH,ZW (by simpa[af]using hi)]at h1
   rw[ZW (by simpa using hi)]at h2
   have e1:(af (r.map bw.enc)).length=r.length:=by simp[af]
   have e2:(r.map bw.enc).length=r.length:=aG;rw[e1]at h1;rw[e2]at h2;cases hn:i-r.length with
   |zero=>
    rw[hn]at h1 h2;cases h1;cases h2
    match j,h3,h4 with
    |0,h3,h4=>cases h3;cases h4;exact .aI 1
    |1,h3,h4=>cases h3;cases h4;exact .aa _
    |2,h3,h4=>cases h3;cases h4;exact .aa _
    |3,h3,h4=>cases h3;cases h4;exact .aa _
    |n+4,h3,h4=>simp[tQ]at h3
   |succ n=>rw[hn]at h1;simp at h1
theorem l82:bx Tryz.prog Tryz.f82=some c82:=by kernel_rfl
theorem sx(l:List Obj)(hf:jW l)(e:Int):body Tryz.prog c82 [b8 l,an .i64 e] [] (fun r m=>∃r' m',View 0 ⟨[r],m⟩ ⟨[r'],m'⟩/\r'=vE (fD l e)/\m'=[]):=by
 have JY:(((l.map Obj.enc).length:Nat):Int)=(l.length:Int):=aG;have bad:∀(x:Int),fD l e=([],mC,x)->∃r' m',View 0 ⟨[CV.bK [.one .aI,.agg tQ,cS x]],[.var tQ]⟩ ⟨[r'],m'⟩/\r'=vE (fD l e)/\m'=[]:=by intro x hx;refine⟨_,_,View.o 1 [] [] (.put (vw3 (b:=mB []) (.one (.e8 (.aI 9))) vwZ) .nil) (.nil _),?_,rfl⟩;rw[hx];rfl
 refine ay (fun h=>?_) (fun h1=>?_)
 .exact bad 8 (by rw[fD,if_pos (.inl h)])
 refine ay (fun h=>?_) (fun h2=>?_)
 .exact bad 8 (by rw[fD,if_pos (.inr (by rw[<-JY];exact h))])
 have h2:¬e>=(l.length:Int):=by rw[<-JY];exact h2
 obtain⟨k,rfl⟩:∃k:Nat,e=k:=⟨e.toNat,om⟩;have hk:k<l.length:=om;have hi:=IE hk;have oY:fD l (k:Int)=if l[k].ah≠4 then(([],mC,8):List Obj×bw×Int)else match l[k].aj with
   | []=>if l[k].aD<0\/l[k].aD>=l.length then([],mC,17)else match l[l[k].aD.toNat]? with
    |none=>([],mC,17)
    |some q=>if q.ah≠4 then([],mC,17)else([],mC,16)
   |x::r=>(l.set k {l[k]with aj:=r},x,0):=by
  rw[fD,if_neg om,Z3,hi]
 have hg:cR (l.map Obj.enc) (k:Nat)=some (l[k].enc):=by rw[bn,Q8,hi];rfl
 have N1:=hf.2 _ (Z0 hk);generalize l[k]=o at oY hg hi N1;obtain⟨ah,data,ak,target,aD,aj,aM,am,up⟩:=o;have hg:cR (l.map Obj.enc) (k:Nat)=some [.val (.int .i64 ah),.sl 1 data,.sl 2 ak,.val (.string target),.val (.int .i64 aD),.sl 4 (aj.map bw.enc),.val (.int .i64 aM),.val (.int .i64 am),.val (.int .i64 up)]:=hg;refine ag hg ?_;refine bG (fun h=>?_) (fun h3=>?_)
 .exact bad 8 (by rw[oY,if_pos h])
 have h3:ah=4:=h3;rw[if_neg (by simpa using h3)]at oY
 simp only at oY;refine ag hg ?_;cases aj with
 |nil=>
  simp only at oY;refine ag hg ?_;refine ay (fun h=>?_) (fun h4=>?_)
  .exact bad 17 (by rw[oY,if_pos (.inl h)])
  refine ay (fun h=>?_) (fun h5=>?_)
  .exact bad 17 (by rw[oY,if_pos (.inr (by rw[<-JY];exact h))])
  have h5:¬aD>=(l.length:Int):=by rw[<-JY];exact h5
  have h4:¬aD<0:=h4;obtain⟨p,rfl⟩:∃p:Nat,aD=p:=⟨aD.toNat,om⟩;have hp:p<l.length:=om;have QS:=IE hp;rw[if_neg om,Z3,QS]at oY;simp only at oY;have pz:cR (l.map Obj.enc) (p:Nat)=some (l[p].enc):=by rw[bn,Q8,QS];rfl
  generalize l[p]=q at oY pz;have pz:cR (l.map Obj.enc) (p:Nat)=some [.val (.int .i64 q.ah),.sl 1 q.data,.sl 2 q.ak,.val (.string q.target),.val (.int .i64 q.aD),.sl 4 (q.aj.map bw.enc),.val (.int .i64 q.aM),.val (.int .i64 q.am),.val (.int .i64 q.up)]:=pz;refine ag pz ?_;refine bG (fun h=>?_) (fun h6=>?_)
  .exact bad 17 (by rw[oY,if_pos h])
  .exact bad 16 (by rw[oY,if_neg (by simpa using h6)])
 |cons x r=>
  simp only at oY;have Il:(x::r).length<=4194304:=N1.2.2.1;refine vD l hf k ?_;rw[Lm hi];have sw:dH (k:Int) (lenOf (ez k 2 0 l).length 0 none)=some k:=cn (by simp[lenOf,mz];omega)
  have nA:=BL (Q:=2) hi;refine ag sw ?_;refine ag nA ?_;refine ag sw ?_;refine ag nA ?_;refine Sl x r (by simp at Il;omega) 2 rfl ?_
  refine ag sw ?_;refine ag nA ?_;refine⟨trivial,?_⟩;refine⟨vE (fD l k),[],View.o 4 [] [1,2] ?_ (.nil _),rfl,rfl⟩;rw[oY];refine .put (vw3 (.one (.e8 ?_)) (VK x)) .nil;exact Gu (p:=k) (Q:=2) (l:=l) (q:=⟨ah,data,ak,target,aD,r,aM,am,up⟩) (c:= .row 2 4 0 (some r.length)) rfl (by rw[<-aZ];rfl) (Sm (x:=x) rfl (by rw[<-aZ];rfl))
theorem OJ(l:List Obj)(hf:jW l)(e:Int){m:Mem}{K:CV->Mem->Prop}(h:K (vE (fD l e)) m):au Tryz.prog 82 [b8 l,an .i64 e] m K:=by
 refine be (K0:=fun r m=>r=vE (fD l e)/\m=[]) (bJ (aX Tryz.func82 l82 (sx l hf e)) fun r m1⟨r',m',hv,hp⟩=>⟨r',m',hv,hp⟩) (by simp[b8,an,CV.dm,CC.dm,RV.dm]) fun r m1 hr=>?_
 obtain⟨rfl,rfl⟩:=hr;exact⟨_,cJ.self rfl,h⟩
def gM(l:List Int):List (List Dt):=l.map fun b=>[.val (.int .u8 b)]
theorem BM{m:Mem}{id:Nat}{b:Bk}:dp m [id] [b]=bb m id b:=by simp only[dp,b9,ab5]
def AX(l:List Obj)(k ah:Int):Bool:=decide (k>=0)&&(decide (k<l.length)&&match l[k.toNat]? with|none=>false|some o=>o.ah !=0&&(ah==0||o.ah==ah))
def c49:LF:= ⟨36,[.tmp 6],(.seq (.ai [qu 6 (.aH (qb false))]) (.seq (.ai [qm 7 1,qu 8 (.aF .geq 7 (qi 0)),qm 9 8,qg 10 (.aH 1) 9 true,qg 11 (.aH 0) 9 true,qg 12 (.len 1 11) 9 true,qg 13 (.aF .lss 10 12) 9 true,qu 14 (.pick 9 13 (qb false)),qm 15 14,qg 16 (.aH 0) 15 true,qg 17 (.aH 1) 15 true,qg 18 (.bW 9 16 17) 15 true,qg 19 (.br 0 18) 15 true,qg 20 (.load false 1 19) 15 true,qg 21 (.aF .neq 20 (qi 0)) 15 true,qu 22 (.pick 15 21 (qb false)),qm 23 22,qg 24 (.aH 2) 23 true,qg 25 (.aF .eql 24 (qi 0)) 23 true,qg 26 (.aH 25) 23 true,qg 27 (.aH 0) 26 false,qg 28 (.aH 1) 26 false,qg 29 (.bW 9 27 28) 26 false,qg 30 (.br 0 29) 26 false,qg 31 (.load false 1 30) 26 false,qg 32 (.aH 2) 26 false,qg 33 (.aF .eql 31 32) 26 false,qg 34 (.pick 26 (qb true) 33) 23 true,qu 35 (.pick 23 34 (qb false)),qm 6 35]) .ret))⟩
theorem l49:bx Tryz.prog Tryz.f49=some c49:=by kernel_rfl
theorem OK(l:List Obj)(k ah:Int):body Tryz.prog c49 [b8 l,an .i64 k,an .i64 ah] [] (fun r m=>r=ax (AX l k ah)):=by
 refine ay (fun h0=>?_) (fun h0=>?_)
 .obtain⟨n,rfl⟩:∃n:Nat,k=n:=⟨k.toNat,om⟩;refine ay (fun h=>?_) (fun h=>?_)
  .have aB:n<l.length:=by have h:(n:Int)<((l.map Obj.enc).length:Int):=h;rw[Nq]at h;omega
   have hi:=IE aB;have hS:AX l (n:Int) ah=(l[n].ah !=0&&(ah==0||l[n].ah==ah)):=by simp[AX,aB]
   have hg:cR (l.map Obj.enc) (n:Nat)=some (l[n].enc):=by rw[bn,Q8,hi];rfl
   generalize l[n]=x at hS hg;have hg:cR (l.map Obj.enc) (n:Nat)=some [.val (.int .i64 x.ah),.sl 1 x.data,.sl 2 x.ak,.val (.string x.target),.val (.int .i64 x.aD),.sl 4 (x.aj.map bw.enc),.val (.int .i64 x.aM),.val (.int .i64 x.am),.val (.int .i64 x.up)]:=hg;refine ag hg ?_;refine aC (fun h1=>?_) (fun h1=>?_)
   .refine aC (fun h2=>?_) (fun h2=>?_)
    .show ax _=ax _;rw[hS,h1,h2];rfl
    .refine ag hg ?_;show ax _=ax _;rw[hS,h1,h2];rfl
   .show ax _=ax _;rw[hS,h1];rfl
  .have ew:¬n<l.length:=by have h:¬(n:Int)<((l.map Obj.enc).length:Int):=h;rw[Nq]at h;omega
   have hS:AX l (n:Int) ah=false:=by simp[AX,ew]
   show ax _=ax _;rw[hS]
 .have hS:AX l k ah=false:=by have:decide (k>=0)=false:=decide_eq_false h0;simp[AX,this]
  show ax _=ax _;rw[hS]
theorem VL(l:List Obj)(k ah:Int){m:Mem}{K:CV->Mem->Prop}(h:K (ax (AX l k ah)) m):au Tryz.prog 49 [b8 l,an .i64 k,an .i64 ah] m K:=
 bs Tryz.func49 l49 rfl (X5 rfl) (OK l k ah) rfl rfl h
def c22:LF:= ⟨27,[.tmp 4],(.seq (.ai [qu 4 (.aH (qb false))]) (.seq (.seq (.ai [qm 6 0,qu 7 (.len 1 6),qm 8 1,qu 9 (.len 1 8),qu 10 (.aF .neq 7 9)]) (.cond 10 (.seq (.ai [qu 4 (.aH (qb false))]) .ret) .skip)) (.seq (.seq (.ai [qm 11 0,qu 12 (.len 1 11),qu 13 (.aH (qi 0))]) (.block 0 (.loop (.seq (.ai [qu 14 (.aF .lss 13 12)]) (.seq (.cond 14 .skip (.exit 0)) (.seq (.block 1 (.seq (.ai [qm 15 13,qm 5 15]) (.seq (.bX [qm 16 0,qm 17 5,qu 18 (.bW 9 16 17),qL 19 9 18,qm 20 1,qm 21 5,qu 22 (.bW 9 20 21),qL 23 9 22,qu 24 (qc 47 [19,23]),qu 25 (.un .not 24)] [(.cons 0 none (.cons 1 none (.cons 2 none (.cons 3 none (.cons 4 none (.cons 5 none (.cons 6 none (.cons 7 none (.cons 8 (some []) (.cons 9 none .nil))))))))))]) (.cond 25 (.seq (.ai [qu 4 (.aH (qb false))]) .ret) .skip)))) (.ai [qu 26 (.aF .add 13 (qi 1)),qm 13 26]))))))) (.seq (.ai [qu 4 (.aH (qb true))]) .ret))))⟩
def c47:LF:= ⟨132,[.tmp 4],(.seq (.ai [qu 2 (.box 0),qu 3 (.box 1),qu 4 (.aH (qb false))]) (.seq (.seq (.ai [qf 9 0 2,ql 10 9,qf 11 0 3,ql 12 11,qu 13 (.aF .neq 10 12),qm 14 13,qg 15 (.br 1 2) 14 false,qg 16 (.load false 1 15) 14 false,qg 17 (.J8 16) 14 false,qg 18 (.br 1 3) 14 false,qg 19 (.load false 1 18) 14 false,qg 20 (.J8 19) 14 false,qg 21 (.aF .neq 17 20) 14 false,qu 22 (.pick 14 (qb true) 21),qm 23 22,qg 24 (.br 3 2) 23 false,qg 25 (.load false 1 24) 23 false,qg 26 (.br 3 3) 23 false,qg 27 (.load false 1 26) 23 false,qg 28 (.aF .neq 25 27) 23 false,qu 29 (.pick 23 (qb true) 28),qm 30 29,qg 31 (.br 4 2) 30 false,qg 32 (.load false 1 31) 30 false,qg 33 (.br 4 3) 30 false,qg 34 (.load false 1 33) 30 false,qg 35 (.aF .neq 32 34) 30 false,qu 36 (.pick 30 (qb true) 35),qm 37 36,qg 38 (.br 6 2) 37 false,qg 39 (.load false 1 38) 37 false,qg 40 (.br 6 3) 37 false,qg 41 (.load false 1 40) 37 false,qg 42 (.aF .neq 39 41) 37 false,qu 43 (.pick 37 (qb true) 42),qm 44 43,qg 45 (.br 7 2) 44 false,qg 46 (.load false 1 45) 44 false,qg 47 (.br 7 3) 44 false,qg 48 (.load false 1 47) 44 false,qg 49 (.aF .neq 46 48) 44 false,qu 50 (.pick 44 (qb true) 49),qm 51 50,qg 52 (.br 8 2) 51 false,qg 53 (.load false 1 52) 51 false,qg 54 (.br 8 3) 51 false,qg 55 (.load false 1 54) 51 false,qg 56 (.aF .neq 53 55) 51 false,qu 57 (.pick 51 (qb true) 56),qm 58 57,qg 59 (.br 2 2) 58 false,qg 60 (.load false 1 59) 58 false,qg 61 (.len 1 60) 58 false,qg 62 (.br 2 3) 58 false,qg 63 (.load false 1 62) 58 false,qg 64 (.len 1 63) 58 false,qg 65 (.aF .neq 61 64) 58 false,qu 66 (.pick 58 (qb true) 65),qm 67 66,qg 68 (.br 5 2) 67 false,qg 69 (.load false 1 68) 67 false,qg 70 (.len 1 69) 67 false,qg 71 (.br 5 3) 67 false,qg 72 (.load false 1 71) 67 false,qg 73 (.len 1 72) 67 false,qg 74 (.aF .neq 70 73) 67 false,qu 75 (.pick 67 (qb true) 74)]) (.cond 75 (.seq (.ai [qu 4 (.aH (qb false))]) .ret) .skip)) (.seq (.seq (.ai [qf 76 2 2,ql 77 76,qu 78 (.len 1 77),qu 79 (.aH (qi 0))]) (.block 0 (.loop (.seq (.ai [qu 80 (.aF .lss 79 78)]) (.seq (.cond 80 .skip (.exit 0)) (.seq (.block 1 (.seq (.ai [qm 81 79,qm 5 81]) (.seq (.bX [qf 82 2 2,ql 83 82,qm 84 5,qu 85 (.bW 2 83 84),qL 86 2 85,qf 87 2 3,ql 88 87,qm 89 5,qu 90 (.bW 2 88 89),qL 91 2 90,qu 92 (.Ht true [.s,.i] 86 91)] [(.cons 0 none (.cons 1 none (.cons 2 none (.cons 3 none (.cons 4 none (.cons 5 none (.cons 6 none (.cons 7 none (.cons 8 none (.cons 9 none (.cons 10 none .nil)))))))))))]) (.cond 92 (.seq (.ai [qu 4 (.aH (qb false))]) .ret) .skip)))) (.ai [qu 93 (.aF .add 79 (qi 1)),qm 79 93]))))))) (.seq (.seq (.ai [qf 94 5 2,ql 95 94,qu 96 (.len 1 95),qu 97 (.aH (qi 0))]) (.block 2 (.loop (.seq (.ai [qu 98 (.aF .lss 97 96)]) (.seq (.cond 98 .skip (.exit 2)) (.seq (.block 3 (.seq (.ai [qm 99 97,qm 6 99]) (.seq (.bX [qf 100 5 2,ql 101 100,qm 102 6,qu 103 (.bW 4 101 102),qL 104 4 103,qf 105 5 3,ql 106 105,qm 107 6,qu 108 (.bW 4 106 107),qL 109 4 108,qu 7 (.alloc [.aI,(.aa (.val (.bool false))),qd 0,qd 0]),qu 8 (.alloc [.aI,(.aa (.val (.bool false))),qd 0,qd 0]),qw (.store 4 7 104),qw (.store 4 8 109)] [(.cons 0 none (.cons 1 none (.cons 2 none (.cons 3 none (.cons 4 none (.cons 5 none (.cons 6 none (.cons 7 none (.cons 8 none (.cons 9 none (.xJ (.cons 10 (some [9,8,6,4,3,1]) (.cons 11 (some [9,8,6,4,3,1]) (.cons 12 (some [9,8,6]) (.cons 13 (some []) .nil)))) (.cons 11 (some [9,8,6,4,3,1]) (.cons 10 (some [9,8,6,4,3,1]) (.cons 12 (some [9,8,6]) (.cons 13 (some []) .nil)))))))))))))))]) (.seq (.ai [qf 110 0 7,ql 111 110,qu 112 (.J8 111),qf 113 0 8,ql 114 113,qu 115 (.J8 114),qu 116 (.aF .neq 112 115),qm 117 116,qg 118 (.br 1 7) 117 false,qg 119 (.load false 1 118) 117 false,qg 120 (.br 1 8) 117 false,qg 121 (.load false 1 120) 117 false,qg 122 (.beq true 119 121) 117 false,qu 123 (.pick 117 (qb true) 122),qm 124 123,qg 125 (.br 2 7) 124 false,qg 126 (.load true 2 125) 124 false,qg 127 (.br 2 8) 124 false,qg 128 (.load true 2 127) 124 false,qg 129 (.Ht true [.i,.i] 126 128) 124 false,qu 130 (.pick 124 (qb true) 129)]) (.cond 130 (.seq (.ai [qu 4 (.aH (qb false))]) .ret) .skip))))) (.ai [qu 131 (.aF .add 97 (qi 1)),qm 97 131]))))))) (.seq (.ai [qu 4 (.aH (qb true))]) .ret)))))⟩
theorem gj:∀b:List Int,tj ((gM b).map fun ds=>ds.map .aa)=some b
 | []=>rfl
 |x::r=>by have:=gj r;simp only[gM,abv,ac0]at this⊢;simp only[tj,this]
def eG(e:ByteArray×Int):List Dt:=[.val (.string e.1),.val (.int .i64 e.2)]
def bw.JZ(q:bw):Prop:=∃b:List Int,q.data=gM b
def Obj.JZ(o:Obj):Prop:=(∃b:List Int,o.data=gM b)/\(∃es:List (ByteArray×Int),o.ak=es.map eG)/\∀q,q∈o.aj->q.JZ
theorem l47:bx Tryz.prog Tryz.f47=some c47:=by kernel_rfl
theorem D8(o:Obj)(ht:o.JZ)(hf:o.mL):body Tryz.prog c47 [o.cv,o.cv] [] (fun r m=>r=ax true):=by
 obtain⟨⟨b,hb⟩,⟨es,he⟩,hq⟩:=ht;obtain⟨_,D6,N2,_⟩:=hf;obtain⟨ah,data,ak,target,aD,aj,aM,am,up⟩:=o;simp only at hb he hq D6 N2;subst hb he;rw[Nq]at D6;refine dU aG ?_;refine ag (gj b) ?_;refine ag (gj b) ?_;refine dU aG ?_;refine dU aG ?_;refine dU aG ?_;refine dU aG ?_;refine dU aG ?_;refine dU aG ?_;refine dU aG ?_;refine dU aG ?_;have vars:∀(f:Nat->Nat)(F:List Nat),True:=fun _ _=>trivial
 refine aK (fun k=>k<=es.length) [2,3,78] (fun k=>[(79,an .i64 (k:Nat))]) (fun _=>[.var (Obj.enc ⟨ah,gM b,es.map eG,target,aD,aj,aM,am,up⟩|>.map .aa),.var (Obj.enc ⟨ah,gM b,es.map eG,target,aD,aj,aM,am,up⟩|>.map .aa)]) (fun k=>es.length-k) 0 (Wi _) ?_ (fun k hk=>?_)
 .refine View.o1 2 [0,1] [] ?_
  .exact .pe rfl rfl rfl (.pm rfl rfl rfl)
 have hk:k<=es.length:=hk;refine ay (fun h=>?_) (fun h=>?_)
 .have aB:k<es.length:=by have h:(k:Int)<((es.map eG).length:Int):=h;rw[Nq]at h;omega
  have hg:cR (es.map eG) (k:Nat)=some [.val (.string es[k].1),.val (.int .i64 es[k].2)]:=by rw[bn,Q8,IE aB];rfl
  refine ag hg ?_;refine ag hg ?_;refine dU aG ?_;refine⟨k+1,aB,(show es.length-(k+1)<es.length-k by omega),View.o 2 [0,1] [] ?_ ?_⟩
  .repeat(first|exact .nil|refine .aq ?_|refine .put (.aO (ap om).symm) ?_|refine .eq rfl ?_)
  .exact .pe rfl rfl rfl (.pm rfl rfl rfl)
 .refine aK (fun k=>k<=aj.length) [2,3,96] (fun k=>[(97,an .i64 (k:Nat))]) (fun _=>[.var (Obj.enc ⟨ah,gM b,es.map eG,target,aD,aj,aM,am,up⟩|>.map .aa),.var (Obj.enc ⟨ah,gM b,es.map eG,target,aD,aj,aM,am,up⟩|>.map .aa)]) (fun k=>aj.length-k) 0 (Wi _) ?_ (fun j hj=>?_)
  .refine View.o1 2 [0,1] [] ?_
   .exact .pe rfl rfl rfl (.pm rfl rfl rfl)
  have hj:j<=aj.length:=hj;refine ay (fun h=>?_) (fun h=>?_)
  .have aB:j<aj.length:=by have h:(j:Int)<((aj.map bw.enc).length:Int):=h;rw[Nq]at h;omega
   have hg:cR (aj.map bw.enc) (j:Nat)=some (aj[j].enc):=by rw[bn,Q8,IE aB];rfl
   obtain⟨b2,mj⟩:=hq aj[j] (Z0 aB);generalize aj[j]=q at hg mj;obtain⟨dq,has,dk,bZ⟩:=q;simp only at mj;subst mj;have hg:cR (aj.map bw.enc) (j:Nat)=some [.sl 1 (gM b2),.val (.bool has),.val (.int .i64 dk),.val (.int .i64 bZ)]:=hg;refine ag hg ?_;refine ag hg ?_;refine⟨?_,?_⟩
   .refine⟨⟨rfl,ag hg rfl,rfl,rfl,ag hg rfl,rfl,trivial⟩,?_⟩;refine⟨⟨rfl,ag hg rfl,rfl,rfl,ag hg rfl,rfl,trivial⟩,?_⟩;refine⟨⟨rfl,ag hg rfl,rfl,trivial⟩,trivial,?_⟩;refine ag (gj b2) ?_;refine ag (gj b2) ?_;refine dU aG ?_;refine dU aG ?_;refine dU aG ?_;refine⟨j+1,aB,(show aj.length-(j+1)<aj.length-j by omega),View.o 4 [0,1] [] ?_ ?_⟩
    .repeat(first|exact .nil|refine .aq ?_|refine .put (.aO (ap om).symm) ?_|refine .eq rfl ?_)
    .exact .pe rfl rfl rfl (.pm rfl rfl rfl)
   .refine⟨⟨rfl,ag hg rfl,rfl,rfl,ag hg rfl,rfl,trivial⟩,?_⟩;refine⟨⟨rfl,ag hg rfl,rfl,rfl,ag hg rfl,rfl,trivial⟩,?_⟩;refine⟨⟨rfl,ag hg rfl,rfl,trivial⟩,trivial,?_⟩;refine ag (gj b2) ?_;refine ag (gj b2) ?_;refine dU aG ?_;refine dU aG ?_;refine dU aG ?_;refine⟨j+1,aB,(show aj.length-(j+1)<aj.length-j by omega),View.o 4 [0,1] [] ?_ ?_⟩
    .repeat(first|exact .nil|refine .aq ?_|refine .put (.aO (ap om).symm) ?_|refine .eq rfl ?_)
    .exact .pe rfl rfl rfl (.pm rfl rfl rfl)
  .exact rfl
theorem Lp(o:Obj)(ht:o.JZ)(hf:o.mL){m:Mem}{K:CV->Mem->Prop}(h:K (ax true) m):au Tryz.prog 47 [o.cv,o.cv] m K:=
 bs Tryz.func47 l47 rfl (X5 rfl) (D8 o ht hf) (by simp[Obj.cv,CV.dm,CC.dm,RV.dm]) rfl h
theorem l22:bx Tryz.prog Tryz.f22=some c22:=by kernel_rfl
theorem D9(l:List Obj)(hl:jW l)(ht:∀o,o∈l->o.JZ):body Tryz.prog c22 [b8 l,b8 l] [] (fun r m=>r=ax true):=by
 obtain⟨hl,jk⟩:=hl;refine dU aG ?_;refine aK (fun k=>k<=l.length) [0,1,12] (fun k=>[(13,an .i64 (k:Nat))]) (fun _=>[]) (fun k=>l.length-k) 0 (Wi _) ?_ (fun k hk=>?_)
 .refine View.o 0 [] [] ?_ (.nil _);repeat(first|exact .nil|refine .aq ?_|refine .eq rfl ?_)
 have hk:k<=l.length:=hk;refine ay (fun h=>?_) (fun h=>?_)
 .have aB:k<l.length:=by have h:(k:Int)<((l.map Obj.enc).length:Int):=h;rw[Nq]at h;omega
  have hg:cR (l.map Obj.enc) (k:Nat)=some (l[k].enc):=by rw[bn,Q8,IE aB];rfl
  have h1:=ht l[k] (Z0 aB);have h2:=jk l[k] (Z0 aB);generalize l[k]=x at hg h1 h2;have hg:cR (l.map Obj.enc) (k:Nat)=some [.val (.int .i64 x.ah),.sl 1 x.data,.sl 2 x.ak,.val (.string x.target),.val (.int .i64 x.aD),.sl 4 (x.aj.map bw.enc),.val (.int .i64 x.aM),.val (.int .i64 x.am),.val (.int .i64 x.up)]:=hg;refine ag hg ?_;refine ag hg ?_;refine Lp x h1 h2 ?_;refine⟨trivial,?_⟩;refine⟨k+1,aB,(show l.length-(k+1)<l.length-k by omega),View.o 0 [] [] ?_ (.nil _)⟩
  repeat(first|exact .nil|refine .aq ?_|refine .put (.aO (ap om).symm) ?_|refine .eq rfl ?_)
 .exact rfl
theorem Lq(l:List Obj)(hl:jW l)(ht:∀o,o∈l->o.JZ){m:Mem}{K:CV->Mem->Prop}(h:K (ax true) m):au Tryz.prog 22 [b8 l,b8 l] m K:=
 bs Tryz.func22 l22 rfl (X5 rfl) (D9 l hl ht) rfl rfl h
theorem oZ{l:List Obj}{k:Nat}(h:k<l.length):cR (l.map Obj.enc) (k:Nat)=some [.val (.int .i64 l[k].ah),.sl 1 l[k].data,.sl 2 l[k].ak,.val (.string l[k].target),.val (.int .i64 l[k].aD),.sl 4 (l[k].aj.map bw.enc),.val (.int .i64 l[k].aM),.val (.int .i64 l[k].am),.val (.int .i64 l[k].up)]:=by rw[bn,Q8,IE h];rfl
inductive pA(σ:Nat->Nat)(m:Mem)(Z:Nat->Prop):List CC->List CC->Prop
 |nil:pA σ m Z [] []
 |cons {c c':CC} {r r':List CC} (h:qA σ m Z none c c') (hr:pA σ m Z r r'):pA σ m Z (c::r) (c'::r')
theorem pA.len{σ:Nat->Nat}{m:Mem}{Z:Nat->Prop}{cs eh:List CC}(h:pA σ m Z cs eh):cs.length=eh.length:=by
 induction h<;>simp[*]
theorem pA.get{σ:Nat->Nat}{m:Mem}{Z:Nat->Prop}{cs eh:List CC}(h:pA σ m Z cs eh):∀(i:Nat)c c',cs[i]? =some c->eh[i]? =some c'->qA σ m Z none c c':=by
 induction h with
 |nil=>intro i c c' h;simp at h
 |cons h hr ih=>
  intro i c c' h1 h2;cases i with
  |zero=>simp at h1 h2;subst h1 h2;exact h
  |succ i=>exact ih i c c' (by simpa using h1) (by simpa using h2)
theorem pA.agg{σ:Nat->Nat}{m:Mem}{Z:Nat->Prop}{cs eh:List CC}(h:pA σ m Z cs eh):pW σ m Z (.rv (.agg cs)) (.rv (.agg eh)):= .rv (.agg h.len h.get)
structure Obj.sm(o:Obj):Prop where
 t:o.JZ
 d:o.data.length<=64
 e:o.ak.length<=8
 q:o.aj.length<=8
 qd:∀q,q∈o.aj->q.data.length<=64
theorem Obj.sm.mL{o:Obj}(h:o.sm):o.mL:=⟨by have:=h.d;omega,by have:=h.e;omega,by have:=h.q;omega,fun q hq=>by have:=h.qd q hq;omega⟩
theorem OL{es:List (ByteArray×Int)}{k:Nat}(h:k<es.length):cR (es.map eG) (k:Nat)=some [.val (.string es[k].1),.val (.int .i64 es[k].2)]:=by rw[bn,Q8,IE h];rfl
structure fz where
 has:Bool
 dk:Int
 bZ:Int
def fz.enc(s:fz):List Dt:=[.val (.bool s.has),.val (.int .i64 s.dk),.val (.int .i64 s.bZ)]
def iu(l:List fz):Dt:= .sl 3 (l.map fz.enc)
def Lr(l:List fz):RV:= .one (.aa (iu l))
def kP(l:List fz):CV:= .rv (.one (.aa (iu l)))
theorem bA{α:Type}(f:α->List Dt)(l:List α){k:Nat}(h:k<l.length):dd (af (l.map f)) k=some ((f l[k]).map .aa):=by rw[aZ,af,Q8,Q8,IE h];rfl
theorem mV{α:Type}(f:α->List Dt)(l:List α)(k:Nat)(x:α):bb (af (l.map f)) k ((f x).map .aa)=af ((l.set k x).map f):=by rw[bj,af,af,abJ,abJ]
theorem oa:∀a:List UInt8,Op.bytesLess a a=false
 | []=>rfl
 |x::r=>by simp[Op.bytesLess,oa r]
theorem rl:∀{a b c:List UInt8},Op.bytesLess a b=true->Op.bytesLess b c=true->Op.bytesLess a c=true
 |a,[],_,h,_=>by cases a<;>simp[Op.bytesLess]at h
 |_,_::_,[],_,h=>by simp[Op.bytesLess]at h
 | [],_::_,_::_,_,_=>rfl
 |x::a,y::b,z::c,h1,h2=>by
  simp only[Op.bytesLess,abZ,ZM,decide_eq_true_eq,beq_iff_eq]at h1 h2⊢;rcases h1 with h1|⟨rfl,h1⟩
  .rcases h2 with h2|⟨rfl,h2⟩
   .exact .inl (UInt8.lt_trans h1 h2)
   .exact .inl h1
  .rcases h2 with h2|⟨rfl,h2⟩
   .exact .inl h2
   .exact .inr ⟨rfl,rl h1 h2⟩
theorem Ls:∀a b:List UInt8,Op.bytesLess a b=true\/a=b\/Op.bytesLess b a=true
 | [],[]=>.inr (.inl rfl)
 | [],_::_=>.inl rfl
 |_::_,[]=>.inr (.inr rfl)
 |x::a,y::b=>by
  simp only[Op.bytesLess,abZ,ZM,decide_eq_true_eq,beq_iff_eq,adn];by_cases h:x<y
  .exact .inl (.inl h)
  .by_cases h2:y<x
   .exact .inr (.inr (.inl h2))
   .have e:x=y:=by have h3:¬x.toNat<y.toNat:=h;have h4:¬y.toNat<x.toNat:=h2;exact UInt8.toNat_inj.1 om
    subst e;rcases Ls a b with h5|h5|h5
    .exact .inl (.inr ⟨rfl,h5⟩)
    .exact .inr (.inl ⟨rfl,h5⟩)
    .exact .inr (.inr (.inr ⟨rfl,h5⟩))
abbrev NE:=ByteArray×Int
def zI(a b:ByteArray):Prop:=Op.bytesLess a.toList b.toList=true
def Ea(es:List NE):Prop:=es.Pairwise fun a b=>zI a.1 b.1
def Eb(a b:ByteArray):Bool:= !(Op.bytesLess a.toList b.toList||a.toList==b.toList)
theorem VM{a b:ByteArray}(h:Eb a b=true):zI b a:=by
 unfold Eb at h;simp only[abX,acB,beq_eq_false_iff_ne]at h;rcases Ls a.toList b.toList with h1|h1|h1
 .rw[h.1]at h1;cases h1
 .exact absurd h1 h.2
 .exact h1
theorem Sn{a b:ByteArray}(h:Eb a b=false)(fc:a.toList≠b.toList):zI a b:=by unfold Eb at h;simp only[Bool.not_eq_false',abZ,beq_iff_eq]at h;exact h.elim id fun h=>absurd h fc
structure yn(es:List NE)(x:NE)(k:Nat)(d:Bool)(eB:List NE):Prop where
 f:d=false->eB=es.take k/\∀(j:Nat)e,j<k->es[j]? =some e->Eb e.1 x.1=false
 t:d=true->∃i,i<k/\eB=es.take i++x::(es.take k).drop i/\(∀(j:Nat)e,j<i->es[j]? =some e->Eb e.1 x.1=false)/\∃e,es[i]? =some e/\Eb e.1 x.1=true
theorem yq{es:List NE}{k:Nat}(h:k<es.length):es.take (k+1)=es.take k++ [es[k]]:=by rw[abM,IE h];rfl
theorem yn.AN{es:List NE}{x:NE}{k:Nat}{eB:List NE}(h:yn es x k false eB)(hk:k<es.length)(hg:Eb es[k].1 x.1=true):yn es x (k+1) true (eB++ [x,es[k]]):=by
 obtain⟨h1,h2⟩:=h.f rfl;refine⟨fun h=>(by cases h),fun _=>⟨k,ab7 k,?_,h2,es[k],IE hk,hg⟩⟩
 rw[yq hk,h1,List.drop_left' (by simp;omega)]
theorem yn.bO{es:List NE}{x:NE}{k:Nat}{eB:List NE}(h:yn es x k true eB)(hk:k<es.length):yn es x (k+1) true (eB++ [es[k]]):=by
 obtain⟨i,h1,h2,h3,h4⟩:=h.t rfl;refine⟨fun h=>(by cases h),fun _=>⟨i,om,?_,h3,h4⟩⟩
 rw[yq hk,List.drop_append_of_le_length (by simp;omega),h2]
 simp
def iF(x:NE):List NE->List NE
 | []=>[x]
 |e::r=>if Eb e.1 x.1=true then x::e::r else e::iF x r
theorem BN{x:NE}:∀{a b:List NE},(∀e,e∈a->Eb e.1 x.1=false)->iF x (a++b)=a++iF x b
 | [],_,_=>rfl
 |e::a,b,h=>by
  show iF x (e::(a++b))=_;rw[iF,if_neg (by rw[h e aG];simp),BN fun y hy=>h y (by simp[hy])]
  rfl
theorem OM{x e:NE}{r:List NE}(h:Eb e.1 x.1=true):iF x (e::r)=x::e::r:=by rw[iF,if_pos h]
theorem rm{x:NE}:∀{es:List NE}{e:NE},e∈iF x es->e∈es\/e=x
 | [],e,h=>by simp[iF]at h;exact .inr h
 |y::r,e,h=>by
  rw[iF]at h;split at h
  .rcases abo.1 h with h|h
   .exact .inr h
   .exact .inl h
  .rcases abo.1 h with h|h
   .exact .inl (by simp[h])
   .rcases rm h with h|h
    .exact .inl (by simp[h])
    .exact .inr h
theorem BO{x:NE}:∀es:List NE,(iF x es).length=es.length+1
 | []=>rfl
 |y::r=>by
  rw[iF];split
  .rfl
  .simp[BO r]
theorem Lt{es:List NE}{x:NE}(hs:Ea es)(fc:∀e,e∈es->e.1.toList≠x.1.toList):Ea (iF x es):=by
 induction es with
 |nil=>exact acw.2 ⟨aG,List.Pairwise.nil⟩
 |cons e r ih=>
  obtain⟨h1,h2⟩:=acw.1 hs;rw[iF];split
  .rename_i hg;have hx:=VM hg;refine acw.2 ⟨fun y hy=>?_,hs⟩
   rcases abo.1 hy with rfl|hy
   .exact hx
   .exact rl hx (h1 y hy)
  .rename_i hg;rw[acC]at hg;refine acw.2 ⟨fun y hy=>?_,ih h2 fun y hy=>fc y (by simp[hy])⟩
   rcases rm hy with hy|rfl
   .exact h1 y hy
   .exact Sn hg (fc e aG)
def zJ(es:List NE)(name:ByteArray)(n:Int):Prop:=(∃e,e∈es/\e.1.toList=name.toList/\n=e.2)\/(n= -1/\∀e,e∈es->e.1.toList≠name.toList)
def fE(es:List NE)(name:ByteArray):Int:=match es.find? (fun e=>decide (e.1.toList=name.toList))with
 |some e=>e.2
 |none=>-1
theorem vF{es:List NE}(hs:Ea es){a b:NE}(ha:a∈es)(hb:b∈es)(h:a.1.toList=b.1.toList):a=b:=by
 obtain⟨i,hi⟩:=Xf ha;obtain⟨j,hj⟩:=Xf hb;obtain⟨Qs,eC⟩:=Mh.1 hi;obtain⟨AP,kj⟩:=Mh.1 hj;have hp:=ab6.1 hs;rcases acN i j with h3|h3|h3
 .have:=hp i j Qs AP h3;rw[eC,kj,zI,h,oa]at this;cases this
 .subst h3;rw[hi]at hj;cases hj;rfl
 .have:=hp j i AP Qs h3;rw[eC,kj,zI,h,oa]at this;cases this
theorem jo(es:List NE)(name:ByteArray):zJ es name (fE es name):=by
 unfold fE;cases h:es.find? (fun e=>decide (e.1.toList=name.toList))with
 |some e=>
  have h1:=List.find?_some h;exact .inl ⟨e,List.mem_of_find?_eq_some h,by simpa using h1,rfl⟩
 |none=>exact .inr ⟨rfl,fun e he=>by simpa using ac8.1 h e he⟩
theorem tR{es:List NE}(hs:Ea es){name:ByteArray}{n k:Int}(h:zJ es name n)(h2:zJ es name k):n=k:=by
 rcases h with⟨e,he,h3,rfl⟩|⟨rfl,h3⟩
 .rcases h2 with⟨e',tm,h4,rfl⟩|⟨rfl,h4⟩
  .rw[vF hs he tm (h3.trans h4.symm)]
  .exact absurd h3 (h4 e he)
 .rcases h2 with⟨e',tm,h4,rfl⟩|⟨rfl,h4⟩
  .exact absurd h4 (h3 e' tm)
  .rfl
def noD:Dt:= .val (.slice none 0 0)
structure Ob where
 ah:Int
 data:List (List Dt)
 ak:List (List Dt)
 target:ByteArray
 aD:Int
 aj:Dt
 aM:Int
 am:Int
 up:Int
def Ob.enc(o:Ob):List Dt:=[.val (.int .i64 o.ah),.sl 1 o.data,.sl 2 o.ak,.val (.string o.target),.val (.int .i64 o.aD),o.aj,.val (.int .i64 o.aM),.val (.int .i64 o.am),.val (.int .i64 o.up)]
def ON(l:List Ob):Dt:= .sl 9 (l.map Ob.enc)
def zK(l:List Ob):CV:= .rv (.one (.aa (ON l)))
def oc(l:List Ob)(k ah:Int):Bool:=decide (k>=0)&&(decide (k<l.length)&&match l[k.toNat]? with|none=>false|some o=>o.ah !=0&&(ah==0||o.ah==ah))
theorem mD{l:List Ob}{k:Nat}(h:k<l.length):cR (l.map Ob.enc) (k:Nat)=some [.val (.int .i64 l[k].ah),.sl 1 l[k].data,.sl 2 l[k].ak,.val (.string l[k].target),.val (.int .i64 l[k].aD),l[k].aj,.val (.int .i64 l[k].aM),.val (.int .i64 l[k].am),.val (.int .i64 l[k].up)]:=by rw[bn,Q8,IE h];rfl
theorem Lu{l:List Ob}{k:Int}(h:oc l k 0=true):∃n:Nat,k=n/\n<l.length:=by
 unfold oc at h;by_cases h0:k>=0
 .obtain⟨n,rfl⟩:∃n:Nat,k=n:=⟨k.toNat,om⟩;by_cases hn:n<l.length
  .exact⟨n,rfl,hn⟩
  .simp[hn]at h
 .simp[h0]at h
structure VN(n:Nat)(ah:Int)(ak:List (List Dt)):Prop where
 ex:∃es:List NE,ak=es.map eG/\Ea es/\(∀e,e∈es->0<=e.2/\e.2<(n:Int))/\(ah≠2->es=[])
def nq:List Dt->NE
 | [.val (.string s),.val (.int .i64 n)]=>(s,n)
 |_=>(⟨#[]⟩,0)
theorem mW:∀es:List NE,(es.map eG).map nq=es
 | []=>rfl
 |e::r=>by show(nq (eG e))::((r.map eG).map nq)=_;rw[mW r];rfl
def pY:LC->LC
 | .seq a _=>a
 |x=>x
def bv:LC->LC
 | .seq _ b=>b
 |x=>x
def lX:LC->LC
 | .cu a=>a
 |x=>x
structure bi where
 bD:Int
 dh:Int
def bi.enc(o:bi):List Dt:=[.val (.int .i64 o.bD),.val (.int .i64 o.dh)]
structure aT where
 aQ:Bool
 fenced:Bool
 code:Int
 aJ:List fz
def aT.enc(p:aT):List Dt:=[.val (.bool p.aQ),.val (.bool p.fenced),.val (.int .i64 p.code),iu p.aJ]
def d5(l:List bi):Dt:= .sl 2 (l.map bi.enc)
def ff(l:List aT):Dt:= .sl 4 (l.map aT.enc)
def cP(l:List Obj)(op:List bi)(ps:List aT):CV:= .rv (.agg [.aa (cU l),.aa (d5 op),.aa (ff ps)])
inductive eP(σ:Nat->Nat)(m:Mem)(Z:Nat->Prop)(p:Option Nat):List CC->List CC->Prop
 |nil:eP σ m Z p [] []
 |cons {c c':CC} {r r':List CC} (h:qA σ m Z p c c') (hr:eP σ m Z p r r'):eP σ m Z p (c::r) (c'::r')
theorem eP.get{σ:Nat->Nat}{m:Mem}{Z:Nat->Prop}{p:Option Nat}{cs eh:List CC}(h:eP σ m Z p cs eh):∀(i:Nat)c',eh[i]? =some c'->∃c,cs[i]? =some c/\qA σ m Z p c c':=by
 induction h with
 |nil=>intro i c' h;simp at h
 |cons h hr ih=>
  intro i c' h2;cases i with
  |zero=>simp at h2;subst h2;exact⟨_,rfl,h⟩
  |succ i=>simpa using ih i c' (by simpa using h2)
theorem eP.var{σ:Nat->Nat}{m:Mem}{Z:Nat->Prop}{id:Nat}{cs eh:List CC}(h:eP σ m Z (some id) cs eh):mK σ m Z id (.var cs) (.var eh):= .var h.get
def z3:List CC:=[.aI,.aI,.aI]
theorem aU(ds:List (List Dt)):(af ds).length=ds.length:=by simp[af]
theorem db(σ:Nat->Nat)(ds:List (List Dt)):(af ds).map (fun cs=>cs.map (CC.aO σ))=af ds:=by simp[af,acf,CC.aO]
theorem VO{σ:Nat->Nat}{m:Mem}{Z:Nat->Prop}{id:Nat}(l:List aT)(p:aT){c:CC}{X:List (List CC)}(hc:qA σ m Z (some id) c (.aa (iu p.aJ)))(hX:X=af (l.map aT.enc)++ [[.aa (.val (.bool p.aQ)),.aa (.val (.bool p.fenced)),.aa (.val (.int .i64 p.code)),c]]):mK σ m Z id (.row 4 X) (.row 4 (af ((l++ [p]).map aT.enc))):=by
 subst hX;have e:af ((l++ [p]).map aT.enc)=af (l.map aT.enc)++ [p.enc.map .aa]:=by simp[af]
 rw[e];refine .zE (db σ _) rfl fun j c1 c2 h1 h2=>?_
 match j,h1,h2 with
 |0,h1,h2=>cases h1;cases h2;exact .aO (.aa _)
 |1,h1,h2=>cases h1;cases h2;exact .aO (.aa _)
 |2,h1,h2=>cases h1;cases h2;exact .aO (.aa _)
 |3,h1,h2=>cases h1;cases h2;exact hc
 |n+4,h1,h2=>simp at h1
structure Mk where
 O:List Bool
 P:List Bool
def dx(L:List Bool)(i:Nat):Prop:=L[i]? =some true
def vO(l:List Obj)(z:Int)(i:Nat):Prop:=z=i/\∃o,l[i]? =some o/\o.ah≠0
def vP(ops:List bi)(z:Int)(c:Nat):Prop:=z=c/\c<ops.length
def sE(o:Obj)(z:Int):Prop:=∃nm:ByteArray,eG (nm,z)∈o.ak
def sQ(o:Obj)(z:Int):Prop:=∃q,q∈o.aj/\q.has=true/\q.dk=z
structure Step(l:List Obj)(ops:List bi)(E:Nat->Prop)(a b:Mk):Prop where
 lo:b.O.length=a.O.length
 lp:b.P.length=a.P.length
 mo:∀i,dx a.O i->dx b.O i
 mp:∀c,dx a.P c->dx b.P c
 co:∀i o,dx b.O i->¬dx a.O i->¬E i->l[i]? =some o->(∀z n,sE o z->vO l z n->dx b.O n)/\(∀z c,sQ o z->vP ops z c->dx b.P c)
 cp:∀c o,dx b.P c->¬dx a.P c->ops[c]? =some o->∀n,vO l o.bD n->dx b.O n
structure Cl(l:List Obj)(ops:List bi)(RO RP:Nat->Prop):Prop where
 e:∀i o,RO i->l[i]? =some o->∀z n,sE o z->vO l z n->RO n
 q:∀i o,RO i->l[i]? =some o->∀z c,sQ o z->vP ops z c->RP c
 p:∀c o,RP c->ops[c]? =some o->∀n,vO l o.bD n->RO n
def Lv(RO RP:Nat->Prop)(a:Mk):Prop:=(∀i,dx a.O i->RO i)/\(∀c,dx a.P c->RP c)
def d6(L:List Bool):Nat:=(L.filter (fun b=>!b)).length
def Mk.mu(a:Mk):Nat:=d6 a.O+d6 a.P
theorem Step.refl{l:List Obj}{ops:List bi}{E:Nat->Prop}(a:Mk):Step l ops E a a:=
 ⟨rfl,rfl,fun _ h=>h,fun _ h=>h,fun _ _ h h2=>absurd h h2,fun _ _ h h2=>absurd h h2⟩
theorem Step.trans{l:List Obj}{ops:List bi}{E:Nat->Prop}{a b c:Mk}(h1:Step l ops E a b)(h2:Step l ops (fun _=>False) b c):Step l ops E a c:=by
 refine⟨h2.lo.trans h1.lo,h2.lp.trans h1.lp,fun i h=>h2.mo i (h1.mo i h),fun i h=>h2.mp i (h1.mp i h),fun i o hi hn hE ho=>?_,fun i o hi hn ho n hv=>?_⟩
 .by_cases hb:dx b.O i
  .obtain⟨k1,k2⟩:=h1.co i o hb hn hE ho;exact⟨fun z n hz hv=>h2.mo n (k1 z n hz hv),fun z c hz hv=>h2.mp c (k2 z c hz hv)⟩
  .exact h2.co i o hi hb (fun h=>h) ho
 .by_cases hb:dx b.P i
  .exact h2.mo n (h1.cp i o hb hn ho n hv)
  .exact h2.cp i o hi hb ho n hv
theorem kz:∀(a b:List Bool),b.length=a.length->(∀i,dx a i->dx b i)->d6 b<=d6 a
 | [],[],_,_=>SS _
 | [],_::_,h,_=>by simp at h
 |_::_,[],h,_=>by simp at h
 |x::a,y::b,h,hm=>by
  have ih:=kz a b (by simpa using h) (fun i hi=>by simpa[dx]using hm (i+1) (by simpa[dx]using hi))
  have h0:x=true->y=true:=fun hx=>by simpa[dx]using hm 0 (by simp[dx,hx])
  unfold d6 at ih⊢;cases x<;>cases y<;>simp at h0⊢<;>omega
theorem pZ:∀(a:List Bool)(n:Nat),a[n]? =some false->d6 (a.set n true)+1=d6 a
 | [],n,h=>by simp at h
 |x::a,0,h=>by simp at h;subst h;simp[d6]
 |x::a,n+1,h=>by
  have ih:=pZ a n (by simpa using h)
  unfold d6 at ih⊢;cases x<;>simp at ih⊢<;>omega
theorem Gw{L:List Bool}{n i:Nat}(h:dx L i):dx (L.set n true) i:=by
 unfold dx at h⊢;rw[abw];split
 .rename_i e;subst e;have:=(Mh.1 h).1;simp[this]
 .exact h
theorem rn{L:List Bool}{n:Nat}(h:n<L.length):dx (L.set n true) n:=by unfold dx;simp[h]
theorem kQ{L:List Bool}{n i:Nat}(h:dx (L.set n true) i):dx L i\/i=n:=by
 unfold dx at h⊢;rw[abw]at h;split at h
 .rename_i e;exact .inr e.symm
 .exact .inl h
structure PO(l:List Obj)(ops:List bi)(z:Int)(a b:Mk):Prop where
 st:Step l ops (fun _=>False) a b
 on:∀n,vO l z n->dx b.O n
 sd:∀RO RP,Cl l ops RO RP->Lv RO RP a->(∀n,vO l z n->RO n)->Lv RO RP b
structure PP(l:List Obj)(ops:List bi)(z:Int)(a b:Mk):Prop where
 st:Step l ops (fun _=>False) a b
 on:∀c,vP ops z c->dx b.P c
 sd:∀RO RP,Cl l ops RO RP->Lv RO RP a->(∀c,vP ops z c->RP c)->Lv RO RP b
theorem PO.none{l:List Obj}{ops:List bi}{z:Int}{a:Mk}(h:∀n,vO l z n->dx a.O n):PO l ops z a a:=⟨.refl a,h,fun _ _ _ h _=>h⟩
theorem PP.none{l:List Obj}{ops:List bi}{z:Int}{a:Mk}(h:∀n,vP ops z n->dx a.P n):PP l ops z a a:=⟨.refl a,h,fun _ _ _ h _=>h⟩
structure yr(l:List Obj)(ops:List bi)(n:Nat)(a b:Mk)(nE nQ:Nat)(es:List (ByteArray×Int))(qs:List bw):Prop where
 st:Step l ops (fun i=>i=n) a b
 on:dx b.O n
 e:∀j e,j<nE->es[j]? =some e->∀m,vO l e.2 m->dx b.O m
 q:∀j q,j<nQ->qs[j]? =some q->q.has=true->∀c,vP ops q.dk c->dx b.P c
 sd:∀RO RP,Cl l ops RO RP->Lv RO RP a->RO n->Lv RO RP b
theorem yr.start{l:List Obj}{ops:List bi}{n:Nat}{a:Mk}(hn:n<a.O.length)(es:List (ByteArray×Int))(qs:List bw):yr l ops n a ⟨a.O.set n true,a.P⟩ 0 0 es qs:=by
 refine⟨⟨aG,rfl,fun i h=>Gw h,fun i h=>h,fun i o h h2 h3=>?_,fun _ _ h h2=>absurd h h2⟩,rn hn,fun j e h=>absurd h (abb j),fun j e h=>absurd h (abb j),fun RO RP _ h hr=>⟨fun i hi=>?_,h.2⟩⟩
 .rcases kQ h with h|h
  .exact absurd h h2
  .exact absurd h h3
 .rcases kQ hi with hi|rfl
  .exact h.1 i hi
  .exact hr
theorem yr.VP{l:List Obj}{ops:List bi}{n:Nat}{a b c:Mk}{j:Nat}{es:List (ByteArray×Int)}{qs:List bw}(h:yr l ops n a b j 0 es qs){e:ByteArray×Int}(he:es[j]? =some e)(hc:PO l ops e.2 b c){o:Obj}(ho:l[n]? =some o)(nV:o.ak=es.map eG):yr l ops n a c (j+1) 0 es qs:=by
 have hse:sE o e.2:=⟨e.1,by rw[nV];exact List.mem_map_of_mem (Rq he)⟩
 refine⟨h.st.trans hc.st,hc.st.mo n h.on,fun i x hi hx m hv=>?_,fun i x hi=>absurd hi (abb i),fun RO RP fU gL hr=>hc.sd RO RP fU (h.sd RO RP fU gL hr) fun m hv=>fU.e n o hr ho e.2 m hse hv⟩
 rcases ZX i j with qy|qy
 .exact hc.st.mo m (h.e i x qy hx m hv)
 .have:i=j:=om;subst this;rw[he]at hx;cases hx;exact hc.on m hv
theorem yr.VQ{l:List Obj}{ops:List bi}{n:Nat}{a b c:Mk}{k j:Nat}{es:List (ByteArray×Int)}{qs:List bw}(h:yr l ops n a b k j es qs){q:bw}(hq:qs[j]? =some q)(hh:q.has=true)(hc:PP l ops q.dk b c){o:Obj}(ho:l[n]? =some o)(Zo:o.aj=qs):yr l ops n a c k (j+1) es qs:=by
 have hsq:sQ o q.dk:=⟨q,by rw[Zo];exact Rq hq,hh,rfl⟩
 refine⟨h.st.trans hc.st,hc.st.mo n h.on,fun i x hi hx m hv=>hc.st.mo m (h.e i x hi hx m hv),fun i x hi hx VR m hv=>?_,fun RO RP fU gL hr=>hc.sd RO RP fU (h.sd RO RP fU gL hr) fun m hv=>fU.q n o hr ho q.dk m hsq hv⟩
 rcases ZX i j with qy|qy
 .exact hc.st.mp m (h.q i x qy hx VR m hv)
 .have:i=j:=om;subst this;rw[hq]at hx;cases hx;exact hc.on m hv
theorem yr.VS{l:List Obj}{ops:List bi}{n:Nat}{a b:Mk}{k j:Nat}{es:List (ByteArray×Int)}{qs:List bw}(h:yr l ops n a b k j es qs){q:bw}(hq:qs[j]? =some q)(hh:q.has=false):yr l ops n a b k (j+1) es qs:=by
 refine⟨h.st,h.on,h.e,fun i x hi hx VR m hv=>?_,h.sd⟩
 rcases ZX i j with qy|qy
 .exact h.q i x qy hx VR m hv
 .have:i=j:=om;subst this;rw[hq]at hx;cases hx;rw[hh]at VR;cases VR
theorem yr.iC{l:List Obj}{ops:List bi}{n:Nat}{a b:Mk}{es:List (ByteArray×Int)}{qs:List bw}(h:yr l ops n a b es.length qs.length es qs){o:Obj}(ho:l[n]? =some o)(hk:o.ah≠0)(nV:o.ak=es.map eG)(Zo:o.aj=qs):PO l ops (n:Int) a b:=by
 refine⟨⟨h.st.lo,h.st.lp,h.st.mo,h.st.mp,fun i x hi C9 _ hx=>?_,h.st.cp⟩,fun m hv=>?_,fun RO RP fU gL hr=>h.sd RO RP fU gL (hr n ⟨rfl,o,ho,hk⟩)⟩
 .by_cases gL:i=n
  .subst gL;rw[ho]at hx;cases hx;refine⟨fun z m⟨nm,hm⟩hv=>?_,fun z c⟨q,hq,hh,hz⟩hv=>?_⟩
   .rw[nV]at hm;obtain⟨e,he,mU⟩:=aaQ.1 hm;have:e.2=z:=by simp[eG]at mU;exact mU.2
    subst this;obtain⟨j,hj⟩:=Xf he;exact h.e j e (Mh.1 hj).1 hj m hv
   .rw[Zo]at hq;obtain⟨j,hj⟩:=Xf hq;subst hz;exact h.q j q (Mh.1 hj).1 hj hh c hv
  .exact h.st.co i x hi C9 gL hx
 .have:m=n:=by have:=hv.1;omega
  subst this;exact h.on
theorem PP.of{l:List Obj}{ops:List bi}{a b:Mk}{c:Nat}(hc:c<a.P.length){o:bi}(ho:ops[c]? =some o)(h:PO l ops o.bD ⟨a.O,a.P.set c true⟩ b):PP l ops (c:Int) a b:=by
 have ua:Step l ops (fun _=>False) a b:=by
  refine⟨h.st.lo,by have:=h.st.lp;simpa using this,h.st.mo,fun i hi=>h.st.mp i (Gw hi),fun i x hi C9=>h.st.co i x hi C9,fun i x hi C9 hx n hv=>?_⟩
  by_cases hic:i=c
  .subst hic;rw[ho]at hx;cases hx;exact h.on n hv
  .exact h.st.cp i x hi (fun hs=>(kQ hs).elim C9 hic) hx n hv
 refine⟨ua,fun d hd=>?_,fun RO RP fU gL hr=>?_⟩
 .have:d=c:=by have:=hd.1;omega
  subst this;exact h.st.mp d (rn hc)
 .have hrc:RP c:=hr c ⟨rfl,(Mh.1 ho).1⟩;exact h.sd RO RP fU ⟨gL.1,fun i hi=>(kQ hi).elim (gL.2 i) fun e=>e▸hrc⟩ fun n hv=>fU.p c o hrc ho n hv
def c149:LF:= ⟨88,[],(.seq (.seq (.ai [qm 9 1,qu 10 (.aF .lss 9 (qi 0)),qm 11 10,qg 12 (.aH 1) 11 false,qg 13 (.aH 0) 11 false,qg 14 (.aY 13) 11 false,qg 15 (.br 1 14) 11 false,qg 16 (.load false 1 15) 11 false,qg 17 (.len 1 16) 11 false,qg 18 (.aF .geq 12 17) 11 false,qu 19 (.pick 11 (qb true) 18),qm 20 19,qg 21 (.aH 0) 20 false,qg 22 (.aY 21) 20 false,qg 23 (.br 1 22) 20 false,qg 24 (.load false 1 23) 20 false,qg 25 (.aH 1) 20 false,qg 26 (.bW 1 24 25) 20 false,qg 27 (.load false 1 26) 20 false,qu 28 (.pick 20 (qb true) 27),qm 29 28,qg 30 (.aH 0) 29 false,qg 31 (.aY 30) 29 false,qg 32 (.br 0 31) 29 false,qg 33 (.load false 1 32) 29 false,qg 34 (.aY 33) 29 false,qg 35 (.br 0 34) 29 false,qg 36 (.load false 1 35) 29 false,qg 37 (.aH 1) 29 false,qg 38 (.bW 9 36 37) 29 false,qg 39 (.br 0 38) 29 false,qg 40 (.load false 1 39) 29 false,qg 41 (.aF .eql 40 (qi 0)) 29 false,qu 42 (.pick 29 (qb true) 41)]) (.cond 42 .ret .skip)) (.seq (.ai [qm 43 0,qu 44 (.aY 43),qf 45 1 44,ql 46 45,qm 47 1,qu 48 (.bW 1 46 47),qw (.store 1 48 (qb true))]) (.seq (.ai [qm 49 0,qu 50 (.aY 49),qf 51 0 50,ql 52 51,qu 53 (.aY 52),qf 54 0 53,ql 55 54,qm 56 1,qu 57 (.bW 9 55 56),qm 4 57]) (.seq (.seq (.ai [qm 58 4,qu 59 (.aY 58),qf 60 2 59,ql 61 60,qu 62 (.len 1 61),qu 63 (.aH (qi 0))]) (.block 0 (.loop (.seq (.ai [qu 64 (.aF .lss 63 62)]) (.seq (.cond 64 .skip (.exit 0)) (.seq (.block 1 (.seq (.ai [qu 65 (.bW 2 61 63),qL 66 2 65,qu 6 (.alloc [(.aa (.val (.string ⟨#[]⟩))),qd 0]),qw (.store 2 6 66)]) (.ai [qm 67 0,qf 68 1 6,ql 69 68,qu 70 (qc 149 [67,69])]))) (.ai [qu 71 (.aF .add 63 (qi 1)),qm 63 71]))))))) (.seq (.ai [qm 72 4,qu 73 (.aY 72),qf 74 5 73,ql 75 74,qu 76 (.len 1 75),qu 77 (.aH (qi 0))]) (.block 2 (.loop (.seq (.ai [qu 78 (.aF .lss 77 76)]) (.seq (.cond 78 .skip (.exit 2)) (.seq (.block 3 (.seq (.ai [qu 79 (.bW 4 75 77),qL 80 4 79,qu 8 (.alloc [.aI,(.aa (.val (.bool false))),qd 0,qd 0]),qw (.store 4 8 80)]) (.seq (.ai [qf 81 1 8,ql 82 81]) (.cond 82 (.ai [qm 83 0,qf 84 2 8,qL 85 2 84,qu 86 (qc 150 [83,85])]) .skip)))) (.ai [qu 87 (.aF .add 77 (qi 1)),qm 77 87])))))))))))⟩
def c150:LF:= ⟨48,[],(.seq (.ai [qu 3 (.box 1)]) (.seq (.seq (.bX [qf 4 0 3,ql 5 4,qu 6 (.aF .lss 5 (qi 0)),qm 7 6,qg 8 (.br 0 3) 7 false,qg 9 (.load false 1 8) 7 false,qg 10 (.aH 0) 7 false,qg 11 (.aY 10) 7 false,qg 12 (.br 2 11) 7 false,qg 13 (.load false 1 12) 7 false,qg 14 (.len 1 13) 7 false,qg 15 (.aF .geq 9 14) 7 false,qu 16 (.pick 7 (qb true) 15),qm 17 16,qg 18 (.aH 0) 17 false,qg 19 (.aY 18) 17 false,qg 20 (.br 2 19) 17 false,qg 21 (.load false 1 20) 17 false,qg 22 (.br 0 3) 17 false,qg 23 (.load false 1 22) 17 false,qg 24 (.bW 1 21 23) 17 false,qg 25 (.load false 1 24) 17 false,qu 26 (.pick 17 (qb true) 25)] [(.cons 0 none (.cons 1 none (.cons 2 none (.cons 3 none (.cons 4 none (.cons 5 none (.cons 6 none (.cons 7 none (.cons 8 none (.cons 9 none (.cons 10 none (.cons 11 none (.cons 12 none (.cons 13 none (.cons 14 none (.cons 15 none (.cons 16 none (.cons 17 none (.cons 18 none (.cons 19 none (.cons 20 none (.cons 21 none (.cons 22 none .nil)))))))))))))))))))))))]) (.cond 26 .ret .skip)) (.seq (.bX [qm 27 0,qu 28 (.aY 27),qf 29 2 28,ql 30 29,qf 31 0 3,ql 32 31,qu 33 (.bW 1 30 32),qw (.store 1 33 (qb true))] [(.cons 0 none (.cons 1 none (.cons 2 none (.cons 3 none (.cons 4 none (.cons 5 none (.cons 6 none (.cons 7 (some []) .nil))))))))]) (.bX [qm 34 0,qm 35 0,qu 36 (.aY 35),qf 37 0 36,ql 38 37,qu 39 (.aY 38),qf 40 1 39,ql 41 40,qf 42 0 3,ql 43 42,qu 44 (.bW 2 41 43),qf 45 0 44,ql 46 45,qu 47 (qc 149 [34,46])] [(.cons 0 none (.cons 1 none (.cons 2 none (.cons 3 none (.cons 4 none (.cons 5 none (.cons 6 none (.cons 7 none (.cons 8 none (.cons 9 none (.cons 10 none (.cons 11 none (.cons 12 none (.cons 13 (some []) .nil))))))))))))))]))))⟩
def bE(b:Bool):List Dt:=[.val (.bool b)]
theorem l149:bx Tryz.prog Tryz.f149=some c149:=by kernel_rfl
theorem l150:bx Tryz.prog Tryz.f150=some c150:=by kernel_rfl
def xu(l:List Obj)(ops:List bi)(a:Mk):Prop:=a.O.length=l.length/\a.P.length=ops.length
theorem sy{L:List Bool}{n:Nat}(h:n<L.length):dd (af (L.map bE)) n=some [.aa (.val (.bool L[n]))]:=bA bE L h
theorem yu{L:List Bool}{n:Nat}(h:n<L.length):dH (n:Int) (lenOf (af (L.map bE)).length 0 none)=some n:=cn (by show n<(af (L.map bE)).length;rw[aU,Nq];exact h)
theorem Lw{L:List Bool}{n:Nat}:bb (af (L.map bE)) n [CC.aa (.val (.bool true))]=af ((L.set n true).map bE):=mV bE L n true
theorem yr.QU{l:List Obj}{ops:List bi}{n:Nat}{a b:Mk}{k j:Nat}{es:List (ByteArray×Int)}{qs:List bw}(h:yr l ops n a b k j es qs):b.mu<=(⟨a.O.set n true,a.P⟩:Mk).mu:=by
 refine Nat.add_le_add (kz _ _ (by rw[aaJ];exact h.st.lo) fun i hi=>?_) (kz _ _ h.st.lp h.st.mp)
 rcases kQ hi with hi|rfl
 .exact h.st.mo i hi
 .exact h.on
theorem OO{qs:List bw}{k:Nat}(h:k<qs.length):cR (qs.map bw.enc) (k:Nat)=some [.sl 1 qs[k].data,.val (.bool qs[k].has),.val (.int .i64 qs[k].dk),.val (.int .i64 qs[k].bZ)]:=by rw[bn,Q8,IE h];rfl
structure StM where
 j:Nat
 b:Mk
def ui(l:List Obj)(ops:List bi)(ps:List aT)(a:Mk):Mem:=
 [.var [.ptr 1 0,.row 2 1 0 none,.row 3 1 0 none],.var [.row 4 9 0 none,.row 5 2 0 none,.row 6 4 0 none],.row 1 (af (a.O.map bE)),.row 1 (af (a.P.map bE)),.row 9 (af (l.map Obj.enc)),.row 2 (af (ops.map bi.enc)),.row 4 (af (ps.map aT.enc))]
theorem vG{l:List Obj}{ops:List bi}{ps:List aT}{a:Mk}{f:Nat}{args:List CV}{Q:Mk->Prop}(h:au Tryz.prog f args (ui l ops ps a) (fun r m=>∃b,Q b/\r= .bK []/\m=ui l ops ps b))(x:Bk)(e7:args=args.map (CV.aO (sg [0,1,2,3,4,5,6] 8))){K:CV->Mem->Prop}(hK:∀b,Q b->K (.bK []) [.var [.ptr 1 0,.row 2 1 0 none,.row 3 1 0 none],.var [.row 4 9 0 none,.row 5 2 0 none,.row 6 4 0 none],.row 1 (af (b.O.map bE)),.row 1 (af (b.P.map bE)),.row 9 (af (l.map Obj.enc)),.row 2 (af (ops.map bi.enc)),.row 4 (af (ps.map aT.enc)),x]):
  au Tryz.prog f args [.var [.ptr 1 0,.row 2 1 0 none,.row 3 1 0 none],.var [.row 4 9 0 none,.row 5 2 0 none,.row 6 4 0 none],.row 1 (af (a.O.map bE)),.row 1 (af (a.P.map bE)),.row 9 (af (l.map Obj.enc)),.row 2 (af (ops.map bi.enc)),.row 4 (af (ps.map aT.enc)),x] K:=by
 refine bu [0,1,2,3,4,5,6] 8 rfl rfl rfl rfl (args0:=args) e7 (fun i b' hi=>?_) h (fun r m1 hr=>?_)
 .match i,hi with
  |0,hi=>cases hi;exact .inr ⟨fun h=>h,_,rfl,.eq rfl aG⟩
  |1,hi=>cases hi;exact .inr ⟨fun h=>h,_,rfl,.eq rfl aG⟩
  |2,hi=>cases hi;exact .inr ⟨fun h=>h,_,rfl,.bM rfl⟩
  |3,hi=>cases hi;exact .inr ⟨fun h=>h,_,rfl,.bM rfl⟩
  |4,hi=>cases hi;exact .inr ⟨fun h=>h,_,rfl,.bM rfl⟩
  |5,hi=>cases hi;exact .inr ⟨fun h=>h,_,rfl,.bM rfl⟩
  |6,hi=>cases hi;exact .inr ⟨fun h=>h,_,rfl,.bM rfl⟩
  |n+7,hi=>simp[ui]at hi
 .obtain⟨b,hb,rfl,rfl⟩:=hr;refine⟨SS _,?_⟩;have e2:(Bk.row 1 (af (b.O.map bE))).aO (sg [0,1,2,3,4,5,6] 8)= .row 1 (af (b.O.map bE)):=by simp only[Bk.aO,db]
  have e3:(Bk.row 1 (af (b.P.map bE))).aO (sg [0,1,2,3,4,5,6] 8)= .row 1 (af (b.P.map bE)):=by simp only[Bk.aO,db]
  show K _ [.var [.ptr 1 0,.row 2 1 0 none,.row 3 1 0 none],.var [.row 4 9 0 none,.row 5 2 0 none,.row 6 4 0 none],(Bk.row 1 (af (b.O.map bE))).aO (sg [0,1,2,3,4,5,6] 8),(Bk.row 1 (af (b.P.map bE))).aO (sg [0,1,2,3,4,5,6] 8),(Bk.row 9 (af (l.map Obj.enc))).aO (sg [0,1,2,3,4,5,6] 8),(Bk.row 2 (af (ops.map bi.enc))).aO (sg [0,1,2,3,4,5,6] 8),(Bk.row 4 (af (ps.map aT.enc))).aO (sg [0,1,2,3,4,5,6] 8),x];have e4:(Bk.row 9 (af (l.map Obj.enc))).aO (sg [0,1,2,3,4,5,6] 8)= .row 9 (af (l.map Obj.enc)):=by simp only[Bk.aO,db]
  have e5:(Bk.row 2 (af (ops.map bi.enc))).aO (sg [0,1,2,3,4,5,6] 8)= .row 2 (af (ops.map bi.enc)):=by simp only[Bk.aO,db]
  have e6:(Bk.row 4 (af (ps.map aT.enc))).aO (sg [0,1,2,3,4,5,6] 8)= .row 4 (af (ps.map aT.enc)):=by simp only[Bk.aO,db]
  rw[e2,e3,e4,e5,e6];exact hK b hb
theorem Ec(l:List Obj)(ops:List bi)(ps:List aT)(g:∀o,o∈l->o.sm)(N:Nat)(T9:∀a z,xu l ops a->a.mu<N->au Tryz.prog 149 [.rv (.one (.ptr 0 0)),an .i64 z] (ui l ops ps a) (fun r m=>∃b,PO l ops z a b/\r= .bK []/\m=ui l ops ps b))(Zp:∀a z w,xu l ops a->a.mu<N->au Tryz.prog 150 [.rv (.one (.ptr 0 0)),.rv (.agg [.aa (.val (.int .i64 z)),.aa (.val (.int .i64 w))])] (ui l ops ps a) (fun r m=>∃b,PP l ops z a b/\r= .bK []/\m=ui l ops ps b))(a:Mk)(z:Int)(Zq:xu l ops a)(VT:a.mu<=N):body Tryz.prog c149 [.rv (.one (.ptr 0 0)),an .i64 z] (ui l ops ps a) (fun r m=>∃b,PO l ops z a b/\r= .bK []/\m=ui l ops ps b):=by
 have hlen:∀L:List Bool,(af (L.map bE)).length=L.length:=fun L=>by rw[aU,Nq]
 obtain⟨hO,hP⟩:=Zq;refine ay (fun h=>?_) (fun h0=>?_)
 .exact⟨a,.none fun n hv=>by have:=hv.1;have h:z<0:=h;omega,rfl,rfl⟩
 obtain⟨n,rfl⟩:∃n:Nat,z=n:=⟨z.toNat,by have h:¬z<0:=h0;omega⟩
 refine ay (fun h=>?_) (fun h1=>?_)
 .refine⟨a,.none fun m hv=>?_,rfl,rfl⟩
  obtain⟨hz,o,ho,_⟩:=hv;have h:(n:Int)>=((af (a.O.map bE)).length:Int):=h;rw[hlen]at h;have:=(Mh.1 ho).1;omega
 have hn:n<a.O.length:=by have h:¬(n:Int)>=((af (a.O.map bE)).length:Int):=h1;rw[hlen]at h;omega
 have ld:n<l.length:=om;refine ag (yu hn) ?_;refine ag (sy hn) ?_;refine aC (fun h2=>?_) (fun h2=>?_)
 .refine⟨a,.none fun m hv=>?_,rfl,rfl⟩
  have:m=n:=by have:=hv.1;omega
  subst this;exact(IE hn).trans (congrArg some h2)
 have Lx:dH (n:Int) (lenOf (af (l.map Obj.enc)).length 0 none)=some n:=cn (by show n<(af (l.map Obj.enc)).length;rw[aU,Nq];exact ld)
 have QW:=bA Obj.enc l ld;have zt:=IE ld;have u9:=g _ (Z0 ld);generalize l[n]=o at QW zt u9;obtain⟨ah,data,ak,target,aD,aj,aM,am,up⟩:=o;obtain⟨es,rfl⟩:∃es:List (ByteArray×Int),ak=es.map eG:=u9.t.2.1;refine ag Lx ?_;refine ag QW ?_;refine bI (fun h3=>?_) (fun h3=>?_)
 .refine⟨a,.none fun m hv=>?_,rfl,rfl⟩
  obtain⟨hz,o2,oV,hk⟩:=hv;have:m=n:=om;subst this;rw[zt]at oV;cases oV;exact absurd h3 hk
 have h3:ah≠0:=h3;have JU:es.length<=8:=by have:=u9.e;simpa using this
 have Il:aj.length<=8:=u9.q;have So:=yr.start (l:=l) (ops:=ops) hn es aj;have VU:(⟨a.O.set n true,a.P⟩:Mk).mu<N:=by have:=pZ a.O n ((IE hn).trans (congrArg some h2));have VT:d6 a.O+d6 a.P<=N:=VT;show d6 (a.O.set n true)+d6 a.P<N;omega
 refine ag (yu hn) ?_;refine ag (sy hn) ?_;refine ag Lx ?_;refine ag QW ?_;refine aK (fun(s:StM)=>s.j<=es.length/\yr l ops n a s.b s.j 0 es aj) [0,4,61,62] (fun s=>[(63,an .i64 (s.j:Nat))]) (fun s=>[.var [.ptr 1 0,.row 2 1 0 none,.row 3 1 0 none],.var [.row 4 9 0 none,.row 5 2 0 none,.row 6 4 0 none],.row 1 (af (s.b.O.map bE)),.row 1 (af (s.b.P.map bE)),.row 9 (af (l.map Obj.enc)),.row 2 (af (ops.map bi.enc)),.row 4 (af (ps.map aT.enc))]) (fun s=>es.length-s.j) ⟨0,_⟩ ⟨Wi _,So⟩ ?_ (fun s hs=>?_)
 .refine View.o1 7 [0,1,2,3,4,5,6] [] ?_
  .exact .pe rfl rfl rfl (.pe rfl rfl rfl (.pt rfl rfl (.bM Lw) (.pr rfl rfl rfl (.pr rfl rfl rfl (.pr rfl rfl rfl (.pn rfl rfl rfl))))))
 obtain⟨j,b⟩:=s;obtain⟨hj,hM⟩:=hs;have hj:j<=es.length:=hj;have hM:yr l ops n a b j 0 es aj:=hM;refine ay (fun h=>?_) (fun h=>?_)
 .have da:j<es.length:=by have h:(j:Int)<((es.map eG).length:Int):=h;rw[Nq]at h;omega
  refine ag (OL da) ?_;have R6:=hM.QU;refine vG (T9 b es[j].2 ⟨hM.st.lo.trans hO,hM.st.lp.trans hP⟩ om) _ rfl fun c hc=>?_
  refine⟨⟨j+1,c⟩,⟨da,hM.VP (IE da) hc zt rfl⟩,(show es.length-(j+1)<es.length-j by omega),View.o 8 [0,1,2,3,4,5,6] [] ?_ ?_⟩
  .repeat(first|exact .nil|refine .aq ?_|refine .put (.aO (ap om).symm) ?_|refine .eq rfl ?_)
  .exact .pe rfl rfl rfl (.pe rfl rfl rfl (.pr rfl rfl rfl (.pr rfl rfl rfl (.pr rfl rfl rfl (.pr rfl rfl rfl (.pn rfl rfl rfl))))))
 .have Ge:j=es.length:=by have h:¬(j:Int)<((es.map eG).length:Int):=h;rw[Nq]at h;omega
  subst Ge;refine ag QW ?_;refine aK (fun(s:StM)=>s.j<=aj.length/\yr l ops n a s.b es.length s.j es aj) [0,75,76] (fun s=>[(77,an .i64 (s.j:Nat))]) (fun s=>[.var [.ptr 1 0,.row 2 1 0 none,.row 3 1 0 none],.var [.row 4 9 0 none,.row 5 2 0 none,.row 6 4 0 none],.row 1 (af (s.b.O.map bE)),.row 1 (af (s.b.P.map bE)),.row 9 (af (l.map Obj.enc)),.row 2 (af (ops.map bi.enc)),.row 4 (af (ps.map aT.enc))]) (fun s=>aj.length-s.j) ⟨0,b⟩ ⟨Wi _,hM⟩ ?_ (fun s hs=>?_)
  .refine View.o1 7 [0,1,2,3,4,5,6] [] ?_
   .exact .pe rfl rfl rfl (.pe rfl rfl rfl (.pr rfl rfl rfl (.pr rfl rfl rfl (.pr rfl rfl rfl (.pr rfl rfl rfl (.pn rfl rfl rfl))))))
  clear hM hj h;obtain⟨j,b⟩:=s;obtain⟨hj,hM⟩:=hs;have hj:j<=aj.length:=hj;have hM:yr l ops n a b es.length j es aj:=hM;refine ay (fun h=>?_) (fun h=>?_)
  .have da:j<aj.length:=by have h:(j:Int)<((aj.map bw.enc).length:Int):=h;rw[Nq]at h;omega
   have R0:=IE da;refine ag (OO da) ?_;have R6:=hM.QU;refine aC (fun hh=>?_) (fun hh=>?_)
   .refine vG (Zp b aj[j].dk aj[j].bZ ⟨hM.st.lo.trans hO,hM.st.lp.trans hP⟩ om) _ rfl fun c hc=>?_
    refine⟨⟨j+1,c⟩,⟨da,hM.VQ R0 hh hc zt rfl⟩,(show aj.length-(j+1)<aj.length-j by omega),View.o 8 [0,1,2,3,4,5,6] [] ?_ ?_⟩
    .repeat(first|exact .nil|refine .aq ?_|refine .put (.aO (ap om).symm) ?_|refine .eq rfl ?_)
    .exact .pe rfl rfl rfl (.pe rfl rfl rfl (.pr rfl rfl rfl (.pr rfl rfl rfl (.pr rfl rfl rfl (.pr rfl rfl rfl (.pn rfl rfl rfl))))))
   .skip
    refine⟨⟨j+1,b⟩,⟨da,hM.VS R0 hh⟩,(show aj.length-(j+1)<aj.length-j by omega),View.o 8 [0,1,2,3,4,5,6] [] ?_ ?_⟩
    .repeat(first|exact .nil|refine .aq ?_|refine .put (.aO (ap om).symm) ?_|refine .eq rfl ?_)
    .exact .pe rfl rfl rfl (.pe rfl rfl rfl (.pr rfl rfl rfl (.pr rfl rfl rfl (.pr rfl rfl rfl (.pr rfl rfl rfl (.pn rfl rfl rfl))))))
  .have Ge:j=aj.length:=by have h:¬(j:Int)<((aj.map bw.enc).length:Int):=h;rw[Nq]at h;omega
   subst Ge;exact⟨b,hM.iC zt h3 rfl rfl,rfl,rfl⟩
theorem Ed(l:List Obj)(ops:List bi)(ps:List aT)(N:Nat)(T9:∀a z,xu l ops a->a.mu<N->au Tryz.prog 149 [.rv (.one (.ptr 0 0)),an .i64 z] (ui l ops ps a) (fun r m=>∃b,PO l ops z a b/\r= .bK []/\m=ui l ops ps b))(a:Mk)(z w:Int)(Zq:xu l ops a)(VT:a.mu<=N):body Tryz.prog c150 [.rv (.one (.ptr 0 0)),.rv (.agg [.aa (.val (.int .i64 z)),.aa (.val (.int .i64 w))])] (ui l ops ps a) (fun r m=>∃b m',PP l ops z a b/\r= .bK []/\m=ui l ops ps b++m'):=by
 have hlen:∀L:List Bool,(af (L.map bE)).length=L.length:=fun L=>by rw[aU,Nq]
 obtain⟨hO,hP⟩:=Zq;refine ay (fun h=>?_) (fun h0=>?_)
 .exact⟨a,[_],.none fun n hv=>by have:=hv.1;have h:z<0:=h;omega,rfl,rfl⟩
 obtain⟨n,rfl⟩:∃n:Nat,z=n:=⟨z.toNat,by have h:¬z<0:=h0;omega⟩
 refine ay (fun h=>?_) (fun h1=>?_)
 .refine⟨a,[_],.none fun m hv=>?_,rfl,rfl⟩
  obtain⟨hz,ho⟩:=hv;have h:(n:Int)>=((af (a.P.map bE)).length:Int):=h;rw[hlen]at h;omega
 have hn:n<a.P.length:=by have h:¬(n:Int)>=((af (a.P.map bE)).length:Int):=h1;rw[hlen]at h;omega
 have ld:n<ops.length:=om;refine ag (yu hn) ?_;refine ag (sy hn) ?_;refine aC (fun h2=>?_) (fun h2=>?_)
 .refine⟨a,[_],.none fun m hv=>?_,rfl,rfl⟩
  have:m=n:=by have:=hv.1;omega
  subst this;exact(IE hn).trans (congrArg some h2)
 have VU:(⟨a.O,a.P.set n true⟩:Mk).mu<N:=by have:=pZ a.P n ((IE hn).trans (congrArg some h2));have VT:d6 a.O+d6 a.P<=N:=VT;show d6 a.O+d6 (a.P.set n true)<N;omega
 refine ag (yu hn) ?_;refine ag (sy hn) ?_;refine⟨trivial,?_⟩;have Lx:dH (n:Int) (lenOf (af (ops.map bi.enc)).length 0 none)=some n:=cn (by show n<(af (ops.map bi.enc)).length;rw[aU,Nq];exact ld)
 refine ag Lx ?_;refine ag (bA bi.enc ops ld) ?_;refine my (lI:=[.rv (.one (.ptr 0 0)),an .i64 ops[n].bD]) (m':=ui l ops ps ⟨a.O,a.P.set n true⟩ ++ [.var [.aa (.val (.int .i64 (n:Nat))),.aa (.val (.int .i64 w))]]) (View.o 8 [0,1,2,3,4,5,6,7] [] (.eq rfl (.eq rfl .nil))
  (.pe rfl rfl rfl (.pe rfl rfl rfl (.pr rfl rfl rfl (.pt rfl rfl (.bM Lw) (.pr rfl rfl rfl (.pr rfl rfl rfl (.pr rfl rfl rfl (.pm rfl rfl rfl))))))))) ?_
 refine vG (T9 ⟨a.O,a.P.set n true⟩ ops[n].bD ⟨hO,by simpa using hP⟩ VU) _ rfl fun c hc=>?_
 exact⟨trivial,c,[_],PP.of hn (IE ld) hc,rfl,rfl⟩
theorem od(l:List Obj)(ops:List bi)(ps:List aT)(g:∀o,o∈l->o.sm):∀N,
  (∀a z,xu l ops a->a.mu<N->au Tryz.prog 149 [.rv (.one (.ptr 0 0)),an .i64 z] (ui l ops ps a) (fun r m=>∃b,PO l ops z a b/\r= .bK []/\m=ui l ops ps b))/\
  (∀a z w,xu l ops a->a.mu<N->au Tryz.prog 150 [.rv (.one (.ptr 0 0)),.rv (.agg [.aa (.val (.int .i64 z)),.aa (.val (.int .i64 w))])] (ui l ops ps a) (fun r m=>∃b,PP l ops z a b/\r= .bK []/\m=ui l ops ps b))
 |0=>⟨fun _ _ _ h=>absurd h (abb _),fun _ _ _ _ h=>absurd h (abb _)⟩
 |N+1=>by
  obtain⟨T9,Zp⟩:=od l ops ps g N;refine⟨fun a z hb hm=>aX Tryz.func149 l149 (Ec l ops ps g N T9 Zp a z hb om),fun a z w hb hm=>?_⟩
  refine bJ (aX Tryz.func150 l150 (Ed l ops ps N T9 a z w hb om)) fun r m1⟨b,m',hp,hr,HI⟩=>?_
  subst hr HI;refine⟨.bK [],ui l ops ps b,View.of (7+m'.length) [0,1,2,3,4,5,6] [] (by simp[ui];omega) rfl rfl rfl rfl (by simp[eO]<;>omega) (.put (.bK rfl fun i r r' h=>by simp at h) .nil) ?_,⟨b,hp,rfl,rfl⟩⟩
  exact .pe rfl rfl rfl (.pe rfl rfl rfl (.pr rfl rfl rfl (.pr rfl rfl rfl (.pr rfl rfl rfl (.pr rfl rfl rfl (.pn rfl rfl rfl))))))
def c126:LF:= ⟨54,[.tmp 2],(.seq (.ai [qu 2 (.aH (.c (.rv (.one (.aa (.val (.pointer none)))))))]) (.seq (.bX [qm 8 0,qm 9 0,qu 10 (.aY 9),qf 11 0 10,ql 12 11,qu 13 (.len 1 12),qu 14 (.oP 1 1 [(.aa (.val (.bool false)))] 13 13),qm 15 0,qu 16 (.aY 15),qf 17 1 16,ql 18 17,qu 19 (.len 1 18),qu 20 (.oP 1 1 [(.aa (.val (.bool false)))] 19 19),qu 21 (.build [(.aa (.val (.pointer none))),.aI,.aI] [(0,1,8),(1,1,14),(2,1,20)]),qu 22 (.box 21),qm 3 22] [(.cons 0 none (.cons 1 none (.cons 2 none (.cons 3 none (.cons 4 none (.cons 5 none (.cons 7 none (.cons 8 none (.cons 9 none (.cons 10 none (.cons 11 none (.xJ (.cons 6 (some [11,10]) (.cons 12 (some [5,4]) (.cons 13 none (.cons 14 (some []) (.cons 15 none .nil))))) (.cons 12 (some [5,4]) (.cons 6 (some [11,10]) (.cons 13 none (.cons 14 (some []) (.cons 15 none .nil)))))))))))))))))]) (.cu (.seq (.ai [qm 23 3,qu 24 (qc 149 [23,qi 0])]) (.seq (.seq (.ai [qm 25 0,qu 26 (.aY 25),qf 27 2 26,ql 28 27,qu 29 (.len 1 28),qu 30 (.aH (qi 0))]) (.block 0 (.loop (.seq (.ai [qu 31 (.aF .lss 30 29)]) (.seq (.cond 31 .skip (.exit 0)) (.seq (.block 1 (.seq (.ai [qu 32 (.bW 4 28 30),qL 33 4 32,qu 5 (.alloc [(.aa (.val (.bool false))),(.aa (.val (.bool false))),qd 0,.aI]),qw (.store 4 5 33)]) (.seq (.ai [qf 34 3 5,ql 35 34,qu 36 (.len 1 35),qu 37 (.aH (qi 0))]) (.block 2 (.loop (.seq (.ai [qu 38 (.aF .lss 37 36)]) (.seq (.cond 38 .skip (.exit 2)) (.seq (.block 3 (.seq (.ai [qu 39 (.bW 3 35 37),qL 40 3 39,qu 7 (.alloc [(.aa (.val (.bool false))),qd 0,qd 0]),qw (.store 3 7 40)]) (.seq (.ai [qf 41 0 5,ql 42 41,qm 43 42,qg 44 (.br 0 7) 43 true,qg 45 (.load false 1 44) 43 true,qu 46 (.pick 43 45 (qb false))]) (.cond 46 (.ai [qm 47 3,qf 48 1 7,qL 49 2 48,qu 50 (qc 150 [47,49])]) .skip)))) (.ai [qu 51 (.aF .add 37 (qi 1)),qm 37 51]))))))))) (.ai [qu 52 (.aF .add 30 (qi 1)),qm 30 52]))))))) (.seq (.ai [qm 53 3,qm 2 53]) .ret))))))⟩
def vH(l:List Obj)(ops:List bi)(ps:List aT)(RO RP:Nat->Prop):Prop:=
 (∀n,vO l 0 n->RO n)/\∀(p:Nat)pr,ps[p]? =some pr->pr.aQ=true->∀s,s∈pr.aJ->s.has=true->∀c,vP ops s.dk c->RP c
structure fO(l:List Obj)(ops:List bi)(ps:List aT)(b:Mk):Prop where
 len:xu l ops b
 oe:vH l ops ps (dx b.O) (dx b.P)
 cl:Cl l ops (dx b.O) (dx b.P)
 kR:∀RO RP,Cl l ops RO RP->vH l ops ps RO RP->Lv RO RP b
def yv(l:List Obj)(ops:List bi):Mk:=⟨List.replicate l.length false,List.replicate ops.length false⟩
theorem vI{n i:Nat}:¬dx (List.replicate n false) i:=by
 intro h;unfold dx at h;rw[acK]at h;split at h<;>cases h
structure dK(l:List Obj)(ops:List bi)(ps:List aT)(b:Mk)(p j:Nat):Prop where
 st:Step l ops (fun _=>False) (yv l ops) b
 r0:∀n,vO l 0 n->dx b.O n
 rp:∀(i:Nat)pr,i<p->ps[i]? =some pr->pr.aQ=true->∀s,s∈pr.aJ->s.has=true->∀c,vP ops s.dk c->dx b.P c
 rj:∀pr,ps[p]? =some pr->pr.aQ=true->∀(t:Nat)s,t<j->pr.aJ[t]? =some s->s.has=true->∀c,vP ops s.dk c->dx b.P c
 kR:∀RO RP,Cl l ops RO RP->vH l ops ps RO RP->Lv RO RP b
theorem dK.start{l:List Obj}{ops:List bi}{ps:List aT}{b:Mk}(h:PO l ops 0 (yv l ops) b):dK l ops ps b 0 0:=
 ⟨h.st,h.on,fun i pr h=>absurd h (abb i),fun pr _ _ t s h=>absurd h (abb t),fun RO RP fU hr=>h.sd RO RP fU ⟨fun i hi=>absurd hi vI,fun i hi=>absurd hi vI⟩ hr.1⟩
theorem dK.QX{l:List Obj}{ops:List bi}{ps:List aT}{b c:Mk}{p j:Nat}(h:dK l ops ps b p j){pr:aT}(nD:ps[p]? =some pr)(cX:pr.aQ=true){s:fz}(hs:pr.aJ[j]? =some s)(hh:s.has=true)(hc:PP l ops s.dk b c):dK l ops ps c p (j+1):=by
 refine⟨h.st.trans hc.st,fun n hn=>hc.st.mo n (h.r0 n hn),fun i x hi hx hl y hy N4 d hd=>hc.st.mp d (h.rp i x hi hx hl y hy N4 d hd),fun x hx hl t y ht hy N4 d hd=>?_,fun RO RP fU hr=>hc.sd RO RP fU (h.kR RO RP fU hr) fun d hd=>hr.2 p pr nD cX s (Rq hs) hh d hd⟩
 rcases ZX t j with J0|J0
 .exact hc.st.mp d (h.rj x hx hl t y J0 hy N4 d hd)
 .have:t=j:=om;subst this;rw[nD]at hx;cases hx;rw[hs]at hy;cases hy;exact hc.on d hd
theorem dK.skip{l:List Obj}{ops:List bi}{ps:List aT}{b:Mk}{p j:Nat}(h:dK l ops ps b p j){pr:aT}(nD:ps[p]? =some pr){s:fz}(hs:pr.aJ[j]? =some s)(hh:pr.aQ=true->s.has=false):dK l ops ps b p (j+1):=by
 refine⟨h.st,h.r0,h.rp,fun x hx hl t y ht hy N4 d hd=>?_,h.kR⟩
 rcases ZX t j with J0|J0
 .exact h.rj x hx hl t y J0 hy N4 d hd
 .have:t=j:=om;subst this;rw[nD]at hx;cases hx;rw[hs]at hy;cases hy;rw[hh hl]at N4;cases N4
theorem dK.next{l:List Obj}{ops:List bi}{ps:List aT}{b:Mk}{p:Nat}{pr:aT}(nD:ps[p]? =some pr)(h:dK l ops ps b p pr.aJ.length):dK l ops ps b (p+1) 0:=by
 refine⟨h.st,h.r0,fun i x hi hx hl y hy N4 d hd=>?_,fun x _ _ t y ht=>absurd ht (abb t),h.kR⟩
 rcases ZX i p with Ua|Ua
 .exact h.rp i x Ua hx hl y hy N4 d hd
 .have:i=p:=om;subst this;rw[nD]at hx;cases hx;obtain⟨t,ht⟩:=Xf hy;exact h.rj pr nD hl t y (Mh.1 ht).1 ht N4 d hd
theorem dK.iC{l:List Obj}{ops:List bi}{ps:List aT}{b:Mk}(h:dK l ops ps b ps.length 0):fO l ops ps b:=by
 refine⟨⟨by have:=h.st.lo;simpa[yv]using this,by have:=h.st.lp;simpa[yv]using this⟩,⟨h.r0,fun p pr hp hl s hs hh c hc=>h.rp p pr (Mh.1 hp).1 hp hl s hs hh c hc⟩,⟨fun i o hi ho z n hz hv=>?_,fun i o hi ho z c hz hv=>?_,fun c o hc ho n hv=>?_⟩,h.kR⟩
 .exact(h.st.co i o hi vI (fun h=>h) ho).1 z n hz hv
 .exact(h.st.co i o hi vI (fun h=>h) ho).2 z c hz hv
 .exact h.st.cp c o hc vI ho n hv
theorem ro(n:Nat):(fT n [CC.aa (.val (.bool false))])=af ((List.replicate n false).map bE):=by
 induction n with
 |zero=>rfl
 |succ n ih=>simp only[fT,ih];simp[af,bE,List.replicate_succ]
theorem l126:bx Tryz.prog Tryz.f126=some c126.er:=by kernel_rfl
theorem uG{l:List fz}{k:Nat}(h:k<l.length):cR (l.map fz.enc) (k:Nat)=some [.val (.bool l[k].has),.val (.int .i64 l[k].dk),.val (.int .i64 l[k].bZ)]:=by rw[bn,Q8,IE h];rfl
structure XS where
 p:Nat
 b:Mk
theorem dW{ps:List aT}{k:Nat}(h:k<ps.length):cR (ps.map aT.enc) (k:Nat)=some [.val (.bool ps[k].aQ),.val (.bool ps[k].fenced),.val (.int .i64 ps[k].code),iu ps[k].aJ]:=by rw[bn,Q8,IE h];rfl
theorem rq{l:List Obj}{ops:List bi}{ps:List aT}{a:Mk}{f:Nat}{args args0:List CV}{Q:Mk->Prop}(h:au Tryz.prog f args0 (ui l ops ps a) (fun r m=>∃b,Q b/\r= .bK []/\m=ui l ops ps b))(X:Mem)(e7:args=args0.map (CV.aO (sg [4,0,5,6,1,2,3] (7+X.length)))){K:CV->Mem->Prop}(hK:∀b,Q b->K (.bK []) ([.var [.row 1 9 0 none,.row 2 2 0 none,.row 3 4 0 none],.row 9 (af (l.map Obj.enc)),.row 2 (af (ops.map bi.enc)),.row 4 (af (ps.map aT.enc)),.var [.ptr 0 0,.row 5 1 0 none,.row 6 1 0 none],.row 1 (af (b.O.map bE)),.row 1 (af (b.P.map bE))]++X)):
  au Tryz.prog f args ([.var [.row 1 9 0 none,.row 2 2 0 none,.row 3 4 0 none],.row 9 (af (l.map Obj.enc)),.row 2 (af (ops.map bi.enc)),.row 4 (af (ps.map aT.enc)),.var [.ptr 0 0,.row 5 1 0 none,.row 6 1 0 none],.row 1 (af (a.O.map bE)),.row 1 (af (a.P.map bE))]++X) K:=by
 refine bu [4,0,5,6,1,2,3] (7+X.length) (by simp;omega) rfl rfl (by simp[eO]<;>omega) (args0:=args0) e7 (fun i b' hi=>?_) h (fun r m1 hr=>?_)
 .match i,hi with
  |0,hi=>cases hi;exact .inr ⟨fun h=>h,_,rfl,.eq rfl aG⟩
  |1,hi=>cases hi;exact .inr ⟨fun h=>h,_,rfl,.eq rfl aG⟩
  |2,hi=>cases hi;exact .inr ⟨fun h=>h,_,rfl,.bM rfl⟩
  |3,hi=>cases hi;exact .inr ⟨fun h=>h,_,rfl,.bM rfl⟩
  |4,hi=>cases hi;exact .inr ⟨fun h=>h,_,rfl,.bM rfl⟩
  |5,hi=>cases hi;exact .inr ⟨fun h=>h,_,rfl,.bM rfl⟩
  |6,hi=>cases hi;exact .inr ⟨fun h=>h,_,rfl,.bM rfl⟩
  |n+7,hi=>simp[ui]at hi
 .obtain⟨b,hb,rfl,rfl⟩:=hr;refine⟨SS _,?_⟩;have e:∀(s:Nat)(ds:List (List Dt)),(Bk.row s (af ds)).aO (sg [4,0,5,6,1,2,3] (7+X.length))= .row s (af ds):=fun s ds=>by simp only[Bk.aO,db]
  have hk:=hK b hb;have hw:dp ([.var [.row 1 9 0 none,.row 2 2 0 none,.row 3 4 0 none],.row 9 (af (l.map Obj.enc)),.row 2 (af (ops.map bi.enc)),.row 4 (af (ps.map aT.enc)),.var [.ptr 0 0,.row 5 1 0 none,.row 6 1 0 none],.row 1 (af (a.O.map bE)),.row 1 (af (a.P.map bE))]++X) [4,0,5,6,1,2,3] (rd (sg [4,0,5,6,1,2,3] (7+X.length)) (ui l ops ps b))=[.var [.row 1 9 0 none,.row 2 2 0 none,.row 3 4 0 none],.row 9 (af (l.map Obj.enc)),.row 2 (af (ops.map bi.enc)),.row 4 (af (ps.map aT.enc)),.var [.ptr 0 0,.row 5 1 0 none,.row 6 1 0 none],.row 1 (af (b.O.map bE)),.row 1 (af (b.P.map bE))]++X:=by simp only[ui,rd,e,dp,b9,ab5];rfl
  rw[hw];exact hk
theorem Ee(l:List Obj)(ops:List bi)(ps:List aT)(g:∀o,o∈l->o.sm)(hl:l.length<=4194304)(ho:ops.length<=4194304)(fW:ps.length<=4194304)(mJ:∀p,p∈ps->p.aJ.length<=10):
  body Tryz.prog c126 [.rv (.one (.ptr 0 0))] [.var [.row 1 9 0 none,.row 2 2 0 none,.row 3 4 0 none],.row 9 (af (l.map Obj.enc)),.row 2 (af (ops.map bi.enc)),.row 4 (af (ps.map aT.enc))] (fun r m=>∃b,fO l ops ps b/\r= .rv (.one (.ptr 4 0))/\m=[.var [.row 1 9 0 none,.row 2 2 0 none,.row 3 4 0 none],.row 9 (af (l.map Obj.enc)),.row 2 (af (ops.map bi.enc)),.row 4 (af (ps.map aT.enc)),.var [.ptr 0 0,.row 5 1 0 none,.row 6 1 0 none],.row 1 (af (b.O.map bE)),.row 1 (af (b.P.map bE))]):=by
 refine⟨?_,?_⟩
 .skip
  refine bY (ac1 _) ?_;refine⟨(by show(af (l.map Obj.enc)).length*1<=_;rw[aU,Nq];omega),⟨rfl,rfl,trivial⟩,?_⟩
  refine bY (ac1 _) ?_;refine⟨(by show(af (ops.map bi.enc)).length*1<=_;rw[aU,Nq];omega),⟨rfl,rfl,trivial⟩,?_⟩
  refine⟨trivial,?_⟩;refine eE [0] [(3,.rv (.one (.ptr 4 0)))] ([.var [.row 1 9 0 none,.row 2 2 0 none,.row 3 4 0 none],.row 9 (af (l.map Obj.enc)),.row 2 (af (ops.map bi.enc)),.row 4 (af (ps.map aT.enc)),.var [.ptr 0 0,.row 5 1 0 none,.row 6 1 0 none],.row 1 (af ((yv l ops).O.map bE)),.row 1 (af ((yv l ops).P.map bE))]) (View.o1 7 [0,1,2,3,6,4,5] [] ?_) ?_
  .exact(.pe rfl rfl rfl (.pr rfl rfl rfl (.pr rfl rfl rfl (.pr rfl rfl rfl (.pe rfl rfl rfl (.pt rfl rfl (.bM (by show fT (af (l.map Obj.enc)).length _=_;rw[ro,aU,Nq];rfl)) (.pt rfl rfl (.bM (by show fT (af (ops.map bi.enc)).length _=_;rw[ro,aU,Nq];rfl)) (.nil _))))))))
  refine rq ((od l ops ps g ((yv l ops).mu+1)).1 (yv l ops) 0 ⟨by simp[yv],by simp[yv]⟩ (ab7 _)) [] rfl fun b0 xg=>?_
  refine aK (fun(s:XS)=>s.p<=ps.length/\dK l ops ps s.b s.p 0) [3,28,29] (fun s=>[(30,an .i64 (s.p:Nat))]) (fun s=>[.var [.row 1 9 0 none,.row 2 2 0 none,.row 3 4 0 none],.row 9 (af (l.map Obj.enc)),.row 2 (af (ops.map bi.enc)),.row 4 (af (ps.map aT.enc)),.var [.ptr 0 0,.row 5 1 0 none,.row 6 1 0 none],.row 1 (af (s.b.O.map bE)),.row 1 (af (s.b.P.map bE))]) (fun s=>ps.length-s.p) ⟨0,b0⟩ ⟨Wi _,.start xg⟩ ?_ (fun s hs=>?_)
  .refine View.o1 7 [0,1,2,3,4,5,6] [] ?_
   .exact(.pe rfl rfl rfl (.pr rfl rfl rfl (.pr rfl rfl rfl (.pr rfl rfl rfl (.pe rfl rfl rfl (.pr rfl rfl rfl (.pn rfl rfl rfl)))))))
  obtain⟨p,b⟩:=s;obtain⟨hp,hM⟩:=hs;have hp:p<=ps.length:=hp;have hM:dK l ops ps b p 0:=hM;refine ay (fun h=>?_) (fun h=>?_)
  .have ft:p<ps.length:=by have h:(p:Int)<((af (ps.map aT.enc)).length:Int):=h;rw[aU,Nq]at h;omega
   refine ag (cn (k:=p) (by show p<(af (ps.map aT.enc)).length;rw[aU,Nq];exact ft)) ?_
   refine ag (bA aT.enc ps ft) ?_;have nD:=IE ft;have uD:=mJ _ (Z0 ft);generalize ps[p]=pr at nD uD;refine aK (fun(s:XS)=>s.p<=pr.aJ.length/\dK l ops ps s.b p s.p) [3,5,28,29,30,35,36] (fun s=>[(37,an .i64 (s.p:Nat))]) (fun s=>[.var [.row 1 9 0 none,.row 2 2 0 none,.row 3 4 0 none],.row 9 (af (l.map Obj.enc)),.row 2 (af (ops.map bi.enc)),.row 4 (af (ps.map aT.enc)),.var [.ptr 0 0,.row 5 1 0 none,.row 6 1 0 none],.row 1 (af (s.b.O.map bE)),.row 1 (af (s.b.P.map bE)),.var (pr.enc.map .aa)]) (fun s=>pr.aJ.length-s.p) ⟨0,b⟩ ⟨Wi _,hM⟩ ?_ (fun s hs=>?_)
   .refine View.o1 8 [0,1,2,3,4,5,6,7] [] ?_
    .exact(.pe rfl rfl rfl (.pr rfl rfl rfl (.pr rfl rfl rfl (.pr rfl rfl rfl (.pe rfl rfl rfl (.pr rfl rfl rfl (.pr rfl rfl rfl (.pm rfl rfl rfl))))))))
   clear hM;obtain⟨j,b⟩:=s;obtain⟨hj,hM⟩:=hs;have hj:j<=pr.aJ.length:=hj;have hM:dK l ops ps b p j:=hM;refine ay (fun km=>?_) (fun km=>?_)
   .have da:j<pr.aJ.length:=by have h:(j:Int)<((pr.aJ.map fz.enc).length:Int):=km;rw[Nq]at h;omega
    have OP:=IE da;refine ag (uG da) ?_;generalize pr.aJ[j]=s at OP;refine aC (fun cX=>?_) (fun cX=>?_)
    .refine aC (fun hh=>?_) (fun hh=>?_)
     .refine rq ((od l ops ps g (b.mu+1)).2 b s.dk s.bZ ⟨by have:=hM.st.lo;simpa[yv]using this,by have:=hM.st.lp;simpa[yv]using this⟩ (ab7 _)) [_,_] rfl fun c hc=>?_
      refine⟨⟨j+1,c⟩,⟨da,hM.QX nD cX OP hh hc⟩,(show pr.aJ.length-(j+1)<pr.aJ.length-j by omega),View.o 9 [0,1,2,3,4,5,6,7] [] ?_ ?_⟩
      .repeat(first|exact .nil|refine .aq ?_|refine .put (.aO (ap om).symm) ?_|refine .eq rfl ?_)
      .exact(.pe rfl rfl rfl (.pr rfl rfl rfl (.pr rfl rfl rfl (.pr rfl rfl rfl (.pe rfl rfl rfl (.pr rfl rfl rfl (.pr rfl rfl rfl (.pm rfl rfl rfl))))))))
     .skip
      refine⟨⟨j+1,b⟩,⟨da,hM.skip nD OP (fun _=>hh)⟩,(show pr.aJ.length-(j+1)<pr.aJ.length-j by omega),View.o 9 [0,1,2,3,4,5,6,7] [] ?_ ?_⟩
      .repeat(first|exact .nil|refine .aq ?_|refine .put (.aO (ap om).symm) ?_|refine .eq rfl ?_)
      .exact(.pe rfl rfl rfl (.pr rfl rfl rfl (.pr rfl rfl rfl (.pr rfl rfl rfl (.pe rfl rfl rfl (.pr rfl rfl rfl (.pr rfl rfl rfl (.pm rfl rfl rfl))))))))
    .skip
     refine⟨⟨j+1,b⟩,⟨da,hM.skip nD OP (fun h=>absurd (h.symm.trans cX) aG)⟩,(show pr.aJ.length-(j+1)<pr.aJ.length-j by omega),View.o 9 [0,1,2,3,4,5,6,7] [] ?_ ?_⟩
     .repeat(first|exact .nil|refine .aq ?_|refine .put (.aO (ap om).symm) ?_|refine .eq rfl ?_)
     .exact(.pe rfl rfl rfl (.pr rfl rfl rfl (.pr rfl rfl rfl (.pr rfl rfl rfl (.pe rfl rfl rfl (.pr rfl rfl rfl (.pr rfl rfl rfl (.pm rfl rfl rfl))))))))
   .have Ge:j=pr.aJ.length:=by have h:¬(j:Int)<((pr.aJ.map fz.enc).length:Int):=km;rw[Nq]at h;omega
    subst Ge;refine⟨⟨p+1,b⟩,⟨ft,hM.next nD⟩,(show ps.length-(p+1)<ps.length-p by omega),View.o 8 [0,1,2,3,4,5,6] [] ?_ ?_⟩
    .repeat(first|exact .nil|refine .aq ?_|refine .put (.aO (ap om).symm) ?_|refine .eq rfl ?_)
    .exact(.pe rfl rfl rfl (.pr rfl rfl rfl (.pr rfl rfl rfl (.pr rfl rfl rfl (.pe rfl rfl rfl (.pr rfl rfl rfl (.pn rfl rfl rfl)))))))
  .have ue:p=ps.length:=by have h:¬(p:Int)<((af (ps.map aT.enc)).length:Int):=h;rw[aU,Nq]at h;omega
   subst ue;exact⟨b,hM.iC,rfl,rfl⟩
 .skip
  refine bY (ac1 _) ?_;refine⟨(by show(af (ops.map bi.enc)).length*1<=_;rw[aU,Nq];omega),⟨rfl,rfl,trivial⟩,?_⟩
  refine bY (ac1 _) ?_;refine⟨(by show(af (l.map Obj.enc)).length*1<=_;rw[aU,Nq];omega),⟨rfl,rfl,trivial⟩,?_⟩
  refine⟨trivial,?_⟩;refine eE [0] [(3,.rv (.one (.ptr 4 0)))] ([.var [.row 1 9 0 none,.row 2 2 0 none,.row 3 4 0 none],.row 9 (af (l.map Obj.enc)),.row 2 (af (ops.map bi.enc)),.row 4 (af (ps.map aT.enc)),.var [.ptr 0 0,.row 5 1 0 none,.row 6 1 0 none],.row 1 (af ((yv l ops).O.map bE)),.row 1 (af ((yv l ops).P.map bE))]) (View.o1 7 [0,1,2,3,6,5,4] [] ?_) ?_
  .exact(.pe rfl rfl rfl (.pr rfl rfl rfl (.pr rfl rfl rfl (.pr rfl rfl rfl (.pe rfl rfl rfl (.pt rfl rfl (.bM (by show fT (af (l.map Obj.enc)).length _=_;rw[ro,aU,Nq];rfl)) (.pt rfl rfl (.bM (by show fT (af (ops.map bi.enc)).length _=_;rw[ro,aU,Nq];rfl)) (.nil _))))))))
  refine rq ((od l ops ps g ((yv l ops).mu+1)).1 (yv l ops) 0 ⟨by simp[yv],by simp[yv]⟩ (ab7 _)) [] rfl fun b0 xg=>?_
  refine aK (fun(s:XS)=>s.p<=ps.length/\dK l ops ps s.b s.p 0) [3,28,29] (fun s=>[(30,an .i64 (s.p:Nat))]) (fun s=>[.var [.row 1 9 0 none,.row 2 2 0 none,.row 3 4 0 none],.row 9 (af (l.map Obj.enc)),.row 2 (af (ops.map bi.enc)),.row 4 (af (ps.map aT.enc)),.var [.ptr 0 0,.row 5 1 0 none,.row 6 1 0 none],.row 1 (af (s.b.O.map bE)),.row 1 (af (s.b.P.map bE))]) (fun s=>ps.length-s.p) ⟨0,b0⟩ ⟨Wi _,.start xg⟩ ?_ (fun s hs=>?_)
  .refine View.o1 7 [0,1,2,3,4,5,6] [] ?_
   .exact(.pe rfl rfl rfl (.pr rfl rfl rfl (.pr rfl rfl rfl (.pr rfl rfl rfl (.pe rfl rfl rfl (.pr rfl rfl rfl (.pn rfl rfl rfl)))))))
  obtain⟨p,b⟩:=s;obtain⟨hp,hM⟩:=hs;have hp:p<=ps.length:=hp;have hM:dK l ops ps b p 0:=hM;refine ay (fun h=>?_) (fun h=>?_)
  .have ft:p<ps.length:=by have h:(p:Int)<((af (ps.map aT.enc)).length:Int):=h;rw[aU,Nq]at h;omega
   refine ag (cn (k:=p) (by show p<(af (ps.map aT.enc)).length;rw[aU,Nq];exact ft)) ?_
   refine ag (bA aT.enc ps ft) ?_;have nD:=IE ft;have uD:=mJ _ (Z0 ft);generalize ps[p]=pr at nD uD;refine aK (fun(s:XS)=>s.p<=pr.aJ.length/\dK l ops ps s.b p s.p) [3,5,28,29,30,35,36] (fun s=>[(37,an .i64 (s.p:Nat))]) (fun s=>[.var [.row 1 9 0 none,.row 2 2 0 none,.row 3 4 0 none],.row 9 (af (l.map Obj.enc)),.row 2 (af (ops.map bi.enc)),.row 4 (af (ps.map aT.enc)),.var [.ptr 0 0,.row 5 1 0 none,.row 6 1 0 none],.row 1 (af (s.b.O.map bE)),.row 1 (af (s.b.P.map bE)),.var (pr.enc.map .aa)]) (fun s=>pr.aJ.length-s.p) ⟨0,b⟩ ⟨Wi _,hM⟩ ?_ (fun s hs=>?_)
   .refine View.o1 8 [0,1,2,3,4,5,6,7] [] ?_
    .exact(.pe rfl rfl rfl (.pr rfl rfl rfl (.pr rfl rfl rfl (.pr rfl rfl rfl (.pe rfl rfl rfl (.pr rfl rfl rfl (.pr rfl rfl rfl (.pm rfl rfl rfl))))))))
   clear hM;obtain⟨j,b⟩:=s;obtain⟨hj,hM⟩:=hs;have hj:j<=pr.aJ.length:=hj;have hM:dK l ops ps b p j:=hM;refine ay (fun km=>?_) (fun km=>?_)
   .have da:j<pr.aJ.length:=by have h:(j:Int)<((pr.aJ.map fz.enc).length:Int):=km;rw[Nq]at h;omega
    have OP:=IE da;refine ag (uG da) ?_;generalize pr.aJ[j]=s at OP;refine aC (fun cX=>?_) (fun cX=>?_)
    .refine aC (fun hh=>?_) (fun hh=>?_)
     .refine rq ((od l ops ps g (b.mu+1)).2 b s.dk s.bZ ⟨by have:=hM.st.lo;simpa[yv]using this,by have:=hM.st.lp;simpa[yv]using this⟩ (ab7 _)) [_,_] rfl fun c hc=>?_
      refine⟨⟨j+1,c⟩,⟨da,hM.QX nD cX OP hh hc⟩,(show pr.aJ.length-(j+1)<pr.aJ.length-j by omega),View.o 9 [0,1,2,3,4,5,6,7] [] ?_ ?_⟩
      .repeat(first|exact .nil|refine .aq ?_|refine .put (.aO (ap om).symm) ?_|refine .eq rfl ?_)
      .exact(.pe rfl rfl rfl (.pr rfl rfl rfl (.pr rfl rfl rfl (.pr rfl rfl rfl (.pe rfl rfl rfl (.pr rfl rfl rfl (.pr rfl rfl rfl (.pm rfl rfl rfl))))))))
     .skip
      refine⟨⟨j+1,b⟩,⟨da,hM.skip nD OP (fun _=>hh)⟩,(show pr.aJ.length-(j+1)<pr.aJ.length-j by omega),View.o 9 [0,1,2,3,4,5,6,7] [] ?_ ?_⟩
      .repeat(first|exact .nil|refine .aq ?_|refine .put (.aO (ap om).symm) ?_|refine .eq rfl ?_)
      .exact(.pe rfl rfl rfl (.pr rfl rfl rfl (.pr rfl rfl rfl (.pr rfl rfl rfl (.pe rfl rfl rfl (.pr rfl rfl rfl (.pr rfl rfl rfl (.pm rfl rfl rfl))))))))
    .skip
     refine⟨⟨j+1,b⟩,⟨da,hM.skip nD OP (fun h=>absurd (h.symm.trans cX) aG)⟩,(show pr.aJ.length-(j+1)<pr.aJ.length-j by omega),View.o 9 [0,1,2,3,4,5,6,7] [] ?_ ?_⟩
     .repeat(first|exact .nil|refine .aq ?_|refine .put (.aO (ap om).symm) ?_|refine .eq rfl ?_)
     .exact(.pe rfl rfl rfl (.pr rfl rfl rfl (.pr rfl rfl rfl (.pr rfl rfl rfl (.pe rfl rfl rfl (.pr rfl rfl rfl (.pr rfl rfl rfl (.pm rfl rfl rfl))))))))
   .have Ge:j=pr.aJ.length:=by have h:¬(j:Int)<((pr.aJ.map fz.enc).length:Int):=km;rw[Nq]at h;omega
    subst Ge;refine⟨⟨p+1,b⟩,⟨ft,hM.next nD⟩,(show ps.length-(p+1)<ps.length-p by omega),View.o 8 [0,1,2,3,4,5,6] [] ?_ ?_⟩
    .repeat(first|exact .nil|refine .aq ?_|refine .put (.aO (ap om).symm) ?_|refine .eq rfl ?_)
    .exact(.pe rfl rfl rfl (.pr rfl rfl rfl (.pr rfl rfl rfl (.pr rfl rfl rfl (.pe rfl rfl rfl (.pr rfl rfl rfl (.pn rfl rfl rfl)))))))
  .have ue:p=ps.length:=by have h:¬(p:Int)<((af (ps.map aT.enc)).length:Int):=h;rw[aU,Nq]at h;omega
   subst ue;exact⟨b,hM.iC,rfl,rfl⟩
theorem Ly(l:List Obj)(ops:List bi)(ps:List aT)(g:∀o,o∈l->o.sm)(hl:l.length<=4194304)(ho:ops.length<=4194304)(fW:ps.length<=4194304)(mJ:∀p,p∈ps->p.aJ.length<=10):
  au Tryz.prog 126 [.rv (.one (.ptr 0 0))] [.var [.row 1 9 0 none,.row 2 2 0 none,.row 3 4 0 none],.row 9 (af (l.map Obj.enc)),.row 2 (af (ops.map bi.enc)),.row 4 (af (ps.map aT.enc))] (fun r m=>∃b,fO l ops ps b/\r= .rv (.one (.ptr 4 0))/\m=[.var [.row 1 9 0 none,.row 2 2 0 none,.row 3 4 0 none],.row 9 (af (l.map Obj.enc)),.row 2 (af (ops.map bi.enc)),.row 4 (af (ps.map aT.enc)),.var [.ptr 0 0,.row 5 1 0 none,.row 6 1 0 none],.row 1 (af (b.O.map bE)),.row 1 (af (b.P.map bE))]):=
 cg Tryz.func126 l126 (Ee l ops ps g hl ho fW mJ)
def nE(k:Nat):List Dt:=[.val (.int .i64 (k:Nat))]
def c66:LF:= ⟨32,[.cell true 3 2],(.seq (.ai [qu 1 (.box 0),qu 2 (.alloc [.aI,.aI,.aI])]) (.seq (.bX [qf 6 0 1,ql 7 6,qu 8 (qc 105 [7]),qf 9 1 1,ql 10 9,qu 11 (qc 106 [10]),qu 12 (.build [.aI,.aI,.aI] [(0,1,8),(1,1,11)]),qu 3 (.alloc [.aI,.aI,.aI]),qw (.store 3 3 12)] [(.cons 0 none (.cons 1 none (.cons 3 none (.cons 4 none (.xJ (.cons 2 (some [4]) (.xJ (.cons 5 (some []) (.cons 6 none (.cons 7 (some [4,1]) (.cons 8 (some []) .nil)))) (.cons 7 (some [4,1]) (.cons 5 (some []) (.cons 6 none (.cons 8 (some []) .nil)))))) (.cons 7 (some [4,1]) (.cons 2 (some [4]) (.cons 5 (some []) (.cons 6 none (.cons 8 (some []) .nil))))))))))]) (.seq (.seq (.ai [qf 13 2 1,ql 14 13,qu 15 (.len 1 14),qu 16 (.aH (qi 0))]) (.block 0 (.loop (.seq (.ai [qu 17 (.aF .lss 16 15)]) (.seq (.cond 17 .skip (.exit 0)) (.seq (.block 1 (.seq (.ai [qu 18 (.bW 4 14 16),qL 19 4 18,qu 5 (.alloc [(.aa (.val (.bool false))),(.aa (.val (.bool false))),qd 0,.aI]),qw (.store 4 5 19)]) (.seq (.ai [qf 20 3 5,ql 21 20,qu 22 (qc 107 [21]),qf 23 3 5,qw (.store 1 23 22)]) (.ai [qf 24 2 3,ql 25 24,qL 26 4 5,qu 27 (.ln 4 [(.aa (.val (.bool false))),(.aa (.val (.bool false))),qd 0,.aI] 1 [(0,26)]),qu 28 (.ni 4 40 25 27),qf 29 2 3,qw (.store 1 29 28)])))) (.ai [qu 30 (.aF .add 16 (qi 1)),qm 16 30]))))))) (.seq (.ai [qL 31 3 3,qw (.store 3 2 31)]) .ret))))⟩
def c106:LF:= ⟨8,[.tmp 2],(.seq (.ai [qu 2 (.aH qe)]) (.seq (.seq (.ai [qm 3 0,qu 4 (.xb false 3)]) (.cond 4 (.seq (.ai [qu 2 (.aH qe)]) .ret) .skip)) (.seq (.ai [qu 5 (.ln 2 [qd 0,qd 0] 0 []),qm 6 0,qu 7 (.ni 2 16 5 6),qm 2 7]) .ret)))⟩
def c107:LF:= ⟨8,[.tmp 2],(.seq (.ai [qu 2 (.aH qe)]) (.seq (.seq (.ai [qm 3 0,qu 4 (.xb false 3)]) (.cond 4 (.seq (.ai [qu 2 (.aH qe)]) .ret) .skip)) (.seq (.ai [qu 5 (.ln 3 [(.aa (.val (.bool false))),qd 0,qd 0] 0 []),qm 6 0,qu 7 (.ni 3 24 5 6),qm 2 7]) .ret)))⟩
theorem o0:∀(l:List Obj)(p Q k:Nat),k+l.length<=p->ez p Q k l=af (l.map Obj.enc)
 | [],_,_,_,_=>rfl
 |o::r,p,Q,k,h=>by
  have ih:=o0 r p Q (k+1) (by simp at h;omega)
  have hk:¬k=p:=by simp at h;omega
  simp only[ez,ih,rh,if_neg hk];rfl
theorem BP(l:List Obj):zF l l.length l.length= .aW:=by
 have:Nat.blt l.length l.length=false:=by
  cases h:Nat.blt l.length l.length
  .rfl
  .rw[abU]at h;omega
 unfold zF;rw[this]
theorem l106:bx Tryz.prog Tryz.f106=some c106:=by kernel_rfl
theorem l107:bx Tryz.prog Tryz.f107=some c107:=by kernel_rfl
theorem l66:bx Tryz.prog Tryz.f66=some c66:=by kernel_rfl
theorem BQ(ops:List bi)(ho:ops.length<=4194304):body Tryz.prog c106 [.rv (.one (.aa (d5 ops)))] [] (fun r m=>∃r' m',View 0 ⟨[r],m⟩ ⟨[r'],m'⟩/\r'= .rv (.one (.row 0 2 0 none))/\m'=[.row 2 (af (ops.map bi.enc))]):=by
 have lJ:((([]:List (List CC)).length+((ops.map bi.enc).map fun ds=>ds.map CC.aa).length)*16)<=140737488355328:=by simp;omega
 have iC:∃r' m',View 0 ⟨[CV.rv (.one (.row 1 2 0 none))],[.aW,.row 2 (cD ([]:List (List CC)) 0 none++(ops.map bi.enc).map fun ds=>ds.map CC.aa)]⟩ ⟨[r'],m'⟩/\r'=CV.rv (.one (.row 0 2 0 none))/\m'=[Bk.row 2 (af (ops.map bi.enc))]:=
  ⟨_,_,View.o 2 [1] [] (.eq rfl .nil) (.pn rfl rfl rfl),rfl,rfl⟩
 refine aC (fun h=>?_) (fun h=>?_)
 .have hd:ops=[]:=Z1 (by simpa using Z2 h)
  refine⟨?_,lJ,iC⟩;subst hd;exact⟨_,_,View.aI 0 2 0 rfl rfl rfl,rfl,rfl⟩
 .exact⟨lJ,iC⟩
theorem sA(ops:List bi)(ho:ops.length<=4194304){m:Mem}{K:CV->Mem->Prop}(h:K (.rv (.one (.row m.length 2 0 none))) (m++ [.row 2 (af (ops.map bi.enc))])):au Tryz.prog 106 [.rv (.one (.aa (d5 ops)))] m K:=by
 refine bu [] m.length rfl rfl rfl rfl (args0:=[.rv (.one (.aa (d5 ops)))]) rfl (fun i b' hi=>by simp at hi) (K0:=fun r m=>r= .rv (.one (.row 0 2 0 none))/\m=[.row 2 (af (ops.map bi.enc))]) (bJ (aX Tryz.func106 l106 (BQ ops ho)) fun r m1 h=>h) (fun r m1 hr=>?_)
 obtain⟨rfl,rfl⟩:=hr;refine⟨Wi _,?_⟩;show K (.rv (.one (.row (m.length+(0-0)) 2 0 none))) (gh m [.row 2 ((af (ops.map bi.enc)).map (fun cs=>cs.map (CC.aO (sg [] m.length))))])
 rw[db,b9];exact h
theorem BR(d:List fz)(hb:d.length<=4194304):body Tryz.prog c107 [kP d] [] (fun r m=>cJ m r (kP d)):=by
 have lJ:((([]:List (List CC)).length+((d.map fz.enc).map fun ds=>ds.map CC.aa).length)*24)<=140737488355328:=by simp;omega
 refine aC (fun h=>?_) (fun h=>?_)
 .have hd:d=[]:=Z1 (by simpa using Z2 h)
  subst hd;exact⟨.rv (.one (.aI 3)),lJ,.rv (.one (d9.dJ rfl 0 none))⟩
 .exact⟨lJ,.rv (.one (d9.dJ rfl 0 none))⟩
theorem iW(d:List fz)(hb:d.length<=4194304){m:Mem}{K:CV->Mem->Prop}(h:K (kP d) m):au Tryz.prog 107 [kP d] m K:=
 be (aX Tryz.func107 l107 (BR d hb)) (by simp[kP,iu,CV.dm,CC.dm]) fun r m1 hf=>⟨_,hf,h⟩
structure Sp where
 k:Nat
 qs:List aT
theorem Im(l:List Obj)(ops:List bi)(ps:List aT)(hf:jW l)(ho:ops.length<=4194304)(fW:ps.length<=4194304)(mJ:∀p,p∈ps->p.aJ.length<=10)(fc:ps≠[]):
  body Tryz.prog c66 [cP l ops ps] [] (fun r m=>∃r' m',View 0 ⟨[r],m⟩ ⟨[r'],m'⟩/\r'= .rv (.agg [.row 0 9 0 none,.row 1 2 0 none,.row 2 4 0 none])/\m'=[.row 9 (af (l.map Obj.enc)),.row 2 (af (ops.map bi.enc)),.row 4 (af (ps.map aT.enc))]):=by
 refine⟨?_,?_⟩
 .skip
  refine vD l hf l.length ?_;rw[BP];refine⟨⟨rfl,trivial⟩,?_⟩;refine⟨?_,?_⟩
  .refine sA ops ho ?_;refine⟨trivial,⟨rfl,rfl,trivial⟩,trivial,?_⟩;refine aK (fun(a:Sp)=>a.k<=ps.length/\a.qs=ps.take a.k) [1,2,14,15] (fun a=>[(16,an .i64 (a.k:Nat)),(3,.rv (.one (.ptr 2 0)))]) (fun a=>match a.qs with
     | []=>[.var [.aa (cU l),.aa (d5 ops),.aa (ff ps)],.var z3,.var [.row 3 9 0 none,.row 4 2 0 none,.aI],.row 9 (af (l.map Obj.enc)),.row 2 (af (ops.map bi.enc))]
     |x::r=>[.var [.aa (cU l),.aa (d5 ops),.aa (ff ps)],.var z3,.var [.row 3 9 0 none,.row 4 2 0 none,.row 5 4 0 none],.row 9 (af (l.map Obj.enc)),.row 2 (af (ops.map bi.enc)),.row 4 (af ((x::r).map aT.enc))]) (fun a=>ps.length-a.k) ⟨0,[]⟩ ⟨Wi _,rfl⟩ ?_ (fun a ha=>?_)
   .refine View.o1 6 [0,1,5,2,4] [] ?_
    .exact(.pe rfl rfl rfl (.pe rfl rfl rfl (.pe rfl rfl rfl (.pt rfl rfl (.bM (o0 l _ _ _ om)) (.pn rfl rfl rfl)))))
   obtain⟨k,qs⟩:=a;obtain⟨hk,hq⟩:=ha;have hk:k<=ps.length:=hk;have hq:qs=ps.take k:=hq;cases qs with
   |nil=>
    refine ay (fun h=>?_) (fun h=>?_)
    .have aB:k<ps.length:=by have h:(k:Int)<((ps.map aT.enc).length:Int):=h;rw[Nq]at h;omega
     refine ag (dW aB) ?_;refine iW ps[k].aJ (by have:=mJ _ (Z0 aB);omega) ?_
     refine⟨by simp[cD],?_⟩
     refine⟨⟨k+1,[ps[k]]⟩,⟨aB,(show [ps[k]]=ps.take (k+1) by rw[abM,IE aB,<-hq];rfl)⟩,(show ps.length-(k+1)<ps.length-k by omega),View.o 8 [0,1,2,3,4,7] [] ?_ ?_⟩
     .repeat(first|exact .nil|refine .aq ?_|refine .put (.aO (ap om).symm) ?_|refine .eq rfl ?_)
     .exact(.pe rfl rfl rfl (.pe rfl rfl rfl (.pe rfl rfl rfl (.pr rfl rfl rfl (.pr rfl rfl rfl (.pt rfl rfl (.bM (by simp[cD,af,aT.enc])) (.nil _)))))))
    .have uj:k=ps.length:=by have h:¬(k:Int)<((ps.map aT.enc).length:Int):=h;rw[Nq]at h;omega
     subst uj;rw[abp]at hq;exact absurd hq.symm fc
   |cons x r=>
    refine ay (fun h=>?_) (fun h=>?_)
    .have aB:k<ps.length:=by have h:(k:Int)<((ps.map aT.enc).length:Int):=h;rw[Nq]at h;omega
     refine ag (dW aB) ?_;refine iW ps[k].aJ (by have:=mJ _ (Z0 aB);omega) ?_
     refine⟨by have e:=aU ((x::r).map aT.enc);have e2:=congrArg List.length hq;simp only[Nq,aar,Z4]at e e2;simp only[cD,aar,aby];omega,?_⟩
     refine⟨⟨k+1,((x::r)++ [ps[k]])⟩,⟨aB,(show((x::r)++ [ps[k]])=ps.take (k+1) by rw[abM,IE aB,<-hq];rfl)⟩,(show ps.length-(k+1)<ps.length-k by omega),View.o 9 [0,1,2,3,4,8] [] ?_ ?_⟩
     .repeat(first|exact .nil|refine .aq ?_|refine .put (.aO (ap om).symm) ?_|refine .eq rfl ?_)
     .exact(.pe rfl rfl rfl (.pe rfl rfl rfl (.pe rfl rfl rfl (.pr rfl rfl rfl (.pr rfl rfl rfl (.pt rfl rfl (.bM (by simp[cD,af,aT.enc])) (.nil _)))))))
    .have uj:k=ps.length:=by have h:¬(k:Int)<((ps.map aT.enc).length:Int):=h;rw[Nq]at h;omega
     subst uj;rw[abp]at hq;refine⟨.rv (.agg [.row 0 9 0 none,.row 1 2 0 none,.row 2 4 0 none]),_,View.o 6 [3,4,5] [] (.eq rfl .nil) (.pr rfl rfl rfl (.pr rfl rfl rfl (.pn rfl rfl rfl))),rfl,?_⟩;rw[hq]
  .refine⟨⟨rfl,rfl,trivial⟩,?_⟩;refine sA ops ho ?_;refine⟨trivial,trivial,?_⟩;refine aK (fun(a:Sp)=>a.k<=ps.length/\a.qs=ps.take a.k) [1,2,14,15] (fun a=>[(16,an .i64 (a.k:Nat)),(3,.rv (.one (.ptr 2 0)))]) (fun a=>match a.qs with
     | []=>[.var [.aa (cU l),.aa (d5 ops),.aa (ff ps)],.var z3,.var [.row 3 9 0 none,.row 4 2 0 none,.aI],.row 9 (af (l.map Obj.enc)),.row 2 (af (ops.map bi.enc))]
     |x::r=>[.var [.aa (cU l),.aa (d5 ops),.aa (ff ps)],.var z3,.var [.row 3 9 0 none,.row 4 2 0 none,.row 5 4 0 none],.row 9 (af (l.map Obj.enc)),.row 2 (af (ops.map bi.enc)),.row 4 (af ((x::r).map aT.enc))]) (fun a=>ps.length-a.k) ⟨0,[]⟩ ⟨Wi _,rfl⟩ ?_ (fun a ha=>?_)
   .refine View.o1 6 [0,1,4,2,5] [] ?_
    .exact(.pe rfl rfl rfl (.pe rfl rfl rfl (.pe rfl rfl rfl (.pt rfl rfl (.bM (o0 l _ _ _ om)) (.pn rfl rfl rfl)))))
   obtain⟨k,qs⟩:=a;obtain⟨hk,hq⟩:=ha;have hk:k<=ps.length:=hk;have hq:qs=ps.take k:=hq;cases qs with
   |nil=>
    refine ay (fun h=>?_) (fun h=>?_)
    .have aB:k<ps.length:=by have h:(k:Int)<((ps.map aT.enc).length:Int):=h;rw[Nq]at h;omega
     refine ag (dW aB) ?_;refine iW ps[k].aJ (by have:=mJ _ (Z0 aB);omega) ?_
     refine⟨by simp[cD],?_⟩
     refine⟨⟨k+1,[ps[k]]⟩,⟨aB,(show [ps[k]]=ps.take (k+1) by rw[abM,IE aB,<-hq];rfl)⟩,(show ps.length-(k+1)<ps.length-k by omega),View.o 8 [0,1,2,3,4,7] [] ?_ ?_⟩
     .repeat(first|exact .nil|refine .aq ?_|refine .put (.aO (ap om).symm) ?_|refine .eq rfl ?_)
     .exact(.pe rfl rfl rfl (.pe rfl rfl rfl (.pe rfl rfl rfl (.pr rfl rfl rfl (.pr rfl rfl rfl (.pt rfl rfl (.bM (by simp[cD,af,aT.enc])) (.nil _)))))))
    .have uj:k=ps.length:=by have h:¬(k:Int)<((ps.map aT.enc).length:Int):=h;rw[Nq]at h;omega
     subst uj;rw[abp]at hq;exact absurd hq.symm fc
   |cons x r=>
    refine ay (fun h=>?_) (fun h=>?_)
    .have aB:k<ps.length:=by have h:(k:Int)<((ps.map aT.enc).length:Int):=h;rw[Nq]at h;omega
     refine ag (dW aB) ?_;refine iW ps[k].aJ (by have:=mJ _ (Z0 aB);omega) ?_
     refine⟨by have e:=aU ((x::r).map aT.enc);have e2:=congrArg List.length hq;simp only[Nq,aar,Z4]at e e2;simp only[cD,aar,aby];omega,?_⟩
     refine⟨⟨k+1,((x::r)++ [ps[k]])⟩,⟨aB,(show((x::r)++ [ps[k]])=ps.take (k+1) by rw[abM,IE aB,<-hq];rfl)⟩,(show ps.length-(k+1)<ps.length-k by omega),View.o 9 [0,1,2,3,4,8] [] ?_ ?_⟩
     .repeat(first|exact .nil|refine .aq ?_|refine .put (.aO (ap om).symm) ?_|refine .eq rfl ?_)
     .exact(.pe rfl rfl rfl (.pe rfl rfl rfl (.pe rfl rfl rfl (.pr rfl rfl rfl (.pr rfl rfl rfl (.pt rfl rfl (.bM (by simp[cD,af,aT.enc])) (.nil _)))))))
    .have uj:k=ps.length:=by have h:¬(k:Int)<((ps.map aT.enc).length:Int):=h;rw[Nq]at h;omega
     subst uj;rw[abp]at hq;refine⟨.rv (.agg [.row 0 9 0 none,.row 1 2 0 none,.row 2 4 0 none]),_,View.o 6 [3,4,5] [] (.eq rfl .nil) (.pr rfl rfl rfl (.pr rfl rfl rfl (.pn rfl rfl rfl))),rfl,?_⟩;rw[hq]
 .refine⟨⟨rfl,rfl,trivial⟩,?_⟩;refine vD l hf l.length ?_;rw[BP];refine⟨⟨rfl,trivial⟩,?_⟩;refine sA ops ho ?_;refine⟨trivial,trivial,?_⟩;refine aK (fun(a:Sp)=>a.k<=ps.length/\a.qs=ps.take a.k) [1,2,14,15] (fun a=>[(16,an .i64 (a.k:Nat)),(3,.rv (.one (.ptr 2 0)))]) (fun a=>match a.qs with
    | []=>[.var [.aa (cU l),.aa (d5 ops),.aa (ff ps)],.var z3,.var [.row 3 9 0 none,.row 4 2 0 none,.aI],.row 9 (af (l.map Obj.enc)),.row 2 (af (ops.map bi.enc))]
    |x::r=>[.var [.aa (cU l),.aa (d5 ops),.aa (ff ps)],.var z3,.var [.row 3 9 0 none,.row 4 2 0 none,.row 5 4 0 none],.row 9 (af (l.map Obj.enc)),.row 2 (af (ops.map bi.enc)),.row 4 (af ((x::r).map aT.enc))]) (fun a=>ps.length-a.k) ⟨0,[]⟩ ⟨Wi _,rfl⟩ ?_ (fun a ha=>?_)
  .refine View.o1 6 [0,1,2,3,5] [] ?_
   .exact(.pe rfl rfl rfl (.pe rfl rfl rfl (.pe rfl rfl rfl (.pt rfl rfl (.bM (o0 l _ _ _ om)) (.pn rfl rfl rfl)))))
  obtain⟨k,qs⟩:=a;obtain⟨hk,hq⟩:=ha;have hk:k<=ps.length:=hk;have hq:qs=ps.take k:=hq;cases qs with
  |nil=>
   refine ay (fun h=>?_) (fun h=>?_)
   .have aB:k<ps.length:=by have h:(k:Int)<((ps.map aT.enc).length:Int):=h;rw[Nq]at h;omega
    refine ag (dW aB) ?_;refine iW ps[k].aJ (by have:=mJ _ (Z0 aB);omega) ?_
    refine⟨by simp[cD],?_⟩
    refine⟨⟨k+1,[ps[k]]⟩,⟨aB,(show [ps[k]]=ps.take (k+1) by rw[abM,IE aB,<-hq];rfl)⟩,(show ps.length-(k+1)<ps.length-k by omega),View.o 8 [0,1,2,3,4,7] [] ?_ ?_⟩
    .repeat(first|exact .nil|refine .aq ?_|refine .put (.aO (ap om).symm) ?_|refine .eq rfl ?_)
    .exact(.pe rfl rfl rfl (.pe rfl rfl rfl (.pe rfl rfl rfl (.pr rfl rfl rfl (.pr rfl rfl rfl (.pt rfl rfl (.bM (by simp[cD,af,aT.enc])) (.nil _)))))))
   .have uj:k=ps.length:=by have h:¬(k:Int)<((ps.map aT.enc).length:Int):=h;rw[Nq]at h;omega
    subst uj;rw[abp]at hq;exact absurd hq.symm fc
  |cons x r=>
   refine ay (fun h=>?_) (fun h=>?_)
   .have aB:k<ps.length:=by have h:(k:Int)<((ps.map aT.enc).length:Int):=h;rw[Nq]at h;omega
    refine ag (dW aB) ?_;refine iW ps[k].aJ (by have:=mJ _ (Z0 aB);omega) ?_
    refine⟨by have e:=aU ((x::r).map aT.enc);have e2:=congrArg List.length hq;simp only[Nq,aar,Z4]at e e2;simp only[cD,aar,aby];omega,?_⟩
    refine⟨⟨k+1,((x::r)++ [ps[k]])⟩,⟨aB,(show((x::r)++ [ps[k]])=ps.take (k+1) by rw[abM,IE aB,<-hq];rfl)⟩,(show ps.length-(k+1)<ps.length-k by omega),View.o 9 [0,1,2,3,4,8] [] ?_ ?_⟩
    .repeat(first|exact .nil|refine .aq ?_|refine .put (.aO (ap om).symm) ?_|refine .eq rfl ?_)
    .exact(.pe rfl rfl rfl (.pe rfl rfl rfl (.pe rfl rfl rfl (.pr rfl rfl rfl (.pr rfl rfl rfl (.pt rfl rfl (.bM (by simp[cD,af,aT.enc])) (.nil _)))))))
   .have uj:k=ps.length:=by have h:¬(k:Int)<((ps.map aT.enc).length:Int):=h;rw[Nq]at h;omega
    subst uj;rw[abp]at hq;refine⟨.rv (.agg [.row 0 9 0 none,.row 1 2 0 none,.row 2 4 0 none]),_,View.o 6 [3,4,5] [] (.eq rfl .nil) (.pr rfl rfl rfl (.pr rfl rfl rfl (.pn rfl rfl rfl))),rfl,?_⟩;rw[hq]
theorem iv(l:List Obj)(ops:List bi)(ps:List aT)(hf:jW l)(ho:ops.length<=4194304)(fW:ps.length<=4194304)(mJ:∀p,p∈ps->p.aJ.length<=10)(fc:ps≠[]){m:Mem}{K:CV->Mem->Prop}(h:K (.rv (.agg [.row m.length 9 0 none,.row (m.length+1) 2 0 none,.row (m.length+2) 4 0 none])) (m++ [.row 9 (af (l.map Obj.enc)),.row 2 (af (ops.map bi.enc)),.row 4 (af (ps.map aT.enc))])):au Tryz.prog 66 [cP l ops ps] m K:=by
 refine bu [] m.length rfl rfl rfl rfl (args0:=[cP l ops ps]) rfl (fun i b' hi=>by simp at hi) (K0:=fun r m=>r= .rv (.agg [.row 0 9 0 none,.row 1 2 0 none,.row 2 4 0 none])/\m=[.row 9 (af (l.map Obj.enc)),.row 2 (af (ops.map bi.enc)),.row 4 (af (ps.map aT.enc))])
  (bJ (aX Tryz.func66 l66 (Im l ops ps hf ho fW mJ fc)) fun r m1 h=>h) (fun r m1 hr=>?_)
 obtain⟨rfl,rfl⟩:=hr;refine⟨Wi _,?_⟩;show K (.rv (.agg [.row (m.length+(0-0)) 9 0 none,.row (m.length+(1-0)) 2 0 none,.row (m.length+(2-0)) 4 0 none])) (gh m [.row 9 ((af (l.map Obj.enc)).map (fun cs=>cs.map (CC.aO (sg [] m.length)))),.row 2 ((af (ops.map bi.enc)).map (fun cs=>cs.map (CC.aO (sg [] m.length)))),.row 4 ((af (ps.map aT.enc)).map (fun cs=>cs.map (CC.aO (sg [] m.length))))])
 rw[db,db,db,b9];exact h
end Go.Proofs.YtojhmadmlnfpcaaGreatDoor
