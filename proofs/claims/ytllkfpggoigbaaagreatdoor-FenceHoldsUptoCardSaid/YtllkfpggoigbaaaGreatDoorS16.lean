/- Part 16 of 35. -/
import Derived.Test.YtllkfpggoigbaaaGreatDoorS14
import Derived.Test.YtllkfpggoigbaaaGreatDoorS15
import Derived.Sort.Grow
import Derived.Test.YtllkfpggoigbaaaGreatDoorRows
set_option linter.unusedVariables false
set_option linter.unusedSimpArgs false
set_option linter.unnecessarySimpa false
set_option maxRecDepth 100000
set_option maxHeartbeats 0
namespace Go.AM
section
variable {P:Program} {ρ:bX} {m:Mem} {w:World}
theorem zQ(w:World)(Of:Nat)(f:Array Value->Array Value){b:Nat}(h:b≠Of):(Sort.mapBlock w Of f).heap[b]? =w.heap[b]? :=by simp only[Sort.mapBlock,ace];rw[if_neg (λe=>h e.symm)]
theorem zR(w:World)(n Of off:Nat)(F:Array Value):m9 w (Sort.putRow id (Sort.ahead w n) Of off F) Of:=
 ⟨λb hb=>zQ _ _ _ hb,by simp[Sort.putRow,Sort.mapBlock,Sort.ahead],rfl,rfl,rfl⟩
theorem Gs{mk:Prop}{w:World}{Of off:Nat}{cur:Array Value}(F:Array Value)(n:Nat)(h:m8 mk w Of cur):m8 mk (Sort.putRow id (Sort.ahead w n) Of off F) Of (Sort.putCells id off F cur):=by
 obtain⟨ty,fr,hb,h1,h2,h3⟩:=h;refine⟨ty,fr,?_,h1,λi hi=>h2 i (by simpa[Sort.putCells]using hi),by simpa[Sort.putCells]using h3⟩
 have ax:Of<w.heap.size:=(abG.1 hb).1;have e:(Sort.ahead w n).heap[Of]? =some (.cells cur ty fr):=hb;simp only[Sort.putRow,Sort.mapBlock,ace,if_true,e,aa3,Sort.onCells]
theorem K3(hM:aK ρ m w){id esz:Nat}{rows mQ:List (List CC)}{F:Array Value}(hb:m[id]? =some (.row esz rows))(dD:0<rows.length)(hlen:mQ.length=rows.length)(dQ:∀cs,cs∈mQ->cs.length=esz)(hF:F.size=rows.length*esz)(R3:∀cs,cs∈mQ->∀c,c∈cs->∃d,c= .ai d)(cD:∀(i:Nat)cs(j:Nat)c,mQ[i]? =some cs->cs[j]? =some c->bH ρ w .none c F[i*esz+j]!)(n:Nat)(os:Array Obj):
  aK ρ (m.set id (.row esz mQ)) (Sort.grow (Sort.putRow _root_.id (Sort.ahead w n) (ρ.aV (.ay id)).b (ρ.aV (.ay id)).aB F) os)/\
  Ext ρ m w ρ (m.set id (.row esz mQ)) (Sort.grow (Sort.putRow _root_.id (Sort.ahead w n) (ρ.aV (.ay id)).b (ρ.aV (.ay id)).aB F) os):=by
 have hid:id<m.length:=(Lw.1 hb).1;obtain⟨h2,h3,h4,h5,CY⟩:=hM.bk id _ hb;have bv:0<(ρ.aV (.ay id)).cap:=om;obtain⟨cur,cn,h1,hd⟩:=CY bv;have hmul:rows.length*esz<=(ρ.aV (.ay id)).cap*esz:=abS _ om;have ZG:∀{i' j' zE e},gN (m.set id (.row esz mQ)) id i' j' zE e->False:=by rintro i' j' zE e ⟨es,Uu,Q0,kG,eR,k6⟩;rw[aaj hid]at kG;cases kG;obtain⟨d,hd⟩:=R3 _ (Vm eR) _ (Vm k6);cases hd
 obtain⟨nA,hX⟩:=hM.XZ (IF:= .row esz mQ) (w':=Sort.putRow _root_.id (Sort.ahead w n) (ρ.aV (.ay id)).b (ρ.aV (.ay id)).aB F) hb ⟨_,hb,aD,λ_=>bv⟩ (zR w n _ _ F)
  (λg=>⟨by rw[hlen];exact h2,h3,h4,dQ,λ_=>⟨_,Gs F n cn,by simpa[Sort.putCells]using h1,λi cs j c hi hj=>by
   have f4:j<esz:=by rw[<-dQ cs (Vm hi)];exact(Lw.1 hj).1
   have MW:i<rows.length:=by rw[<-hlen];exact(Lw.1 hi).1
   have sM:i*esz+j<rows.length*esz:=by have:(i+1)*esz<=rows.length*esz:=abS _ om;rw[ab3,acs]at this;omega
   have cI:=cD i cs j c hi hj;refine⟨F[i*esz+j]!,?_,(bH.cY g aD cI).xm _⟩;have hc:(ρ.aV (.ay id)).aB+i*esz+j<cur.size:=om;simp only[Sort.putCells,Array.getElem?_mapIdx,acg hc,aa3];rw[if_pos om];congr 2;show F[_]! =_;congr 1;omega⟩⟩)
  (λi j e1 e2 h=>(ZG h).elim)
 have hW:eT (Sort.putRow _root_.id (Sort.ahead w n) (ρ.aV (.ay id)).b (ρ.aV (.ay id)).aB F) (Sort.grow (Sort.putRow _root_.id (Sort.ahead w n) (ρ.aV (.ay id)).b (ρ.aV (.ay id)).aB F) os):=
  ⟨λb hb=>Sort.heap_grow_old _ os hb,by simp[Sort.grow],rfl,rfl,rfl⟩
 obtain⟨DI,pH⟩:=nA.IY hW;exact⟨DI,hX.trans pH⟩
end
section
variable {P:Program}
theorem View.R7{n0:Nat}{e:List CV}{m:Mem}(id j esz n:Nat){cs:List CC}(hn:m.length=n)(hb:dh m id=some (.var cs))(hj:dh cs j=some .bt)(h0:Nat.ble n0 n=true):
  View n0 ⟨e,m⟩ ⟨e,fT (aX m id (.var (aX cs j (.row n esz 0 none)))) [.row esz []]⟩:=by
 subst hn;have h0:=aav h0;rw[aW]at hb hj;rw[bh,bh,cf];have hid:id<m.length:=(Lw.1 hb).1;have f4:j<cs.length:=(Lw.1 hj).1;refine⟨by simp;omega,rfl,λρ w hM=>?_⟩
 have hn:ρ.n=m.length:=hM.n;let U':bX:={n:=m.length+1,aV:=λk=>if k.id=m.length then⟨0,0,0,0⟩else ρ.aV k,S:=ρ.S}
 have cV:∀k:kN,k.id<ρ.n->U'.aV k=ρ.aV k:=λk hk=>by simp only[U'];rw[if_neg om]
 have g:jC ρ w U' w:=⟨by show ρ.n<=m.length+1;omega,cV,λ_ h=>h,λ_ _=>rfl⟩
 have get:∀(k:Nat)b,(m.set id (.var (cs.set j (.row m.length esz 0 none)))++ [Bk.row esz []])[k]? =some b->(k<m.length/\k≠id/\m[k]? =some b)\/(k=id/\b= .var (cs.set j (.row m.length esz 0 none)))\/(k=m.length/\b= .row esz []):=by
  intro k b hk;rcases aax k m.length with h|h
  .rw[aaW (by simpa using h)]at hk
   by_cases UK:k=id
   .subst UK;rw[aaj hid]at hk;cases hk;exact .inr (.inl ⟨rfl,rfl⟩)
   .rw[aam (λe=>UK e.symm)]at hk
    exact .inl ⟨h,UK,hk⟩
  .have ax:=(Lw.1 hk).1;simp at ax;have:k=m.length:=om;subst this;rw[aaS aD]at hk;simp at hk;exact .inr (.inr ⟨rfl,hk.symm⟩)
 have cZ:∀k,Live U' (m.set id (.var (cs.set j (.row m.length esz 0 none)))++ [.row esz []]) k->Live ρ m k:=by
  intro k hk;cases k with
  |ay i=>
   obtain⟨bk,gv,so,bv⟩:=hk;rcases get i bk gv with⟨h1,h2,h3⟩|⟨rfl,rfl⟩|⟨rfl,rfl⟩
   .rw[cV (.ay i) (by simp only[kN.id];omega)]at bv
    exact⟨bk,h3,so,bv⟩
   .exact⟨_,hb,aD,aD⟩
   .have:=bv ⟨_,_,rfl⟩;simp[U',kN.id]at this
  |sub i x y=>
   obtain⟨⟨s,el,es,rows,c2,gv,hi,rG⟩,bv⟩:=hk;rcases get i _ gv with⟨h1,h2,h3⟩|⟨rfl,h⟩|⟨rfl,h⟩
   .rw[cV (.sub i x y) (by simp only[kN.id];omega)]at bv
    exact⟨⟨s,el,es,rows,c2,h3,hi,rG⟩,bv⟩
   .cases h
   .cases h;simp at hi
 have kI:∀k,Live ρ m k->U'.aV k=ρ.aV k:=λk hk=>cV k (by rw[hn];exact hk.gO)
 refine⟨U',⟨by simp[U'],hM.S,λk hk=>?_,λk k' hk iG oD=>?_,λi b hbi=>?_,λi x y s el ho bv=>?_⟩,⟨λi hi=>cV (.ay i) (by simp only[kN.id];omega),λ_ h=>h,λ_ h=>.inl h,λk hk=>⟨k,cZ k hk,(by rw[kI k (cZ k hk)])⟩⟩,λi c' hi=>⟨c',hi,λv hd=>cw.cY g hd⟩⟩
 .rw[kI k (cZ k hk)];exact hM.aF k (cZ k hk)
 .rw[kI k (cZ k hk),kI k' (cZ k' iG)]at oD;exact hM.inj k k' (cZ k hk) (cZ k' iG) oD
 .rcases get i b hbi with⟨h1,h2,h3⟩|⟨rfl,rfl⟩|⟨rfl,rfl⟩
  .exact(hM.bk i b h3).cY g om λ_ _=>rfl
  .obtain⟨cur,cn,hc⟩:=hM.bk i _ hb;rw[show eS U' w i (.var (cs.set j (.row m.length esz 0 none)))=(∃cur,m8 True w (U'.aV (.ay i)).b cur/\∀(j':Nat)c,(cs.set j (.row m.length esz 0 none))[j']? =some c->∃u,cur[(U'.aV (.ay i)).aB+j']? =some u/\bH U' w .none c u)from rfl,cV (.ay i) (by simp only[kN.id];omega)]
   refine⟨cur,cn,λj' c rG=>?_⟩
   rw[abU]at rG;split at rG
   .rename_i hjj;subst hjj;cases rG;obtain⟨u,hu,hd⟩:=hc j _ hj;obtain⟨a,rfl⟩:=hd;exact⟨_,hu,by simp[bH,U',kN.id]⟩
   .obtain⟨u,hu,hd⟩:=hc j' c rG;exact⟨u,hu,bH.cY g aD hd⟩
  .simp[eS,U',kN.id]
 .have hk:Live ρ m (.sub i x y):=cZ (.sub i x y) ⟨⟨_,_,ho⟩,bv⟩;have adJ:=hk.gO;simp only[kN.id]at adJ;rw[kI _ hk]at bv|-;obtain⟨es,rows,c2,gv,hi,rG⟩:=ho;rcases get i _ gv with⟨h1,h2,h3⟩|⟨rfl,h⟩|⟨rfl,h⟩
  .obtain⟨cur,hc,q1,q2,q3⟩:=hM.iJ i x y s el ⟨es,rows,c2,h3,hi,rG⟩ bv;exact⟨cur,hc,q1,q2,q3⟩
  .cases h
  .cases h;simp at hi
end
end Go.AM
namespace Go.Proofs.YtllkfpggoigbaaaGreatDoor
open Proofs.Tryz
open Go.AM Go.ChangeShapes Go.WideShapes Go.ChangeAt Go.RowKit
def c107:LF:=Cq prog f107 [] []
def c138:LF:=Cq prog f138 [] []
theorem iR{n:Int}(h1: -9223372036854775808<=n)(h2:n<=9223372036854775807):IntKind.i64.wrap n=n:=IntWalk.i64_in n om
structure cy where
 data:List (List Dt)
 has:Bool
 b8:Int
 rts:Int
def cy.enc(m:cy):List Dt:=[.sl 1 m.data,.val (.bool m.has),.val (.int .i64 m.b8),.val (.int .i64 m.rts)]
structure Obj where
 ah:Int
 data:List (List Dt)
 ag:List (List Dt)
 target:ByteArray
 aG:Int
 aj:List cy
 aQ:Int
 ak:Int
 up:Int
def Obj.enc(o:Obj):List Dt:=[.val (.int .i64 o.ah),.sl 1 o.data,.sl 2 o.ag,.val (.string o.target),.val (.int .i64 o.aG),.sl 4 (o.aj.map cy.enc),.val (.int .i64 o.aQ),.val (.int .i64 o.ak),.val (.int .i64 o.up)]
abbrev dA(o:Obj)(c:CC)(L U:Int):List CC:=[.ai (.val (.int .i64 o.ah)),.ai (.sl 1 o.data),c,.ai (.val (.string o.target)),.ai (.val (.int .i64 o.aG)),.ai (.sl 4 (o.aj.map cy.enc)),.ai (.val (.int .i64 o.aQ)),.ai (.val (.int .i64 L)),.ai (.val (.int .i64 U))]
def cy.cv(m:cy):CV:= .rv (.agg (m.enc.map .ai))
def Obj.cv(o:Obj):CV:= .rv (.agg (o.enc.map .ai))
def cT(l:List Obj):Dt:= .sl 9 (l.map Obj.enc)
def cJ(l:List Obj):CV:= .rv (.one (.ai (cT l)))
def Obj.oi(o:Obj):Prop:=o.data.length<=4194304/\o.ag.length<=4194304/\o.aj.length<=4194304/\∀q,q∈o.aj->q.data.length<=4194304
def mF(l:List Obj):Prop:=l.length<=4194304/\∀o,o∈l->o.oi
theorem l107:bs prog f107=some c107:=by kernel_rfl
theorem l138:bs prog f138=some c138:=by kernel_rfl
def ta(esz:Nat)(d:List (List Dt)):CV:= .rv (.one (.ai (.sl esz d)))
theorem DU(d:List (List Dt))(hb:d.length<=4194304):body prog c107 [ta 1 d] [] (λr m=>cH m r (ta 1 d)):=by
 have mU:((([]:List (List CC)).length+(d.map λds=>ds.map CC.ai).length)*1)<=140737488355328:=by simp;omega
 refine aA (λh=>?_) (λh=>?_)
 .have hd:d=[]:=aaX (by simpa using aa1 h)
  subst hd;exact⟨.rv (.one (.bt 1)),mU,.rv (.one (d7.da rfl 0 none))⟩
 .exact⟨mU,.rv (.one (d7.da rfl 0 none))⟩
theorem iS(d:List (List Dt))(hb:d.length<=4194304){m:Mem}{K:CV->Mem->Prop}(h:K (ta 1 d) m):ap prog 107 [ta 1 d] m K:=
 aR (aP func107 l107 (DU d hb)) (by simp[ta,CV.cW,CC.cW]) λr m1 hf=>⟨_,hf,h⟩
theorem DV(d:List (List Dt))(hb:d.length<=4194304):body prog c138 [ta 2 d] [] (λr m=>cH m r (ta 2 d)):=by
 have mU:((([]:List (List CC)).length+(d.map λds=>ds.map CC.ai).length)*24)<=140737488355328:=by simp;omega
 refine aA (λh=>?_) (λh=>?_)
 .have hd:d=[]:=aaX (by simpa using aa1 h)
  subst hd;exact⟨.rv (.one (.bt 2)),mU,.rv (.one (d7.da rfl 0 none))⟩
 .exact⟨mU,.rv (.one (d7.da rfl 0 none))⟩
theorem uz(d:List (List Dt))(hb:d.length<=4194304){m:Mem}{K:CV->Mem->Prop}(h:K (ta 2 d) m):ap prog 138 [ta 2 d] m K:=
 aR (aP func138 l138 (DV d hb)) (by simp[ta,CV.cW,CC.cW]) λr m1 hf=>⟨_,hf,h⟩
def tc(p Q k:Nat)(o:Obj):List CC:=[.ai (.val (.int .i64 o.ah)),.ai (.sl 1 o.data),.ai (.sl 2 o.ag),.ai (.val (.string o.target)),.ai (.val (.int .i64 o.aG)),
 (if k=p then .row Q 4 0 none else .ai (.sl 4 (o.aj.map cy.enc))),.ai (.val (.int .i64 o.aQ)),.ai (.val (.int .i64 o.ak)),.ai (.val (.int .i64 o.up))]
def eO(p Q:Nat):Nat->List Obj->List (List CC)
 |_,[]=>[]
 |k,o::r=>tc p Q k o::eO p Q (k+1) r
theorem td(p Q:Nat):∀(a:List Obj)(k:Nat)(b:List Obj),eO p Q k (a++b)=eO p Q k a++eO p Q (k+a.length) b
 | [],k,b=>rfl
 |o::r,k,b=>by simp[eO,td p Q r (k+1) b,abX,Nat.add_comm 1]
theorem nG(p Q:Nat):∀(l:List Obj)(k:Nat),(eO p Q k l).length=l.length
 | [],_=>rfl
 |o::r,k=>by simp[eO,nG p Q r (k+1)]
theorem rO(p Q:Nat):∀(l:List Obj)(k:Nat),(p<k\/k+l.length<=p)->eO p Q k l=aa (l.map Obj.enc)
 | [],_,_=>rfl
 |o::r,k,h=>by simp only[aa2]at h;have hk:¬k=p:=om;simp only[eO,tc,if_neg hk,rO p Q r (k+1) om];rfl
theorem uA(p Q:Nat):∀(l:List Obj)(k i:Nat),(eO p Q k l)[i]? =(l[i]?).map (tc p Q (k+i))
 | [],k,i=>by simp[eO]
 |o::r,k,0=>by simp[eO]
 |o::r,k,i+1=>by
  simp only[eO,acr,uA p Q r (k+1) i];rw[show k+1+i=k+(i+1) by omega]
theorem Og{Y:Nat->Nat}{p Q k:Nat}(o:Obj):(tc p Q k o).map (CC.aN Y)=tc p (Y Q) k o:=by
 by_cases h:k=p<;>simp[tc,h,CC.aN]
theorem lJ{Y:Nat->Nat}(p Q:Nat):∀(l:List Obj)(k:Nat),(eO p Q k l).map (λcs=>cs.map (CC.aN Y))=eO p (Y Q) k l
 | [],_=>rfl
 |o::r,k=>by simp only[eO,ab2,lJ p Q r (k+1)];rw[Og]
def c108:LF:=Cq prog f108 [] [[(.cons 0 none (.cons 1 none (.cons 3 none (.cons 4 none (.cons 2 (some [4]) (.cons 6 none (.cons 5 (some []) (.cons 7 (some []) (.cons 8 none (.cons 9 (some []) .nil))))))))))]]
def quO(l:List Obj)(p:Nat):List cy:=match l[p]? with|some o=>o.aj|none=>[]
def B3(l:List Obj)(p k:Nat):Bk:=match Nat.blt p k with|true=>.row 4 (aa ((quO l p).map cy.enc))|false=>.aE
theorem wL{Y:Nat->Nat}(l:List Obj)(p k:Nat):(B3 l p k).aN Y=B3 l p k:=by
 unfold B3;split
 .exact Bk.ei _ _
 .rfl
theorem nH{α:Type}{l:List α}{i:Nat}{s:α}(h:l[i]? =some s):l.take (i+1)=l.take i++ [s]:=by rw[acb,h];rfl
theorem bZ(a b:List (List Dt)):aa (a++b)=aa a++aa b:=by simp[aa]
theorem xT{p Q:Nat}{l:List Obj}{k:Nat}{o:Obj}(h:l[k]? =some o):eO p Q 0 (l.take (k+1))=eO p Q 0 (l.take k)++ [tc p Q k o]:=by have hk:=(Lw.1 h).1;rw[nH h,td,aa8,aef om,abV];rfl
theorem l108:bs prog f108=some c108:=by kernel_rfl
theorem Oh(l:List Obj)(hf:mF l)(p:Nat):body prog c108 [cJ l] [] (λr m=>r= .rv (.one (.row 0 9 0 none))/\m=[.row 9 (eO p 1 0 l),B3 l p l.length]):=by
 obtain⟨hl,NC⟩:=hf;refine ar (λk=>k<=l.length) [0,9,10] (λk=>[(11,al .i64 (k:Nat)),(3,.rv (.one (.row 0 9 0 none)))]) (λk=>[.row 9 (eO p 1 0 (l.take k)),B3 l p k]) (λk=>l.length-k) 0 (WG _) ?_ (λk hk=>?_)
 .refine View.trans (View.bt 2 4 0 rfl rfl rfl) (View.trans (View.bt 3 9 1 rfl rfl rfl) (View.o1 2 [1,0] [] ?_))
  .exact .put (by simp[bc]) rfl (.eq rfl aD) (.aE (.nil _))
 .refine am (λh=>?_) (λh=>?_)
  .have ax:k<l.length:=by have h:(k:Int)<((l.map Obj.enc).length:Int):=h;rw[O9]at h;omega
   have hi:=wy ax;have Ra:=NC _ (aaR ax);have hg:cm (l.map Obj.enc) (k:Nat)=some (l[k].enc):=by rw[aU,Qu,wy ax];rfl
   generalize l[k]=o at hi Ra hg;obtain⟨ah,data,ag,target,aG,aj,aQ,ak,up⟩:=o;obtain⟨Oi,Gt,Rb,MZ⟩:=Ra;have Oi:data.length<=4194304:=Oi;have Gt:ag.length<=4194304:=Gt;have Rb:aj.length<=4194304:=Rb;have MZ:∀q,q∈aj->q.data.length<=4194304:=MZ;have hg:cm (l.map Obj.enc) (k:Nat)=some [.val (.int .i64 ah),.sl 1 data,.sl 2 ag,.val (.string target),.val (.int .i64 aG),.sl 4 (aj.map cy.enc),.val (.int .i64 aQ),.val (.int .i64 ak),.val (.int .i64 up)]:=hg;refine af hg ?_;refine iS data Oi ?_;refine⟨⟨rfl,trivial⟩,?_⟩;refine uz ag Gt ?_;refine⟨trivial,?_⟩;refine⟨trivial,?_⟩;refine⟨trivial,?_⟩;refine ar (λj=>j<=aj.length) [0,3,5,9,10,11,24,25] (λj=>[(26,al .i64 (j:Nat)),(6,.rv (.one (.row 3 4 0 none)))])
    (λj=>[.row 9 (eO p 1 0 (l.take k)),B3 l p k,.var ((⟨ah,data,ag,target,aG,aj,aQ,ak,up⟩:Obj).enc.map .ai),.row 4 (aa ((aj.take j).map cy.enc))]) (λj=>aj.length-j) 0 (WG _) ?_ (λj hj=>?_)
   .refine View.trans (View.bt 6 4 3 rfl rfl rfl) (View.o1 4 [0,1,2,3] [] ?_)
    .exact .pt rfl rfl (.eq (congrArg (Bk.row 9) (lJ p 1 _ _)) aD) (.AN (fv rfl) rfl (wL l p k) (.pe rfl rfl rfl (.pn rfl rfl rfl)))
   .have hj:j<=aj.length:=hj;refine am (λh=>?_) (λh=>?_)
    .have bQ:j<aj.length:=by have h:(j:Int)<((aj.map cy.enc).length:Int):=h;rw[O9]at h;omega
     have zM:=wy bQ;have K4:=MZ _ (aaR bQ);generalize aj[j]=q at zM K4;obtain⟨qd,qh,qo,qr⟩:=q;have pq:cm (aj.map cy.enc) (j:Nat)=some [.sl 1 qd,.val (.bool qh),.val (.int .i64 qo),.val (.int .i64 qr)]:=by rw[aU,Qu,zM];rfl
     refine af pq ?_;refine iS qd K4 ?_;refine⟨?_,?_⟩
     .show((aa ((aj.take j).map cy.enc)).length+1)*48<=_;simp[aa];omega
     refine⟨j+1,bQ,(show aj.length-(j+1)<aj.length-j by omega),View.o2 7 [0,1,2,6] [] ?_⟩
     .refine .pt rfl rfl (.eq (congrArg (Bk.row 9) (lJ p 1 _ _)) aD) (.AN (fv rfl) rfl (wL l p k) (.pe rfl rfl rfl (.pt rfl rfl (.bn ?_) (.nil _))));rw[nH zM,abM,bZ];rfl
    .have ef:¬(j:Int)<((aj.map cy.enc).length:Int):=h;rw[O9]at ef;have hq:aj.take j=aj:=ach om;refine⟨?_,?_⟩
     .show((eO p 1 0 (l.take k)).length+1)*128<=_;rw[nG];simp;omega
     by_cases VI:k=p
     .subst VI;have hR:∀Q,eO k Q 0 (l.take k)=aa ((l.take k).map Obj.enc):=λQ=>rO k Q _ 0 (.inr (by simp;omega))
      have V2:B3 l k (k+1)= .row 4 (aa ((aj.take j).map cy.enc)):=by
       have:Nat.blt k (k+1)=true:=by rw[aci];omega
       simp only[B3,this,quO,hi,hq]
      refine⟨k+1,ax,(show l.length-(k+1)<l.length-k by omega),View.o2 6 [5,3] [] ?_⟩
      .rw[xT hi,V2];refine .pt rfl rfl (.uy ?_ rfl ?_) (.pn rfl rfl rfl)
       .rw[lJ,hR,hR];rfl
       .intro j c c' h1 h2;have e5:tc k 1 k ⟨ah,data,ag,target,aG,aj,aQ,ak,up⟩=[.ai (.val (.int .i64 ah)),.ai (.sl 1 data),.ai (.sl 2 ag),.ai (.val (.string target)),.ai (.val (.int .i64 aG)),.row 1 4 0 none,.ai (.val (.int .i64 aQ)),.ai (.val (.int .i64 ak)),.ai (.val (.int .i64 up))]:=by simp[tc]
        rw[e5]at h2
        match j,h1,h2 with
        |0,h1,h2=>cases h1;cases h2;exact .aN (.ai _)
        |1,h1,h2=>cases h1;cases h2;exact .aN (.ai _)
        |2,h1,h2=>cases h1;cases h2;exact .aN (.ai _)
        |3,h1,h2=>cases h1;cases h2;exact .aN (.ai _)
        |4,h1,h2=>cases h1;cases h2;exact .aN (.ai _)
        |5,h1,h2=>cases h1;cases h2;exact .aN (.row 1 4 0 none)
        |6,h1,h2=>cases h1;cases h2;exact .aN (.ai _)
        |7,h1,h2=>cases h1;cases h2;exact .aN (.ai _)
        |8,h1,h2=>cases h1;cases h2;exact .aN (.ai _)
        |n+9,h1,h2=>simp at h1
     .have V2:B3 l p (k+1)=B3 l p k:=by
       have:Nat.blt p (k+1)=Nat.blt p k:=by rw[afj,aci,aci];omega
       simp only[B3,this]
      refine⟨k+1,ax,(show l.length-(k+1)<l.length-k by omega),View.o2 6 [5,1] [3] ?_⟩
      .rw[xT hi,V2];refine .pt rfl rfl (.uy (lJ p 1 _ _) rfl ?_) (.AN (fv rfl) rfl (wL l p k) (.nil _));intro j' c c' h1 h2;have e5:tc p 1 k ⟨ah,data,ag,target,aG,aj,aQ,ak,up⟩=[.ai (.val (.int .i64 ah)),.ai (.sl 1 data),.ai (.sl 2 ag),.ai (.val (.string target)),.ai (.val (.int .i64 aG)),.ai (.sl 4 ((aj.take j).map cy.enc)),.ai (.val (.int .i64 aQ)),.ai (.val (.int .i64 ak)),.ai (.val (.int .i64 up))]:=by simp[tc,VI,hq]
       rw[e5]at h2
       match j',h1,h2 with
       |0,h1,h2=>cases h1;cases h2;exact .aN (.ai _)
       |1,h1,h2=>cases h1;cases h2;exact .aN (.ai _)
       |2,h1,h2=>cases h1;cases h2;exact .aN (.ai _)
       |3,h1,h2=>cases h1;cases h2;exact .aN (.ai _)
       |4,h1,h2=>cases h1;cases h2;exact .aN (.ai _)
       |5,h1,h2=>cases h1;cases h2;exact .dG (cS.da (Z:=λk=>bc [3] k=true) rfl (by rw[<-aW];rfl) 0 none)
       |6,h1,h2=>cases h1;cases h2;exact .aN (.ai _)
       |7,h1,h2=>cases h1;cases h2;exact .aN (.ai _)
       |8,h1,h2=>cases h1;cases h2;exact .aN (.ai _)
       |n+9,h1,h2=>simp at h1
  .have ef:¬(k:Int)<((l.map Obj.enc).length:Int):=h;rw[O9]at ef;have dK:k=l.length:=by have:k<=l.length:=hk;omega
   subst dK;rw[abD];exact⟨rfl,rfl⟩
theorem xU(l:List Obj)(hf:mF l)(p:Nat){m:Mem}{K:CV->Mem->Prop}(h:K (.rv (.one (.row m.length 9 0 none))) (m++ [.row 9 (eO p (m.length+1) 0 l),B3 l p l.length])):ap prog 108 [cJ l] m K:=by
 refine be [] m.length rfl rfl rfl rfl rfl (λi b' hi=>by simp at hi) (aP func108 l108 (Oh l hf p)) (λr m1 hr=>?_)
 obtain⟨h1,h2⟩:=hr;subst h1;subst h2;refine⟨WG _,?_⟩;show K (.rv (.one (.row (m.length+(0-0)) 9 0 none))) (fT m [.row 9 ((eO p 1 0 l).map (λcs=>cs.map (CC.aN (sg [] m.length)))),(B3 l p l.length).aN (sg [] m.length)])
 rw[lJ,wL,cf];exact h
def c121:LF:=Cq prog f121 [] []
def c131:LF:=Cq prog f131 [] []
def c148:LF:=Cq prog f148 [] []
def pg{α:Type}(q:α->Bool)(l:List α):Int:=match l.findIdx? q with|some k=>(k:Int)|none=>-1
theorem lX{α:Type}{q:α->Bool}{l:List α}{k:Nat}(h:k<l.length)(hq:q l[k]=true)(hb:∀(j:Nat)s,j<k->l[j]? =some s->q s=false):pg q l=k:=by
 have:l.findIdx? q=some k:=by rw[abN];exact⟨h,hq,λj hj=>by simpa using hb j _ hj (wy om)⟩
 rw[pg,this]
theorem nJ{α:Type}{q:α->Bool}{l:List α}(hb:∀(j:Nat)s,l[j]? =some s->q s=false):pg q l= -1:=by
 have:l.findIdx? q=none:=by rw[acv];intro s hs;obtain⟨i,hi⟩:=aak hs;simpa using hb i s hi
 rw[pg,this]
theorem te{α:Type}(q:α->Bool)(l:List α):decide (pg q l>=0)=l.any q:=by
 unfold pg;cases h:l.findIdx? q with
 |none=>
  rw[acv]at h;have:l.any q=false:=by simpa using h
  rw[this];rfl
 |some k=>
  obtain⟨h1,h2,_⟩:=abN.1 h;have:l.any q=true:=abP.2 ⟨_,aaR h1,h2⟩;rw[this];exact decide_eq_true aD
theorem l121:bs prog f121=some c121:=by kernel_rfl
theorem l131:bs prog f131=some c131:=by kernel_rfl
theorem l148:bs prog f148=some c148:=by kernel_rfl
theorem B4(l:List Obj)(hb:l.length<=4194304)(F:Nat)(q:Obj->Bool)(hF:∀s,s∈l->∀K:CV->Mem->Prop,K (aq (q s)) []->ap prog F [s.cv] [] K):body prog c131 [cJ l,(.rv (.one (.fn F [])))] [] (λr m=>r=al .i64 (pg q l)):=by
 refine ar (λk=>k<=l.length/\∀(j:Nat)s,j<k->l[j]? =some s->q s=false) [0,1,7] (λk=>[(8,al .i64 (k:Nat))]) (λ_=>[]) (λk=>l.length-k) 0 ⟨WG _,λj s h=>absurd h (abE j)⟩ ?_ (λk hk=>?_)
 .refine View.o1 0 [] [] ?_
  .exact .nil _
 .refine am (λh=>?_) (λh=>?_)
  .have ax:k<l.length:=by have h:(k:Int)<((l.map Obj.enc).length:Int):=h;rw[O9]at h;omega
   have hg:cm (l.map Obj.enc) (k:Nat)=some (l[k].enc):=by rw[aU,Qu,wy ax];rfl
   refine af hg ?_;refine hF l[k] (aaR ax) _ ?_;refine aA (λh=>?_) (λh=>?_)
   .rw[lX ax h hk.2];exact rfl
   .refine⟨k+1,⟨ax,λj s hj hs=>?_⟩,(show l.length-(k+1)<l.length-k by omega),View.o 0 [] [] ?_ ?_⟩
    .rcases aax j k with h5|h5
     .exact hk.2 j s h5 hs
     .have:j=k:=om;subst this;rw[wy ax]at hs;cases hs;exact h
    .repeat(first|exact .nil|refine .aH ?_|refine .put (.aN (br om).symm) ?_|refine .eq rfl ?_)
    .exact .nil _
  .have ef:¬(k:Int)<((l.map Obj.enc).length:Int):=h;rw[O9]at ef;rw[nJ λj s hs=>hk.2 j s (by have:=(Lw.1 hs).1;omega) hs]
   exact rfl
theorem Gu(l:List Obj)(hb:l.length<=4194304)(F:Nat)(q:Obj->Bool)(hF:∀s,s∈l->∀K:CV->Mem->Prop,K (aq (q s)) []->ap prog F [s.cv] [] K){m:Mem}{K:CV->Mem->Prop}(h:K (al .i64 (pg q l)) m):ap prog 131 [cJ l,.rv (.one (.fn F []))] m K:=
 bu func131 l131 rfl (aav rfl) (B4 l hb F q hF) rfl rfl h
theorem V3(s:Obj)(K:CV->Mem->Prop)(h:K (aq (s.ah==0)) []):ap prog 148 [s.cv] [] K:=
 bu func148 l148 rfl (aav rfl) (show body prog c148 [s.cv] [] (λr m=>r=aq (s.ah==0))from rfl) rfl rfl h
theorem I1(l:List Obj)(hf:mF l){m:Mem}{K:CV->Mem->Prop}(h:K (.rv (.one (.row m.length 9 0 none))) (m++ [.row 9 (aa (l.map Obj.enc)),.aE])):ap prog 108 [cJ l] m K:=by
 refine xU l hf l.length ?_;have h1:B3 l l.length l.length= .aE:=by
  have:Nat.blt l.length l.length=false:=by
   cases hb:Nat.blt l.length l.length with
   |false=>rfl
   |true=>rw[aci]at hb;omega
  simp only[B3,this]
 rw[rO _ _ _ _ (.inr om),h1];exact h
def cK(n:Int):RV:= .one (.ai (.val (.int .i64 n)))
def aM(l:List Obj)(o:Obj):List Obj×Int×Int:=
 match l.findIdx? (λx=>x.ah==0)with
 |some k=>(l.set k o,k,0)
 |none=>if l.length>=40 then([],0,15)else(l++ [o],l.length,0)
def UL(l:List Obj)(o:Obj)(r:CV)(m:Mem):Prop:=
 ((aM l o).2.2=15/\r= .bG [.one .bt,cK (aM l o).2.1,cK (aM l o).2.2]/\m=[])\/
 ((aM l o).2.2=0/\r= .bG [.one (.row 0 9 0 none),cK (aM l o).2.1,cK (aM l o).2.2]/\m=[.row 9 (aa ((aM l o).1.map Obj.enc))])
theorem AO(l:List Obj)(k:Nat)(o:Obj):(aa (l.map Obj.enc)).set k (o.enc.map .ai)=aa ((l.set k o).map Obj.enc):=by simp[aa,abW]
theorem AP(l:List Obj){k:Nat}(h:k<l.length):dh (aa (l.map Obj.enc)) k=some (l[k].enc.map .ai):=by rw[aW];simp[aa,h]
theorem K5(l:List Obj)(hf:mF l)(o:Obj):body prog c121 [cJ l,o.cv] [] (λr m=>∃r' m',View 0 ⟨[r],m⟩ ⟨[r'],m'⟩/\UL l o r' m'):=by
 have hl:=hf.1;refine Gu l hl 148 (λx=>x.ah==0) (λs _ K hs=>V3 s K hs) ?_
 have hlen:(aa (l.map Obj.enc)).length=l.length:=by simp[aa]
 cases hk:l.findIdx? (λx=>x.ah==0)with
 |some k=>
  have hi:pg (λx:Obj=>x.ah==0) l=(k:Int):=by rw[pg,hk]
  have dK:k<l.length:=(abN.1 hk).1;have hm:aM l o=(l.set k o,(k:Int),0):=by rw[aM,hk]
  rw[hi];refine I1 l hf ?_;refine gG (by simp[hlen,lenOf];omega) ?_
  refine af (bJ (k:=k) (by simp[hlen,lenOf];omega)) ?_
  refine af (x:=l[k].enc.map .ai) (by simpa[fL]using AP l dK) ?_
  refine⟨.bG [.one (.row 0 9 0 none),cK k,cK 0],[.row 9 (aa ((l.set k o).map Obj.enc))],View.o 3 [1] [] ?_ ?_,.inr ?_⟩
  .exact .eq rfl .nil
  .refine .pt rfl rfl (.bn ?_) (.nil _);rw[<-AO];simp[bh,fL,Obj.enc]
  .rw[hm];exact⟨rfl,rfl,rfl⟩
 |none=>
  have hi:pg (λx:Obj=>x.ah==0) l= -1:=by rw[pg,hk]
  rw[hi];refine am (λh=>?_) (λh=>?_)
  .have h:l.length>=40:=by have h:(((l.map Obj.enc).length:Nat):Int)>=40:=h;rw[O9]at h;omega
   have hm:aM l o=([],0,15):=by rw[aM,hk];simp only;rw[if_pos h]
   refine⟨.bG [.one .bt,cK 0,cK 15],[],View.o 1 [] [] ?_ (.nil _),.inl ?_⟩
   .exact .eq rfl .nil
   .rw[hm];exact⟨rfl,rfl,rfl⟩
  .have h:¬l.length>=40:=by have h:¬(((l.map Obj.enc).length:Nat):Int)>=40:=h;rw[O9]at h;omega
   have hm:aM l o=(l++ [o],(l.length:Int),0):=by rw[aM,hk];simp only;rw[if_neg h]
   refine I1 l hf ?_;refine bV (by simp[hlen,lenOf]) ?_
   refine⟨by simp[hlen,bA];omega,?_⟩
   have M0:(l.map Obj.enc).length=l.length:=aD;refine af (bJ (k:=(l.map Obj.enc).length) (by simp[hlen,lenOf,bA])) ?_
   refine af (x:=[.ai (.val (.int .i64 0)),.bt,.bt,.ai (.val (.string ⟨#[]⟩)),.ai (.val (.int .i64 0)),.bt,.ai (.val (.int .i64 0)),.ai (.val (.int .i64 0)),.ai (.val (.int .i64 0))]) (by simp[aW,hlen,bA,fL]) ?_
   refine⟨.bG [.one (.row 0 9 0 none),cK (((l.map Obj.enc).length:Nat):Int),cK 0],[.row 9 (aa ((l++ [o]).map Obj.enc))],View.o 5 [4] [] ?_ ?_,.inr ?_⟩
   .exact .eq rfl .nil
   .refine .pt rfl rfl (.bn ?_) (.nil _);rw[abM,bZ];simp only[bh,fL,bA];rw[M0,<-hlen];rw[acN _ _ (aai _),adv];rfl
   .rw[hm];refine⟨rfl,?_,rfl⟩;rw[M0]
theorem AQ(l:List Obj)(hf:mF l)(o:Obj):ap prog 121 [cJ l,o.cv] [] (UL l o):=
 bK (aP func121 l121 (K5 l hf o)) λr m1⟨r',m',hv,hp⟩=>⟨r',m',hv,hp⟩
def nK(l:List Obj):RV:= .one (.ai (cT l))
theorem jV{m:Mem}{a b c d:RV}{x:Int}(h:dE m a b)(hc:dE m c d):cH m (.bG [a,c,cK x]) (.bG [b,d,cK x]):=by
 refine .bG rfl λi r r' h1 h2=>?_
 match i,h1,h2 with
 |0,h1,h2=>cases h1;cases h2;exact h
 |1,h1,h2=>cases h1;cases h2;exact hc
 |2,h1,h2=>cases h1;cases h2;exact dE.self rfl
theorem B5(l:List Obj)(hf:mF l)(o:Obj){m:Mem}{K:CV->Mem->Prop}(h:K (.bG [nK (aM l o).1,cK (aM l o).2.1,cK (aM l o).2.2]) m):ap prog 121 [cJ l,o.cv] m K:=by
 refine aR (AQ l hf o) (by simp[cJ,Obj.cv,CV.cW,CC.cW,RV.cW]) λr m1 hp=>?_
 rcases hp with⟨h1,rfl,rfl⟩|⟨h1,rfl,rfl⟩
 .have h2:(aM l o).1=[]:=by
   unfold aM at h1|-;split at h1
   .simp at h1
   .split at h1
    .rename_i hc;rw[if_pos hc]
    .simp at h1
  refine⟨_,jV (.one (.bt 9)) (dE.self rfl),?_⟩;rw[h2]at h;exact h
 .refine⟨_,jV (.one (d7.da rfl 0 none)) (dE.self rfl),?_⟩;exact h
theorem Oj(l:List Obj)(hf:mF l)(o:Obj){m:Mem}{K:CV->Mem->Prop}(h1:(aM l o).2.2=15->K (.bG [.one .bt,cK (aM l o).2.1,cK (aM l o).2.2]) m)(h2:(aM l o).2.2=0->K (.bG [.one (.row m.length 9 0 none),cK (aM l o).2.1,cK (aM l o).2.2]) (m++ [.row 9 (aa ((aM l o).1.map Obj.enc))])):ap prog 121 [cJ l,o.cv] m K:=by
 refine be [] m.length rfl rfl rfl rfl rfl (λi b' hi=>by simp at hi) (AQ l hf o) (λr m1 hp=>⟨WG _,?_⟩)
 rcases hp with⟨e1,rfl,rfl⟩|⟨e1,rfl,rfl⟩
 .have:=h1 e1;show K _ (fT m []);rw[cf,ab9];exact this
 .have:=h2 e1;show K _ (fT m [Bk.aN _ _]);rw[cf,Bk.ei];exact this
def c80:LF:=Cq prog f80 [] []
theorem I2{l:List Obj}{o:Obj}(h:(aM l o).2.2=0):∃k:Nat,(aM l o).2.1=k/\k<(aM l o).1.length/\(aM l o).1[k]? =some o/\l.length<=(aM l o).1.length/\(∀j,j≠k->j<l.length->(aM l o).1[j]? =l[j]?):=by
 unfold aM at h|-;split
 .rename_i k hk;have dK:k<l.length:=(abN.1 hk).1;exact⟨k,rfl,by simpa using dK,by simp[dK],aD,λj hj f4=>by simp[abU,Ne.symm hj]⟩
 .rename_i hk;rw[hk]at h;simp only at h;split at h
  .simp at h
  .rename_i hc;rw[if_neg hc];exact⟨l.length,rfl,aD,aD,aD,λj hj f4=>by simp[aaW f4]⟩
theorem Ok{l:List Obj}{o:Obj}(hf:mF l)(ho:o.oi):mF (aM l o).1:=by
 unfold aM;split
 .refine⟨by simpa using hf.1,λx hx=>?_⟩
  rcases abF hx with h|rfl
  .exact hf.2 x h
  .exact ho
 .split
  .exact⟨aD,aD⟩
  .refine⟨by simp;omega,λx hx=>?_⟩
   rcases abH.1 hx with h|h
   .exact hf.2 x h
   .simp at h;subst h;exact ho
def bg(p:Int):Obj:=⟨4,[],[],⟨#[]⟩,p,[],-1,0,0⟩
theorem Ol(p:Int):(bg p).oi:=by simp[Obj.oi,bg]
def lB(l:List Obj)(k:Nat)(b:Int):List Obj:=match l[k]? with|some o=>l.set k {o with aG:=b}|none=>l
def eV(l:List Obj):List Obj×(Int×Int)×Int:=
 if(aM l (bg (-1))).2.2≠0 then([],(0,0),(aM l (bg (-1))).2.2)
 else if(aM (aM l (bg (-1))).1 (bg (aM l (bg (-1))).2.1)).2.2≠0 then([],(0,0),(aM (aM l (bg (-1))).1 (bg (aM l (bg (-1))).2.1)).2.2)
 else(lB (aM (aM l (bg (-1))).1 (bg (aM l (bg (-1))).2.1)).1 (aM l (bg (-1))).2.1.toNat (aM (aM l (bg (-1))).1 (bg (aM l (bg (-1))).2.1)).2.1,((aM l (bg (-1))).2.1,(aM (aM l (bg (-1))).1 (bg (aM l (bg (-1))).2.1)).2.1),0)
def R9(x:Int×Int):RV:= .agg [.ai (.val (.int .i64 x.1)),.ai (.val (.int .i64 x.2))]
theorem l80:bs prog f80=some c80:=by kernel_rfl
theorem I3(a b:CV)(p:Int):kJ [a,.rv (.agg [.ai (.val (.int .i64 4)),.bt,.bt,.ai (.val (.string ⟨#[]⟩)),.ai (.val (.int .i64 p)),.bt,.ai (.val (.int .i64 (-1))),.ai (.val (.int .i64 0)),.ai (.val (.int .i64 0))])] [a,(bg p).cv]:=
 .cO _ (.agg (.cons (.cO _) (.cons (.bt 1) (.cons (.bt 2) (.cons (.cO _) (.cons (.cO _) (.cons (.bt 4) (.cons (.cO _) (.cons (.cO _) (.cons (.cO _) .nil))))))))) .nil)
theorem K6(l:List Obj)(hf:mF l):body prog c80 [cJ l] [] (λr m=>cH m r (.bG [nK (eV l).1,R9 (eV l).2.1,cK (eV l).2.2])):=by
 refine jd (I3 _ (.aH) _) (B5 l hf (bg (-1)) ?_);have hp:eV l=if(aM l (bg (-1))).2.2≠0 then([],(0,0),(aM l (bg (-1))).2.2)
   else if(aM (aM l (bg (-1))).1 (bg (aM l (bg (-1))).2.1)).2.2≠0 then([],(0,0),(aM (aM l (bg (-1))).1 (bg (aM l (bg (-1))).2.1)).2.2)
   else(lB (aM (aM l (bg (-1))).1 (bg (aM l (bg (-1))).2.1)).1 (aM l (bg (-1))).2.1.toNat (aM (aM l (bg (-1))).1 (bg (aM l (bg (-1))).2.1)).2.1,((aM l (bg (-1))).2.1,(aM (aM l (bg (-1))).1 (bg (aM l (bg (-1))).2.1)).2.1),0):=rfl
 have lq:=Ok (o:=bg (-1)) hf (Ol _);generalize hx:aM l (bg (-1))=x at hp lq;obtain⟨l1,a,e1⟩:=x;have lq:mF l1:=lq;refine bF (λh=>?_) (λh=>?_)
 .have h:e1≠0:=h;rw[hp];simp only;rw[if_pos h];exact jV (.one (.bt 9)) (dE.self rfl)
 .have h:e1=0:=h;subst h;have vK:=I2 (l:=l) (o:=bg (-1)) (by rw[hx])
  rw[hx]at vK;obtain⟨ka,Rc,ZH,ait,aiu,_⟩:=vK;have Rc:a=(ka:Int):=Rc;have ZH:ka<l1.length:=ZH;subst Rc;simp only[ne_eq,not_true,if_false,aal]at hp;refine jd (I3 _ (.aH) _) (Oj l1 lq (bg ka) (λh=>?_) (λh=>?_))
  .rw[h]at hp;rw[h,hp];exact jV (.one (.bt 9)) (dE.self rfl)
  .have vK:=I2 (l:=l1) (o:=bg ka) h;generalize hy:aM l1 (bg ka)=y at hp vK h;obtain⟨l2,b,e2⟩:=y;have h:e2=0:=h;subst h;obtain⟨kb,AR,aiv,aiw,ZI,_⟩:=vK;have ZI:l1.length<=l2.length:=ZI;have ax:ka<l2.length:=om;have hlen:(aa (l2.map Obj.enc)).length=l2.length:=by simp[aa]
   refine af (bJ (k:=ka) (by simpa[hlen,lenOf]using ax)) ?_
   refine af (x:=l2[ka].enc.map .ai) (by simpa[fL]using AP l2 ax) ?_
   have jE:aX (aa (l2.map Obj.enc)) (fL 0 ka) (({l2[ka]with aG:=b}:Obj).enc.map .ai)=aa ((lB l2 ka b).map Obj.enc):=by rw[bh];simp only[lB,wy ax];rw[<-AO];simp[fL]
   have eE:some (Bk.row 9 (aX (aa (l2.map Obj.enc)) (fL 0 ka) (({l2[ka]with aG:=b}:Obj).enc.map .ai)))=some (Bk.row 9 (aa ((lB l2 ka b).map Obj.enc))):=by rw[jE]
   rw[hp];exact jV (.one (d7.da eE 0 none)) (dE.self rfl)
theorem Sa(l:List Obj)(hf:mF l){m:Mem}{K:CV->Mem->Prop}(h:K (.bG [nK (eV l).1,R9 (eV l).2.1,cK (eV l).2.2]) m):ap prog 80 [cJ l] m K:=
 aR (aP func80 l80 (K6 l hf)) (by simp[cJ,CV.cW,CC.cW]) λr m1 Zv=>⟨_,Zv,h⟩
def c83:LF:=Cq prog f83 [] [[(d9 8 0 (.cons 8 (some [6,4]) (.cons 9 (some []) (.cons 10 none (.cons 11 none (.cons 12 (some []) .nil))))))]]
def K7(o:Obj)(c:CC):List CC:=[.ai (.val (.int .i64 o.ah)),.ai (.sl 1 o.data),.ai (.sl 2 o.ag),.ai (.val (.string o.target)),.ai (.val (.int .i64 o.aG)),c,.ai (.val (.int .i64 o.aQ)),.ai (.val (.int .i64 o.ak)),.ai (.val (.int .i64 o.up))]
theorem DW{l:List Obj}{p Q:Nat}{q:Obj}(h:l[p]? =some q):dh (eO p Q 0 l) p=some (K7 q (.row Q 4 0 none)):=by rw[aW,uA,h];simp[tc,K7]
theorem Om{l:List Obj}{p:Nat}{q:Obj}(h:l[p]? =some q):B3 l p l.length= .row 4 (aa (q.aj.map cy.enc)):=by
 have hp:=(Lw.1 h).1;have:Nat.blt p l.length=true:=by rw[aci];exact hp
 simp only[B3,this,quO,h]
theorem I4{m:Mem}{Z:Nat->Prop}{id p Q:Nat}{l:List Obj}{q:Obj}{c:CC}(hz:Z id)(hb:m[id]? =some (.row 9 (aX (eO p Q 0 l) p (K7 q c))))(hc:cS m Z (some id) c (.sl 4 (q.aj.map cy.enc))):
  cS m Z none (.row id 9 0 none) (.sl 9 ((l.set p q).map Obj.enc)):=by
 have key:∀(i:Nat)cs es,(aX (eO p Q 0 l) p (K7 q c))[i]? =some cs->((l.set p q).map Obj.enc)[i]? =some es->(cs=K7 q c/\es=q.enc)\/∃o:Obj,cs=o.enc.map .ai/\es=o.enc:=by
  intro i cs es h1 h2;rw[bh,abU]at h1;rw[Qu,abU]at h2;by_cases hi:p=i
  .subst hi;rw[if_pos rfl]at h1 h2;split at h1
   .cases h1;split at h2
    .cases h2;exact .inl ⟨rfl,rfl⟩
    .cases h2
   .cases h1
  .rw[if_neg hi]at h1 h2;rw[uA]at h1;cases ho:l[i]? with
   |none=>rw[ho]at h1;cases h1
   |some o=>
    rw[ho]at h1 h2;cases h1;cases h2;refine .inr ⟨o,?_,rfl⟩;simp only[tc,abV,if_neg (Ne.symm hi)];rfl
 refine .row id 9 0 none _ ((l.set p q).map Obj.enc) hz hb (by rw[bh];simp[nG]) (λi cs es h1 h2=>?_) (λi cs es j cc d h1 h2 h3 h4=>?_)
 .rcases key i cs es h1 h2 with⟨rfl,rfl⟩|⟨o,rfl,rfl⟩
  .rfl
  .simp
 .rcases key i cs es h1 h2 with⟨rfl,rfl⟩|⟨o,rfl,rfl⟩
  .match j,h3,h4 with
   |0,h3,h4=>cases h3;cases h4;exact .ai _
   |1,h3,h4=>cases h3;cases h4;exact .ai _
   |2,h3,h4=>cases h3;cases h4;exact .ai _
   |3,h3,h4=>cases h3;cases h4;exact .ai _
   |4,h3,h4=>cases h3;cases h4;exact .ai _
   |5,h3,h4=>cases h3;cases h4;exact hc
   |6,h3,h4=>cases h3;cases h4;exact .ai _
   |7,h3,h4=>cases h3;cases h4;exact .ai _
   |8,h3,h4=>cases h3;cases h4;exact .ai _
   |n+9,h3,h4=>simp[K7]at h3
  .rw[Qu,h4]at h3;cases h3;exact .ai _
def eW(l:List Obj)(e:Int)(m:cy):List Obj×Int:=
 if e<0\/e>=l.length then([],8)else match l[e.toNat]? with
 |none=>([],8)
 |some o=>if o.ah≠4 then([],8)else if o.aG<0\/o.aG>=l.length then([],17)else match l[o.aG.toNat]? with
  |none=>([],17)
  |some q=>if q.ah≠4 then([],17)else if m.data.length>60 then([],4)else if q.aj.length>=4 then([],15)else(l.set o.aG.toNat {q with aj:=q.aj++ [m]},0)
def On(l:List Obj)(e:Int):CV:= .bG [nK l,cK e]
theorem gC{m:Mem}{a b:RV}{x:Int}(h:dE m a b):cH m (.bG [a,cK x]) (.bG [b,cK x]):=by
 refine .bG rfl λi r r' h1 h2=>?_
 match i,h1,h2 with
 |0,h1,h2=>cases h1;cases h2;exact h
 |1,h1,h2=>cases h1;cases h2;exact dE.self rfl
theorem vw2{Y:Nat->Nat}{m:Mem}{Z:Nat->Prop}{a b:RV}{x:Int}(h:zu Y m Z a b):sq Y m Z (.bG [a,cK x]) (.bG [b,cK x]):=by
 refine .bG rfl λi r r' h1 h2=>?_
 match i,h1,h2 with
 |0,h1,h2=>cases h1;cases h2;exact h
 |1,h1,h2=>cases h1;cases h2;exact .one (.aN (.ai _))
theorem l83:bs prog f83=some c83:=by kernel_rfl
theorem uB(l:List Obj)(hf:mF l)(e:Int)(msg:cy)(hmf:msg.data.length<=4194304):body prog c83 [cJ l,al .i64 e,msg.cv] [] (λr m=>∃r' m',View 0 ⟨[r],m⟩ ⟨[r'],m'⟩/\r'=On (eW l e msg).1 (eW l e msg).2/\m'=[]):=by
 have M0:(((l.map Obj.enc).length:Nat):Int)=(l.length:Int):=aD;have bad:∀(x:Int),eW l e msg=([],x)->∃r' m',View 0 ⟨[CV.bG [.one .bt,cK x]],[.var (msg.enc.map .ai)]⟩ ⟨[r'],m'⟩/\r'=On (eW l e msg).1 (eW l e msg).2/\m'=[]:=by intro x hx;refine⟨_,_,View.o 1 [] [] (.put (vw2 (b:=nK []) (.one (.dG (.bt 9)))) .nil) (.nil _),?_,rfl⟩;rw[hx];rfl
 refine am (λh=>?_) (λh1=>?_)
 .exact bad 8 (by rw[eW,if_pos (.inl h)])
 refine am (λh=>?_) (λh2=>?_)
 .exact bad 8 (by rw[eW,if_pos (.inr (by rw[<-M0];exact h))])
 have h2:¬e>=(l.length:Int):=by rw[<-M0];exact h2
 obtain⟨k,rfl⟩:∃k:Nat,e=k:=⟨e.toNat,om⟩;have hk:k<l.length:=om;have hi:=wy hk;have qC:eW l (k:Int) msg=if l[k].ah≠4 then(([],8):List Obj×Int)else if l[k].aG<0\/l[k].aG>=l.length then([],17)else match l[l[k].aG.toNat]? with
   |none=>([],17)
   |some q=>if q.ah≠4 then([],17)else if msg.data.length>60 then([],4)else if q.aj.length>=4 then([],15)else(l.set l[k].aG.toNat {q with aj:=q.aj++ [msg]},0):=by
  rw[eW,if_neg om,aal,hi]
 have hg:cm (l.map Obj.enc) (k:Nat)=some (l[k].enc):=by rw[aU,Qu,hi];rfl
 generalize l[k]=o at qC hg;obtain⟨ah,data,ag,target,aG,aj,aQ,ak,up⟩:=o;have hg:cm (l.map Obj.enc) (k:Nat)=some [.val (.int .i64 ah),.sl 1 data,.sl 2 ag,.val (.string target),.val (.int .i64 aG),.sl 4 (aj.map cy.enc),.val (.int .i64 aQ),.val (.int .i64 ak),.val (.int .i64 up)]:=hg;refine af hg ?_;refine bF (λh=>?_) (λh3=>?_)
 .exact bad 8 (by rw[qC,if_pos h])
 have h3:ah=4:=h3;rw[if_neg (by simpa using h3)]at qC
 simp only at qC;refine af hg ?_;refine am (λh=>?_) (λh4=>?_)
 .exact bad 17 (by rw[qC,if_pos (.inl h)])
 refine am (λh=>?_) (λh5=>?_)
 .exact bad 17 (by rw[qC,if_pos (.inr (by rw[<-M0];exact h))])
 have h5:¬aG>=(l.length:Int):=by rw[<-M0];exact h5
 have h4:¬aG<0:=h4;obtain⟨p,rfl⟩:∃p:Nat,aG=p:=⟨aG.toNat,om⟩;have hp:p<l.length:=om;have UM:=wy hp;rw[if_neg om,aal,UM]at qC;simp only at qC;have pq:cm (l.map Obj.enc) (p:Nat)=some (l[p].enc):=by rw[aU,Qu,UM];rfl
 have K4:=hf.2 _ (aaR hp);generalize l[p]=q at qC pq UM K4;have pq:cm (l.map Obj.enc) (p:Nat)=some [.val (.int .i64 q.ah),.sl 1 q.data,.sl 2 q.ag,.val (.string q.target),.val (.int .i64 q.aG),.sl 4 (q.aj.map cy.enc),.val (.int .i64 q.aQ),.val (.int .i64 q.ak),.val (.int .i64 q.up)]:=pq;refine af pq ?_;refine bF (λh=>?_) (λh6=>?_)
 .exact bad 17 (by rw[qC,if_pos h])
 rw[if_neg (by simpa using h6)]at qC
 refine am (λh=>?_) (λh7=>?_)
 .exact bad 4 (by rw[qC,if_pos (by have h:((msg.data.length:Nat):Int)>60:=h;omega)])
 rw[if_neg (by have h:¬((msg.data.length:Nat):Int)>60:=h7;omega)]at qC
 refine af pq ?_;refine am (λh=>?_) (λh8=>?_)
 .exact bad 15 (by rw[qC,if_pos (by have h:(((q.aj.map cy.enc).length:Nat):Int)>=4:=h;rw[O9]at h;omega)])
 have h8:¬q.aj.length>=4:=by have h:¬(((q.aj.map cy.enc).length:Nat):Int)>=4:=h8;rw[O9]at h;omega
 rw[if_neg h8]at qC;refine xU l hf p ?_;rw[Om UM];refine iS msg.data hmf ?_;have oH:dL (p:Int) (lenOf (eO p 2 0 l).length 0 none)=some p:=bJ (by simp[lenOf,nG];omega)
 have pd:=DW (Q:=2) UM;refine af oH ?_;refine af pd ?_;refine⟨⟨af pd rfl,af oH rfl,trivial⟩,?_⟩;refine⟨?_,?_⟩
 .show((aa (q.aj.map cy.enc)).length+1)*48<=_;simp[aa];omega
 refine⟨trivial,?_⟩;refine af oH ?_;refine af pd ?_;refine⟨trivial,?_⟩;refine⟨On (l.set p {q with aj:=q.aj++ [msg]}) 0,[],View.o 5 [] [1,4] (.put (vw2 (.one (.dG ?_))) .nil) (.nil _),?_,rfl⟩
 .refine I4 (p:=p) (Q:=2) (l:=l) (q:={q with aj:=q.aj++ [msg]}) (c:= .row 4 4 0 none) rfl (by rw[<-aW];rfl) ?_
  refine cS.da (Z:=λk=>bc [1,4] k=true) (ds:=(q.aj++ [msg]).map cy.enc) rfl ?_ 0 none
  rw[<-aW,abM,bZ];rfl
 .rw[qC]
theorem Sb(l:List Obj)(hf:mF l)(e:Int)(msg:cy)(hmf:msg.data.length<=4194304){m:Mem}{K:CV->Mem->Prop}(h:K (On (eW l e msg).1 (eW l e msg).2) m):ap prog 83 [cJ l,al .i64 e,msg.cv] m K:=by
 refine aR (K0:=λr m=>r=On (eW l e msg).1 (eW l e msg).2/\m=[]) (bK (aP func83 l83 (uB l hf e msg hmf)) λr m1⟨r',m',hv,hp⟩=>⟨r',m',hv,hp⟩) (by simp[cJ,al,cy.cv,CV.cW,CC.cW,RV.cW]) λr m1 hr=>?_
 obtain⟨rfl,rfl⟩:=hr;exact⟨_,cH.self rfl,h⟩
def c125:LF:=Cq prog f125 [] [[(d9 6 0 (.cons 6 (some []) (.cons 7 none .nil)))]]
def vQ:List CC:=[.bt,.ai (.val (.bool false)),.ai (.val (.int .i64 0)),.ai (.val (.int .i64 0))]
theorem kS:∀ds:List (List Dt),fM (aa ds)=true
 | []=>rfl
 |d::r=>by
  have h1:∀e:List Dt,rB (e.map CC.ai)=true:=by
   intro e
   induction e with
   |nil=>rfl
   |cons x e ih=>simpa[rB,CC.jJ]using ih
  have:=kS r;simp only[aa,ab2,fM]at this|-;rw[h1,this];rfl
theorem l125:bs prog f125=some c125:=by kernel_rfl
def gl(x:cy)(r:List cy):List (List CC):=aa (r.map cy.enc)++ [vQ]
theorem Oo(x:cy)(r:List cy)(hl:r.length<=4194303):body prog c125 [.rv (.one (.row 0 4 0 none)),al .i64 0,al .i64 1] [.row 4 (aa ((x::r).map cy.enc))] (λv m=>v= .rv (.one (.row 0 4 0 (some r.length)))/\m=[.row 4 (gl x r)]):=by
 have hlen:(aa ((x::r).map cy.enc)).length=r.length+1:=by simp[aa]
 have UN:(aa ((x::r).map cy.enc)).drop 1=aa (r.map cy.enc):=rfl;generalize aa ((x::r).map cy.enc)=D at hlen UN;have hL:lenOf D.length 0 none=r.length+1:=by rw[i9,hlen];rfl
 have hE:bA D 1 (some (r.length+1))=aa (r.map cy.enc):=by rw[mR];simp only;rw[<-hlen,abD,UN]
 have I5:(aa (r.map cy.enc)).length=r.length:=by simp[aa]
 refine bV ?_ ?_
 .show(Nat.ble 0 1&&(Nat.ble 1 (lenOf D.length 0 none)&&Nat.ble (lenOf D.length 0 none) (bA D 0 none).length))=true;rw[hL];simp[bA,hlen,abR]
 rw[hL];refine bV ?_ ?_
 .show(Nat.ble 1 (lenOf D.length 0 none)&&Nat.ble (lenOf D.length 0 none) (D.length-0))=true;rw[hL,hlen];simp[abR]
 rw[hL];refine bV ?_ ?_
 .show(Nat.beq 0 0&&(Nat.beq 4 4&&(Nat.beq 4 4&&(Nat.ble 1 D.length&&(Nat.ble (0+(bA D 1 (some (r.length+1))).length) D.length&&fM (bA D 1 (some (r.length+1))))))))=true;rw[hE,kS,I5,hlen];simp[abR]
 refine⟨?_,?_⟩
 .rw[hlen];omega
 refine⟨trivial,?_⟩;have zO:(dd D 0 (aa (r.map cy.enc))).length=r.length+1:=by rw[xE (by rw[I5,hlen];omega),hlen]
 refine bV ?_ ?_
 .simp only[mN,abV,hE,I5,i9,ab7,acY,zO];simp[abR]
 refine bV ?_ ?_
 .simp only[mN,abV,hE,I5,i9,ab7,acY,zO,rC];simp[abR]
 refine bV ?_ ?_
 .simp only[mN,abV,hE,I5,i9,ab7,acY,zO,rC];simp[aci]
 have eE:dd (dd D 0 (aa (r.map cy.enc))) r.length (gP 1 vQ)=gl x r:=by
  have h1:dd D 0 (aa (r.map cy.enc))=aa (r.map cy.enc)++D.drop r.length:=by simp[dd,I5]
  rw[h1];simp only[dd,fK,gl];rw[List.take_append_of_le_length (by rw[I5];exact aai _),ach (by rw[I5];exact aai _)]
  congr 1;have:(aa (r.map cy.enc)++D.drop r.length).length=r.length+1:=by simp[I5,hlen]
  rw[List.drop_of_length_le (by rw[this];simp)]
  rfl
 refine⟨?_,?_⟩
 .show CV.rv (.one (.row 0 4 0 (some (0+(bA D (fL 0 1) (some (fL 0 (r.length+1)))).length))))=_;simp only[mN,abV,hE,I5]
 .rw[<-eE];show [Bk.row 4 (dd (dd D 0 (bA D (fL 0 1) (some (fL 0 (r.length+1))))) _ (gP (_-_) vQ))]=_;simp only[mN,abV,hE,I5,i9,ab7,acY,zO,rC,Nat.add_sub_cancel_left]
theorem V4(x:cy)(r:List cy)(hl:r.length<=4194303){m:Mem}{K:CV->Mem->Prop}(id:Nat)(hb:dh m id=some (.row 4 (aa ((x::r).map cy.enc))))(h:K (.rv (.one (.row id 4 0 (some r.length)))) (aX m id (.row 4 (gl x r)))):
  ap prog 125 [.rv (.one (.row id 4 0 none)),al .i64 0,al .i64 1] m K:=by
 have hid:id<m.length:=by rw[aW]at hb;exact(Lw.1 hb).1
 refine be [id] m.length rfl rfl rfl (by simp[eh,hid]) (args0:=[.rv (.one (.row 0 4 0 none)),al .i64 0,al .i64 1]) rfl (λi b' hi=>?_) (aP func125 l125 (Oo x r hl)) (λr1 m1 hr=>?_)
 .cases i with
  |zero=>
   simp at hi;subst hi;refine .inr ⟨λh=>h,_,?_,.bn rfl⟩
   rw[aW]at hb;exact hb
  |succ i=>simp at hi
 .obtain⟨rfl,rfl⟩:=hr;refine⟨aai _,?_⟩;have adM:(Bk.row 4 (gl x r)).aN (sg [id] m.length)= .row 4 (gl x r):=by simp only[Bk.aN,gl,abM,dk];rfl
  show K (.rv (.one (.row id 4 0 (some r.length)))) (dt m [id] [(Bk.row 4 (gl x r)).aN (sg [id] m.length)]);rw[adM];simp only[dt,cf,ab9];exact h
def c84:LF:=Cq prog f84 [] [[(d9 3 0 (.cons 3 (some []) (.cons 4 none .nil)))]]
def nL:cy:=⟨[],false,0,0⟩
def cy.rv(m:cy):RV:= .agg (m.enc.map .ai)
def fH(l:List Obj)(e:Int):List Obj×cy×Int:=
 if e<0\/e>=l.length then([],nL,8)else match l[e.toNat]? with
 |none=>([],nL,8)
 |some o=>if o.ah≠4 then([],nL,8)else match o.aj with
  | []=>if o.aG<0\/o.aG>=l.length then([],nL,17)else match l[o.aG.toNat]? with
   |none=>([],nL,17)
   |some q=>if q.ah≠4 then([],nL,17)else([],nL,16)
  |x::r=>(l.set e.toNat {o with aj:=r},x,0)
def xV(x:List Obj×cy×Int):CV:= .bG [nK x.1,x.2.1.rv,cK x.2.2]
theorem vw3{Y:Nat->Nat}{m:Mem}{Z:Nat->Prop}{a b c d:RV}{x:Int}(h:zu Y m Z a b)(hc:zu Y m Z c d):sq Y m Z (.bG [a,c,cK x]) (.bG [b,d,cK x]):=by
 refine .bG rfl λi r r' h1 h2=>?_
 match i,h1,h2 with
 |0,h1,h2=>cases h1;cases h2;exact h
 |1,h1,h2=>cases h1;cases h2;exact hc
 |2,h1,h2=>cases h1;cases h2;exact .one (.aN (.ai _))
theorem vwZ{Y:Nat->Nat}{m:Mem}{Z:Nat->Prop}:zu Y m Z (.agg vQ) nL.rv:=by
 refine .agg rfl λi c c' h1 h2=>?_
 match i,h1,h2 with
 |0,h1,h2=>cases h1;cases h2;exact .dG (.bt 1)
 |1,h1,h2=>cases h1;cases h2;exact .aN (.ai _)
 |2,h1,h2=>cases h1;cases h2;exact .aN (.ai _)
 |3,h1,h2=>cases h1;cases h2;exact .aN (.ai _)
 |n+4,h1,h2=>simp[vQ]at h1
theorem ZJ{Y:Nat->Nat}{m:Mem}{Z:Nat->Prop}(x:cy):zu Y m Z (.agg (x.enc.map .ai)) x.rv:=by
 refine .agg rfl λi c c' h1 h2=>?_
 rw[h1]at h2;cases h2;rw[Qu]at h1;cases hd:x.enc[i]? with
 |none=>rw[hd]at h1;cases h1
 |some d=>
  rw[hd]at h1;cases h1;exact .aN (.ai d)
theorem V5{m:Mem}{Z:Nat->Prop}{p:Option Nat}{id:Nat}{x:cy}{r:List cy}(hz:Z id)(hb:m[id]? =some (.row 4 (gl x r))):cS m Z p (.row id 4 0 (some r.length)) (.sl 4 (r.map cy.enc)):=by
 have h:=cS.row (m:=m) (Z:=Z) (p:=p) id 4 0 (some r.length) (gl x r) (r.map cy.enc++ [nL.enc]) hz hb (by simp[gl,aa]) (λi cs es h1 h2=>?_) (λi cs es j c d h1 h2 h3 h4=>?_)
 .have:bA (r.map cy.enc++ [nL.enc]) 0 (some r.length)=r.map cy.enc:=by rw[mR];simp
  rw[this]at h;exact h
 .rcases aax i r.length with hi|hi
  .rw[gl,aaW (by simpa[aa]using hi),aa,Qu]at h1
   rw[aaW (by simpa using hi)]at h2
   rw[h2]at h1;cases h1;simp
  .rw[gl,aaS (by simpa[aa]using hi)]at h1
   rw[aaS (by simpa using hi)]at h2
   have e1:(aa (r.map cy.enc)).length=r.length:=by simp[aa]
   have e2:(r.map cy.enc).length=r.length:=aD;rw[e1]at h1;rw[e2]at h2;cases hn:i-r.length with
   |zero=>rw[hn]at h1 h2;cases h1;cases h2;rfl
   |succ n=>rw[hn]at h1;simp at h1
 .rcases aax i r.length with hi|hi
  .rw[gl,aaW (by simpa[aa]using hi),aa,Qu]at h1
   rw[aaW (by simpa using hi)]at h2
   rw[h2]at h1;cases h1;rw[Qu,h4]at h3;cases h3;exact .ai _
  .rw[gl,aaS (by simpa[aa]using hi)]at h1
   rw[aaS (by simpa using hi)]at h2
   have e1:(aa (r.map cy.enc)).length=r.length:=by simp[aa]
   have e2:(r.map cy.enc).length=r.length:=aD;rw[e1]at h1;rw[e2]at h2;cases hn:i-r.length with
   |zero=>
    rw[hn]at h1 h2;cases h1;cases h2
    match j,h3,h4 with
    |0,h3,h4=>cases h3;cases h4;exact .bt 1
    |1,h3,h4=>cases h3;cases h4;exact .ai _
    |2,h3,h4=>cases h3;cases h4;exact .ai _
    |3,h3,h4=>cases h3;cases h4;exact .ai _
    |n+4,h3,h4=>simp[vQ]at h3
   |succ n=>rw[hn]at h1;simp at h1
theorem l84:bs prog f84=some c84:=by kernel_rfl
theorem uC(l:List Obj)(hf:mF l)(e:Int):body prog c84 [cJ l,al .i64 e] [] (λr m=>∃r' m',View 0 ⟨[r],m⟩ ⟨[r'],m'⟩/\r'=xV (fH l e)/\m'=[]):=by
 have M0:(((l.map Obj.enc).length:Nat):Int)=(l.length:Int):=aD;have bad:∀(x:Int),fH l e=([],nL,x)->∃r' m',View 0 ⟨[CV.bG [.one .bt,.agg vQ,cK x]],[.var vQ]⟩ ⟨[r'],m'⟩/\r'=xV (fH l e)/\m'=[]:=by intro x hx;refine⟨_,_,View.o 1 [] [] (.put (vw3 (b:=nK []) (.one (.dG (.bt 9))) vwZ) .nil) (.nil _),?_,rfl⟩;rw[hx];rfl
 refine am (λh=>?_) (λh1=>?_)
 .exact bad 8 (by rw[fH,if_pos (.inl h)])
 refine am (λh=>?_) (λh2=>?_)
 .exact bad 8 (by rw[fH,if_pos (.inr (by rw[<-M0];exact h))])
 have h2:¬e>=(l.length:Int):=by rw[<-M0];exact h2
 obtain⟨k,rfl⟩:∃k:Nat,e=k:=⟨e.toNat,om⟩;have hk:k<l.length:=om;have hi:=wy hk;have qC:fH l (k:Int)=if l[k].ah≠4 then(([],nL,8):List Obj×cy×Int)else match l[k].aj with
   | []=>if l[k].aG<0\/l[k].aG>=l.length then([],nL,17)else match l[l[k].aG.toNat]? with
    |none=>([],nL,17)
    |some q=>if q.ah≠4 then([],nL,17)else([],nL,16)
   |x::r=>(l.set k {l[k]with aj:=r},x,0):=by
  rw[fH,if_neg om,aal,hi]
 have hg:cm (l.map Obj.enc) (k:Nat)=some (l[k].enc):=by rw[aU,Qu,hi];rfl
 have Ra:=hf.2 _ (aaR hk);generalize l[k]=o at qC hg hi Ra;obtain⟨ah,data,ag,target,aG,aj,aQ,ak,up⟩:=o;have hg:cm (l.map Obj.enc) (k:Nat)=some [.val (.int .i64 ah),.sl 1 data,.sl 2 ag,.val (.string target),.val (.int .i64 aG),.sl 4 (aj.map cy.enc),.val (.int .i64 aQ),.val (.int .i64 ak),.val (.int .i64 up)]:=hg;refine af hg ?_;refine bF (λh=>?_) (λh3=>?_)
 .exact bad 8 (by rw[qC,if_pos h])
 have h3:ah=4:=h3;rw[if_neg (by simpa using h3)]at qC
 simp only at qC;refine af hg ?_;cases aj with
 |nil=>
  simp only at qC;refine af hg ?_;refine am (λh=>?_) (λh4=>?_)
  .exact bad 17 (by rw[qC,if_pos (.inl h)])
  refine am (λh=>?_) (λh5=>?_)
  .exact bad 17 (by rw[qC,if_pos (.inr (by rw[<-M0];exact h))])
  have h5:¬aG>=(l.length:Int):=by rw[<-M0];exact h5
  have h4:¬aG<0:=h4;obtain⟨p,rfl⟩:∃p:Nat,aG=p:=⟨aG.toNat,om⟩;have hp:p<l.length:=om;have UM:=wy hp;rw[if_neg om,aal,UM]at qC;simp only at qC;have pq:cm (l.map Obj.enc) (p:Nat)=some (l[p].enc):=by rw[aU,Qu,UM];rfl
  generalize l[p]=q at qC pq;have pq:cm (l.map Obj.enc) (p:Nat)=some [.val (.int .i64 q.ah),.sl 1 q.data,.sl 2 q.ag,.val (.string q.target),.val (.int .i64 q.aG),.sl 4 (q.aj.map cy.enc),.val (.int .i64 q.aQ),.val (.int .i64 q.ak),.val (.int .i64 q.up)]:=pq;refine af pq ?_;refine bF (λh=>?_) (λh6=>?_)
  .exact bad 17 (by rw[qC,if_pos h])
  .exact bad 16 (by rw[qC,if_neg (by simpa using h6)])
 |cons x r=>
  simp only at qC;have I6:(x::r).length<=4194304:=Ra.2.2.1;refine xU l hf k ?_;rw[Om hi];have oH:dL (k:Int) (lenOf (eO k 2 0 l).length 0 none)=some k:=bJ (by simp[lenOf,nG];omega)
  have pd:=DW (Q:=2) hi;refine af oH ?_;refine af pd ?_;refine af oH ?_;refine af pd ?_;refine V4 x r (by simp at I6;omega) 2 rfl ?_
  refine af oH ?_;refine af pd ?_;refine⟨trivial,?_⟩;refine⟨xV (fH l k),[],View.o 4 [] [1,2] ?_ (.nil _),rfl,rfl⟩;rw[qC];refine .put (vw3 (.one (.dG ?_)) (ZJ x)) .nil;exact I4 (p:=k) (Q:=2) (l:=l) (q:=⟨ah,data,ag,target,aG,r,aQ,ak,up⟩) (c:= .row 2 4 0 (some r.length)) rfl (by rw[<-aW];rfl) (V5 (x:=x) rfl (by rw[<-aW];rfl))
theorem Sc(l:List Obj)(hf:mF l)(e:Int){m:Mem}{K:CV->Mem->Prop}(h:K (xV (fH l e)) m):ap prog 84 [cJ l,al .i64 e] m K:=by
 refine aR (K0:=λr m=>r=xV (fH l e)/\m=[]) (bK (aP func84 l84 (uC l hf e)) λr m1⟨r',m',hv,hp⟩=>⟨r',m',hv,hp⟩) (by simp[cJ,al,CV.cW,CC.cW,RV.cW]) λr m1 hr=>?_
 obtain⟨rfl,rfl⟩:=hr;exact⟨_,cH.self rfl,h⟩
def c26:LF:=Cq prog Tryz.f26 [] []
def c29:LF:=Cq prog Tryz.f29 [] []
def eX(l:List Int):List (List Dt):=l.map λb=>[.val (.int .u8 b)]
def mV(b:List Int)(n:Int):Int×List Int:=
 match b with
 | []=>(0,[])
 |x::r=>if n<1 then(0,x::r)else((IntKind.i64.wrap x).tmod n,r)
theorem l26:bs prog Tryz.f26=some c26:=by kernel_rfl
theorem K8(b:List Int)(n:Int):ap prog 26 [.rv (.one (.ptr 0 0)),al .i64 n] [.var [.ai (.sl 1 (eX b))]] (λr m=>r=al .i64 (mV b n).1/\m=[.var [.ai (.sl 1 (eX (mV b n).2))]]):=by
 refine aP func26 l26 ?_;cases b with
 |nil=>exact⟨rfl,rfl⟩
 |cons x r=>
  refine am (λh=>?_) (λh=>?_)
  .have e:mV (x::r) n=(0,x::r):=by rw[mV,if_pos h]
   rw[e];exact⟨rfl,rfl⟩
  .have e:mV (x::r) n=((IntKind.i64.wrap x).tmod n,r):=by rw[mV,if_neg h]
   rw[e];have hr:Dc .rem (.int .i64 (IntKind.i64.wrap x)) (.int .i64 n)=some (.int .i64 ((IntKind.i64.wrap x).tmod n)):=by have hn:decide (n=0)=false:=decide_eq_false om;simp[Dc,hn]
   refine af hr ?_;refine bV (by simp[eX,abR]) ?_
   refine⟨rfl,?_⟩;show [Bk.var [.ai (.sl 1 (((eX (x::r)).take (eX (x::r)).length).drop 1))]]=_;rw[abD];rfl
theorem xW{m:Mem}{id:Nat}{b:Bk}:dt m [id] [b]=aX m id b:=by simp only[dt,cf,ab9]
theorem Sd(b:List Int)(n:Int){m:Mem}{K:CV->Mem->Prop}(id:Nat)(hb:dh m id=some (.var [.ai (.sl 1 (eX b))]))(h:K (al .i64 (mV b n).1) (aX m id (.var [.ai (.sl 1 (eX (mV b n).2))]))):
  ap prog 26 [.rv (.one (.ptr id 0)),al .i64 n] m K:=by
 have hid:id<m.length:=by rw[aW]at hb;exact(Lw.1 hb).1
 refine be [id] m.length rfl rfl rfl (by simp[eh,hid]) (args0:=[.rv (.one (.ptr 0 0)),al .i64 n]) rfl (λi b' hi=>?_) (K8 b n) (λr1 m1 hr=>?_)
 .cases i with
  |zero=>
   simp at hi;subst hi;refine .inr ⟨λh=>h,_,?_,.eq rfl aD⟩
   rw[aW]at hb;exact hb
  |succ i=>simp at hi
 .obtain⟨rfl,rfl⟩:=hr;refine⟨aai _,?_⟩;show K (al .i64 (mV b n).1) (dt m [id] [.var [.ai (.sl 1 (eX (mV b n).2))]]);rw[xW];exact h
def ol(l:List Obj)(k ah:Int):Bool:=decide (k>=0)&&(decide (k<l.length)&&match l[k.toNat]? with|none=>false|some o=>o.ah !=0&&(ah==0||o.ah==ah))
theorem l29:bs prog Tryz.f29=some c29:=by kernel_rfl
def c27:LF:=Cq prog Tryz.f27 [] []
theorem l27:bs prog Tryz.f27=some c27:=by kernel_rfl
def c58:LF:=Cq prog f58 [] []
theorem l58:bs prog f58=some c58:=by kernel_rfl
theorem Se(l:List Obj)(k ah:Int):body prog c58 [cJ l,al .i64 k,al .i64 ah] [] (λr m=>r=aq (ol l k ah)):=by
 refine am (λh0=>?_) (λh0=>?_)
 .obtain⟨n,rfl⟩:∃n:Nat,k=n:=⟨k.toNat,om⟩;refine am (λh=>?_) (λh=>?_)
  .have ax:n<l.length:=by have h:(n:Int)<((l.map Obj.enc).length:Int):=h;rw[O9]at h;omega
   have hi:=wy ax;have hS:ol l (n:Int) ah=(l[n].ah !=0&&(ah==0||l[n].ah==ah)):=by simp[ol,ax]
   have hg:cm (l.map Obj.enc) (n:Nat)=some (l[n].enc):=by rw[aU,Qu,hi];rfl
   generalize l[n]=x at hS hg;have hg:cm (l.map Obj.enc) (n:Nat)=some [.val (.int .i64 x.ah),.sl 1 x.data,.sl 2 x.ag,.val (.string x.target),.val (.int .i64 x.aG),.sl 4 (x.aj.map cy.enc),.val (.int .i64 x.aQ),.val (.int .i64 x.ak),.val (.int .i64 x.up)]:=hg;refine af hg ?_;refine aA (λh1=>?_) (λh1=>?_)
   .refine aA (λh2=>?_) (λh2=>?_)
    .show aq _=aq _;rw[hS,h1,h2];rfl
    .refine af hg ?_;show aq _=aq _;rw[hS,h1,h2];rfl
   .show aq _=aq _;rw[hS,h1];rfl
  .have ef:¬n<l.length:=by have h:¬(n:Int)<((l.map Obj.enc).length:Int):=h;rw[O9]at h;omega
   have hS:ol l (n:Int) ah=false:=by simp[ol,ef]
   show aq _=aq _;rw[hS]
 .have hS:ol l k ah=false:=by have:decide (k>=0)=false:=decide_eq_false h0;simp[ol,this]
  show aq _=aq _;rw[hS]
theorem ZK(l:List Obj)(k ah:Int){m:Mem}{K:CV->Mem->Prop}(h:K (aq (ol l k ah)) m):ap prog 58 [cJ l,al .i64 k,al .i64 ah] m K:=
 bu func58 l58 rfl (aav rfl) (Se l k ah) rfl rfl h
end Go.Proofs.YtllkfpggoigbaaaGreatDoor
