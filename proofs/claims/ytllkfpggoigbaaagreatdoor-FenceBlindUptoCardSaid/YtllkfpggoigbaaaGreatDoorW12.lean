/- Part 12 of 23. -/
import Derived.Test.YtllkfpggoigbaaaGreatDoorW11
import Derived.Sort.Grow
import Derived.Test.YtllkfpggoigbaaaGreatDoorRows
set_option linter.unusedVariables false
set_option linter.unusedSimpArgs false
set_option maxRecDepth 100000
set_option maxHeartbeats 0
namespace Go.AM
section
variable {P:Program} {ρ:b9} {m:Mem} {w:World}
theorem Ax(w:World)(Pb:Nat)(f:Array Value->Array Value){b:Nat}(h:b≠Pb):(Sort.mapBlock w Pb f).heap[b]? =w.heap[b]? :=by simp only[Sort.mapBlock,ads];rw[if_neg (λe=>h e.symm)]
theorem Ay(w:World)(n Pb off:Nat)(F:Array Value):nR w (Sort.putRow id (Sort.ahead w n) Pb off F) Pb:=
 ⟨λb hb=>Ax _ _ _ hb,by simp[Sort.putRow,Sort.mapBlock,Sort.ahead],rfl,rfl,rfl⟩
theorem Hd{mk:Prop}{w:World}{Pb off:Nat}{cur:Array Value}(F:Array Value)(n:Nat)(h:nN mk w Pb cur):nN mk (Sort.putRow id (Sort.ahead w n) Pb off F) Pb (Sort.putCells id off F cur):=by
 obtain⟨ty,fr,hb,h1,h2,h3⟩:=h;refine⟨ty,fr,?_,h1,λi hi=>h2 i (by simpa[Sort.putCells]using hi),by simpa[Sort.putCells]using h3⟩
 have ay:Pb<w.heap.size:=(abG.1 hb).1;have e:(Sort.ahead w n).heap[Pb]? =some (.cells cur ty fr):=hb;simp only[Sort.putRow,Sort.mapBlock,ads,if_true,e,aaS,Sort.onCells]
theorem LU(hM:aN ρ m w){id esz:Nat}{rows nn:List (List CC)}{F:Array Value}(hb:m[id]? =some (.row esz rows))(dQ:0<rows.length)(hlen:nn.length=rows.length)(eu:∀cs,cs∈nn->cs.length=esz)(hF:F.size=rows.length*esz)(S4:∀cs,cs∈nn->∀c,c∈cs->∃d,c= .ai d)(cL:∀(i:Nat)cs(j:Nat)c,nn[i]? =some cs->cs[j]? =some c->bJ ρ w .none c F[i*esz+j]!)(n:Nat)(os:Array Obj):
  aN ρ (m.set id (.row esz nn)) (Sort.grow (Sort.putRow _root_.id (Sort.ahead w n) (ρ.aW (.aA id)).b (ρ.aW (.aA id)).aB F) os)/\
  Ext ρ m w ρ (m.set id (.row esz nn)) (Sort.grow (Sort.putRow _root_.id (Sort.ahead w n) (ρ.aW (.aA id)).b (ρ.aW (.aA id)).aB F) os):=by
 have hid:id<m.length:=(Mp.1 hb).1;obtain⟨h2,h3,h4,h5,DE⟩:=hM.bk id _ hb;have bF:0<(ρ.aW (.aA id)).cap:=om;obtain⟨cur,cC,h1,hd⟩:=DE bF;have hmul:rows.length*esz<=(ρ.aW (.aA id)).cap*esz:=acr _ om;have aa3:∀{i' j' Aj e},ir (m.set id (.row esz nn)) id i' j' Aj e->False:=by rintro i' j' Aj e ⟨es,Vx,R3,lY,fh,mg⟩;rw[aal hid]at lY;cases lY;obtain⟨d,hd⟩:=S4 _ (Wm fh) _ (Wm mg);cases hd
 obtain⟨oq,hX⟩:=hM.Zj (Jm:= .row esz nn) (w':=Sort.putRow _root_.id (Sort.ahead w n) (ρ.aW (.aA id)).b (ρ.aW (.aA id)).aB F) hb ⟨_,hb,aG,λ_=>bF⟩ (Ay w n _ _ F)
  (λg=>⟨by rw[hlen];exact h2,h3,h4,eu,λ_=>⟨_,Hd F n cC,by simpa[Sort.putCells]using h1,λi cs j c hi hj=>by
   have gH:j<esz:=by rw[<-eu cs (Wm hi)];exact(Mp.1 hj).1
   have NL:i<rows.length:=by rw[<-hlen];exact(Mp.1 hi).1
   have tw:i*esz+j<rows.length*esz:=by have:(i+1)*esz<=rows.length*esz:=acr _ om;rw[ade,adG]at this;omega
   have cP:=cL i cs j c hi hj;refine⟨F[i*esz+j]!,?_,(bJ.dg g aG cP).x9 _⟩;have hc:(ρ.aW (.aA id)).aB+i*esz+j<cur.size:=om;simp only[Sort.putCells,Array.getElem?_mapIdx,adv hc,aaS];rw[if_pos om];congr 2;show F[_]! =_;congr 1;omega⟩⟩)
  (λi j e1 e2 h=>(aa3 h).elim)
 have hW:fu (Sort.putRow _root_.id (Sort.ahead w n) (ρ.aW (.aA id)).b (ρ.aW (.aA id)).aB F) (Sort.grow (Sort.putRow _root_.id (Sort.ahead w n) (ρ.aW (.aA id)).b (ρ.aW (.aA id)).aB F) os):=
  ⟨λb hb=>Sort.heap_grow_old _ os hb,by simp[Sort.grow],rfl,rfl,rfl⟩
 obtain⟨El,qF⟩:=oq.JF hW;exact⟨El,hX.trans qF⟩
end
section
variable {P:Program}
theorem View.S7{n0:Nat}{e:List CV}{m:Mem}(id j esz n:Nat){cs:List CC}(hn:m.length=n)(hb:dp m id=some (.var cs))(hj:dp cs j=some .bv)(h0:Nat.ble n0 n=true):
  View n0 ⟨e,m⟩ ⟨e,gC (aZ m id (.var (aZ cs j (.row n esz 0 none)))) [.row esz []]⟩:=by
 subst hn;have h0:=aat h0;rw[aX]at hb hj;rw[br,br,cw];have hid:id<m.length:=(Mp.1 hb).1;have gH:j<cs.length:=(Mp.1 hj).1;refine⟨by simp;omega,rfl,λρ w hM=>?_⟩
 have hn:ρ.n=m.length:=hM.n;let U':b9:={n:=m.length+1,aW:=λk=>if k.id=m.length then⟨0,0,0,0⟩else ρ.aW k,S:=ρ.S}
 have da:∀k:lA,k.id<ρ.n->U'.aW k=ρ.aW k:=λk hk=>by simp only[U'];rw[if_neg om]
 have g:j7 ρ w U' w:=⟨by show ρ.n<=m.length+1;omega,da,λ_ h=>h,λ_ _=>rfl⟩
 have get:∀(k:Nat)b,(m.set id (.var (cs.set j (.row m.length esz 0 none)))++ [Bk.row esz []])[k]? =some b->(k<m.length/\k≠id/\m[k]? =some b)\/(k=id/\b= .var (cs.set j (.row m.length esz 0 none)))\/(k=m.length/\b= .row esz []):=by
  intro k b hk;rcases aaD k m.length with h|h
  .rw[aaM (by simpa using h)]at hk
   by_cases Sf:k=id
   .subst Sf;rw[aal hid]at hk;cases hk;exact .inr (.inl ⟨rfl,rfl⟩)
   .rw[aap (λe=>Sf e.symm)]at hk
    exact .inl ⟨h,Sf,hk⟩
  .have ay:=(Mp.1 hk).1;simp at ay;have:k=m.length:=om;subst this;rw[aaO aG]at hk;simp at hk;exact .inr (.inr ⟨rfl,hk.symm⟩)
 have dj:∀k,Live U' (m.set id (.var (cs.set j (.row m.length esz 0 none)))++ [.row esz []]) k->Live ρ m k:=by
  intro k hk;cases k with
  |aA i=>
   obtain⟨bk,gV,s9,bF⟩:=hk;rcases get i bk gV with⟨h1,h2,h3⟩|⟨rfl,rfl⟩|⟨rfl,rfl⟩
   .rw[da (.aA i) (by simp only[lA.id];omega)]at bF
    exact⟨bk,h3,s9,bF⟩
   .exact⟨_,hb,aG,aG⟩
   .have:=bF ⟨_,_,rfl⟩;simp[U',lA.id]at this
  |sub i x y=>
   obtain⟨⟨s,el,es,rows,c2,gV,hi,su⟩,bF⟩:=hk;rcases get i _ gV with⟨h1,h2,h3⟩|⟨rfl,h⟩|⟨rfl,h⟩
   .rw[da (.sub i x y) (by simp only[lA.id];omega)]at bF
    exact⟨⟨s,el,es,rows,c2,h3,hi,su⟩,bF⟩
   .cases h
   .cases h;simp at hi
 have lm:∀k,Live ρ m k->U'.aW k=ρ.aW k:=λk hk=>da k (by rw[hn];exact hk.it)
 refine⟨U',⟨by simp[U'],hM.S,λk hk=>?_,λk k' hk jd o7=>?_,λi b hbi=>?_,λi x y s el ho bF=>?_⟩,⟨λi hi=>da (.aA i) (by simp only[lA.id];omega),λ_ h=>h,λ_ h=>.inl h,λk hk=>⟨k,dj k hk,(by rw[lm k (dj k hk)])⟩⟩,λi c' hi=>⟨c',hi,λv hd=>cG.dg g hd⟩⟩
 .rw[lm k (dj k hk)];exact hM.aF k (dj k hk)
 .rw[lm k (dj k hk),lm k' (dj k' jd)]at o7;exact hM.inj k k' (dj k hk) (dj k' jd) o7
 .rcases get i b hbi with⟨h1,h2,h3⟩|⟨rfl,rfl⟩|⟨rfl,rfl⟩
  .exact(hM.bk i b h3).dg g om λ_ _=>rfl
  .obtain⟨cur,cC,hc⟩:=hM.bk i _ hb;rw[show ft U' w i (.var (cs.set j (.row m.length esz 0 none)))=(∃cur,nN True w (U'.aW (.aA i)).b cur/\∀(j':Nat)c,(cs.set j (.row m.length esz 0 none))[j']? =some c->∃u,cur[(U'.aW (.aA i)).aB+j']? =some u/\bJ U' w .none c u)from rfl,da (.aA i) (by simp only[lA.id];omega)]
   refine⟨cur,cC,λj' c su=>?_⟩
   rw[acy]at su;split at su
   .rename_i hjj;subst hjj;cases su;obtain⟨u,hu,hd⟩:=hc j _ hj;obtain⟨a,rfl⟩:=hd;exact⟨_,hu,by simp[bJ,U',lA.id]⟩
   .obtain⟨u,hu,hd⟩:=hc j' c su;exact⟨u,hu,bJ.dg g aG hd⟩
  .simp[ft,U',lA.id]
 .have hk:Live ρ m (.sub i x y):=dj (.sub i x y) ⟨⟨_,_,ho⟩,bF⟩;have afu:=hk.it;simp only[lA.id]at afu;rw[lm _ hk]at bF|-;obtain⟨es,rows,c2,gV,hi,su⟩:=ho;rcases get i _ gV with⟨h1,h2,h3⟩|⟨rfl,h⟩|⟨rfl,h⟩
  .obtain⟨cur,hc,q1,q2,q3⟩:=hM.jj i x y s el ⟨es,rows,c2,h3,hi,su⟩ bF;exact⟨cur,hc,q1,q2,q3⟩
  .cases h
  .cases h;simp at hi
end
end Go.AM
namespace Go.Proofs.YtllkfpggoigbaaaGreatDoor
open Proofs.Tryz
open Go.AM Go.ChangeShapes Go.WideShapes Go.ChangeAt Go.RowKit
def c107:LF:=Cq prog f107 [] []
def c138:LF:=Cq prog f138 [] []
theorem js{n:Int}(h1: -9223372036854775808<=n)(h2:n<=9223372036854775807):IntKind.i64.wrap n=n:=IntWalk.i64_in n om
structure cJ where
 data:List (List Dt)
 has:Bool
 ct:Int
 rts:Int
def cJ.enc(m:cJ):List Dt:=[.sl 1 m.data,.val (.bool m.has),.val (.int .i64 m.ct),.val (.int .i64 m.rts)]
structure Obj where
 ah:Int
 data:List (List Dt)
 ag:List (List Dt)
 target:ByteArray
 aI:Int
 aj:List cJ
 aQ:Int
 ak:Int
 up:Int
def Obj.enc(o:Obj):List Dt:=[.val (.int .i64 o.ah),.sl 1 o.data,.sl 2 o.ag,.val (.string o.target),.val (.int .i64 o.aI),.sl 4 (o.aj.map cJ.enc),.val (.int .i64 o.aQ),.val (.int .i64 o.ak),.val (.int .i64 o.up)]
abbrev dJ(o:Obj)(c:CC)(L U:Int):List CC:=[.ai (.val (.int .i64 o.ah)),.ai (.sl 1 o.data),c,.ai (.val (.string o.target)),.ai (.val (.int .i64 o.aI)),.ai (.sl 4 (o.aj.map cJ.enc)),.ai (.val (.int .i64 o.aQ)),.ai (.val (.int .i64 L)),.ai (.val (.int .i64 U))]
def cJ.cv(m:cJ):CV:= .rv (.agg (m.enc.map .ai))
def Obj.cv(o:Obj):CV:= .rv (.agg (o.enc.map .ai))
def cX(l:List Obj):Dt:= .sl 9 (l.map Obj.enc)
def cQ(l:List Obj):CV:= .rv (.one (.ai (cX l)))
def Obj.pZ(o:Obj):Prop:=o.data.length<=4194304/\o.ag.length<=4194304/\o.aj.length<=4194304/\∀q,q∈o.aj->q.data.length<=4194304
def m8(l:List Obj):Prop:=l.length<=4194304/\∀o,o∈l->o.pZ
theorem l107:bA prog f107=some c107:=by kernel_rfl
theorem l138:bA prog f138=some c138:=by kernel_rfl
def tP(esz:Nat)(d:List (List Dt)):CV:= .rv (.one (.ai (.sl esz d)))
theorem Ey(d:List (List Dt))(hb:d.length<=4194304):body prog c107 [tP 1 d] [] (λr m=>cM m r (tP 1 d)):=by
 have ns:((([]:List (List CC)).length+(d.map λds=>ds.map CC.ai).length)*1)<=140737488355328:=by simp;omega
 refine aC (λh=>?_) (λh=>?_)
 .have hd:d=[]:=aaW (by simpa using aaX h)
  subst hd;exact⟨.rv (.one (.bv 1)),ns,.rv (.one (eF.db rfl 0 none))⟩
 .exact⟨ns,.rv (.one (eF.db rfl 0 none))⟩
theorem ju(d:List (List Dt))(hb:d.length<=4194304){m:Mem}{K:CV->Mem->Prop}(h:K (tP 1 d) m):aq prog 107 [tP 1 d] m K:=
 aT (aR func107 l107 (Ey d hb)) (by simp[tP,CV.cY,CC.cY]) λr m1 hf=>⟨_,hf,h⟩
theorem Ez(d:List (List Dt))(hb:d.length<=4194304):body prog c138 [tP 2 d] [] (λr m=>cM m r (tP 2 d)):=by
 have ns:((([]:List (List CC)).length+(d.map λds=>ds.map CC.ai).length)*24)<=140737488355328:=by simp;omega
 refine aC (λh=>?_) (λh=>?_)
 .have hd:d=[]:=aaW (by simpa using aaX h)
  subst hd;exact⟨.rv (.one (.bv 2)),ns,.rv (.one (eF.db rfl 0 none))⟩
 .exact⟨ns,.rv (.one (eF.db rfl 0 none))⟩
theorem vf(d:List (List Dt))(hb:d.length<=4194304){m:Mem}{K:CV->Mem->Prop}(h:K (tP 2 d) m):aq prog 138 [tP 2 d] m K:=
 aT (aR func138 l138 (Ez d hb)) (by simp[tP,CV.cY,CC.cY]) λr m1 hf=>⟨_,hf,h⟩
def tQ(p Q k:Nat)(o:Obj):List CC:=[.ai (.val (.int .i64 o.ah)),.ai (.sl 1 o.data),.ai (.sl 2 o.ag),.ai (.val (.string o.target)),.ai (.val (.int .i64 o.aI)),
 (if k=p then .row Q 4 0 none else .ai (.sl 4 (o.aj.map cJ.enc))),.ai (.val (.int .i64 o.aQ)),.ai (.val (.int .i64 o.ak)),.ai (.val (.int .i64 o.up))]
def fp(p Q:Nat):Nat->List Obj->List (List CC)
 |_,[]=>[]
 |k,o::r=>tQ p Q k o::fp p Q (k+1) r
theorem tR(p Q:Nat):∀(a:List Obj)(k:Nat)(b:List Obj),fp p Q k (a++b)=fp p Q k a++fp p Q (k+a.length) b
 | [],k,b=>rfl
 |o::r,k,b=>by simp[fp,tR p Q r (k+1) b,acL,Nat.add_comm 1]
theorem ox(p Q:Nat):∀(l:List Obj)(k:Nat),(fp p Q k l).length=l.length
 | [],_=>rfl
 |o::r,k=>by simp[fp,ox p Q r (k+1)]
theorem sH(p Q:Nat):∀(l:List Obj)(k:Nat),(p<k\/k+l.length<=p)->fp p Q k l=aa (l.map Obj.enc)
 | [],_,_=>rfl
 |o::r,k,h=>by simp only[aaY]at h;have hk:¬k=p:=om;simp only[fp,tQ,if_neg hk,sH p Q r (k+1) om];rfl
theorem vg(p Q:Nat):∀(l:List Obj)(k i:Nat),(fp p Q k l)[i]? =(l[i]?).map (tQ p Q (k+i))
 | [],k,i=>by simp[fp]
 |o::r,k,0=>by simp[fp]
 |o::r,k,i+1=>by
  simp only[fp,adF,vg p Q r (k+1) i];rw[show k+1+i=k+(i+1) by omega]
theorem Pc{Y:Nat->Nat}{p Q k:Nat}(o:Obj):(tQ p Q k o).map (CC.aO Y)=tQ p (Y Q) k o:=by
 by_cases h:k=p<;>simp[tQ,h,CC.aO]
theorem mi{Y:Nat->Nat}(p Q:Nat):∀(l:List Obj)(k:Nat),(fp p Q k l).map (λcs=>cs.map (CC.aO Y))=fp p (Y Q) k l
 | [],_=>rfl
 |o::r,k=>by simp only[fp,ac6,mi p Q r (k+1)];rw[Pc]
def c108:LF:=Cq prog f108 [] [[(.cons 0 none (.cons 1 none (.cons 3 none (.cons 4 none (.cons 2 (some [4]) (.cons 6 none (.cons 5 (some []) (.cons 7 (some []) (.cons 8 none (.cons 9 (some []) .nil))))))))))]]
def quO(l:List Obj)(p:Nat):List cJ:=match l[p]? with|some o=>o.aj|none=>[]
def CE(l:List Obj)(p k:Nat):Bk:=match Nat.blt p k with|true=>.row 4 (aa ((quO l p).map cJ.enc))|false=>.aE
theorem xF{Y:Nat->Nat}(l:List Obj)(p k:Nat):(CE l p k).aO Y=CE l p k:=by
 unfold CE;split
 .exact Bk.eQ _ _
 .rfl
theorem nt{α:Type}{l:List α}{i:Nat}{s:α}(h:l[i]? =some s):l.take (i+1)=l.take i++ [s]:=by rw[adr,h];rfl
theorem bU(a b:List (List Dt)):aa (a++b)=aa a++aa b:=by simp[aa]
theorem yG{p Q:Nat}{l:List Obj}{k:Nat}{o:Obj}(h:l[k]? =some o):fp p Q 0 (l.take (k+1))=fp p Q 0 (l.take k)++ [tQ p Q k o]:=by have hk:=(Mp.1 h).1;rw[nt h,tR,abg,ael om,acA];rfl
theorem l108:bA prog f108=some c108:=by kernel_rfl
theorem Pd(l:List Obj)(hf:m8 l)(p:Nat):body prog c108 [cQ l] [] (λr m=>r= .rv (.one (.row 0 9 0 none))/\m=[.row 9 (fp p 1 0 l),CE l p l.length]):=by
 obtain⟨hl,Ox⟩:=hf;refine ax (λk=>k<=l.length) [0,9,10] (λk=>[(11,am .i64 (k:Nat)),(3,.rv (.one (.row 0 9 0 none)))]) (λk=>[.row 9 (fp p 1 0 (l.take k)),CE l p k]) (λk=>l.length-k) 0 (aad _) ?_ (λk hk=>?_)
 .refine View.trans (View.bv 2 4 0 rfl rfl rfl) (View.trans (View.bv 3 9 1 rfl rfl rfl) (View.o1 2 [1,0] [] ?_))
  .exact .put (by simp[bh]) rfl (.eq rfl aG) (.aE (.nil _))
 .refine an (λh=>?_) (λh=>?_)
  .have ay:k<l.length:=by have h:(k:Int)<((l.map Obj.enc).length:Int):=h;rw[P2]at h;omega
   have hi:=xm ay;have Sg:=Ox _ (aaP ay);have hg:cH (l.map Obj.enc) (k:Nat)=some (l[k].enc):=by rw[aY,Rn,xm ay];rfl
   generalize l[k]=o at hi Sg hg;obtain⟨ah,data,ag,target,aI,aj,aQ,ak,up⟩:=o;obtain⟨Pe,NO,VN,NP⟩:=Sg;have Pe:data.length<=4194304:=Pe;have NO:ag.length<=4194304:=NO;have VN:aj.length<=4194304:=VN;have NP:∀q,q∈aj->q.data.length<=4194304:=NP;have hg:cH (l.map Obj.enc) (k:Nat)=some [.val (.int .i64 ah),.sl 1 data,.sl 2 ag,.val (.string target),.val (.int .i64 aI),.sl 4 (aj.map cJ.enc),.val (.int .i64 aQ),.val (.int .i64 ak),.val (.int .i64 up)]:=hg;refine af hg ?_;refine ju data Pe ?_;refine⟨⟨rfl,trivial⟩,?_⟩;refine vf ag NO ?_;refine⟨trivial,?_⟩;refine⟨trivial,?_⟩;refine⟨trivial,?_⟩;refine ax (λj=>j<=aj.length) [0,3,5,9,10,11,24,25] (λj=>[(26,am .i64 (j:Nat)),(6,.rv (.one (.row 3 4 0 none)))])
    (λj=>[.row 9 (fp p 1 0 (l.take k)),CE l p k,.var ((⟨ah,data,ag,target,aI,aj,aQ,ak,up⟩:Obj).enc.map .ai),.row 4 (aa ((aj.take j).map cJ.enc))]) (λj=>aj.length-j) 0 (aad _) ?_ (λj hj=>?_)
   .refine View.trans (View.bv 6 4 3 rfl rfl rfl) (View.o1 4 [0,1,2,3] [] ?_)
    .exact .pt rfl rfl (.eq (congrArg (Bk.row 9) (mi p 1 _ _)) aG) (.Bm (fR rfl) rfl (xF l p k) (.pe rfl rfl rfl (.pn rfl rfl rfl)))
   .have hj:j<=aj.length:=hj;refine an (λh=>?_) (λh=>?_)
    .have bV:j<aj.length:=by have h:(j:Int)<((aj.map cJ.enc).length:Int):=h;rw[P2]at h;omega
     have As:=xm bV;have LV:=NP _ (aaP bV);generalize aj[j]=q at As LV;obtain⟨qd,qh,qo,qr⟩:=q;have qn:cH (aj.map cJ.enc) (j:Nat)=some [.sl 1 qd,.val (.bool qh),.val (.int .i64 qo),.val (.int .i64 qr)]:=by rw[aY,Rn,As];rfl
     refine af qn ?_;refine ju qd LV ?_;refine⟨?_,?_⟩
     .show((aa ((aj.take j).map cJ.enc)).length+1)*48<=_;simp[aa];omega
     refine⟨j+1,bV,(show aj.length-(j+1)<aj.length-j by omega),View.o2 7 [0,1,2,6] [] ?_⟩
     .refine .pt rfl rfl (.eq (congrArg (Bk.row 9) (mi p 1 _ _)) aG) (.Bm (fR rfl) rfl (xF l p k) (.pe rfl rfl rfl (.pt rfl rfl (.bg ?_) (.nil _))));rw[nt As,abT,bU];rfl
    .have eO:¬(j:Int)<((aj.map cJ.enc).length:Int):=h;rw[P2]at eO;have hq:aj.take j=aj:=adm om;refine⟨?_,?_⟩
     .show((fp p 1 0 (l.take k)).length+1)*128<=_;rw[ox];simp;omega
     by_cases WU:k=p
     .subst WU;have hR:∀Q,fp k Q 0 (l.take k)=aa ((l.take k).map Obj.enc):=λQ=>sH k Q _ 0 (.inr (by simp;omega))
      have Xk:CE l k (k+1)= .row 4 (aa ((aj.take j).map cJ.enc)):=by
       have:Nat.blt k (k+1)=true:=by rw[adw];omega
       simp only[CE,this,quO,hi,hq]
      refine⟨k+1,ay,(show l.length-(k+1)<l.length-k by omega),View.o2 6 [5,3] [] ?_⟩
      .rw[yG hi,Xk];refine .pt rfl rfl (.ve ?_ rfl ?_) (.pn rfl rfl rfl)
       .rw[mi,hR,hR];rfl
       .intro j c c' h1 h2;have e5:tQ k 1 k ⟨ah,data,ag,target,aI,aj,aQ,ak,up⟩=[.ai (.val (.int .i64 ah)),.ai (.sl 1 data),.ai (.sl 2 ag),.ai (.val (.string target)),.ai (.val (.int .i64 aI)),.row 1 4 0 none,.ai (.val (.int .i64 aQ)),.ai (.val (.int .i64 ak)),.ai (.val (.int .i64 up))]:=by simp[tQ]
        rw[e5]at h2
        match j,h1,h2 with
        |0,h1,h2=>cases h1;cases h2;exact .aO (.ai _)
        |1,h1,h2=>cases h1;cases h2;exact .aO (.ai _)
        |2,h1,h2=>cases h1;cases h2;exact .aO (.ai _)
        |3,h1,h2=>cases h1;cases h2;exact .aO (.ai _)
        |4,h1,h2=>cases h1;cases h2;exact .aO (.ai _)
        |5,h1,h2=>cases h1;cases h2;exact .aO (.row 1 4 0 none)
        |6,h1,h2=>cases h1;cases h2;exact .aO (.ai _)
        |7,h1,h2=>cases h1;cases h2;exact .aO (.ai _)
        |8,h1,h2=>cases h1;cases h2;exact .aO (.ai _)
        |n+9,h1,h2=>simp at h1
     .have Xk:CE l p (k+1)=CE l p k:=by
       have:Nat.blt p (k+1)=Nat.blt p k:=by rw[aeX,adw,adw];omega
       simp only[CE,this]
      refine⟨k+1,ay,(show l.length-(k+1)<l.length-k by omega),View.o2 6 [5,1] [3] ?_⟩
      .rw[yG hi,Xk];refine .pt rfl rfl (.ve (mi p 1 _ _) rfl ?_) (.Bm (fR rfl) rfl (xF l p k) (.nil _));intro j' c c' h1 h2;have e5:tQ p 1 k ⟨ah,data,ag,target,aI,aj,aQ,ak,up⟩=[.ai (.val (.int .i64 ah)),.ai (.sl 1 data),.ai (.sl 2 ag),.ai (.val (.string target)),.ai (.val (.int .i64 aI)),.ai (.sl 4 ((aj.take j).map cJ.enc)),.ai (.val (.int .i64 aQ)),.ai (.val (.int .i64 ak)),.ai (.val (.int .i64 up))]:=by simp[tQ,WU,hq]
       rw[e5]at h2
       match j',h1,h2 with
       |0,h1,h2=>cases h1;cases h2;exact .aO (.ai _)
       |1,h1,h2=>cases h1;cases h2;exact .aO (.ai _)
       |2,h1,h2=>cases h1;cases h2;exact .aO (.ai _)
       |3,h1,h2=>cases h1;cases h2;exact .aO (.ai _)
       |4,h1,h2=>cases h1;cases h2;exact .aO (.ai _)
       |5,h1,h2=>cases h1;cases h2;exact .dO (cV.db (Z:=λk=>bh [3] k=true) rfl (by rw[<-aX];rfl) 0 none)
       |6,h1,h2=>cases h1;cases h2;exact .aO (.ai _)
       |7,h1,h2=>cases h1;cases h2;exact .aO (.ai _)
       |8,h1,h2=>cases h1;cases h2;exact .aO (.ai _)
       |n+9,h1,h2=>simp at h1
  .have eO:¬(k:Int)<((l.map Obj.enc).length:Int):=h;rw[P2]at eO;have ef:k=l.length:=by have:k<=l.length:=hk;omega
   subst ef;rw[abo];exact⟨rfl,rfl⟩
theorem yH(l:List Obj)(hf:m8 l)(p:Nat){m:Mem}{K:CV->Mem->Prop}(h:K (.rv (.one (.row m.length 9 0 none))) (m++ [.row 9 (fp p (m.length+1) 0 l),CE l p l.length])):aq prog 108 [cQ l] m K:=by
 refine bi [] m.length rfl rfl rfl rfl rfl (λi b' hi=>by simp at hi) (aR func108 l108 (Pd l hf p)) (λr m1 hr=>?_)
 obtain⟨h1,h2⟩:=hr;subst h1;subst h2;refine⟨aad _,?_⟩;show K (.rv (.one (.row (m.length+(0-0)) 9 0 none))) (gC m [.row 9 ((fp p 1 0 l).map (λcs=>cs.map (CC.aO (sg [] m.length)))),(CE l p l.length).aO (sg [] m.length)])
 rw[mi,xF,cw];exact h
def c121:LF:=Cq prog f121 [] []
def c131:LF:=Cq prog f131 [] []
def c148:LF:=Cq prog f148 [] []
def p4{α:Type}(q:α->Bool)(l:List α):Int:=match l.findIdx? q with|some k=>(k:Int)|none=>-1
theorem mH{α:Type}{q:α->Bool}{l:List α}{k:Nat}(h:k<l.length)(hq:q l[k]=true)(hb:∀(j:Nat)s,j<k->l[j]? =some s->q s=false):p4 q l=k:=by
 have:l.findIdx? q=some k:=by rw[abw];exact⟨h,hq,λj hj=>by simpa using hb j _ hj (xm om)⟩
 rw[p4,this]
theorem oy{α:Type}{q:α->Bool}{l:List α}(hb:∀(j:Nat)s,l[j]? =some s->q s=false):p4 q l= -1:=by
 have:l.findIdx? q=none:=by rw[ady];intro s hs;obtain⟨i,hi⟩:=aag hs;simpa using hb i s hi
 rw[p4,this]
theorem tS{α:Type}(q:α->Bool)(l:List α):decide (p4 q l>=0)=l.any q:=by
 unfold p4;cases h:l.findIdx? q with
 |none=>
  rw[ady]at h;have:l.any q=false:=by simpa using h
  rw[this];rfl
 |some k=>
  obtain⟨h1,h2,_⟩:=abw.1 h;have:l.any q=true:=acf.2 ⟨_,aaP h1,h2⟩;rw[this];exact decide_eq_true aG
theorem l121:bA prog f121=some c121:=by kernel_rfl
theorem l131:bA prog f131=some c131:=by kernel_rfl
theorem l148:bA prog f148=some c148:=by kernel_rfl
theorem CF(l:List Obj)(hb:l.length<=4194304)(F:Nat)(q:Obj->Bool)(hF:∀s,s∈l->∀K:CV->Mem->Prop,K (ar (q s)) []->aq prog F [s.cv] [] K):body prog c131 [cQ l,(.rv (.one (.fn F [])))] [] (λr m=>r=am .i64 (p4 q l)):=by
 refine ax (λk=>k<=l.length/\∀(j:Nat)s,j<k->l[j]? =some s->q s=false) [0,1,7] (λk=>[(8,am .i64 (k:Nat))]) (λ_=>[]) (λk=>l.length-k) 0 ⟨aad _,λj s h=>absurd h (abq j)⟩ ?_ (λk hk=>?_)
 .refine View.o1 0 [] [] ?_
  .exact .nil _
 .refine an (λh=>?_) (λh=>?_)
  .have ay:k<l.length:=by have h:(k:Int)<((l.map Obj.enc).length:Int):=h;rw[P2]at h;omega
   have hg:cH (l.map Obj.enc) (k:Nat)=some (l[k].enc):=by rw[aY,Rn,xm ay];rfl
   refine af hg ?_;refine hF l[k] (aaP ay) _ ?_;refine aC (λh=>?_) (λh=>?_)
   .rw[mH ay h hk.2];exact rfl
   .refine⟨k+1,⟨ay,λj s hj hs=>?_⟩,(show l.length-(k+1)<l.length-k by omega),View.o 0 [] [] ?_ ?_⟩
    .rcases aaD j k with h5|h5
     .exact hk.2 j s h5 hs
     .have:j=k:=om;subst this;rw[xm ay]at hs;cases hs;exact h
    .repeat(first|exact .nil|refine .aL ?_|refine .put (.aO (bC om).symm) ?_|refine .eq rfl ?_)
    .exact .nil _
  .have eO:¬(k:Int)<((l.map Obj.enc).length:Int):=h;rw[P2]at eO;rw[oy λj s hs=>hk.2 j s (by have:=(Mp.1 hs).1;omega) hs]
   exact rfl
theorem He(l:List Obj)(hb:l.length<=4194304)(F:Nat)(q:Obj->Bool)(hF:∀s,s∈l->∀K:CV->Mem->Prop,K (ar (q s)) []->aq prog F [s.cv] [] K){m:Mem}{K:CV->Mem->Prop}(h:K (am .i64 (p4 q l)) m):aq prog 131 [cQ l,.rv (.one (.fn F []))] m K:=
 bH func131 l131 rfl (aat rfl) (CF l hb F q hF) rfl rfl h
theorem Xl(s:Obj)(K:CV->Mem->Prop)(h:K (ar (s.ah==0)) []):aq prog 148 [s.cv] [] K:=
 bH func148 l148 rfl (aat rfl) (show body prog c148 [s.cv] [] (λr m=>r=ar (s.ah==0))from rfl) rfl rfl h
theorem JI(l:List Obj)(hf:m8 l){m:Mem}{K:CV->Mem->Prop}(h:K (.rv (.one (.row m.length 9 0 none))) (m++ [.row 9 (aa (l.map Obj.enc)),.aE])):aq prog 108 [cQ l] m K:=by
 refine yH l hf l.length ?_;have h1:CE l l.length l.length= .aE:=by
  have:Nat.blt l.length l.length=false:=by
   cases hb:Nat.blt l.length l.length with
   |false=>rfl
   |true=>rw[adw]at hb;omega
  simp only[CE,this]
 rw[sH _ _ _ _ (.inr om),h1];exact h
def cR(n:Int):RV:= .one (.ai (.val (.int .i64 n)))
def aH(l:List Obj)(o:Obj):List Obj×Int×Int:=
 match l.findIdx? (λx=>x.ah==0)with
 |some k=>(l.set k o,k,0)
 |none=>if l.length>=40 then([],0,15)else(l++ [o],l.length,0)
def VO(l:List Obj)(o:Obj)(r:CV)(m:Mem):Prop:=
 ((aH l o).2.2=15/\r= .bI [.one .bv,cR (aH l o).2.1,cR (aH l o).2.2]/\m=[])\/
 ((aH l o).2.2=0/\r= .bI [.one (.row 0 9 0 none),cR (aH l o).2.1,cR (aH l o).2.2]/\m=[.row 9 (aa ((aH l o).1.map Obj.enc))])
theorem Bo(l:List Obj)(k:Nat)(o:Obj):(aa (l.map Obj.enc)).set k (o.enc.map .ai)=aa ((l.set k o).map Obj.enc):=by simp[aa,acF]
theorem Bp(l:List Obj){k:Nat}(h:k<l.length):dp (aa (l.map Obj.enc)) k=some (l[k].enc.map .ai):=by rw[aX];simp[aa,h]
theorem LW(l:List Obj)(hf:m8 l)(o:Obj):body prog c121 [cQ l,o.cv] [] (λr m=>∃r' m',View 0 ⟨[r],m⟩ ⟨[r'],m'⟩/\VO l o r' m'):=by
 have hl:=hf.1;refine He l hl 148 (λx=>x.ah==0) (λs _ K hs=>Xl s K hs) ?_
 have hlen:(aa (l.map Obj.enc)).length=l.length:=by simp[aa]
 cases hk:l.findIdx? (λx=>x.ah==0)with
 |some k=>
  have hi:p4 (λx:Obj=>x.ah==0) l=(k:Int):=by rw[p4,hk]
  have ef:k<l.length:=(abw.1 hk).1;have hm:aH l o=(l.set k o,(k:Int),0):=by rw[aH,hk]
  rw[hi];refine JI l hf ?_;refine yx (by simp[hlen,lenOf];omega) ?_
  refine af (bL (k:=k) (by simp[hlen,lenOf];omega)) ?_
  refine af (x:=l[k].enc.map .ai) (by simpa[gl]using Bp l ef) ?_
  refine⟨.bI [.one (.row 0 9 0 none),cR k,cR 0],[.row 9 (aa ((l.set k o).map Obj.enc))],View.o 3 [1] [] ?_ ?_,.inr ?_⟩
  .exact .eq rfl .nil
  .refine .pt rfl rfl (.bg ?_) (.nil _);rw[<-Bo];simp[br,gl,Obj.enc]
  .rw[hm];exact⟨rfl,rfl,rfl⟩
 |none=>
  have hi:p4 (λx:Obj=>x.ah==0) l= -1:=by rw[p4,hk]
  rw[hi];refine an (λh=>?_) (λh=>?_)
  .have h:l.length>=40:=by have h:(((l.map Obj.enc).length:Nat):Int)>=40:=h;rw[P2]at h;omega
   have hm:aH l o=([],0,15):=by rw[aH,hk];simp only;rw[if_pos h]
   refine⟨.bI [.one .bv,cR 0,cR 15],[],View.o 1 [] [] ?_ (.nil _),.inl ?_⟩
   .exact .eq rfl .nil
   .rw[hm];exact⟨rfl,rfl,rfl⟩
  .have h:¬l.length>=40:=by have h:¬(((l.map Obj.enc).length:Nat):Int)>=40:=h;rw[P2]at h;omega
   have hm:aH l o=(l++ [o],(l.length:Int),0):=by rw[aH,hk];simp only;rw[if_neg h]
   refine JI l hf ?_;refine bS (by simp[hlen,lenOf]) ?_
   refine⟨by simp[hlen,bt];omega,?_⟩
   have NQ:(l.map Obj.enc).length=l.length:=aG;refine af (bL (k:=(l.map Obj.enc).length) (by simp[hlen,lenOf,bt])) ?_
   refine af (x:=[.ai (.val (.int .i64 0)),.bv,.bv,.ai (.val (.string ⟨#[]⟩)),.ai (.val (.int .i64 0)),.bv,.ai (.val (.int .i64 0)),.ai (.val (.int .i64 0)),.ai (.val (.int .i64 0))]) (by simp[aX,hlen,bt,gl]) ?_
   refine⟨.bI [.one (.row 0 9 0 none),cR (((l.map Obj.enc).length:Nat):Int),cR 0],[.row 9 (aa ((l++ [o]).map Obj.enc))],View.o 5 [4] [] ?_ ?_,.inr ?_⟩
   .exact .eq rfl .nil
   .refine .pt rfl rfl (.bg ?_) (.nil _);rw[abT,bU];simp only[br,gl,bt];rw[NQ,<-hlen];rw[adT _ _ (aah _),aea];rfl
   .rw[hm];refine⟨rfl,?_,rfl⟩;rw[NQ]
theorem Bq(l:List Obj)(hf:m8 l)(o:Obj):aq prog 121 [cQ l,o.cv] [] (VO l o):=
 bP (aR func121 l121 (LW l hf o)) λr m1⟨r',m',hv,hp⟩=>⟨r',m',hv,hp⟩
def oz(l:List Obj):RV:= .one (.ai (cX l))
theorem kL{m:Mem}{a b c d:RV}{x:Int}(h:dK m a b)(hc:dK m c d):cM m (.bI [a,c,cR x]) (.bI [b,d,cR x]):=by
 refine .bI rfl λi r r' h1 h2=>?_
 match i,h1,h2 with
 |0,h1,h2=>cases h1;cases h2;exact h
 |1,h1,h2=>cases h1;cases h2;exact hc
 |2,h1,h2=>cases h1;cases h2;exact dK.self rfl
theorem CG(l:List Obj)(hf:m8 l)(o:Obj){m:Mem}{K:CV->Mem->Prop}(h:K (.bI [oz (aH l o).1,cR (aH l o).2.1,cR (aH l o).2.2]) m):aq prog 121 [cQ l,o.cv] m K:=by
 refine aT (Bq l hf o) (by simp[cQ,Obj.cv,CV.cY,CC.cY,RV.cY]) λr m1 hp=>?_
 rcases hp with⟨h1,rfl,rfl⟩|⟨h1,rfl,rfl⟩
 .have h2:(aH l o).1=[]:=by
   unfold aH at h1|-;split at h1
   .simp at h1
   .split at h1
    .rename_i hc;rw[if_pos hc]
    .simp at h1
  refine⟨_,kL (.one (.bv 9)) (dK.self rfl),?_⟩;rw[h2]at h;exact h
 .refine⟨_,kL (.one (eF.db rfl 0 none)) (dK.self rfl),?_⟩;exact h
theorem Pf(l:List Obj)(hf:m8 l)(o:Obj){m:Mem}{K:CV->Mem->Prop}(h1:(aH l o).2.2=15->K (.bI [.one .bv,cR (aH l o).2.1,cR (aH l o).2.2]) m)(h2:(aH l o).2.2=0->K (.bI [.one (.row m.length 9 0 none),cR (aH l o).2.1,cR (aH l o).2.2]) (m++ [.row 9 (aa ((aH l o).1.map Obj.enc))])):aq prog 121 [cQ l,o.cv] m K:=by
 refine bi [] m.length rfl rfl rfl rfl rfl (λi b' hi=>by simp at hi) (Bq l hf o) (λr m1 hp=>⟨aad _,?_⟩)
 rcases hp with⟨e1,rfl,rfl⟩|⟨e1,rfl,rfl⟩
 .have:=h1 e1;show K _ (gC m []);rw[cw,adn];exact this
 .have:=h2 e1;show K _ (gC m [Bk.aO _ _]);rw[cw,Bk.eQ];exact this
def c80:LF:=Cq prog f80 [] []
theorem JJ{l:List Obj}{o:Obj}(h:(aH l o).2.2=0):∃k:Nat,(aH l o).2.1=k/\k<(aH l o).1.length/\(aH l o).1[k]? =some o/\l.length<=(aH l o).1.length/\(∀j,j≠k->j<l.length->(aH l o).1[j]? =l[j]?):=by
 unfold aH at h|-;split
 .rename_i k hk;have ef:k<l.length:=(abw.1 hk).1;exact⟨k,rfl,by simpa using ef,by simp[ef],aG,λj hj gH=>by simp[acy,Ne.symm hj]⟩
 .rename_i hk;rw[hk]at h;simp only at h;split at h
  .simp at h
  .rename_i hc;rw[if_neg hc];exact⟨l.length,rfl,aG,aG,aG,λj hj gH=>by simp[aaM gH]⟩
theorem Pg{l:List Obj}{o:Obj}(hf:m8 l)(ho:o.pZ):m8 (aH l o).1:=by
 unfold aH;split
 .refine⟨by simpa using hf.1,λx hx=>?_⟩
  rcases abF hx with h|rfl
  .exact hf.2 x h
  .exact ho
 .split
  .exact⟨aG,aG⟩
  .refine⟨by simp;omega,λx hx=>?_⟩
   rcases abJ.1 hx with h|h
   .exact hf.2 x h
   .simp at h;subst h;exact ho
def bn(p:Int):Obj:=⟨4,[],[],⟨#[]⟩,p,[],-1,0,0⟩
theorem Ph(p:Int):(bn p).pZ:=by simp[Obj.pZ,bn]
def jg(l:List Obj)(k:Nat)(b:Int):List Obj:=match l[k]? with|some o=>l.set k {o with aI:=b}|none=>l
def dL(l:List Obj):List Obj×(Int×Int)×Int:=
 if(aH l (bn (-1))).2.2≠0 then([],(0,0),(aH l (bn (-1))).2.2)
 else if(aH (aH l (bn (-1))).1 (bn (aH l (bn (-1))).2.1)).2.2≠0 then([],(0,0),(aH (aH l (bn (-1))).1 (bn (aH l (bn (-1))).2.1)).2.2)
 else(jg (aH (aH l (bn (-1))).1 (bn (aH l (bn (-1))).2.1)).1 (aH l (bn (-1))).2.1.toNat (aH (aH l (bn (-1))).1 (bn (aH l (bn (-1))).2.1)).2.1,((aH l (bn (-1))).2.1,(aH (aH l (bn (-1))).1 (bn (aH l (bn (-1))).2.1)).2.1),0)
def S8(x:Int×Int):RV:= .agg [.ai (.val (.int .i64 x.1)),.ai (.val (.int .i64 x.2))]
theorem l80:bA prog f80=some c80:=by kernel_rfl
theorem JK(a b:CV)(p:Int):ln [a,.rv (.agg [.ai (.val (.int .i64 4)),.bv,.bv,.ai (.val (.string ⟨#[]⟩)),.ai (.val (.int .i64 p)),.bv,.ai (.val (.int .i64 (-1))),.ai (.val (.int .i64 0)),.ai (.val (.int .i64 0))])] [a,(bn p).cv]:=
 .cT _ (.agg (.cons (.cT _) (.cons (.bv 1) (.cons (.bv 2) (.cons (.cT _) (.cons (.cT _) (.cons (.bv 4) (.cons (.cT _) (.cons (.cT _) (.cons (.cT _) .nil))))))))) .nil)
theorem LX(l:List Obj)(hf:m8 l):body prog c80 [cQ l] [] (λr m=>cM m r (.bI [oz (dL l).1,S8 (dL l).2.1,cR (dL l).2.2])):=by
 refine jK (JK _ (.aL) _) (CG l hf (bn (-1)) ?_);have hp:dL l=if(aH l (bn (-1))).2.2≠0 then([],(0,0),(aH l (bn (-1))).2.2)
   else if(aH (aH l (bn (-1))).1 (bn (aH l (bn (-1))).2.1)).2.2≠0 then([],(0,0),(aH (aH l (bn (-1))).1 (bn (aH l (bn (-1))).2.1)).2.2)
   else(jg (aH (aH l (bn (-1))).1 (bn (aH l (bn (-1))).2.1)).1 (aH l (bn (-1))).2.1.toNat (aH (aH l (bn (-1))).1 (bn (aH l (bn (-1))).2.1)).2.1,((aH l (bn (-1))).2.1,(aH (aH l (bn (-1))).1 (bn (aH l (bn (-1))).2.1)).2.1),0):=rfl
 have lX:=Pg (o:=bn (-1)) hf (Ph _);generalize hx:aH l (bn (-1))=x at hp lX;obtain⟨l1,a,e1⟩:=x;have lX:m8 l1:=lX;refine bO (λh=>?_) (λh=>?_)
 .have h:e1≠0:=h;rw[hp];simp only;rw[if_pos h];exact kL (.one (.bv 9)) (dK.self rfl)
 .have h:e1=0:=h;subst h;have wF:=JJ (l:=l) (o:=bn (-1)) (by rw[hx])
  rw[hx]at wF;obtain⟨ka,Si,aa4,akn,ako,_⟩:=wF;have Si:a=(ka:Int):=Si;have aa4:ka<l1.length:=aa4;subst Si;simp only[ne_eq,not_true,if_false,aam]at hp;refine jK (JK _ (.aL) _) (Pf l1 lX (bn ka) (λh=>?_) (λh=>?_))
  .rw[h]at hp;rw[h,hp];exact kL (.one (.bv 9)) (dK.self rfl)
  .have wF:=JJ (l:=l1) (o:=bn ka) h;generalize hy:aH l1 (bn ka)=y at hp wF h;obtain⟨l2,b,e2⟩:=y;have h:e2=0:=h;subst h;obtain⟨kb,Br,akp,akq,aa5,_⟩:=wF;have aa5:l1.length<=l2.length:=aa5;have ay:ka<l2.length:=om;have hlen:(aa (l2.map Obj.enc)).length=l2.length:=by simp[aa]
   refine af (bL (k:=ka) (by simpa[hlen,lenOf]using ay)) ?_
   refine af (x:=l2[ka].enc.map .ai) (by simpa[gl]using Bp l2 ay) ?_
   have j9:aZ (aa (l2.map Obj.enc)) (gl 0 ka) (({l2[ka]with aI:=b}:Obj).enc.map .ai)=aa ((jg l2 ka b).map Obj.enc):=by rw[br];simp only[jg,xm ay];rw[<-Bo];simp[gl]
   have fa:some (Bk.row 9 (aZ (aa (l2.map Obj.enc)) (gl 0 ka) (({l2[ka]with aI:=b}:Obj).enc.map .ai)))=some (Bk.row 9 (aa ((jg l2 ka b).map Obj.enc))):=by rw[j9]
   rw[hp];exact kL (.one (eF.db fa 0 none)) (dK.self rfl)
theorem S9(l:List Obj)(hf:m8 l){m:Mem}{K:CV->Mem->Prop}(h:K (.bI [oz (dL l).1,S8 (dL l).2.1,cR (dL l).2.2]) m):aq prog 80 [cQ l] m K:=
 aT (aR func80 l80 (LX l hf)) (by simp[cQ,CV.cY,CC.cY]) λr m1 hfz=>⟨_,hfz,h⟩
def c83:LF:=Cq prog f83 [] [[(eL 8 0 (.cons 8 (some [6,4]) (.cons 9 (some []) (.cons 10 none (.cons 11 none (.cons 12 (some []) .nil))))))]]
def LY(o:Obj)(c:CC):List CC:=[.ai (.val (.int .i64 o.ah)),.ai (.sl 1 o.data),.ai (.sl 2 o.ag),.ai (.val (.string o.target)),.ai (.val (.int .i64 o.aI)),c,.ai (.val (.int .i64 o.aQ)),.ai (.val (.int .i64 o.ak)),.ai (.val (.int .i64 o.up))]
theorem EA{l:List Obj}{p Q:Nat}{q:Obj}(h:l[p]? =some q):dp (fp p Q 0 l) p=some (LY q (.row Q 4 0 none)):=by rw[aX,vg,h];simp[tQ,LY]
theorem Pi{l:List Obj}{p:Nat}{q:Obj}(h:l[p]? =some q):CE l p l.length= .row 4 (aa (q.aj.map cJ.enc)):=by
 have hp:=(Mp.1 h).1;have:Nat.blt p l.length=true:=by rw[adw];exact hp
 simp only[CE,this,quO,h]
theorem JL{m:Mem}{Z:Nat->Prop}{id p Q:Nat}{l:List Obj}{q:Obj}{c:CC}(hz:Z id)(hb:m[id]? =some (.row 9 (aZ (fp p Q 0 l) p (LY q c))))(hc:cV m Z (some id) c (.sl 4 (q.aj.map cJ.enc))):
  cV m Z none (.row id 9 0 none) (.sl 9 ((l.set p q).map Obj.enc)):=by
 have key:∀(i:Nat)cs es,(aZ (fp p Q 0 l) p (LY q c))[i]? =some cs->((l.set p q).map Obj.enc)[i]? =some es->(cs=LY q c/\es=q.enc)\/∃o:Obj,cs=o.enc.map .ai/\es=o.enc:=by
  intro i cs es h1 h2;rw[br,acy]at h1;rw[Rn,acy]at h2;by_cases hi:p=i
  .subst hi;rw[if_pos rfl]at h1 h2;split at h1
   .cases h1;split at h2
    .cases h2;exact .inl ⟨rfl,rfl⟩
    .cases h2
   .cases h1
  .rw[if_neg hi]at h1 h2;rw[vg]at h1;cases ho:l[i]? with
   |none=>rw[ho]at h1;cases h1
   |some o=>
    rw[ho]at h1 h2;cases h1;cases h2;refine .inr ⟨o,?_,rfl⟩;simp only[tQ,acA,if_neg (Ne.symm hi)];rfl
 refine .row id 9 0 none _ ((l.set p q).map Obj.enc) hz hb (by rw[br];simp[ox]) (λi cs es h1 h2=>?_) (λi cs es j cc d h1 h2 h3 h4=>?_)
 .rcases key i cs es h1 h2 with⟨rfl,rfl⟩|⟨o,rfl,rfl⟩
  .rfl
  .simp
 .rcases key i cs es h1 h2 with⟨rfl,rfl⟩|⟨o,rfl,rfl⟩
  .match j,h3,h4 with
   |0,h3,h4=>cases h3;cases h4;exact .ai _
   |1,h3,h4=>cases h3;cases h4;exact .ai _
   |2,h3,h4=>cases h3;cases h4;exact .ai _
   |3,h3,h4=>cases h3;cases h4;exact .ai _
   |4,h3,h4=>cases h3;cases h4;exact .ai _
   |5,h3,h4=>cases h3;cases h4;exact hc
   |6,h3,h4=>cases h3;cases h4;exact .ai _
   |7,h3,h4=>cases h3;cases h4;exact .ai _
   |8,h3,h4=>cases h3;cases h4;exact .ai _
   |n+9,h3,h4=>simp[LY]at h3
  .rw[Rn,h4]at h3;cases h3;exact .ai _
def dS(l:List Obj)(e:Int)(m:cJ):List Obj×Int:=
 if e<0\/e>=l.length then([],8)else match l[e.toNat]? with
 |none=>([],8)
 |some o=>if o.ah≠4 then([],8)else if o.aI<0\/o.aI>=l.length then([],17)else match l[o.aI.toNat]? with
  |none=>([],17)
  |some q=>if q.ah≠4 then([],17)else if m.data.length>60 then([],4)else if q.aj.length>=4 then([],15)else(l.set o.aI.toNat {q with aj:=q.aj++ [m]},0)
def Pj(l:List Obj)(e:Int):CV:= .bI [oz l,cR e]
theorem ic{m:Mem}{a b:RV}{x:Int}(h:dK m a b):cM m (.bI [a,cR x]) (.bI [b,cR x]):=by
 refine .bI rfl λi r r' h1 h2=>?_
 match i,h1,h2 with
 |0,h1,h2=>cases h1;cases h2;exact h
 |1,h1,h2=>cases h1;cases h2;exact dK.self rfl
theorem vw2{Y:Nat->Nat}{m:Mem}{Z:Nat->Prop}{a b:RV}{x:Int}(h:Ac Y m Z a b):ta Y m Z (.bI [a,cR x]) (.bI [b,cR x]):=by
 refine .bI rfl λi r r' h1 h2=>?_
 match i,h1,h2 with
 |0,h1,h2=>cases h1;cases h2;exact h
 |1,h1,h2=>cases h1;cases h2;exact .one (.aO (.ai _))
theorem l83:bA prog f83=some c83:=by kernel_rfl
theorem vh(l:List Obj)(hf:m8 l)(e:Int)(msg:cJ)(hmf:msg.data.length<=4194304):body prog c83 [cQ l,am .i64 e,msg.cv] [] (λr m=>∃r' m',View 0 ⟨[r],m⟩ ⟨[r'],m'⟩/\r'=Pj (dS l e msg).1 (dS l e msg).2/\m'=[]):=by
 have NQ:(((l.map Obj.enc).length:Nat):Int)=(l.length:Int):=aG;have bad:∀(x:Int),dS l e msg=([],x)->∃r' m',View 0 ⟨[CV.bI [.one .bv,cR x]],[.var (msg.enc.map .ai)]⟩ ⟨[r'],m'⟩/\r'=Pj (dS l e msg).1 (dS l e msg).2/\m'=[]:=by intro x hx;refine⟨_,_,View.o 1 [] [] (.put (vw2 (b:=oz []) (.one (.dO (.bv 9)))) .nil) (.nil _),?_,rfl⟩;rw[hx];rfl
 refine an (λh=>?_) (λh1=>?_)
 .exact bad 8 (by rw[dS,if_pos (.inl h)])
 refine an (λh=>?_) (λh2=>?_)
 .exact bad 8 (by rw[dS,if_pos (.inr (by rw[<-NQ];exact h))])
 have h2:¬e>=(l.length:Int):=by rw[<-NQ];exact h2
 obtain⟨k,rfl⟩:∃k:Nat,e=k:=⟨e.toNat,om⟩;have hk:k<l.length:=om;have hi:=xm hk;have rq:dS l (k:Int) msg=if l[k].ah≠4 then(([],8):List Obj×Int)else if l[k].aI<0\/l[k].aI>=l.length then([],17)else match l[l[k].aI.toNat]? with
   |none=>([],17)
   |some q=>if q.ah≠4 then([],17)else if msg.data.length>60 then([],4)else if q.aj.length>=4 then([],15)else(l.set l[k].aI.toNat {q with aj:=q.aj++ [msg]},0):=by
  rw[dS,if_neg om,aam,hi]
 have hg:cH (l.map Obj.enc) (k:Nat)=some (l[k].enc):=by rw[aY,Rn,hi];rfl
 generalize l[k]=o at rq hg;obtain⟨ah,data,ag,target,aI,aj,aQ,ak,up⟩:=o;have hg:cH (l.map Obj.enc) (k:Nat)=some [.val (.int .i64 ah),.sl 1 data,.sl 2 ag,.val (.string target),.val (.int .i64 aI),.sl 4 (aj.map cJ.enc),.val (.int .i64 aQ),.val (.int .i64 ak),.val (.int .i64 up)]:=hg;refine af hg ?_;refine bO (λh=>?_) (λh3=>?_)
 .exact bad 8 (by rw[rq,if_pos h])
 have h3:ah=4:=h3;rw[if_neg (by simpa using h3)]at rq
 simp only at rq;refine af hg ?_;refine an (λh=>?_) (λh4=>?_)
 .exact bad 17 (by rw[rq,if_pos (.inl h)])
 refine an (λh=>?_) (λh5=>?_)
 .exact bad 17 (by rw[rq,if_pos (.inr (by rw[<-NQ];exact h))])
 have h5:¬aI>=(l.length:Int):=by rw[<-NQ];exact h5
 have h4:¬aI<0:=h4;obtain⟨p,rfl⟩:∃p:Nat,aI=p:=⟨aI.toNat,om⟩;have hp:p<l.length:=om;have VP:=xm hp;rw[if_neg om,aam,VP]at rq;simp only at rq;have qn:cH (l.map Obj.enc) (p:Nat)=some (l[p].enc):=by rw[aY,Rn,VP];rfl
 have LV:=hf.2 _ (aaP hp);generalize l[p]=q at rq qn VP LV;have qn:cH (l.map Obj.enc) (p:Nat)=some [.val (.int .i64 q.ah),.sl 1 q.data,.sl 2 q.ag,.val (.string q.target),.val (.int .i64 q.aI),.sl 4 (q.aj.map cJ.enc),.val (.int .i64 q.aQ),.val (.int .i64 q.ak),.val (.int .i64 q.up)]:=qn;refine af qn ?_;refine bO (λh=>?_) (λh6=>?_)
 .exact bad 17 (by rw[rq,if_pos h])
 rw[if_neg (by simpa using h6)]at rq
 refine an (λh=>?_) (λh7=>?_)
 .exact bad 4 (by rw[rq,if_pos (by have h:((msg.data.length:Nat):Int)>60:=h;omega)])
 rw[if_neg (by have h:¬((msg.data.length:Nat):Int)>60:=h7;omega)]at rq
 refine af qn ?_;refine an (λh=>?_) (λh8=>?_)
 .exact bad 15 (by rw[rq,if_pos (by have h:(((q.aj.map cJ.enc).length:Nat):Int)>=4:=h;rw[P2]at h;omega)])
 have h8:¬q.aj.length>=4:=by have h:¬(((q.aj.map cJ.enc).length:Nat):Int)>=4:=h8;rw[P2]at h;omega
 rw[if_neg h8]at rq;refine yH l hf p ?_;rw[Pi VP];refine ju msg.data hmf ?_;have m9:dW (p:Int) (lenOf (fp p 2 0 l).length 0 none)=some p:=bL (by simp[lenOf,ox];omega)
 have pX:=EA (Q:=2) VP;refine af m9 ?_;refine af pX ?_;refine⟨⟨af pX rfl,af m9 rfl,trivial⟩,?_⟩;refine⟨?_,?_⟩
 .show((aa (q.aj.map cJ.enc)).length+1)*48<=_;simp[aa];omega
 refine⟨trivial,?_⟩;refine af m9 ?_;refine af pX ?_;refine⟨trivial,?_⟩;refine⟨Pj (l.set p {q with aj:=q.aj++ [msg]}) 0,[],View.o 5 [] [1,4] (.put (vw2 (.one (.dO ?_))) .nil) (.nil _),?_,rfl⟩
 .refine JL (p:=p) (Q:=2) (l:=l) (q:={q with aj:=q.aj++ [msg]}) (c:= .row 4 4 0 none) rfl (by rw[<-aX];rfl) ?_
  refine cV.db (Z:=λk=>bh [1,4] k=true) (ds:=(q.aj++ [msg]).map cJ.enc) rfl ?_ 0 none
  rw[<-aX,abT,bU];rfl
 .rw[rq]
theorem Ta(l:List Obj)(hf:m8 l)(e:Int)(msg:cJ)(hmf:msg.data.length<=4194304){m:Mem}{K:CV->Mem->Prop}(h:K (Pj (dS l e msg).1 (dS l e msg).2) m):aq prog 83 [cQ l,am .i64 e,msg.cv] m K:=by
 refine aT (K0:=λr m=>r=Pj (dS l e msg).1 (dS l e msg).2/\m=[]) (bP (aR func83 l83 (vh l hf e msg hmf)) λr m1⟨r',m',hv,hp⟩=>⟨r',m',hv,hp⟩) (by simp[cQ,am,cJ.cv,CV.cY,CC.cY,RV.cY]) λr m1 hr=>?_
 obtain⟨rfl,rfl⟩:=hr;exact⟨_,cM.self rfl,h⟩
def c125:LF:=Cq prog f125 [] [[(eL 6 0 (.cons 6 (some []) (.cons 7 none .nil)))]]
def wJ:List CC:=[.bv,.ai (.val (.bool false)),.ai (.val (.int .i64 0)),.ai (.val (.int .i64 0))]
theorem lG:∀ds:List (List Dt),gu (aa ds)=true
 | []=>rfl
 |d::r=>by
  have h1:∀e:List Dt,si (e.map CC.ai)=true:=by
   intro e
   induction e with
   |nil=>rfl
   |cons x e ih=>simpa[si,CC.kj]using ih
  have:=lG r;simp only[aa,ac6,gu]at this|-;rw[h1,this];rfl
theorem l125:bA prog f125=some c125:=by kernel_rfl
def gO(x:cJ)(r:List cJ):List (List CC):=aa (r.map cJ.enc)++ [wJ]
theorem Pk(x:cJ)(r:List cJ)(hl:r.length<=4194303):body prog c125 [.rv (.one (.row 0 4 0 none)),am .i64 0,am .i64 1] [.row 4 (aa ((x::r).map cJ.enc))] (λv m=>v= .rv (.one (.row 0 4 0 (some r.length)))/\m=[.row 4 (gO x r)]):=by
 have hlen:(aa ((x::r).map cJ.enc)).length=r.length+1:=by simp[aa]
 have VQ:(aa ((x::r).map cJ.enc)).drop 1=aa (r.map cJ.enc):=rfl;generalize aa ((x::r).map cJ.enc)=D at hlen VQ;have hL:lenOf D.length 0 none=r.length+1:=by rw[jG,hlen];rfl
 have hE:bt D 1 (some (r.length+1))=aa (r.map cJ.enc):=by rw[np];simp only;rw[<-hlen,abo,VQ]
 have JM:(aa (r.map cJ.enc)).length=r.length:=by simp[aa]
 refine bS ?_ ?_
 .show(Nat.ble 0 1&&(Nat.ble 1 (lenOf D.length 0 none)&&Nat.ble (lenOf D.length 0 none) (bt D 0 none).length))=true;rw[hL];simp[bt,hlen,ack]
 rw[hL];refine bS ?_ ?_
 .show(Nat.ble 1 (lenOf D.length 0 none)&&Nat.ble (lenOf D.length 0 none) (D.length-0))=true;rw[hL,hlen];simp[ack]
 rw[hL];refine bS ?_ ?_
 .show(Nat.beq 0 0&&(Nat.beq 4 4&&(Nat.beq 4 4&&(Nat.ble 1 D.length&&(Nat.ble (0+(bt D 1 (some (r.length+1))).length) D.length&&gu (bt D 1 (some (r.length+1))))))))=true;rw[hE,lG,JM,hlen];simp[ack]
 refine⟨?_,?_⟩
 .rw[hlen];omega
 refine⟨trivial,?_⟩;have Av:(dm D 0 (aa (r.map cJ.enc))).length=r.length+1:=by rw[ym (by rw[JM,hlen];omega),hlen]
 refine bS ?_ ?_
 .simp only[lZ,acA,hE,JM,jG,adl,adW,Av];simp[ack]
 refine bS ?_ ?_
 .simp only[lZ,acA,hE,JM,jG,adl,adW,Av,sj];simp[ack]
 refine bS ?_ ?_
 .simp only[lZ,acA,hE,JM,jG,adl,adW,Av,sj];simp[adw]
 have fa:dm (dm D 0 (aa (r.map cJ.enc))) r.length (iu 1 wJ)=gO x r:=by
  have h1:dm D 0 (aa (r.map cJ.enc))=aa (r.map cJ.enc)++D.drop r.length:=by simp[dm,JM]
  rw[h1];simp only[dm,gn,gO];rw[List.take_append_of_le_length (by rw[JM];exact aah _),adm (by rw[JM];exact aah _)]
  congr 1;have:(aa (r.map cJ.enc)++D.drop r.length).length=r.length+1:=by simp[JM,hlen]
  rw[List.drop_of_length_le (by rw[this];simp)]
  rfl
 refine⟨?_,?_⟩
 .show CV.rv (.one (.row 0 4 0 (some (0+(bt D (gl 0 1) (some (gl 0 (r.length+1)))).length))))=_;simp only[lZ,acA,hE,JM]
 .rw[<-fa];show [Bk.row 4 (dm (dm D 0 (bt D (gl 0 1) (some (gl 0 (r.length+1))))) _ (iu (_-_) wJ))]=_;simp only[lZ,acA,hE,JM,jG,adl,adW,Av,sj,Nat.add_sub_cancel_left]
theorem Xm(x:cJ)(r:List cJ)(hl:r.length<=4194303){m:Mem}{K:CV->Mem->Prop}(id:Nat)(hb:dp m id=some (.row 4 (aa ((x::r).map cJ.enc))))(h:K (.rv (.one (.row id 4 0 (some r.length)))) (aZ m id (.row 4 (gO x r)))):
  aq prog 125 [.rv (.one (.row id 4 0 none)),am .i64 0,am .i64 1] m K:=by
 have hid:id<m.length:=by rw[aX]at hb;exact(Mp.1 hb).1
 refine bi [id] m.length rfl rfl rfl (by simp[eP,hid]) (args0:=[.rv (.one (.row 0 4 0 none)),am .i64 0,am .i64 1]) rfl (λi b' hi=>?_) (aR func125 l125 (Pk x r hl)) (λr1 m1 hr=>?_)
 .cases i with
  |zero=>
   simp at hi;subst hi;refine .inr ⟨λh=>h,_,?_,.bg rfl⟩
   rw[aX]at hb;exact hb
  |succ i=>simp at hi
 .obtain⟨rfl,rfl⟩:=hr;refine⟨aah _,?_⟩;have afx:(Bk.row 4 (gO x r)).aO (sg [id] m.length)= .row 4 (gO x r):=by simp only[Bk.aO,gO,abT,dv];rfl
  show K (.rv (.one (.row id 4 0 (some r.length)))) (dA m [id] [(Bk.row 4 (gO x r)).aO (sg [id] m.length)]);rw[afx];simp only[dA,cw,adn];exact h
def c84:LF:=Cq prog f84 [] [[(eL 3 0 (.cons 3 (some []) (.cons 4 none .nil)))]]
def oA:cJ:=⟨[],false,0,0⟩
def cJ.rv(m:cJ):RV:= .agg (m.enc.map .ai)
def eS(l:List Obj)(e:Int):List Obj×cJ×Int:=
 if e<0\/e>=l.length then([],oA,8)else match l[e.toNat]? with
 |none=>([],oA,8)
 |some o=>if o.ah≠4 then([],oA,8)else match o.aj with
  | []=>if o.aI<0\/o.aI>=l.length then([],oA,17)else match l[o.aI.toNat]? with
   |none=>([],oA,17)
   |some q=>if q.ah≠4 then([],oA,17)else([],oA,16)
  |x::r=>(l.set e.toNat {o with aj:=r},x,0)
def yI(x:List Obj×cJ×Int):CV:= .bI [oz x.1,x.2.1.rv,cR x.2.2]
theorem vw3{Y:Nat->Nat}{m:Mem}{Z:Nat->Prop}{a b c d:RV}{x:Int}(h:Ac Y m Z a b)(hc:Ac Y m Z c d):ta Y m Z (.bI [a,c,cR x]) (.bI [b,d,cR x]):=by
 refine .bI rfl λi r r' h1 h2=>?_
 match i,h1,h2 with
 |0,h1,h2=>cases h1;cases h2;exact h
 |1,h1,h2=>cases h1;cases h2;exact hc
 |2,h1,h2=>cases h1;cases h2;exact .one (.aO (.ai _))
theorem vwZ{Y:Nat->Nat}{m:Mem}{Z:Nat->Prop}:Ac Y m Z (.agg wJ) oA.rv:=by
 refine .agg rfl λi c c' h1 h2=>?_
 match i,h1,h2 with
 |0,h1,h2=>cases h1;cases h2;exact .dO (.bv 1)
 |1,h1,h2=>cases h1;cases h2;exact .aO (.ai _)
 |2,h1,h2=>cases h1;cases h2;exact .aO (.ai _)
 |3,h1,h2=>cases h1;cases h2;exact .aO (.ai _)
 |n+4,h1,h2=>simp[wJ]at h1
theorem aa6{Y:Nat->Nat}{m:Mem}{Z:Nat->Prop}(x:cJ):Ac Y m Z (.agg (x.enc.map .ai)) x.rv:=by
 refine .agg rfl λi c c' h1 h2=>?_
 rw[h1]at h2;cases h2;rw[Rn]at h1;cases hd:x.enc[i]? with
 |none=>rw[hd]at h1;cases h1
 |some d=>
  rw[hd]at h1;cases h1;exact .aO (.ai d)
theorem Xn{m:Mem}{Z:Nat->Prop}{p:Option Nat}{id:Nat}{x:cJ}{r:List cJ}(hz:Z id)(hb:m[id]? =some (.row 4 (gO x r))):cV m Z p (.row id 4 0 (some r.length)) (.sl 4 (r.map cJ.enc)):=by
 have h:=cV.row (m:=m) (Z:=Z) (p:=p) id 4 0 (some r.length) (gO x r) (r.map cJ.enc++ [oA.enc]) hz hb (by simp[gO,aa]) (λi cs es h1 h2=>?_) (λi cs es j c d h1 h2 h3 h4=>?_)
 .have:bt (r.map cJ.enc++ [oA.enc]) 0 (some r.length)=r.map cJ.enc:=by rw[np];simp
  rw[this]at h;exact h
 .rcases aaD i r.length with hi|hi
  .rw[gO,aaM (by simpa[aa]using hi),aa,Rn]at h1
   rw[aaM (by simpa using hi)]at h2
   rw[h2]at h1;cases h1;simp
  .rw[gO,aaO (by simpa[aa]using hi)]at h1
   rw[aaO (by simpa using hi)]at h2
   have e1:(aa (r.map cJ.enc)).length=r.length:=by simp[aa]
   have e2:(r.map cJ.enc).length=r.length:=aG;rw[e1]at h1;rw[e2]at h2;cases hn:i-r.length with
   |zero=>rw[hn]at h1 h2;cases h1;cases h2;rfl
   |succ n=>rw[hn]at h1;simp at h1
 .rcases aaD i r.length with hi|hi
  .rw[gO,aaM (by simpa[aa]using hi),aa,Rn]at h1
   rw[aaM (by simpa using hi)]at h2
   rw[h2]at h1;cases h1;rw[Rn,h4]at h3;cases h3;exact .ai _
  .rw[gO,aaO (by simpa[aa]using hi)]at h1
   rw[aaO (by simpa using hi)]at h2
   have e1:(aa (r.map cJ.enc)).length=r.length:=by simp[aa]
   have e2:(r.map cJ.enc).length=r.length:=aG;rw[e1]at h1;rw[e2]at h2;cases hn:i-r.length with
   |zero=>
    rw[hn]at h1 h2;cases h1;cases h2
    match j,h3,h4 with
    |0,h3,h4=>cases h3;cases h4;exact .bv 1
    |1,h3,h4=>cases h3;cases h4;exact .ai _
    |2,h3,h4=>cases h3;cases h4;exact .ai _
    |3,h3,h4=>cases h3;cases h4;exact .ai _
    |n+4,h3,h4=>simp[wJ]at h3
   |succ n=>rw[hn]at h1;simp at h1
theorem l84:bA prog f84=some c84:=by kernel_rfl
theorem vj(l:List Obj)(hf:m8 l)(e:Int):body prog c84 [cQ l,am .i64 e] [] (λr m=>∃r' m',View 0 ⟨[r],m⟩ ⟨[r'],m'⟩/\r'=yI (eS l e)/\m'=[]):=by
 have NQ:(((l.map Obj.enc).length:Nat):Int)=(l.length:Int):=aG;have bad:∀(x:Int),eS l e=([],oA,x)->∃r' m',View 0 ⟨[CV.bI [.one .bv,.agg wJ,cR x]],[.var wJ]⟩ ⟨[r'],m'⟩/\r'=yI (eS l e)/\m'=[]:=by intro x hx;refine⟨_,_,View.o 1 [] [] (.put (vw3 (b:=oz []) (.one (.dO (.bv 9))) vwZ) .nil) (.nil _),?_,rfl⟩;rw[hx];rfl
 refine an (λh=>?_) (λh1=>?_)
 .exact bad 8 (by rw[eS,if_pos (.inl h)])
 refine an (λh=>?_) (λh2=>?_)
 .exact bad 8 (by rw[eS,if_pos (.inr (by rw[<-NQ];exact h))])
 have h2:¬e>=(l.length:Int):=by rw[<-NQ];exact h2
 obtain⟨k,rfl⟩:∃k:Nat,e=k:=⟨e.toNat,om⟩;have hk:k<l.length:=om;have hi:=xm hk;have rq:eS l (k:Int)=if l[k].ah≠4 then(([],oA,8):List Obj×cJ×Int)else match l[k].aj with
   | []=>if l[k].aI<0\/l[k].aI>=l.length then([],oA,17)else match l[l[k].aI.toNat]? with
    |none=>([],oA,17)
    |some q=>if q.ah≠4 then([],oA,17)else([],oA,16)
   |x::r=>(l.set k {l[k]with aj:=r},x,0):=by
  rw[eS,if_neg om,aam,hi]
 have hg:cH (l.map Obj.enc) (k:Nat)=some (l[k].enc):=by rw[aY,Rn,hi];rfl
 have Sg:=hf.2 _ (aaP hk);generalize l[k]=o at rq hg hi Sg;obtain⟨ah,data,ag,target,aI,aj,aQ,ak,up⟩:=o;have hg:cH (l.map Obj.enc) (k:Nat)=some [.val (.int .i64 ah),.sl 1 data,.sl 2 ag,.val (.string target),.val (.int .i64 aI),.sl 4 (aj.map cJ.enc),.val (.int .i64 aQ),.val (.int .i64 ak),.val (.int .i64 up)]:=hg;refine af hg ?_;refine bO (λh=>?_) (λh3=>?_)
 .exact bad 8 (by rw[rq,if_pos h])
 have h3:ah=4:=h3;rw[if_neg (by simpa using h3)]at rq
 simp only at rq;refine af hg ?_;cases aj with
 |nil=>
  simp only at rq;refine af hg ?_;refine an (λh=>?_) (λh4=>?_)
  .exact bad 17 (by rw[rq,if_pos (.inl h)])
  refine an (λh=>?_) (λh5=>?_)
  .exact bad 17 (by rw[rq,if_pos (.inr (by rw[<-NQ];exact h))])
  have h5:¬aI>=(l.length:Int):=by rw[<-NQ];exact h5
  have h4:¬aI<0:=h4;obtain⟨p,rfl⟩:∃p:Nat,aI=p:=⟨aI.toNat,om⟩;have hp:p<l.length:=om;have VP:=xm hp;rw[if_neg om,aam,VP]at rq;simp only at rq;have qn:cH (l.map Obj.enc) (p:Nat)=some (l[p].enc):=by rw[aY,Rn,VP];rfl
  generalize l[p]=q at rq qn;have qn:cH (l.map Obj.enc) (p:Nat)=some [.val (.int .i64 q.ah),.sl 1 q.data,.sl 2 q.ag,.val (.string q.target),.val (.int .i64 q.aI),.sl 4 (q.aj.map cJ.enc),.val (.int .i64 q.aQ),.val (.int .i64 q.ak),.val (.int .i64 q.up)]:=qn;refine af qn ?_;refine bO (λh=>?_) (λh6=>?_)
  .exact bad 17 (by rw[rq,if_pos h])
  .exact bad 16 (by rw[rq,if_neg (by simpa using h6)])
 |cons x r=>
  simp only at rq;have JN:(x::r).length<=4194304:=Sg.2.2.1;refine yH l hf k ?_;rw[Pi hi];have m9:dW (k:Int) (lenOf (fp k 2 0 l).length 0 none)=some k:=bL (by simp[lenOf,ox];omega)
  have pX:=EA (Q:=2) hi;refine af m9 ?_;refine af pX ?_;refine af m9 ?_;refine af pX ?_;refine Xm x r (by simp at JN;omega) 2 rfl ?_
  refine af m9 ?_;refine af pX ?_;refine⟨trivial,?_⟩;refine⟨yI (eS l k),[],View.o 4 [] [1,2] ?_ (.nil _),rfl,rfl⟩;rw[rq];refine .put (vw3 (.one (.dO ?_)) (aa6 x)) .nil;exact JL (p:=k) (Q:=2) (l:=l) (q:=⟨ah,data,ag,target,aI,r,aQ,ak,up⟩) (c:= .row 2 4 0 (some r.length)) rfl (by rw[<-aX];rfl) (Xn (x:=x) rfl (by rw[<-aX];rfl))
theorem Tc(l:List Obj)(hf:m8 l)(e:Int){m:Mem}{K:CV->Mem->Prop}(h:K (yI (eS l e)) m):aq prog 84 [cQ l,am .i64 e] m K:=by
 refine aT (K0:=λr m=>r=yI (eS l e)/\m=[]) (bP (aR func84 l84 (vj l hf e)) λr m1⟨r',m',hv,hp⟩=>⟨r',m',hv,hp⟩) (by simp[cQ,am,CV.cY,CC.cY,RV.cY]) λr m1 hr=>?_
 obtain⟨rfl,rfl⟩:=hr;exact⟨_,cM.self rfl,h⟩
def c26:LF:=Cq prog Tryz.f26 [] []
def c29:LF:=Cq prog Tryz.f29 [] []
def dH(l:List Int):List (List Dt):=l.map λb=>[.val (.int .u8 b)]
def nu(b:List Int)(n:Int):Int×List Int:=
 match b with
 | []=>(0,[])
 |x::r=>if n<1 then(0,x::r)else((IntKind.i64.wrap x).tmod n,r)
theorem l26:bA prog Tryz.f26=some c26:=by kernel_rfl
theorem LZ(b:List Int)(n:Int):aq prog 26 [.rv (.one (.ptr 0 0)),am .i64 n] [.var [.ai (.sl 1 (dH b))]] (λr m=>r=am .i64 (nu b n).1/\m=[.var [.ai (.sl 1 (dH (nu b n).2))]]):=by
 refine aR func26 l26 ?_;cases b with
 |nil=>exact⟨rfl,rfl⟩
 |cons x r=>
  refine an (λh=>?_) (λh=>?_)
  .have e:nu (x::r) n=(0,x::r):=by rw[nu,if_pos h]
   rw[e];exact⟨rfl,rfl⟩
  .have e:nu (x::r) n=((IntKind.i64.wrap x).tmod n,r):=by rw[nu,if_neg h]
   rw[e];have hr:DR .rem (.int .i64 (IntKind.i64.wrap x)) (.int .i64 n)=some (.int .i64 ((IntKind.i64.wrap x).tmod n)):=by have hn:decide (n=0)=false:=decide_eq_false om;simp[DR,hn]
   refine af hr ?_;refine bS (by simp[dH,ack]) ?_
   refine⟨rfl,?_⟩;show [Bk.var [.ai (.sl 1 (((dH (x::r)).take (dH (x::r)).length).drop 1))]]=_;rw[abo];rfl
theorem yJ{m:Mem}{id:Nat}{b:Bk}:dA m [id] [b]=aZ m id b:=by simp only[dA,cw,adn]
theorem Td(b:List Int)(n:Int){m:Mem}{K:CV->Mem->Prop}(id:Nat)(hb:dp m id=some (.var [.ai (.sl 1 (dH b))]))(h:K (am .i64 (nu b n).1) (aZ m id (.var [.ai (.sl 1 (dH (nu b n).2))]))):
  aq prog 26 [.rv (.one (.ptr id 0)),am .i64 n] m K:=by
 have hid:id<m.length:=by rw[aX]at hb;exact(Mp.1 hb).1
 refine bi [id] m.length rfl rfl rfl (by simp[eP,hid]) (args0:=[.rv (.one (.ptr 0 0)),am .i64 n]) rfl (λi b' hi=>?_) (LZ b n) (λr1 m1 hr=>?_)
 .cases i with
  |zero=>
   simp at hi;subst hi;refine .inr ⟨λh=>h,_,?_,.eq rfl aG⟩
   rw[aX]at hb;exact hb
  |succ i=>simp at hi
 .obtain⟨rfl,rfl⟩:=hr;refine⟨aah _,?_⟩;show K (am .i64 (nu b n).1) (dA m [id] [.var [.ai (.sl 1 (dH (nu b n).2))]]);rw[yJ];exact h
def oS(l:List Obj)(k ah:Int):Bool:=decide (k>=0)&&(decide (k<l.length)&&match l[k.toNat]? with|none=>false|some o=>o.ah !=0&&(ah==0||o.ah==ah))
theorem l29:bA prog Tryz.f29=some c29:=by kernel_rfl
def c27:LF:=Cq prog Tryz.f27 [] []
theorem l27:bA prog Tryz.f27=some c27:=by kernel_rfl
def c58:LF:=Cq prog f58 [] []
theorem l58:bA prog f58=some c58:=by kernel_rfl
theorem Te(l:List Obj)(k ah:Int):body prog c58 [cQ l,am .i64 k,am .i64 ah] [] (λr m=>r=ar (oS l k ah)):=by
 refine an (λh0=>?_) (λh0=>?_)
 .obtain⟨n,rfl⟩:∃n:Nat,k=n:=⟨k.toNat,om⟩;refine an (λh=>?_) (λh=>?_)
  .have ay:n<l.length:=by have h:(n:Int)<((l.map Obj.enc).length:Int):=h;rw[P2]at h;omega
   have hi:=xm ay;have hS:oS l (n:Int) ah=(l[n].ah !=0&&(ah==0||l[n].ah==ah)):=by simp[oS,ay]
   have hg:cH (l.map Obj.enc) (n:Nat)=some (l[n].enc):=by rw[aY,Rn,hi];rfl
   generalize l[n]=x at hS hg;have hg:cH (l.map Obj.enc) (n:Nat)=some [.val (.int .i64 x.ah),.sl 1 x.data,.sl 2 x.ag,.val (.string x.target),.val (.int .i64 x.aI),.sl 4 (x.aj.map cJ.enc),.val (.int .i64 x.aQ),.val (.int .i64 x.ak),.val (.int .i64 x.up)]:=hg;refine af hg ?_;refine aC (λh1=>?_) (λh1=>?_)
   .refine aC (λh2=>?_) (λh2=>?_)
    .show ar _=ar _;rw[hS,h1,h2];rfl
    .refine af hg ?_;show ar _=ar _;rw[hS,h1,h2];rfl
   .show ar _=ar _;rw[hS,h1];rfl
  .have eO:¬n<l.length:=by have h:¬(n:Int)<((l.map Obj.enc).length:Int):=h;rw[P2]at h;omega
   have hS:oS l (n:Int) ah=false:=by simp[oS,eO]
   show ar _=ar _;rw[hS]
 .have hS:oS l k ah=false:=by have:decide (k>=0)=false:=decide_eq_false h0;simp[oS,this]
  show ar _=ar _;rw[hS]
theorem aa7(l:List Obj)(k ah:Int){m:Mem}{K:CV->Mem->Prop}(h:K (ar (oS l k ah)) m):aq prog 58 [cQ l,am .i64 k,am .i64 ah] m K:=
 bH func58 l58 rfl (aat rfl) (Te l k ah) rfl rfl h
theorem oB:∀b:List Int,xX ((dH b).map λds=>ds.map .ai)=some b
 | []=>rfl
 |x::r=>by have:=oB r;simp only[dH,ac6,aeW]at this|-;simp only[xX,this]
def bT(e:ByteArray×Int):List Dt:=[.val (.string e.1),.val (.int .i64 e.2)]
def cJ.Sj(q:cJ):Prop:=∃b:List Int,q.data=dH b
def Obj.Sj(o:Obj):Prop:=(∃b:List Int,o.data=dH b)/\(∃es:List (ByteArray×Int),o.ag=es.map bT)/\∀q,q∈o.aj->q.Sj
def c30:LF:=Cq prog f30 [] []
theorem nv{l:List Obj}{k:Nat}(h:k<l.length):cH (l.map Obj.enc) (k:Nat)=some [.val (.int .i64 l[k].ah),.sl 1 l[k].data,.sl 2 l[k].ag,.val (.string l[k].target),.val (.int .i64 l[k].aI),.sl 4 (l[k].aj.map cJ.enc),.val (.int .i64 l[k].aQ),.val (.int .i64 l[k].ak),.val (.int .i64 l[k].up)]:=by rw[aY,Rn,xm h];rfl
theorem l30:bA prog f30=some c30:=by kernel_rfl
inductive lS(Y:Nat->Nat)(m:Mem)(Z:Nat->Prop):List CC->List CC->Prop
 |nil:lS Y m Z [] []
 |cons {c c':CC} {r r':List CC} (h:tL Y m Z none c c') (hr:lS Y m Z r r'):lS Y m Z (c::r) (c'::r')
theorem lS.len{Y:Nat->Nat}{m:Mem}{Z:Nat->Prop}{cs fD:List CC}(h:lS Y m Z cs fD):cs.length=fD.length:=by
 induction h<;>simp[*]
theorem lS.get{Y:Nat->Nat}{m:Mem}{Z:Nat->Prop}{cs fD:List CC}(h:lS Y m Z cs fD):∀(i:Nat)c c',cs[i]? =some c->fD[i]? =some c'->tL Y m Z none c c':=by
 induction h with
 |nil=>intro i c c' h;simp at h
 |cons h hr ih=>
  intro i c c' h1 h2;cases i with
  |zero=>simp at h1 h2;subst h1 h2;exact h
  |succ i=>exact ih i c c' (by simpa using h1) (by simpa using h2)
theorem lS.agg{Y:Nat->Nat}{m:Mem}{Z:Nat->Prop}{cs fD:List CC}(h:lS Y m Z cs fD):ta Y m Z (.rv (.agg cs)) (.rv (.agg fD)):= .rv (.agg h.len h.get)
def c60:LF:=Cq prog f60 [] []
def c61:LF:=Cq prog f61 [] []
theorem l60:bA prog f60=some c60:=by kernel_rfl
theorem oC(s:ByteArray)(hs:s.size<=4194304):body prog c60 [ei s] [] (λr m=>∃b,r=ar b):=by
 refine ax (λk=>k<=s.size) [0,6] (λk=>[(7,am .i64 (k:Nat))]) (λ_=>[]) (λk=>s.size-k) 0 (aad _) ?_ (λk hk=>?_)
 .refine View.o1 0 [] [] (.nil _)
 have hk:k<=s.size:=hk;refine an (λh=>?_) (λh=>?_)
 .have ay:k<s.size:=by have h:(k:Int)<(s.size:Int):=h;omega
  obtain⟨c,hc⟩:∃c,cH s.data.toList (k:Nat)=some c:=by
   rw[aY];have:k<s.data.toList.length:=by simpa using ay
   exact⟨_,xm this⟩
  refine af hc ?_;repeat' refine aC (λ_=>?_) (λ_=>?_)
  all_goals first
   |exact⟨_,rfl⟩
   |(refine⟨k+1,ay,(show s.size-(k+1)<s.size-k by omega),View.o 0 [] [] ?_ (.nil _)⟩
     repeat(first|exact .nil|refine .aL ?_|refine .put (.aO (bC om).symm) ?_|refine .eq rfl ?_))
 .repeat' refine aC (λ_=>?_) (λ_=>?_)
  all_goals exact⟨_,rfl⟩
theorem tT(s:ByteArray)(hs:s.size<=4194304){m:Mem}{K:CV->Mem->Prop}(h:∀b,K (ar b) m):aq prog 60 [ei s] m K:=by
 refine aT (K0:=λr _=>∃b,r=ar b) (aR func60 l60 (oC s hs)) (by simp[ei,CV.cY,CC.cY,RV.cY]) λr m1 hr=>?_
 obtain⟨b,rfl⟩:=hr;exact⟨_,cM.self rfl,h b⟩
structure Obj.sm(o:Obj):Prop where
 t:o.Sj
 d:o.data.length<=64
 e:o.ag.length<=8
 q:o.aj.length<=8
 qd:∀q,q∈o.aj->q.data.length<=64
theorem Obj.sm.pZ{o:Obj}(h:o.sm):o.pZ:=⟨by have:=h.d;omega,by have:=h.e;omega,by have:=h.q;omega,λq hq=>by have:=h.qd q hq;omega⟩
theorem l61:bA prog f61=some c61:=by kernel_rfl
theorem tU{es:List (ByteArray×Int)}{k:Nat}(h:k<es.length):cH (es.map bT) (k:Nat)=some [.val (.string es[k].1),.val (.int .i64 es[k].2)]:=by rw[aY,Rn,xm h];rfl
def c28:LF:=Cq prog Tryz.f28 [] []
theorem Xo{m:Mem}{Z:Nat->Prop}{p:Option Nat}{id:Nat}{X:List (List CC)}{es:List (ByteArray×Int)}(hz:Z id)(h:m[id]? =some (.row 2 X))(hX:X=aa (es.map bT)):cV m Z p (.row id 2 0 none) (.sl 2 (es.map bT)):=by subst hX;exact cV.db hz h 0 none
structure aa8 where
 k:Nat
 d:Bool
 dI:List (ByteArray×Int)
theorem l28:bA prog Tryz.f28=some c28:=by kernel_rfl
def c31:LF:=Cq prog f31 [] []
structure dX where
 has:Bool
 ct:Int
 rts:Int
def dX.enc(s:dX):List Dt:=[.val (.bool s.has),.val (.int .i64 s.ct),.val (.int .i64 s.rts)]
def ip(l:List dX):Dt:= .sl 3 (l.map dX.enc)
def CH(l:List dX):RV:= .one (.ai (ip l))
def mI(l:List dX):CV:= .rv (.one (.ai (ip l)))
theorem bq{α:Type}(f:α->List Dt)(l:List α){k:Nat}(h:k<l.length):dp (aa (l.map f)) k=some ((f l[k]).map .ai):=by rw[aX,aa,Rn,Rn,xm h];rfl
theorem kM{α:Type}(f:α->List Dt)(l:List α)(k:Nat)(x:α):aZ (aa (l.map f)) k ((f x).map .ai)=aa ((l.set k x).map f):=by rw[br,aa,aa,acF,acF]
theorem Pl{m:Mem}{a b:RV}{x y:Int}(h:dK m a b):cM m (.bI [a,cR x,cR y]) (.bI [b,cR x,cR y]):=kL h (dK.self rfl)
theorem l31:bA prog f31=some c31:=by kernel_rfl
theorem qG:∀a:List UInt8,Op.bytesLess a a=false
 | []=>rfl
 |x::r=>by simp[Op.bytesLess,qG r]
theorem tV:∀{a b c:List UInt8},Op.bytesLess a b=true->Op.bytesLess b c=true->Op.bytesLess a c=true
 |a,[],_,h,_=>by cases a<;>simp[Op.bytesLess]at h
 |_,_::_,[],_,h=>by simp[Op.bytesLess]at h
 | [],_::_,_::_,_,_=>rfl
 |x::a,y::b,z::c,h1,h2=>by
  simp only[Op.bytesLess,adB,aaJ,decide_eq_true_eq,beq_iff_eq]at h1 h2|-;rcases h1 with h1|⟨rfl,h1⟩
  .rcases h2 with h2|⟨rfl,h2⟩
   .exact .inl (UInt8.lt_trans h1 h2)
   .exact .inl h1
  .rcases h2 with h2|⟨rfl,h2⟩
   .exact .inl h2
   .exact .inr ⟨rfl,tV h1 h2⟩
theorem Pm:∀a b:List UInt8,Op.bytesLess a b=true\/a=b\/Op.bytesLess b a=true
 | [],[]=>.inr (.inl rfl)
 | [],_::_=>.inl rfl
 |_::_,[]=>.inr (.inr rfl)
 |x::a,y::b=>by
  simp only[Op.bytesLess,adB,aaJ,decide_eq_true_eq,beq_iff_eq,aek];by_cases h:x<y
  .exact .inl (.inl h)
  .by_cases h2:y<x
   .exact .inr (.inr (.inl h2))
   .have e:x=y:=by have h3:¬x.toNat<y.toNat:=h;have h4:¬y.toNat<x.toNat:=h2;exact UInt8.toNat_inj.1 om
    subst e;rcases Pm a b with h5|h5|h5
    .exact .inl (.inr ⟨rfl,h5⟩)
    .exact .inr (.inl ⟨rfl,h5⟩)
    .exact .inr (.inr (.inr ⟨rfl,h5⟩))
abbrev NE:=ByteArray×Int
def CI(a b:ByteArray):Prop:=Op.bytesLess a.toList b.toList=true
def Hf(es:List NE):Prop:=es.Pairwise λa b=>CI a.1 b.1
def Gg(a b:ByteArray):Bool:= !(Op.bytesLess a.toList b.toList||a.toList==b.toList)
theorem aa9{a b:ByteArray}(h:Gg a b=true):CI b a:=by
 unfold Gg at h;simp only[adx,aeY,beq_eq_false_iff_ne]at h;rcases Pm a.toList b.toList with h1|h1|h1
 .rw[h.1]at h1;cases h1
 .exact absurd h1 h.2
 .exact h1
theorem Xp{a b:ByteArray}(h:Gg a b=false)(gj:a.toList≠b.toList):CI a b:=by unfold Gg at h;simp only[Bool.not_eq_false',adB,beq_iff_eq]at h;exact h.elim id λh=>absurd h gj
structure km(es:List NE)(x:NE)(k:Nat)(d:Bool)(dI:List NE):Prop where
 f:d=false->dI=es.take k/\∀(j:Nat)e,j<k->es[j]? =some e->Gg e.1 x.1=false
 t:d=true->∃i,i<k/\dI=es.take i++x::(es.take k).drop i/\(∀(j:Nat)e,j<i->es[j]? =some e->Gg e.1 x.1=false)/\∃e,es[i]? =some e/\Gg e.1 x.1=true
theorem km.afy(es:List NE)(x:NE):km es x 0 false []:=⟨λ_=>⟨rfl,λj e h=>absurd h (abq j)⟩,λh=>by cases h⟩
theorem vl{es:List NE}{k:Nat}(h:k<es.length):es.take (k+1)=es.take k++ [es[k]]:=by rw[adr,xm h];rfl
theorem km.skip{es:List NE}{x:NE}{k:Nat}{dI:List NE}(h:km es x k false dI)(hk:k<es.length)(hg:Gg es[k].1 x.1=false):km es x (k+1) false (dI++ [es[k]]):=by
 obtain⟨h1,h2⟩:=h.f rfl;refine⟨λ_=>⟨by rw[vl hk,h1],λj e hj he=>?_⟩,λh=>by cases h⟩
 rcases aaD j k with h3|h3
 .exact h2 j e h3 he
 .have:j=k:=om;subst this;rw[xm hk]at he;cases he;exact hg
theorem km.AQ{es:List NE}{x:NE}{k:Nat}{dI:List NE}(h:km es x k false dI)(hk:k<es.length)(hg:Gg es[k].1 x.1=true):km es x (k+1) true (dI++ [x,es[k]]):=by
 obtain⟨h1,h2⟩:=h.f rfl;refine⟨λh=>(by cases h),λ_=>⟨k,adR k,?_,h2,es[k],xm hk,hg⟩⟩
 rw[vl hk,h1,List.drop_left' (by simp;omega)]
theorem km.bX{es:List NE}{x:NE}{k:Nat}{dI:List NE}(h:km es x k true dI)(hk:k<es.length):km es x (k+1) true (dI++ [es[k]]):=by
 obtain⟨i,h1,h2,h3,h4⟩:=h.t rfl;refine⟨λh=>(by cases h),λ_=>⟨i,om,?_,h3,h4⟩⟩
 rw[vl hk,ae5 (by simp;omega),h2]
 simp
theorem km.len{es:List NE}{x:NE}{k:Nat}{d:Bool}{dI:List NE}(h:km es x k d dI)(hk:k<=es.length):dI.length=k+d.toNat:=by
 cases d with
 |false=>
  rw[(h.f rfl).1];simp;omega
 |true=>
  obtain⟨i,h1,h2,_⟩:=h.t rfl;rw[h2];simp;omega
def gw(x:NE):List NE->List NE
 | []=>[x]
 |e::r=>if Gg e.1 x.1=true then x::e::r else e::gw x r
theorem tW{x:NE}:∀{a b:List NE},(∀e,e∈a->Gg e.1 x.1=false)->gw x (a++b)=a++gw x b
 | [],_,_=>rfl
 |e::a,b,h=>by
  show gw x (e::(a++b))=_;rw[gw,if_neg (by rw[h e aG];simp),tW λy hy=>h y (by simp[hy])]
  rfl
theorem JO{x e:NE}{r:List NE}(h:Gg e.1 x.1=true):gw x (e::r)=x::e::r:=by rw[gw,if_pos h]
theorem qH{x:NE}:∀{es:List NE}{e:NE},e∈gw x es->e∈es\/e=x
 | [],e,h=>by simp[gw]at h;exact .inr h
 |y::r,e,h=>by
  rw[gw]at h;split at h
  .rcases abH.1 h with h|h
   .exact .inr h
   .exact .inl h
  .rcases abH.1 h with h|h
   .exact .inl (by simp[h])
   .rcases qH h with h|h
    .exact .inl (by simp[h])
    .exact .inr h
theorem EB{x:NE}:∀es:List NE,(gw x es).length=es.length+1
 | []=>rfl
 |y::r=>by
  rw[gw];split
  .rfl
  .simp[EB r]
theorem km.eq{es:List NE}{x:NE}{d:Bool}{dI:List NE}(h:km es x es.length d dI):dI++(if d=true then []else [x])=gw x es:=by
 cases d with
 |false=>
  obtain⟨h1,h2⟩:=h.f rfl;rw[abo]at h1;subst h1;have:=tW (x:=x) (a:=dI) (b:=[]) λe he=>by obtain⟨j,hj⟩:=aag he;exact h2 j e (Mp.1 hj).1 hj
  rw[adn]at this;rw[this];rfl
 |true=>
  obtain⟨i,h1,h2,h3,e0,h4,h5⟩:=h.t rfl;rw[abo]at h2;subst h2;have NL:=(Mp.1 h4).1;have hd:es.drop i=e0::es.drop (i+1):=by rw[adV NL,(Mp.1 h4).2]
  have:=tW (x:=x) (a:=es.take i) (b:=es.drop i) λe he=>by obtain⟨j,hj⟩:=aag he;have gH:=(Mp.1 hj).1;rw[abg]at gH;rw[abI,if_pos om]at hj;exact h3 j e om hj
  rw[aec]at this;rw[this,hd,JO h5];simp
theorem Pn{es:List NE}{x:NE}(hs:Hf es)(gj:∀e,e∈es->e.1.toList≠x.1.toList):Hf (gw x es):=by
 induction es with
 |nil=>exact ad7.2 ⟨aG,List.Pairwise.nil⟩
 |cons e r ih=>
  obtain⟨h1,h2⟩:=ad7.1 hs;rw[gw];split
  .rename_i hg;have hx:=aa9 hg;refine ad7.2 ⟨λy hy=>?_,hs⟩
   rcases abH.1 hy with rfl|hy
   .exact hx
   .exact tV hx (h1 y hy)
  .rename_i hg;rw[adS]at hg;refine ad7.2 ⟨λy hy=>?_,ih h2 λy hy=>gj y (by simp[hy])⟩
   rcases qH hy with hy|rfl
   .exact h1 y hy
   .exact Xp hg (gj e aG)
def o9(es:List NE)(name:ByteArray)(n:Int):Prop:=(∃e,e∈es/\e.1.toList=name.toList/\n=e.2)\/(n= -1/\∀e,e∈es->e.1.toList≠name.toList)
def fq(es:List NE)(name:ByteArray):Int:=match es.find? (λe=>decide (e.1.toList=name.toList))with
 |some e=>e.2
 |none=>-1
theorem yK{es:List NE}(hs:Hf es){a b:NE}(ha:a∈es)(hb:b∈es)(h:a.1.toList=b.1.toList):a=b:=by
 obtain⟨i,hi⟩:=aag ha;obtain⟨j,hj⟩:=aag hb;obtain⟨Vr,fh⟩:=Mp.1 hi;obtain⟨DG,mg⟩:=Mp.1 hj;have hp:=adI.1 hs;rcases aex i j with h3|h3|h3
 .have:=hp i j Vr DG h3;rw[fh,mg,CI,h,qG]at this;cases this
 .subst h3;rw[hi]at hj;cases hj;rfl
 .have:=hp j i DG Vr h3;rw[fh,mg,CI,h,qG]at this;cases this
theorem iw(es:List NE)(name:ByteArray):o9 es name (fq es name):=by
 unfold fq;cases h:es.find? (λe=>decide (e.1.toList=name.toList))with
 |some e=>
  have h1:=List.find?_some h;exact .inl ⟨e,List.mem_of_find?_eq_some h,by simpa using h1,rfl⟩
 |none=>exact .inr ⟨rfl,λe he=>by simpa using afl.1 h e he⟩
theorem ny{es:List NE}(hs:Hf es){name:ByteArray}{n k:Int}(h:o9 es name n)(h2:o9 es name k):n=k:=by
 rcases h with⟨e,he,h3,rfl⟩|⟨rfl,h3⟩
 .rcases h2 with⟨e',wa,h4,rfl⟩|⟨rfl,h4⟩
  .rw[yK hs he wa (h3.trans h4.symm)]
  .exact absurd h3 (h4 e he)
 .rcases h2 with⟨e',wa,h4,rfl⟩|⟨rfl,h4⟩
  .exact absurd h4 (h3 e' wa)
  .rfl
def noD:Dt:= .val (.slice none 0 0)
structure Ob where
 ah:Int
 data:List (List Dt)
 ag:List (List Dt)
 target:ByteArray
 aI:Int
 aj:Dt
 aQ:Int
 ak:Int
 up:Int
def Ob.enc(o:Ob):List Dt:=[.val (.int .i64 o.ah),.sl 1 o.data,.sl 2 o.ag,.val (.string o.target),.val (.int .i64 o.aI),o.aj,.val (.int .i64 o.aQ),.val (.int .i64 o.ak),.val (.int .i64 o.up)]
def Ob.cv(o:Ob):CV:= .rv (.agg (o.enc.map .ai))
def iH(l:List Ob):Dt:= .sl 9 (l.map Ob.enc)
def gE(l:List Ob):CV:= .rv (.one (.ai (iH l)))
def L4(l:List Ob):RV:= .one (.ai (iH l))
def Po(l:List Ob)(e:Int):CV:= .bI [L4 l,cR e]
theorem Hg(l:List Ob)(k:Nat)(o:Ob):(aa (l.map Ob.enc)).set k (o.enc.map .ai)=aa ((l.set k o).map Ob.enc):=by simp[aa,acF]
def gx(l:List Ob)(k ah:Int):Bool:=decide (k>=0)&&(decide (k<l.length)&&match l[k.toNat]? with|none=>false|some o=>o.ah !=0&&(ah==0||o.ah==ah))
def fY(l:List Ob)(k:Int)(o:Ob):List Ob:=if k=l.length then l++ [o]else l.set k.toNat o
theorem Hh(l:List Ob)(hl:l.length<=4194304)(k:Nat)(hk:k<=l.length)(o:Ob):body prog c29 [gE l,am .i64 (k:Nat),o.cv] [] (λr m=>cM m r (gE (fY l k o))):=by
 have hlen:(aa (l.map Ob.enc)).length=l.length:=by simp[aa]
 refine⟨?_,?_⟩
 .show(0+(aa (l.map Ob.enc)).length)*128<=_;rw[hlen];omega
 refine bc (λh=>?_) (λh=>?_)
 .have h:k=l.length:=by have h:(k:Int)=((([]:List (List CC))++aa (l.map Ob.enc)).length:Int):=h;simp[hlen]at h;omega
  have e:fY l k o=l++ [o]:=by rw[fY,if_pos om]
  rw[e];refine⟨?_,?_⟩
  .show((([]:List (List CC))++aa (l.map Ob.enc)).length+1)*128<=_;simp[hlen];omega
  have fa:some (Bk.row 9 ((([]:List (List CC))++aa (l.map Ob.enc))++ [o.enc.map .ai]))=some (Bk.row 9 (aa ((l++ [o]).map Ob.enc))):=by rw[abT,bU];rfl
  exact .rv (.one (eF.db fa 0 none))
 .have ay:k<l.length:=by have h:(k:Int)≠((([]:List (List CC))++aa (l.map Ob.enc)).length:Int):=h;simp[hlen]at h;omega
  have e:fY l k o=l.set k o:=by rw[fY,if_neg om,aam]
  rw[e];refine af (bL (k:=k) (by show k<lenOf (([]:List (List CC))++aa (l.map Ob.enc)).length 0 none;simp[hlen,lenOf];omega)) ?_
  refine af (x:=l[k].enc.map .ai) (by show dp (([]:List (List CC))++aa (l.map Ob.enc)) (gl 0 k)=_;simpa[gl]using bq Ob.enc l ay) ?_
  have fa:some (Bk.row 9 (aZ (([]:List (List CC))++aa (l.map Ob.enc)) (gl 0 k) (o.enc.map .ai)))=some (Bk.row 9 (aa ((l.set k o).map Ob.enc))):=by rw[br,<-Hg];simp[gl]
  exact .rv (.one (eF.db fa 0 none))
theorem fS(l:List Ob)(hl:l.length<=4194304)(k:Nat)(hk:k<=l.length)(o:Ob){m:Mem}{K:CV->Mem->Prop}(h:K (gE (fY l k o)) m):aq prog 29 [gE l,am .i64 (k:Nat),o.cv] m K:=
 aT (aR func29 l29 (Hh l hl k hk o)) (by simp[gE,am,Ob.cv,CV.cY,CC.cY,RV.cY]) λr m1 hf=>⟨_,hf,h⟩
def pa(l:List Ob):Nat:=(l.findIdx? (λo=>o.ah==0)).getD l.length
theorem L5{l:List Ob}{k:Nat}(h:k<l.length)(h0:l[k].ah=0)(hb:∀(j:Nat)o,j<k->l[j]? =some o->o.ah≠0):pa l=k:=by
 have:l.findIdx? (λo=>o.ah==0)=some k:=by
  rw[abw];exact⟨h,by simpa using h0,λj hj=>by simpa using hb j _ hj (xm om)⟩
 rw[pa,this];rfl
theorem yL{l:List Ob}(hb:∀(j:Nat)o,j<l.length->l[j]? =some o->o.ah≠0):pa l=l.length:=by
 have:l.findIdx? (λo=>o.ah==0)=none:=by rw[ady];intro o ho;obtain⟨i,hi⟩:=aag ho;simpa using hb i o (Mp.1 hi).1 hi
 rw[pa,this];rfl
def jh(l:List Ob)(o:Ob):List Ob×Int×Int:=if pa l>=40 then([],0,15)else(fY l (pa l) o,pa l,0)
theorem EC(l:List Ob)(hl:l.length<=4194304)(o:Ob):body prog c27 [gE l,o.cv] [] (λr m=>cM m r (.bI [L4 (jh l o).1,cR (jh l o).2.1,cR (jh l o).2.2])):=by
 refine ax (λk=>k<=l.length/\∀(j:Nat)o,j<k->l[j]? =some o->o.ah≠0) [0,3] (λk=>[(7,am .i64 (k:Nat))]) (λ_=>[.var (o.enc.map .ai)]) (λk=>l.length-k) 0 ⟨aad _,λj o h=>absurd h (abq j)⟩ ?_ (λk hk=>?_)
 .refine View.o1 1 [0] [] ?_
  .exact .pm rfl rfl rfl
 .obtain⟨ef,Br⟩:=hk;have ef:k<=l.length:=ef;have gU:∀(e:pa l=k),(k>=40->jh l o=([],0,15))/\(¬k>=40->jh l o=(fY l k o,(k:Int),0)):=λe=>
   ⟨λh=>by rw[jh,e,if_pos h],λh=>by rw[jh,e,if_neg h]⟩
  refine an (λh=>?_) (λh=>?_)
  .have ay:k<l.length:=by have h:(k:Int)<((l.map Ob.enc).length:Int):=h;rw[P2]at h;omega
   have hi:=xm ay;have hg:cH (l.map Ob.enc) (k:Nat)=some (l[k].enc):=by rw[aY,Rn,hi];rfl
   have wF:=L5 (l:=l) ay;generalize l[k]=x at hi hg wF;have hg:cH (l.map Ob.enc) (k:Nat)=some [.val (.int .i64 x.ah),.sl 1 x.data,.sl 2 x.ag,.val (.string x.target),.val (.int .i64 x.aI),x.aj,.val (.int .i64 x.aQ),.val (.int .i64 x.ak),.val (.int .i64 x.up)]:=hg;refine af hg ?_;refine bO (λhn=>?_) (λh0=>?_)
   .refine⟨k+1,⟨ay,λj y hj hy=>?_⟩,(show l.length-(k+1)<l.length-k by omega),View.o 1 [0] [] ?_ ?_⟩
    .rcases aaD j k with h5|h5
     .exact Br j y h5 hy
     .have:j=k:=om;subst this;rw[hi]at hy;cases hy;exact hn
    .repeat(first|exact .nil|refine .aL ?_|refine .put (.aO (bC om).symm) ?_|refine .eq rfl ?_)
    .exact .pm rfl rfl rfl
   .obtain⟨f1,f2⟩:=gU (wF h0 Br);refine an (λh=>?_) (λh=>?_)
    .rw[f1 (by have h:(k:Int)>=40:=h;omega)]
     exact kL (.one (.bv 9)) (dK.self rfl)
    .rw[f2 (by have h:¬(k:Int)>=40:=h;omega)]
     refine fS l hl k ef o ?_;exact kL (dK.self rfl) (dK.self rfl)
  .have eO:k=l.length:=by have h:¬(k:Int)<((l.map Ob.enc).length:Int):=h;rw[P2]at h;omega
   obtain⟨f1,f2⟩:=gU (by rw[eO];exact yL λj o hj ho=>Br j o om ho)
   refine an (λh=>?_) (λh=>?_)
   .rw[f1 (by have h:(k:Int)>=40:=h;omega)]
    exact kL (.one (.bv 9)) (dK.self rfl)
   .rw[f2 (by have h:¬(k:Int)>=40:=h;omega)]
    refine fS l hl k ef o ?_;exact kL (dK.self rfl) (dK.self rfl)
theorem L6(l:List Ob)(hl:l.length<=4194304)(o:Ob){m:Mem}{K:CV->Mem->Prop}(h:K (.bI [L4 (jh l o).1,cR (jh l o).2.1,cR (jh l o).2.2]) m):aq prog 27 [gE l,o.cv] m K:=
 aT (aR func27 l27 (EC l hl o)) (by simp[gE,Ob.cv,CV.cY,CC.cY,RV.cY]) λr m1 hf=>⟨_,hf,h⟩
theorem Pp(l:List Ob)(k ah:Int):body prog c58 [gE l,am .i64 k,am .i64 ah] [] (λr m=>r=ar (gx l k ah)):=by
 refine an (λh0=>?_) (λh0=>?_)
 .obtain⟨n,rfl⟩:∃n:Nat,k=n:=⟨k.toNat,om⟩;refine an (λh=>?_) (λh=>?_)
  .have ay:n<l.length:=by have h:(n:Int)<((l.map Ob.enc).length:Int):=h;rw[P2]at h;omega
   have hi:=xm ay;have hS:gx l (n:Int) ah=(l[n].ah !=0&&(ah==0||l[n].ah==ah)):=by simp[gx,ay]
   have hg:cH (l.map Ob.enc) (n:Nat)=some (l[n].enc):=by rw[aY,Rn,hi];rfl
   generalize l[n]=x at hS hg;have hg:cH (l.map Ob.enc) (n:Nat)=some [.val (.int .i64 x.ah),.sl 1 x.data,.sl 2 x.ag,.val (.string x.target),.val (.int .i64 x.aI),x.aj,.val (.int .i64 x.aQ),.val (.int .i64 x.ak),.val (.int .i64 x.up)]:=hg;refine af hg ?_;refine aC (λh1=>?_) (λh1=>?_)
   .refine aC (λh2=>?_) (λh2=>?_)
    .show ar _=ar _;rw[hS,h1,h2];rfl
    .refine af hg ?_;show ar _=ar _;rw[hS,h1,h2];rfl
   .show ar _=ar _;rw[hS,h1];rfl
  .have eO:¬n<l.length:=by have h:¬(n:Int)<((l.map Ob.enc).length:Int):=h;rw[P2]at h;omega
   have hS:gx l (n:Int) ah=false:=by simp[gx,eO]
   show ar _=ar _;rw[hS]
 .have hS:gx l k ah=false:=by have:decide (k>=0)=false:=decide_eq_false h0;simp[gx,this]
  show ar _=ar _;rw[hS]
theorem Hi(l:List Ob)(k ah:Int){m:Mem}{K:CV->Mem->Prop}(h:K (ar (gx l k ah)) m):aq prog 58 [gE l,am .i64 k,am .i64 ah] m K:=
 bH func58 l58 rfl (aat rfl) (Pp l k ah) rfl rfl h
theorem fw{l:List Ob}{k:Nat}(h:k<l.length):cH (l.map Ob.enc) (k:Nat)=some [.val (.int .i64 l[k].ah),.sl 1 l[k].data,.sl 2 l[k].ag,.val (.string l[k].target),.val (.int .i64 l[k].aI),l[k].aj,.val (.int .i64 l[k].aQ),.val (.int .i64 l[k].ak),.val (.int .i64 l[k].up)]:=by rw[aY,Rn,xm h];rfl
theorem Pq{l:List Ob}{k c:Int}(hc:c≠0)(h:gx l k c=true):∃n:Nat,k=n/\∃hn:n<l.length,l[n].ah=c:=by
 unfold gx at h;by_cases h0:k>=0
 .obtain⟨n,rfl⟩:∃n:Nat,k=n:=⟨k.toNat,om⟩;by_cases hn:n<l.length
  .refine⟨n,rfl,hn,?_⟩;simp[hn,hc]at h;exact h.2
  .simp[hn]at h
 .simp[h0]at h
theorem Tf{l:List Ob}{k c:Int}(hc:c≠0)(h:gx l k c=false){n:Nat}(hk:k=n)(hn:n<l.length):l[n].ah≠c:=by subst hk;intro On;rw[gx]at h;simp[hn,On,hc]at h
theorem yM{l:List Ob}{k:Int}(h:gx l k 0=true):∃n:Nat,k=n/\n<l.length:=by
 unfold gx at h;by_cases h0:k>=0
 .obtain⟨n,rfl⟩:∃n:Nat,k=n:=⟨k.toNat,om⟩;by_cases hn:n<l.length
  .exact⟨n,rfl,hn⟩
  .simp[hn]at h
 .simp[h0]at h
structure VR(n:Nat)(ah:Int)(ag:List (List Dt)):Prop where
 ex:∃es:List NE,ag=es.map bT/\Hf es/\(∀e,e∈es->0<=e.2/\e.2<(n:Int))/\(ah≠2->es=[])
theorem Pr{a b:List NE}(h:a.map bT=b.map bT):a=b:=by
 have hi:∀x y:NE,bT x=bT y->x=y:=λx y h=>by obtain⟨x1,x2⟩:=x;obtain⟨y1,y2⟩:=y;simp only[bT,aek,Dt.val.injEq,Value.string.injEq,Value.int.injEq,true_and,and_true]at h;rw[h.1,h.2]
 induction a generalizing b with
 |nil=>cases b with
  |nil=>rfl
  |cons y r=>simp at h
 |cons x r ih=>cases b with
  |nil=>simp at h
  |cons y s=>
   simp only[ac6,aek]at h;rw[hi x y h.1,ih h.2]
structure Ob.sn(o:Ob):Prop where
 t:True/\∃es:List (ByteArray×Int),o.ag=es.map bT
 e:o.ag.length<=8
structure JP(l:List Ob):Prop where
 len:l.length<=40
 sm:∀o,o∈l->o.sn
 en:∀o,o∈l->VR l.length o.ah o.ag
def kN:List Dt->NE
 | [.val (.string s),.val (.int .i64 n)]=>(s,n)
 |_=>(⟨#[]⟩,0)
theorem iI:∀es:List NE,(es.map bT).map kN=es
 | []=>rfl
 |e::r=>by show(kN (bT e))::((r.map bT).map kN)=_;rw[iI r];rfl
theorem Hj(l:List Ob)(hg:JP l)(dir:Int)(name:ByteArray):body prog c61 [gE l,am .i64 dir,ei name] [] (λr m=>∃n,r=am .i64 n/\∀(k:Nat)(es:List NE),dir=(k:Int)->(∃hk:k<l.length,l[k].ah=2/\l[k].ag=es.map bT)->o9 es name n):=by
 refine Hi l dir 2 ?_;by_cases hI:gx l dir 2=true
 .rw[hI];obtain⟨n,rfl,hn,hk⟩:=Pq (by decide) hI
  refine af (fw hn) ?_;have s8:=hg.sm _ (aaP hn);have uV:∀(k:Nat)(fH:List NE),((n:Nat):Int)=(k:Int)->(∃hk:k<l.length,l[k].ah=2/\l[k].ag=fH.map bT)->l[n].ag=fH.map bT:=λk fH e⟨hk,_,h⟩=>by have:n=k:=om;subst this;exact h
  generalize l[n]=o at s8 uV;obtain⟨ah,data,ag,target,aI,aj,aQ,ak,up⟩:=o;obtain⟨es,rfl⟩:∃es:List (ByteArray×Int),ag=es.map bT:=s8.t.2;have hlen:es.length<=8:=by have:=s8.e;simpa using this
  have uV:∀(k:Nat)(fH:List NE),((n:Nat):Int)=(k:Int)->(∃hk:k<l.length,l[k].ah=2/\l[k].ag=fH.map bT)->fH=es:=λk fH e h=>(Pr (uV k fH e h)).symm
  refine ax (λk=>k<=es.length/\∀(j:Nat)e,j<k->es[j]? =some e->e.1.toList≠name.toList) [2,17,18] (λk=>[(19,am .i64 (k:Nat))]) (λ_=>[]) (λk=>es.length-k) 0 ⟨aad _,λj e h=>absurd h (abq j)⟩ ?_ (λk hk=>?_)
  .refine View.o1 0 [] [] (.nil _)
  obtain⟨hk,Br⟩:=hk;have hk:k<=es.length:=hk;refine an (λh=>?_) (λh=>?_)
  .have ay:k<es.length:=by have h:(k:Int)<((es.map bT).length:Int):=h;rw[P2]at h;omega
   refine af (tU ay) ?_;refine aC (λheq=>?_) (λheq=>?_)
   .refine⟨_,rfl,λk' fH e h=>?_⟩
    rw[uV k' fH e h];exact .inl ⟨es[k],aaP ay,by simpa using heq,rfl⟩
   .refine⟨k+1,⟨ay,λj e hj he=>?_⟩,(show es.length-(k+1)<es.length-k by omega),View.o 1 [] [] ?_ (.nil _)⟩
    .rcases aaD j k with h3|h3
     .exact Br j e h3 he
     .have:j=k:=om;subst this;rw[xm ay]at he;cases he;simpa using heq
    repeat(first|exact .nil|refine .aL ?_|refine .put (.aO (bC om).symm) ?_|refine .eq rfl ?_)
  .have eO:¬k<es.length:=by have h:¬(k:Int)<((es.map bT).length:Int):=h;rw[P2]at h;omega
   refine⟨_,rfl,λk' fH e h=>?_⟩
   rw[uV k' fH e h];refine .inr ⟨rfl,λe he=>?_⟩
   obtain⟨j,hj⟩:=aag he;exact Br j e (by have:=(Mp.1 hj).1;omega) hj
 .rw[adS]at hI;rw[hI];exact⟨_,rfl,λk es e⟨hk,h2,_⟩=>absurd h2 (Tf (by decide) hI e hk)⟩
theorem Ps(l:List Ob)(hg:JP l)(dir:Int)(name:ByteArray){m:Mem}{K:CV->Mem->Prop}(h:∀n,(∀(k:Nat)(es:List NE),dir=(k:Int)->(∃hk:k<l.length,l[k].ah=2/\l[k].ag=es.map bT)->o9 es name n)->K (am .i64 n) m):aq prog 61 [gE l,am .i64 dir,ei name] m K:=by
 refine aT (K0:=λr _=>∃n,r=am .i64 n/\∀(k:Nat)(es:List NE),dir=(k:Int)->(∃hk:k<l.length,l[k].ah=2/\l[k].ag=es.map bT)->o9 es name n) (aR func61 l61 (Hj l hg dir name)) (by simp[ei,am,gE,CV.cY,CC.cY,RV.cY]) λr m1 hr=>?_
 obtain⟨b,rfl,hb⟩:=hr;exact⟨_,cM.self rfl,h b hb⟩
def CJ(l:List Ob)(n p:Nat)(name:ByteArray):List Ob:=match l[n]? with
 |none=>l
 |some o=>match (l.set n {o with ag:=(gw (name,(p:Int)) (o.ag.map kN)).map bT})[p]? with
  |none=>l
  |some q=>(l.set n {o with ag:=(gw (name,(p:Int)) (o.ag.map kN)).map bT}).set p {q with ak:=IntKind.i64.wrap (q.ak+1),up:=if q.ah=2 then(n:Int)else q.up}
def nU(b:Bool)(o:Ob)(y:List Ob)(name:ByteArray):List Ob×Int:=
 if o.ah≠2 then([],11)else if o.ak=0 then([],6)else if b=false then([],7)else if fq (o.ag.map kN) name>=0 then([],7)else if o.ag.length>=8 then([],15)else(y,0)
def jL(b:Bool)(l:List Ob)(dir:Int)(name:ByteArray)(obj:Int):List Ob×Int:=
 if gx l dir 0=true then(if gx l obj 0=true then(match l[dir.toNat]? with
  |none=>([],6)
  |some o=>nU b o (CJ l dir.toNat obj.toNat name) name)else([],6))else([],6)
theorem Hk{l:List Ob}{n p:Nat}(hI:gx l n 0=true)(Ab:gx l p 0=true)(hn:n<l.length)(name:ByteArray)(b:Bool):jL b l n name p=nU b l[n] (CJ l n p name) name:=by rw[jL,if_pos hI,if_pos Ab,aam,aam,xm hn]
theorem Tg{l:List Ob}{n p:Nat}(hn:n<l.length){name:ByteArray}{l1:List Ob}(h:l.set n {l[n]with ag:=(gw (name,(p:Int)) (l[n].ag.map kN)).map bT}=l1)(hp:p<l1.length):
  CJ l n p name=l1.set p {l1[p]with ak:=IntKind.i64.wrap (l1[p].ak+1),up:=if l1[p].ah=2 then(n:Int)else l1[p].up}:=by
 subst h;rw[CJ,xm hn];simp only[];rw[xm hp]
theorem ED(l:List Ob)(hg:JP l)(dir:Int)(name:ByteArray)(nm:Bool->Prop)(b0:Bool)(wb:nm b0)(hN:∀{m:Mem}{K:CV->Mem->Prop},(∀b,nm b->K (ar b) m)->aq prog 60 [ei name] m K)(obj:Int):body prog c28 [gE l,am .i64 dir,ei name,am .i64 obj] []
  (λr m=>∃y e,(∃b,nm b/\jL b l dir name obj=(y,e))/\cM m r (Po y e)):=by
 refine Hi l dir 0 ?_;by_cases hI:gx l dir 0=true
 .rw[hI];obtain⟨n,rfl,hn⟩:=yM hI;refine Hi l obj 0 ?_;by_cases Ab:gx l obj 0=true
  .rw[Ab];obtain⟨p,rfl,hp⟩:=yM Ab;have rV:=fw hn;refine af rV ?_;have s8:=hg.sm _ (aaP hn);have hR:=Hk hI Ab hn name;have hS:=λl1(h:l.set n {l[n]with ag:=(gw (name,(p:Int)) (l[n].ag.map kN)).map bT}=l1)hp=>Tg (p:=p) (name:=name) hn h hp
   have mJ:=hg.en _ (aaP hn);have Ox:∀f,(∀(k:Nat)(es:List NE),((n:Nat):Int)=(k:Int)->(∃hk:k<l.length,l[k].ah=2/\l[k].ag=es.map bT)->o9 es name f)->l[n].ah=2->∀es:List NE,l[n].ag=es.map bT->o9 es name f:=λf h hk es he=>h n es rfl ⟨hn,hk,he⟩
   generalize l[n]=o at s8 rV hR hS mJ Ox;obtain⟨ah,data,ag,target,aI,aj,aQ,ak,up⟩:=o;obtain⟨es,wK,xh,EE,_⟩:=mJ.ex;have wK:ag=es.map bT:=wK;subst wK;have hR:∀b,jL b l n name p=nU b ⟨ah,data,es.map bT,target,aI,aj,aQ,ak,up⟩ (CJ l n p name) name:=hR;have hS:∀l1:List Ob,l.set n ⟨ah,data,(gw (name,(p:Int)) ((es.map bT).map kN)).map bT,target,aI,aj,aQ,ak,up⟩=l1->∀hp:p<l1.length,CJ l n p name=l1.set p {l1[p]with ak:=IntKind.i64.wrap (l1[p].ak+1),up:=if l1[p].ah=2 then(n:Int)else l1[p].up}:=hS
   rw[iI]at hS;have hlen:es.length<=8:=by have:=s8.e;simpa using this
   refine bO (λh=>?_) (λmC=>?_)
   .exact⟨[],11,⟨b0,wb,by rw[hR,nU,if_pos (show ah≠2 from h)]⟩,ic (.one (.bv 9))⟩
   have mC:ah=2:=by simpa using mC
   refine af rV ?_;refine bc (λh=>?_) (λNM=>?_)
   .exact⟨[],6,⟨b0,wb,by rw[hR,nU,if_neg (show ¬ah≠2 from λx=>x mC),if_pos (show ak=0 from h)]⟩,ic (.one (.bv 9))⟩
   have NM:¬ak=0:=NM;refine hN λb hb=>?_
   cases b with
   |false=>exact⟨[],7,⟨false,hb,by rw[hR,nU,if_neg (show ¬ah≠2 from λx=>x mC),if_neg NM,if_pos rfl]⟩,ic (.one (.bv 9))⟩
   |true=>
    refine Ps l hg n name λf hf=>?_
    refine an (λh=>?_) (λhf0=>?_)
    .exact⟨[],7,⟨true,hb,by rw[hR,nU,if_neg (show ¬ah≠2 from λx=>x mC),if_neg NM,if_neg aG,if_pos (show fq ((es.map bT).map kN) name>=0 by rw[iI,<-ny xh (Ox f hf mC es rfl) (iw es name)];exact h)]⟩,ic (.one (.bv 9))⟩
    have hf0:¬f>=0:=hf0;have hfS:¬fq ((es.map bT).map kN) name>=0:=by rw[iI,<-ny xh (Ox f hf mC es rfl) (iw es name)];exact hf0
    have gj:∀e,e∈es->e.1.toList≠name.toList:=by
     rcases Ox f hf mC es rfl with⟨e,he,_,h2⟩|⟨_,h2⟩
     .have:=(EE e he).1;omega
     .exact h2
    refine af rV ?_;refine an (λh=>?_) (λh8=>?_)
    .exact⟨[],15,⟨true,hb,by rw[hR,nU,if_neg (show ¬ah≠2 from λx=>x mC),if_neg NM,if_neg aG,if_neg hfS,if_pos (show(es.map bT).length>=8 by have h:((es.map bT).length:Int)>=8:=h;omega)]⟩,ic (.one (.bv 9))⟩
    have h8:es.length<8:=by have h:¬(((es.map bT).length:Int)>=8):=h8;rw[P2]at h;omega
    have hR0:jL true l n name p=(CJ l n p name,0):=by rw[hR,nU,if_neg (show ¬ah≠2 from λx=>x mC),if_neg NM,if_neg aG,if_neg hfS,if_neg (show ¬(es.map bT).length>=8 by rw[P2];omega)]
    refine af rV ?_;refine af rV ?_;have after:∀dI:List (ByteArray×Int),dI=gw (name,(p:Int)) es->∃l1,fY l n ⟨ah,data,dI.map bT,target,aI,aj,aQ,ak,up⟩=l1/\l1.length<=4194304/\∃JQ:p<l1.length,
      jL true l n name p=(fY l1 p {l1[p]with ak:=IntKind.i64.wrap (l1[p].ak+1),up:=if l1[p].ah=2 then(n:Int)else l1[p].up},0):=by
     intro dI yN;have hw:fY l n ⟨ah,data,dI.map bT,target,aI,aj,aQ,ak,up⟩=l.set n ⟨ah,data,dI.map bT,target,aI,aj,aQ,ak,up⟩:=by rw[fY,if_neg om];simp
     have JQ:p<(l.set n ⟨ah,data,dI.map bT,target,aI,aj,aQ,ak,up⟩).length:=by simpa using hp
     refine⟨_,hw,by rw[abn];have:=hg.len;omega,JQ,?_⟩
     have hwe:∀(l1:List Ob)(q:Ob),p<l1.length->fY l1 p q=l1.set p q:=λl1 q h=>by rw[fY,if_neg om,aam]
     rw[hR0,hS _ (by rw[<-yN]) JQ,hwe _ _ JQ]
    refine ax (λ(a:aa8)=>a.k<=es.length/\km es (name,(p:Int)) a.k a.d a.dI) [0,1,2,3,10,63,64] (λa=>[(65,am .i64 (a.k:Nat)),(11,ar a.d)])
     (λa=>match a.dI with
      | []=>[.var [.ai (.val (.int .i64 ah)),.ai (.sl 1 data),.bv,.ai (.val (.string target)),.ai (.val (.int .i64 aI)),.ai (aj),.ai (.val (.int .i64 aQ)),.ai (.val (.int .i64 ak)),.ai (.val (.int .i64 up))]]
      |x::r=>[.var [.ai (.val (.int .i64 ah)),.ai (.sl 1 data),.row 1 2 0 none,.ai (.val (.string target)),.ai (.val (.int .i64 aI)),.ai (aj),.ai (.val (.int .i64 aQ)),.ai (.val (.int .i64 ak)),.ai (.val (.int .i64 up))],.row 2 (aa ((x::r).map bT))])
     (λa=>es.length-a.k) ⟨0,false,[]⟩ ⟨aad _,km.afy _ _⟩ ?_ (λa ha=>?_)
    .refine View.o1 1 [0] [] ?_
     .exact .pm rfl rfl rfl
    obtain⟨k,d,dI⟩:=a;obtain⟨hJ1,hJ2⟩:=ha;have hJ1:k<=es.length:=hJ1;have yN:km es (name,(p:Int)) k d dI:=hJ2;have hJ2:dI.length=k+d.toNat:=yN.len hJ1;have xA:d.toNat<=1:=by cases d<;>simp
    cases dI with
    |nil=>
     refine an (λh=>?_) (λh=>?_)
     .have ay:k<es.length:=by have h:(k:Int)<((es.map bT).length:Int):=h;rw[P2]at h;omega
      refine af (tU ay) ?_;cases d with
      |true=>
       simp at hJ2
      |false=>
       refine aC (λSe=>?_) (λSe=>?_)
       .refine⟨by simp[bt,aa]<;>omega,?_⟩
        refine⟨by simp[bt,aa]<;>omega,?_⟩
        refine⟨⟨k+1,true,([(name,(p:Int)),es[k]])⟩,⟨ay,yN.AQ ay Se⟩,(show es.length-(k+1)<es.length-k by omega),View.o2 6 [0,5] [] ?_⟩
        .exact .pe rfl rfl rfl (.pt rfl rfl (.bg (by simp[bt,aa,bT])) (.nil _))
       .refine⟨by simp[bt,aa]<;>omega,?_⟩
        refine⟨⟨k+1,false,([es[k]])⟩,⟨ay,yN.skip ay Se⟩,(show es.length-(k+1)<es.length-k by omega),View.o2 4 [0,3] [] ?_⟩
        .exact .pe rfl rfl rfl (.pt rfl rfl (.bg (by simp[bt,aa,bT])) (.nil _))
     .have oc:k=es.length:=by have h:¬(k:Int)<((es.map bT).length:Int):=h;rw[P2]at h;omega
      cases d with
      |true=>simp at hJ2
      |false=>
       refine⟨by simp[bt,aa]<;>omega,?_⟩
       obtain⟨l1,hw,sx,JQ,yO⟩:=after ([(name,(p:Int))]) (by have h:=yN;rw[oc]at h;exact h.eq)
       refine eR (jr:=[gE l,am .i64 (n:Nat),(Ob.mk ah data (([(name,(p:Int))]).map bT) target aI aj aQ ak up).cv]) (m':=[.aE,.aE,.aE]) (View.o 3 [0,1,2] [2]
        (.eq rfl (.eq rfl (.put (lS.agg (.cons (.aO (.ai _)) (.cons (.aO (.ai _)) (.cons (.dO (Xo (Z:=λk=>bh [2] k=true) rfl rfl (by simp[bt,aa,bT]))) (.cons (.aO (.ai _)) (.cons (.aO (.ai _)) (.cons (.aO (.ai _)) (.cons (.aO (.ai _)) (.cons (.aO (.ai _)) (.cons (.aO (.ai _)) .nil)))))))))) .nil)))
        (.aE (.aE (.aE (.nil _))))) ?_
       refine fS l (by have:=hg.len;omega) n om _ ?_
       rw[hw];refine af (fw JQ) ?_;refine bc (λh=>?_) (λh=>?_)
       .refine fS l1 sx p om {l1[p]with ak:=IntKind.i64.wrap (l1[p].ak+1),up:=n} ?_
        exact⟨_,0,⟨true,hb,by rw[yO,if_pos h]⟩,ic (dK.self rfl)⟩
       .refine fS l1 sx p om {l1[p]with ak:=IntKind.i64.wrap (l1[p].ak+1)} ?_
        exact⟨_,0,⟨true,hb,by rw[yO,if_neg h]⟩,ic (dK.self rfl)⟩
    |cons x r=>
     have hr:r.length<=9:=by simp at hJ2;omega
     refine an (λh=>?_) (λh=>?_)
     .have ay:k<es.length:=by have h:(k:Int)<((es.map bT).length:Int):=h;rw[P2]at h;omega
      refine af (tU ay) ?_;cases d with
      |true=>
       refine⟨by simp[bt,aa]<;>omega,?_⟩
       refine⟨⟨k+1,true,((x::r)++ [es[k]])⟩,⟨ay,yN.bX ay⟩,(show es.length-(k+1)<es.length-k by omega),View.o2 5 [0,4] [] ?_⟩
       .exact .pe rfl rfl rfl (.pt rfl rfl (.bg (by simp[bt,aa,bT])) (.nil _))
      |false=>
       refine aC (λSe=>?_) (λSe=>?_)
       .refine⟨by simp[bt,aa]<;>omega,?_⟩
        refine⟨by simp[bt,aa]<;>omega,?_⟩
        refine⟨⟨k+1,true,((x::r)++ [(name,(p:Int)),es[k]])⟩,⟨ay,yN.AQ ay Se⟩,(show es.length-(k+1)<es.length-k by omega),View.o2 7 [0,6] [] ?_⟩
        .exact .pe rfl rfl rfl (.pt rfl rfl (.bg (by simp[bt,aa,bT])) (.nil _))
       .refine⟨by simp[bt,aa]<;>omega,?_⟩
        refine⟨⟨k+1,false,((x::r)++ [es[k]])⟩,⟨ay,yN.skip ay Se⟩,(show es.length-(k+1)<es.length-k by omega),View.o2 5 [0,4] [] ?_⟩
        .exact .pe rfl rfl rfl (.pt rfl rfl (.bg (by simp[bt,aa,bT])) (.nil _))
     .have oc:k=es.length:=by have h:¬(k:Int)<((es.map bT).length:Int):=h;rw[P2]at h;omega
      cases d with
      |true=>
       obtain⟨l1,hw,sx,JQ,yO⟩:=after ((x::r)) (by have h:=yN;rw[oc]at h;have:=h.eq;simpa using this)
       refine eR (jr:=[gE l,am .i64 (n:Nat),(Ob.mk ah data (((x::r)).map bT) target aI aj aQ ak up).cv]) (m':=[.aE,.aE]) (View.o 2 [0,1] [1]
        (.eq rfl (.eq rfl (.put (lS.agg (.cons (.aO (.ai _)) (.cons (.aO (.ai _)) (.cons (.dO (Xo (Z:=λk=>bh [1] k=true) rfl rfl (by simp[bt,aa,bT]))) (.cons (.aO (.ai _)) (.cons (.aO (.ai _)) (.cons (.aO (.ai _)) (.cons (.aO (.ai _)) (.cons (.aO (.ai _)) (.cons (.aO (.ai _)) .nil)))))))))) .nil)))
        (.aE (.aE (.nil _)))) ?_
       refine fS l (by have:=hg.len;omega) n om _ ?_
       rw[hw];refine af (fw JQ) ?_;refine bc (λh=>?_) (λh=>?_)
       .refine fS l1 sx p om {l1[p]with ak:=IntKind.i64.wrap (l1[p].ak+1),up:=n} ?_
        exact⟨_,0,⟨true,hb,by rw[yO,if_pos h]⟩,ic (dK.self rfl)⟩
       .refine fS l1 sx p om {l1[p]with ak:=IntKind.i64.wrap (l1[p].ak+1)} ?_
        exact⟨_,0,⟨true,hb,by rw[yO,if_neg h]⟩,ic (dK.self rfl)⟩
      |false=>
       refine⟨by simp[bt,aa]<;>omega,?_⟩
       obtain⟨l1,hw,sx,JQ,yO⟩:=after (((x::r)++ [(name,(p:Int))])) (by have h:=yN;rw[oc]at h;exact h.eq)
       refine eR (jr:=[gE l,am .i64 (n:Nat),(Ob.mk ah data ((((x::r)++ [(name,(p:Int))])).map bT) target aI aj aQ ak up).cv]) (m':=[.aE,.aE,.aE,.aE]) (View.o 4 [0,1,2,3] [3]
        (.eq rfl (.eq rfl (.put (lS.agg (.cons (.aO (.ai _)) (.cons (.aO (.ai _)) (.cons (.dO (Xo (Z:=λk=>bh [3] k=true) rfl rfl (by simp[bt,aa,bT]))) (.cons (.aO (.ai _)) (.cons (.aO (.ai _)) (.cons (.aO (.ai _)) (.cons (.aO (.ai _)) (.cons (.aO (.ai _)) (.cons (.aO (.ai _)) .nil)))))))))) .nil)))
        (.aE (.aE (.aE (.aE (.nil _)))))) ?_
       refine fS l (by have:=hg.len;omega) n om _ ?_
       rw[hw];refine af (fw JQ) ?_;refine bc (λh=>?_) (λh=>?_)
       .refine fS l1 sx p om {l1[p]with ak:=IntKind.i64.wrap (l1[p].ak+1),up:=n} ?_
        exact⟨_,0,⟨true,hb,by rw[yO,if_pos h]⟩,ic (dK.self rfl)⟩
       .refine fS l1 sx p om {l1[p]with ak:=IntKind.i64.wrap (l1[p].ak+1)} ?_
        exact⟨_,0,⟨true,hb,by rw[yO,if_neg h]⟩,ic (dK.self rfl)⟩
  .rw[adS]at Ab;rw[Ab];exact⟨[],6,⟨b0,wb,by rw[jL,if_pos hI,if_neg (by rw[Ab];simp)]⟩,ic (.one (.bv 9))⟩
 .rw[adS]at hI;rw[hI];exact⟨[],6,⟨b0,wb,by rw[jL,if_neg (by rw[hI];simp)]⟩,ic (.one (.bv 9))⟩
def uN(b:List Int):Prop:=∀x,x∈b->0<=x/\x<=255
theorem b7(b:List Int)(hb:uN b)(n:Int){m:Mem}{K:CV->Mem->Prop}(id:Nat)(hm:dp m id=some (.var [.ai (.sl 1 (dH b))]))(h:∀(x:Nat)(b':List Int),uN b'->(1<=n->(x:Int)<n)->x<=255->(n<1->x=0)->K (am .i64 (x:Nat)) (aZ m id (.var [.ai (.sl 1 (dH b'))]))):aq prog 26 [.rv (.one (.ptr id 0)),am .i64 n] m K:=by
 refine Td b n id hm ?_;cases b with
 |nil=>exact h 0 [] hb (λhn=>by show(0:Int)<n;omega) om (λ_=>rfl)
 |cons x r=>
  by_cases hn:n<1
  .have e:nu (x::r) n=(0,x::r):=by rw[nu,if_pos hn]
   rw[e];exact h 0 (x::r) hb (λhn=>by show(0:Int)<n;omega) om (λ_=>rfl)
  .have e:nu (x::r) n=((IntKind.i64.wrap x).tmod n,r):=by rw[nu,if_neg hn]
   obtain⟨h1,h2⟩:=hb x aG;obtain⟨k,rfl⟩:∃k:Nat,x=k:=⟨x.toNat,om⟩;obtain⟨d,rfl⟩:∃d:Nat,n=d:=⟨n.toNat,om⟩;rw[mG om]at e;have e2:((k:Int)).tmod (d:Int)=((k%d:Nat):Int):=(Int.ofNat_tmod k d).symm;rw[e2]at e;rw[e];have ay:k%d<d:=Nat.mod_lt _ om;exact h (k%d) r (λy hy=>hb y (by simp[hy])) (λ_=>om) (by have:=Nat.mod_le k d;omega) (λh=>absurd h hn)
def c9:LF:=Cq prog Tryz.f9 [[4,1,0,2,0,2],[5,0],[7],[7,2,0],[7,3,0],[7,4,0],[7,4,0,1,0,2,0,1]] [[(eL 5 0 (.cons 8 none (.cons 9 none (.cons 13 none (.cons 5 (some []) (.cons 6 none (.cons 7 none (.cons 10 (some [7,6]) (.cons 11 none (.cons 12 none (.cons 14 (some []) (eL 5 15 .nil))))))))))))],[(eL 4 0 (.cons 4 (some [1]) (.cons 5 none (.cons 6 (some [1]) (.cons 7 (some []) (.cons 8 none (.cons 9 (some []) .nil)))))))],[(eL 6 0 (.cons 8 none (.z7 (.cons 6 (some [1]) (.z7 (.cons 7 (some [5,4,1]) (.cons 9 (some [1]) (eL 3 10 (.cons 13 (some []) (eL 7 14 .nil))))) (.cons 9 (some [1]) (.cons 7 (some [5,4,1]) (eL 3 10 (.cons 13 (some []) (eL 7 14 .nil))))))) (.cons 7 (some [5,4,1]) (.cons 6 (some [1]) (.cons 9 (some [1]) (eL 3 10 (.cons 13 (some []) (eL 7 14 .nil)))))))))]]
theorem l9:bA prog Tryz.f9=some c9.er:=by kernel_rfl
def pb:LC->LC
 | .seq a _=>a
 |x=>x
def bs:LC->LC
 | .seq _ b=>b
 |x=>x
def mK:LC->LC
 | .rO a=>a
 |x=>x
def Xq:LC:=bs (bs (bs (bs (bs c9.code))))
def abb:LC:=mK (bs (bs Xq))
def abc:LC:=bs (bs abb)
def Xr:LC:=bs abc
def Xs:LC:=bs Xr
def afA:LC:=bs Xs
structure aV where
 obj:Int
 dq:Int
def aV.enc(o:aV):List Dt:=[.val (.int .i64 o.obj),.val (.int .i64 o.dq)]
structure aM where
 aF:Bool
 fenced:Bool
 code:Int
 ap:List dX
def aM.enc(p:aM):List Dt:=[.val (.bool p.aF),.val (.bool p.fenced),.val (.int .i64 p.code),ip p.ap]
def de(l:List aV):Dt:= .sl 2 (l.map aV.enc)
def dM(l:List aM):Dt:= .sl 4 (l.map aM.enc)
def cA(l:List Obj)(op:List aV)(ps:List aM):CV:= .rv (.agg [.ai (cX l),.ai (de op),.ai (dM ps)])
inductive dC(Y:Nat->Nat)(m:Mem)(Z:Nat->Prop)(p:Option Nat):List CC->List CC->Prop
 |nil:dC Y m Z p [] []
 |cons {c c':CC} {r r':List CC} (h:tL Y m Z p c c') (hr:dC Y m Z p r r'):dC Y m Z p (c::r) (c'::r')
theorem dC.get{Y:Nat->Nat}{m:Mem}{Z:Nat->Prop}{p:Option Nat}{cs fD:List CC}(h:dC Y m Z p cs fD):∀(i:Nat)c',fD[i]? =some c'->∃c,cs[i]? =some c/\tL Y m Z p c c':=by
 induction h with
 |nil=>intro i c' h;simp at h
 |cons h hr ih=>
  intro i c' h2;cases i with
  |zero=>simp at h2;subst h2;exact⟨_,rfl,h⟩
  |succ i=>simpa using ih i c' (by simpa using h2)
theorem dC.var{Y:Nat->Nat}{m:Mem}{Z:Nat->Prop}{id:Nat}{cs fD:List CC}(h:dC Y m Z (some id) cs fD):o6 Y m Z id (.var cs) (.var fD):= .var h.get
def z3:List CC:=[.bv,.bv,.bv]
def ru(b:List Int):Bk:= .var [.ai (.sl 1 (dH b))]
theorem gz(b:List Int):ru b≠.aE:=by intro h;cases h
theorem Xt{m:Mem}{Z:Nat->Prop}{p:Option Nat}{has:Bool}{ct rts:Int}{X:List (List CC)}(hz7:Z 7)(hz4:Z 4)(h7:m[7]? =some (.row 4 X))(hX:X=[[.row 4 1 0 none,.ai (.val (.bool has)),.ai (.val (.int .i64 ct)),.ai (.val (.int .i64 rts))]])(h4:m[4]? =some (.row 1 (aa (dH [109])))):
  cV m Z p (.row 7 4 0 none) (.sl 4 [cJ.enc ⟨dH [109],has,ct,rts⟩]):=by
 subst hX;refine cV.row 7 4 0 none _ [cJ.enc ⟨dH [109],has,ct,rts⟩] hz7 h7 rfl (λi cs es h1 h2=>?_) (λi cs es j c d h1 h2 h3 L7=>?_)
 .match i,h1,h2 with
  |0,h1,h2=>cases h1;cases h2;rfl
  |n+1,h1,h2=>simp at h1
 .match i,h1,h2 with
  |0,h1,h2=>
   cases h1;cases h2
   match j,h3,L7 with
   |0,h3,L7=>cases h3;cases L7;exact cV.db hz4 h4 0 none
   |1,h3,L7=>cases h3;cases L7;exact .ai _
   |2,h3,L7=>cases h3;cases L7;exact .ai _
   |3,h3,L7=>cases h3;cases L7;exact .ai _
   |n+4,h3,L7=>simp at h3
  |n+1,h1,h2=>simp at h1
theorem aJ(ds:List (List Dt)):(aa ds).length=ds.length:=by simp[aa]
theorem dv(Y:Nat->Nat)(ds:List (List Dt)):(aa ds).map (λcs=>cs.map (CC.aO Y))=aa ds:=by simp[aa,ad3,CC.aO]
theorem JR{Y:Nat->Nat}{m:Mem}{Z:Nat->Prop}{id:Nat}(l:List aM)(p:aM){c:CC}{X:List (List CC)}(hc:tL Y m Z (some id) c (.ai (ip p.ap)))(hX:X=aa (l.map aM.enc)++ [[.ai (.val (.bool p.aF)),.ai (.val (.bool p.fenced)),.ai (.val (.int .i64 p.code)),c]]):o6 Y m Z id (.row 4 X) (.row 4 (aa ((l++ [p]).map aM.enc))):=by
 subst hX;have e:aa ((l++ [p]).map aM.enc)=aa (l.map aM.enc)++ [p.enc.map .ai]:=by simp[aa]
 rw[e];refine .ve (dv Y _) rfl λj c1 c2 h1 h2=>?_
 match j,h1,h2 with
 |0,h1,h2=>cases h1;cases h2;exact .aO (.ai _)
 |1,h1,h2=>cases h1;cases h2;exact .aO (.ai _)
 |2,h1,h2=>cases h1;cases h2;exact .aO (.ai _)
 |3,h1,h2=>cases h1;cases h2;exact hc
 |n+4,h1,h2=>simp at h1
structure abd where
 j:Nat
 b:List Int
 sl:List dX
structure afB where
 p:Nat
 b:List Int
 ps:List aM
end Go.Proofs.YtllkfpggoigbaaaGreatDoor
