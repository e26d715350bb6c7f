/- Part 3 of 39: what the law stands on. -/
import Derived.Test.YtodckkkbiidffaaGreatDoorT02
set_option linter.unusedVariables false
set_option linter.unusedSimpArgs false
set_option linter.unnecessarySimpa false
set_option maxRecDepth 100000
set_option maxHeartbeats 64000000
namespace Go.AM
theorem aU{α:Type}:∀(l:List α)(i:Nat),cR l i=l[i]?
 | [],_=>by simp[cR]
 |_::_,0=>rfl
 |_::r,k+1=>by simpa[cR]using aU r k
theorem bg{α:Type}:∀(l:List α)(i:Nat)(x:α),aZ l i x=l.set i x
 | [],_,_=>rfl
 |_::_,0,_=>rfl
 |a::r,k+1,x=>by simp[aZ,bg r k x]
theorem cf{α:Type}:∀(a b:List α),gL a b=a++b
 | [],_=>rfl
 |x::r,b=>by simp[gL,cf r b]
theorem fb{α:Type}:∀(n:Nat)(x:α),fC n x=List.replicate n x
 |0,_=>rfl
 |n+1,x=>by simp[fC,fb n x,List.replicate_succ]
theorem ei{α:Type}{β:Sort _}:∀(l:List α)(k:List α->β),gQ l k=k l
 | [],_=>rfl
 |x::r,k=>ei r fun r'=>k (x::r')
theorem QH{β:Sort _}(v:CV)(k:CV->β):fV v k=k v:=by
 cases v with
 |rv r=>
  cases r with
  |one c=>rfl
  |agg cs=>exact ei cs _
 |_=>rfl
theorem jZ:∀(e:List CV)(i:Nat),iV e i=(e[i]?).getD .ar
 | [],_=>by simp[iV]
 |_::_,0=>rfl
 |_::r,k+1=>by simpa[iV]using jZ r k
theorem bc{α:Type}{o:Option α}{K:α->Prop}:ok o K↔∃x,o=some x/\K x:=by
 cases o<;>simp[ok]
theorem cg{t:Bool}{A B:Prop}:bB t A B↔(t=true/\A)\/(t=false/\B):=by
 cases t<;>simp[bB]
theorem yZ{β:Sort _}(m0:Mem):∀(m:Mem)(c n:Nat)(k:Nat->β),m0.length=c+m.length->sY m0 m (List.range' c n) k=k m0.length
 | [],c,0,k,_=>by simp[sY]
 | [],c,n+1,k,h=>by simp[sY,abO,h]
 |_::r,c,0,k,h=>by simp[sY]
 |_::r,c,n+1,k,h=>by
  rw[abO,sY];exact yZ m0 r (c+1) n k (by simp at h;omega)
theorem gy{β:Sort _}(m:Mem)(k:Nat->β):n9 m k=k m.length:=by have:=yZ m m 0 64 k aI;exact this
theorem jv:∀{cs:List CC}{j n:Nat}{l:List CC},gR cs j n=some l->l.length=n/\∀i,i<n->cs[j+i]? =l[i]?
 |cs,0,0,l,h=>by cases cs<;>simp[gR]at h<;>subst h<;>simp
 | [],0,n+1,l,h=>by simp[gR]at h
 | [],j+1,n,l,h=>by cases n<;>simp[gR]at h
 |c::cs,0,n+1,l,h=>by
  simp only[gR]at h;cases hr:gR cs 0 n with
  |none=>simp[hr]at h
  |some l'=>
   simp[hr]at h;subst h;obtain⟨h1,h2⟩:=jv hr;refine⟨by simp[h1],fun i hi=>?_⟩
   cases i with
   |zero=>simp
   |succ i=>have:=h2 i (by omega);simpa using this
 |c::cs,j+1,n,l,h=>by
  have h':gR cs j n=some l:=by cases n<;>simpa[gR]using h
  obtain⟨h1,h2⟩:=jv h';refine⟨h1,fun i hi=>?_⟩
  have:=h2 i hi;rw[show j+1+i=(j+i)+1 by omega]
  simpa using this
theorem iv:∀{cs:List CC}{j:Nat}{xs l:List CC},fG cs j xs=some l->
  l.length=cs.length/\j+xs.length<=cs.length/\∀i,l[i]? =if j<=i/\i<j+xs.length then xs[i-j]? else cs[i]?
 |cs,0,[],l,h=>by
  cases cs<;>simp[fG]at h<;>subst h
  .simp
  .refine⟨rfl,aI,fun i=>?_⟩
   rw[if_neg aI]
 | [],0,x::xs,l,h=>by simp[fG]at h
 | [],j+1,xs,l,h=>by cases xs<;>simp[fG]at h
 |c::cs,0,x::xs,l,h=>by
  simp only[fG]at h;cases hr:fG cs 0 xs with
  |none=>simp[hr]at h
  |some l'=>
   simp[hr]at h;subst h;obtain⟨h1,h2,h3⟩:=iv hr;refine⟨by simp[h1],by simp at h2⊢;omega,fun i=>?_⟩
   cases i with
   |zero=>simp
   |succ i=>
    have:=h3 i;simp only[Wi,true_and,aai,aa9,Wo,aaU]at this⊢;rw[this];simp
 |c::cs,j+1,xs,l,h=>by
  have h':(fG cs j xs).map (c:: ·)=some l:=by
   rw[<-h];cases hr:fG cs j xs<;>cases xs<;>simp[fG,hr]
  cases hr:fG cs j xs with
  |none=>simp[hr]at h'
  |some l'=>
   simp[hr]at h';subst h';obtain⟨h1,h2,h3⟩:=iv hr;refine⟨by simp[h1],by simp;omega,fun i=>?_⟩
   cases i with
   |zero=>rw[if_neg om];simp
   |succ i=>
    have:=h3 i;simp only[aaU,this];by_cases hc:j<=i/\i<j+xs.length
    .rw[if_pos hc,if_pos om,show i+1-(j+1)=i-j by omega]
    .rw[if_neg hc,if_neg om]
theorem tf:∀{ds:List Dt}{n:Nat}{l:List CC},sW ds n=some l->l.length=n/\∀i,i<n->∃d,ds[i]? =some d/\l[i]? =some (.aa d)
 |ds,0,l,h=>by cases ds<;>simp[sW]at h<;>subst h<;>simp
 | [],n+1,l,h=>by simp[sW]at h
 |d::ds,n+1,l,h=>by
  simp only[sW]at h;cases hr:sW ds n with
  |none=>simp[hr]at h
  |some l'=>
   simp[hr]at h;subst h;obtain⟨h1,h2⟩:=tf hr;refine⟨by simp[h1],fun i hi=>?_⟩
   cases i with
   |zero=>exact⟨d,aI,aI⟩
   |succ i=>simpa using h2 i om
theorem th:∀{l:List CC},gS l=true->∀c,c∈l->∀esz e,c≠.gh esz e
 | [],_,c,hc,_,_=>by simp at hc
 |x::r,h,c,hc,esz,e=>by
  cases x with
  |gh a b=>simp[gS]at h
  |_=>
   rcases aaf.1 hc with rfl|hc
   .simp
   .exact th (l:=r) (by simpa[gS]using h) c hc esz e
def Bk.Ok:Bk->Prop
 | .row _ elems=>∀(i:Nat)cs(j:Nat)c,elems[i]? =some cs->cs[j]? =some c->∀esz e,c≠.gh esz e
 |_=>True
theorem bq.xb{ρ:bG}{w:World}{c:CC}{v:Value}(h:bq ρ w .none c v)(esz:Nat)(e:List (List Dt)):c≠.gh esz e:=by rintro rfl;obtain⟨_,_,_,e,_⟩:=h;cases e
theorem bq.ti{ρ:bG}{w:World}{c:CC}{v:Value}(h:bq ρ w .none c v)(pos:Option (Nat×Nat×Nat)):bq ρ w pos c v:=by
 cases c<;>first|exact h|(obtain⟨_,_,_,e,_⟩:=h;cases e)
theorem bq.QI{ρ:bG}{w:World}{pos:Option (Nat×Nat×Nat)}{c:CC}{v:Value}(hn:∀esz e,c≠.gh esz e)(h:bq ρ w pos c v):bq ρ w .none c v:=by
 cases c<;>first|exact h|exact absurd rfl (hn _ _)
def bG.push(ρ:bG)(l:uW):bG:=
 {n:=ρ.n+1,aP:=fun k=>if k.id=ρ.n then l else ρ.aP k,S:=ρ.S}
theorem bG.ek(ρ:bG)(l:uW){k:kH}(h:k.id<ρ.n):(ρ.push l).aP k=ρ.aP k:=by simp only[bG.push];rw[if_neg om]
theorem bG.fQ(ρ:bG)(l:uW):(ρ.push l).aP (.ap ρ.n)=l:=by simp[bG.push,kH.id]
structure dW(w w':World):Prop where
 heap:∀b,b<w.heap.size->w'.heap[b]? =w.heap[b]?
 size:w.heap.size<=w'.heap.size
 os:w'.os=w.os
 tape:w'.tape=w.tape
 output:w'.output=w.output
theorem dW.alloc(w:World)(o:Obj):dW w (w.alloc o):=⟨fun b h=>heap_alloc_old w o b h,aI,rfl,rfl,rfl⟩
theorem dW.drew(w:World):dW w w.drew:=⟨fun _ _=>rfl,Pq _,rfl,rfl,rfl⟩
theorem dW.trans{a b c:World}(h:dW a b)(k:dW b c):dW a c:=
 ⟨fun x hx=>(k.heap x (aad hx h.size)).trans (h.heap x hx),aaP h.size k.size,k.os.trans h.os,k.tape.trans h.tape,k.output.trans h.output⟩
theorem dV.cE{ρ ρ':bG}{w w':World}{id:Nat}{bk:Bk}(g:hB ρ w ρ' w')(hid:id<ρ.n)(hb:bk≠.aO->((∃esz elems,bk= .row esz elems)->0<(ρ.aP (.ap id)).cap)->w'.heap[(ρ.aP (.ap id)).b]? =w.heap[(ρ.aP (.ap id)).b]?)(h:dV ρ w id bk):dV ρ' w' id bk:=by
 have hl:ρ'.aP (.ap id)=ρ.aP (.ap id):=g.aP (.ap id) hid;cases bk with
 |aO=>trivial
 |var cs=>
  obtain⟨cur,hc,hd⟩:=h;refine⟨cur,by rw[hl];exact hc.dv (hb aI (by rintro⟨_,_,e⟩;cases e)),fun j c hj=>?_⟩
  obtain⟨u,hu,b8⟩:=hd j c hj;exact⟨u,by rw[hl];exact hu,b8.cE g aI⟩
 |row esz elems=>
  obtain⟨h2,h3,h4,h5,bS⟩:=h;refine⟨by rw[hl];exact h2,by rw[hl];exact h3,by rw[hl];exact h4,h5,fun dd=>?_⟩
  rw[hl]at dd;obtain⟨cur,hc,h1,h6⟩:=bS dd;refine⟨cur,by rw[hl];exact hc.dv (hb aI fun _=>dd),by rw[hl];exact h1,fun i cs j c hi hj=>?_⟩
  obtain⟨u,hu,b8⟩:=h6 i cs j c hi hj;exact⟨u,by rw[hl];exact hu,b8.cE g (by rintro iO i' j' e;cases e;exact hid)⟩
 |mp es=>
  obtain⟨cH,clock,hc,h1,h2⟩:=h;refine⟨cH,clock,⟨by rw[hl,hb aI (by rintro⟨_,_,e⟩;cases e)];exact hc.1,hc.2⟩,h1,fun i e hi=>?_⟩
  obtain⟨e',rz,hk,hd⟩:=h2 i e hi;exact⟨e',rz,hk,hd.cE g⟩
 |it cur left=>
  obtain⟨mb,seen,ck,cH,h2,h3,h4,h5,h6⟩:=h;exact⟨mb,seen,ck,cH,by rw[hl,hb aI (by rintro⟨_,_,e⟩;cases e)];exact h2,by rw[hl];exact h3,g.S _ h4,by rw[g.heap mb h4];exact h5,h6⟩
theorem wX.cE{ρ ρ':bG}{w w':World}(g:hB ρ w ρ' w'){l:uW}{esz:Nat}{elems:List (List Dt)}(hb:w'.heap[l.b]? =w.heap[l.b]?)(h:wX ρ w l esz elems):wX ρ' w' l esz elems:=by
 obtain⟨cur,hc,h1,h2,h3⟩:=h;refine⟨cur,hc.dv hb,h1,h2,fun i cs j d hi hj=>?_⟩
 obtain⟨u,hu,hd⟩:=h3 i cs j d hi hj;exact⟨u,hu,hd.mono g.S g.heap⟩
theorem aA.fN{ρ:bG}{m:Mem}{w:World}(hM:aA ρ m w){id:Nat}{bk:Bk}(h:m[id]? =some bk):id<ρ.n:=by rw[hM.n];exact(Gf.1 h).1
theorem aA.M6{ρ:bG}{m:Mem}{w w':World}{bk:Bk}{l:uW}(hM:aA ρ m w)(hw:dW w w')(DX:Live (ρ.push l) (m++ [bk]) (.ap ρ.n)->w.heap.size<=l.b/\l.b<w'.heap.size)(eO:dV (ρ.push l) w' m.length bk)(hf:bk.Ok):aA (ρ.push l) (m++ [bk]) w'/\Ext ρ m w (ρ.push l) (m++ [bk]) w':=by
 have hn:=hM.n;have g:hB ρ w (ρ.push l) w':=⟨by simp[bG.push],fun k hk=>ρ.ek l hk,fun b hb=>hb,fun b hb=>hw.heap b (hM.S b hb)⟩
 have get:∀{id:Nat}{b:Bk},(m++ [bk])[id]? =some b->(id<ρ.n/\m[id]? =some b)\/(id=ρ.n/\b=bk):=by
  intro id b hb;rcases Wj id m.length with h|h
  .exact .inl ⟨om,by rwa [Tz h]at hb⟩
  .rw[SF h]at hb;have:id-m.length=0:=by
    rcases aap (id-m.length)with h0|h0
    .exact h0
    .rw[aae (by simp;omega)]at hb;cases hb
   rw[this]at hb;exact .inr ⟨om,by simpa using hb.symm⟩
 have gz:∀{id i j esz elems},fg (m++ [bk]) id i j esz elems->id<ρ.n/\fg m id i j esz elems:=by
  rintro id i j esz elems ⟨es,rows,cs,hb,hi,hj⟩;rcases get hb with⟨aE,hb⟩|⟨_,rfl⟩
  .exact⟨aE,es,rows,cs,hb,hi,hj⟩
  .exact absurd rfl (hf i cs j _ hi hj esz elems)
 have cW:∀k,Live (ρ.push l) (m++ [bk]) k->(k.id<ρ.n/\Live ρ m k)\/k= .ap ρ.n:=by
  intro k hk;cases k with
  |ap id=>
   obtain⟨b,hb,eG,bl⟩:=hk;rcases get hb with⟨aE,hb⟩|⟨rfl,_⟩
   .rw[ρ.ek l (k:= .ap id) aE]at bl;exact .inl ⟨aE,b,hb,eG,bl⟩
   .exact .inr rfl
  |sub id i j=>
   obtain⟨⟨esz,elems,ho⟩,bl⟩:=hk;obtain⟨aE,ho⟩:=gz ho;rw[ρ.ek l (k:= .sub id i j) aE]at bl;exact .inl ⟨aE,⟨esz,elems,ho⟩,bl⟩
 have xd:(ρ.push l).aP (.ap ρ.n)=l:=ρ.fQ l;refine⟨⟨by simp[bG.push,hn],fun b hb=>aad (hM.S b hb) hw.size,?_,?_,?_,?_⟩,⟨by simp[bG.push],fun id hid=>ρ.ek l hid,fun b hb=>hb,fun b hb=>.inl hb,?_,?_,hw.size,hw.os,hw.tape,hw.output⟩⟩
 .intro k hk;rcases cW k hk with⟨aE,hk⟩|rfl
  .rw[ρ.ek l aE];exact⟨aad (hM.a7 k hk).1 hw.size,(hM.a7 k hk).2⟩
  .rw[xd];exact⟨(DX hk).2,fun hs=>by have:=hM.S _ hs;have:=(DX hk).1;omega⟩
 .intro k k' hk gv he;rcases cW k hk with⟨aE,hk⟩|rfl<;>rcases cW k' gv with⟨mK,gv⟩|rfl
  .rw[ρ.ek l aE,ρ.ek l mK]at he;exact hM.inj k k' hk gv he
  .rw[ρ.ek l aE,xd]at he;have:=(hM.a7 k hk).1;have:=(DX gv).1;omega
  .rw[ρ.ek l mK,xd]at he;have:=(hM.a7 k' gv).1;have:=(DX hk).1;omega
  .rfl
 .intro id b hb;rcases get hb with⟨aE,hb⟩|⟨rfl,rfl⟩
  .exact(hM.bk id b hb).cE g aE fun eG bl=>hw.heap _ (hM.a7 (.ap id) ⟨b,hb,eG,bl⟩).1
  .rw[hn];exact eO
 .intro id i j esz elems ho bl;obtain⟨aE,ho⟩:=gz ho;rw[ρ.ek l (k:= .sub id i j) aE]at bl⊢;exact(hM.gh id i j esz elems ho bl).cE g (hw.heap _ (hM.a7 (.sub id i j) ⟨⟨esz,elems,ho⟩,bl⟩).1)
 .intro k hk;rcases cW k hk with⟨aE,hk⟩|rfl
  .exact .inr ⟨k,hk,(by rw[ρ.ek l aE])⟩
  .exact .inl (by rw[xd];exact(DX hk).1)
 .intro b hb _;exact hw.heap b hb
theorem aA.push{ρ:bG}{m:Mem}{w w':World}{bk:Bk}{l:uW}(hM:aA ρ m w)(hw:dW w w')(h1:w.heap.size<=l.b)(h2:l.b<w'.heap.size)(eO:dV (ρ.push l) w' m.length bk)(hf:bk.Ok):aA (ρ.push l) (m++ [bk]) w'/\Ext ρ m w (ρ.push l) (m++ [bk]) w':=
 hM.M6 hw (fun _=>⟨h1,h2⟩) eO hf
structure jw(w w':World)(g:Nat):Prop where
 heap:∀b,b≠g->w'.heap[b]? =w.heap[b]?
 size:w'.heap.size=w.heap.size
 os:w'.os=w.os
 tape:w'.tape=w.tape
 output:w'.output=w.output
theorem aA.Ol{ρ:bG}{m:Mem}{w w':World}{id:Nat}{bk Bt:Bk}(hM:aA ρ m w)(hid:m[id]? =some bk)(cP:Live ρ m (.ap id))(hw:jw w w' (ρ.aP (.ap id)).b)(eO:hB ρ w ρ w'->dV ρ w' id Bt)(kY:∀i j esz e,fg (m.set id Bt) id i j esz e->fg m id i j esz e):aA ρ (m.set id Bt) w'/\Ext ρ m w ρ (m.set id Bt) w':=by
 have aE:id<m.length:=(Gf.1 hid).1;have hS:=(hM.a7 _ cP).2;have g:hB ρ w ρ w':=⟨Pq _,fun _ _=>rfl,fun _ h=>h,fun b hb=>hw.heap b fun e=>hS (e▸hb)⟩
 have get:∀{k:Nat}{b:Bk},(m.set id Bt)[k]? =some b->(k≠id/\m[k]? =some b)\/(k=id/\b=Bt):=by
  intro k b hb;by_cases hk:k=id
  .subst hk;rw[Pr aE]at hb;exact .inr ⟨rfl,by simpa using hb.symm⟩
  .rw[Wf (Ne.symm hk)]at hb;exact .inl ⟨hk,hb⟩
 have gz:∀{k i j esz e},fg (m.set id Bt) k i j esz e->fg m k i j esz e:=by
  intro k i j esz e ho;by_cases hk:k=id
  .subst hk;exact kY i j esz e ho
  .obtain⟨es,rows,cs,hb,hi,hj⟩:=ho;rw[Wf (Ne.symm hk)]at hb;exact⟨es,rows,cs,hb,hi,hj⟩
 have cW:∀k,Live ρ (m.set id Bt) k->Live ρ m k:=by
  intro k hk;cases k with
  |ap k=>
   obtain⟨b,hb,hn,bl⟩:=hk;rcases get hb with⟨_,hb⟩|⟨rfl,_⟩
   .exact⟨b,hb,hn,bl⟩
   .exact cP
  |sub k i j=>
   obtain⟨⟨esz,e,ho⟩,bl⟩:=hk;exact⟨⟨esz,e,gz ho⟩,bl⟩
 refine⟨⟨by simp[hM.n],fun b hb=>by rw[hw.size];exact hM.S b hb,fun k hk=>by rw[hw.size];exact hM.a7 k (cW k hk),fun k k' hk gv=>hM.inj k k' (cW k hk) (cW k' gv),?_,?_⟩,
  ⟨Pq _,fun _ _=>rfl,fun _ h=>h,fun _ h=>.inl h,fun k hk=>.inr ⟨k,cW k hk,rfl⟩,fun b _ hk=>hw.heap b fun e=>hk _ cP e.symm,by rw[hw.size];exact Pq _,hw.os,hw.tape,hw.output⟩⟩
 .intro k b hb;rcases get hb with⟨QJ,hb⟩|⟨rfl,rfl⟩
  .refine(hM.bk k b hb).cE g (hM.fN hb) fun hn bl=>hw.heap _ fun e=>?_
   have:=hM.inj (.ap k) (.ap id) ⟨b,hb,hn,bl⟩ cP e;injection this with this
   exact QJ this
  .exact eO g
 .intro k i j esz e ho bl;have iG:=gz ho;refine(hM.gh k i j esz e iG bl).cE g (hw.heap _ fun he=>?_)
  have:=hM.inj (.sub k i j) (.ap id) ⟨⟨esz,e,iG⟩,bl⟩ cP he;cases this
theorem bq.cut{ρ:bG}{w:World}{pos:Option (Nat×Nat×Nat)}{c:CC}{v:Value}{n:Nat}(h:bq ρ w pos c v)(hi:c.de n):bq {ρ with n:=n} w pos c v:=by
 cases c<;>simp only[bq,CC.de]at h hi⊢
 case ptr=>exact⟨hi,h.2⟩
 case lC=>exact⟨hi,h.2⟩
 case row=>exact⟨hi,h.2⟩
 case map=>exact⟨hi,h.2⟩
 case fn=>exact⟨hi,h.2⟩
 all_goals exact h
theorem du.cut{ρ:bG}{w:World}{r:RV}{v:Value}{n:Nat}(h:du ρ w r v)(hi:r.de n):du {ρ with n:=n} w r v:=by
 cases r with
 |one c=>exact bq.cut h hi
 |agg cs=>
  obtain⟨vs,hv,hl,hc⟩:=h;exact⟨vs,hv,hl,fun i c hj=>let⟨u,hu,hd⟩:=hc i c hj;⟨u,hu,hd.cut (hi c (NQ hj))⟩⟩
theorem bV.cut{ρ:bG}{w:World}{c:CV}{v:Value}{n:Nat}(h:bV ρ w c v)(hi:c.de n):bV {ρ with n:=n} w c v:=by
 cases c with
 |ar=>trivial
 |undef=>exact h
 |rv r=>exact du.cut h hi
 |bF rs=>
  obtain⟨vs,hv,hl,hc⟩:=h;exact⟨vs,hv,hl,fun i c hj=>let⟨u,hu,hd⟩:=hc i c hj;⟨u,hu,hd.cut (hi c (NQ hj))⟩⟩
theorem dV.cut{ρ:bG}{w:World}{id:Nat}{bk:Bk}{n:Nat}(h:dV ρ w id bk)(hi:bk.de n):dV {ρ with n:=n} w id bk:=by
 cases bk with
 |aO=>trivial
 |var cs=>
  obtain⟨cur,hc,hd⟩:=h;exact⟨cur,hc,fun j c hj=>let⟨u,hu,b8⟩:=hd j c hj;⟨u,hu,b8.cut (hi c (NQ hj))⟩⟩
 |row esz elems=>
  obtain⟨h2,h3,h4,h5,bS⟩:=h;refine⟨h2,h3,h4,h5,fun dd=>?_⟩
  obtain⟨cur,hc,h1,h6⟩:=bS dd;exact⟨cur,hc,h1,fun i cs j c h7 h8=>let⟨u,hu,b8⟩:=h6 i cs j c h7 h8;⟨u,hu,b8.cut (hi cs (NQ h7) c (NQ h8))⟩⟩
 |mp es=>
  obtain⟨cH,clock,hc,h1,h2⟩:=h;exact⟨cH,clock,hc,h1,fun i e h7=>let⟨e',rz,hk,hd⟩:=h2 i e h7;⟨e',rz,hk,hd.cut (hi e (NQ h7))⟩⟩
 |it cur left=>exact h
theorem kX.spec{m m':Mem}(h:kX m m'):m'.length<=m.length/\∀(i:Nat)b,m'[i]? =some b->∃b0,m[i]? =some b0/\(b=b0\/b= .aO):=by
 induction h with
 |nil m=>exact⟨aI,fun i b hb=>by simp at hb⟩
 |cons h hm ih=>
  refine⟨by simp[ih.1],fun i b hb=>?_⟩
  cases i with
  |zero=>simp at hb;subst hb;exact⟨_,aI,h⟩
  |succ i=>simpa using ih.2 i b (by simpa using hb)
theorem aA.HM{ρ:bG}{m m':Mem}{w:World}(hM:aA ρ m w)(h:kX m m')(HN:∀b,b∈m'->b.de m'.length):
  aA {ρ with n:=m'.length} m' w/\(∀k,Live {ρ with n:=m'.length} m' k->Live ρ m k):=by
 have hs:=h.spec.2;have gz:∀{k i j esz e},fg m' k i j esz e->fg m k i j esz e:=by
  rintro k i j esz e ⟨es,rows,cs,hb,hi,hj⟩;obtain⟨b0,va,rfl|h0⟩:=hs k _ hb
  .exact⟨es,rows,cs,va,hi,hj⟩
  .cases h0
 have cW:∀k,Live {ρ with n:=m'.length} m' k->Live ρ m k:=by
  intro k hk;cases k with
  |ap k=>
   obtain⟨b,hb,hn,bl⟩:=hk;obtain⟨b0,va,rfl|h0⟩:=hs k _ hb
   .exact⟨_,va,hn,bl⟩
   .exact absurd h0 hn
  |sub k i j=>
   obtain⟨⟨esz,e,ho⟩,bl⟩:=hk;exact⟨⟨esz,e,gz ho⟩,bl⟩
 refine⟨⟨rfl,hM.S,fun k hk=>hM.a7 k (cW k hk),fun k k' hk gv=>hM.inj k k' (cW k hk) (cW k' gv),fun id b hb=>?_,fun id i j esz e ho bl=>hM.gh id i j esz e (gz ho) bl⟩,cW⟩
 obtain⟨b0,va,rfl|h0⟩:=hs id b hb
 .exact(hM.bk id _ va).cut (HN _ (NQ hb))
 .subst h0;trivial
structure be(ρ:bG)(w:World)(aV:List CV)(tmps:Array Value):Prop where
 size:tmps.size=aV.length
 jP:∀(i:Nat)c,aV[i]? =some c->∃v,tmps[i]? =some v/\bV ρ w c v
section
variable {P:Program} {ρ:bG} {m:Mem} {w:World} {aV:List CV} {a:Act}
theorem be.get(hE:be ρ w aV a.tmps)(t:Nat):bV ρ w (iV aV t) (a.tmps.getD t Go.undef):=by
 rw[jZ];cases h:aV[t]? with
 |none=>trivial
 |some c=>
  obtain⟨v,hv,hd⟩:=hE.jP t c h;simpa[aaK,hv]using hd
theorem od{v:Value}{c:CC}(h:s8 v=some c):bq ρ w .none c v:=by
 unfold s8 at h;split at h
 .simp at h;subst h;exact⟨none,rfl⟩
 .split at h
  .rename_i hp;simp at h;subst h;exact cZ.val _ hp
  .cases h
theorem aN(hE:be ρ w aV a.tmps){x:Operand}{x':X}(h:bh x=some x'):bV ρ w (x'.ev aV) (a.eval x):=by
 cases x with
 |tmp t=>simp[bh]at h;subst h;exact hE.get t
 |const v=>
  simp only[bh,Yx]at h;obtain⟨c,hc,rfl⟩:=h;exact od hc
 |func f=>simp[bh]at h;subst h;exact⟨aI,rfl⟩
 |global g=>simp[bh]at h
theorem eP{t:TypeId}{n:Nat}(h:d6 P t=some n):(sizeOf t).run P w= .ok n w:=by simp only[d6,Yx]at h;obtain⟨i,hi,rfl⟩:=h;simp[sizeOf,typeInfo,hi]
theorem nn{t:TypeId}{b:Bool}(h:dO P t=some b):(isAgg t).run P w= .ok b w:=by
 simp only[dO,Yx]at h;obtain⟨d,hd,rfl⟩:=h;simp only[isAgg,Sem.run_bind,run_underlying hd,Result.andThen_ok];cases d<;>rfl
theorem kI(b off j:Nat):(⟨b,off,none⟩:Addr).add j=⟨b,off+j,none⟩:=by
 unfold Addr.add;split<;>simp_all
def lE(ρ:bG)(w:World)(b off:Nat)(l:List CC):Prop:=
 ∀(i:Nat)c,l[i]? =some c->∃u,w.cell? ⟨b,off+i,none⟩=some u/\bq ρ w .none c u
theorem lE.QK:∀{l:List CC}{b off:Nat},lE ρ w b off l->
  ∃vs:List Value,vs.length=l.length/\(∀j v,vs[j]? =some v->w.cell? ((⟨b,off,none⟩:Addr).add j)=some v)/\(∀(i:Nat)c,l[i]? =some c->∃u,vs[i]? =some u/\bq ρ w .none c u)
 | [],b,off,h=>⟨[],rfl,aI,aI⟩
 |c::l,b,off,h=>by
  obtain⟨u,hu,hd⟩:=h 0 c aI;obtain⟨vs,h1,h2,h3⟩:=lE.QK (l:=l) (b:=b) (off:=off+1) (fun i c hi=>by
   have:=h (i+1) c (by simpa using hi)
   rwa [show off+(i+1)=off+1+i by omega]at this)
  refine⟨u::vs,by simp[h1],fun j v hj=>?_,fun i c' hi=>?_⟩
  .rw[kI];cases j with
   |zero=>simp at hj;subst hj;simpa using hu
   |succ j=>
    have:=h2 j v (by simpa using hj)
    rw[kI]at this;rwa [show off+(j+1)=off+1+j by omega]
  .cases i with
   |zero=>simp at hi;subst hi;exact⟨u,aI,hd⟩
   |succ i=>simpa using h3 i c' (by simpa using hi)
theorem oe{t:TypeId}{agg:Bool}{n:Nat}{b off:Nat}{l:List CC}{cv:CV}(ha:dO P t=some agg)(hs:d6 P t=some n)(hl:l.length=n)(hc:lE ρ w b off l)(hm:HB agg l=some cv):∃v,(loadVar t ⟨b,off,none⟩).run P w= .ok v w/\bV ρ w cv v:=by
 obtain⟨vs,h1,h2,h3⟩:=hc.QK;unfold loadVar;simp only[Sem.run_bind,nn ha,Result.andThen_ok];cases agg with
 |true=>
  simp[HB]at hm;subst hm;have hr:=run_loadCells_list (P:=P) w ⟨b,off,none⟩ vs h2;refine⟨.agg vs.toArray,?_,vs,rfl,h1,h3⟩;simp only[if_true,Sem.run_bind,eP hs,Result.andThen_ok,<-hl,<-h1,hr,Sem.run_pure]
 |false=>
  match l,hm with
  | [c],hm=>
   simp[HB]at hm;subst hm;obtain⟨u,hu,hd⟩:=h3 0 c aI;have:=h2 0 u hu;rw[kI]at this;refine⟨u,?_,hd⟩;simp only[aaV,if_false,run_load];rw[show(⟨b,off,none⟩:Addr)=⟨b,off+0,none⟩ by simp,this]
theorem rA(hM:aA ρ m w){t:TypeId}{agg:Bool}{n:Nat}(ha:dO P t=some agg)(hs:d6 P t=some n){av:CV}{v:Value}{K:CV->Prop}(h:sZ aV m agg n av K)(hd:bV ρ w av v):∃ad u cv,v= .pointer (some ad)/\(loadVar t ad).run P w= .ok u w/\K cv/\bV ρ w cv u:=by
 unfold sZ at h;split at h
 .rename_i id j;obtain⟨aE,rfl⟩:=hd;obtain⟨bk,hb,h⟩:=bc.1 h;rw[aU]at hb;cases bk<;>simp only at h
  rename_i cs;obtain⟨l,hr,h⟩:=bc.1 h;obtain⟨cv,hm,hK⟩:=bc.1 h;obtain⟨hl,kZ⟩:=jv hr;obtain⟨cur,bS,bY⟩:=hM.bk id _ hb;have hc:lE ρ w (ρ.aP (.ap id)).b ((ρ.aP (.ap id)).au+j) l:=by
   intro i c hi;have jx:i<n:=by rw[<-hl];exact(Gf.1 hi).1
   obtain⟨u,hu,b8⟩:=bY (j+i) c ((kZ i jx).trans hi);exact⟨u,by rw[bS.cell,<-hu,aao],b8⟩
  obtain⟨u,dq,b8⟩:=oe ha hs hl hc hm;exact⟨_,u,cv,rfl,dq,hK,b8⟩
 .rename_i id esz i j;obtain⟨aE,rfl⟩:=hd;obtain⟨bk,hb,h⟩:=bc.1 h;rw[aU]at hb;cases bk<;>simp only at h
  rename_i mG elems;rcases cg.1 h with⟨he,g1⟩|⟨_,g1⟩
  case inr=>exact g1.elim
  have he:esz=mG:=Wh he;subst he;obtain⟨cells,dK,g2⟩:=bc.1 g1;rw[aU]at dK;obtain⟨l,hr,g3⟩:=bc.1 g2;rcases cg.1 g3 with⟨iH,g4⟩|⟨_,g4⟩
  case inr=>exact g4.elim
  obtain⟨cv,hm,hK⟩:=bc.1 g4;obtain⟨hl,kZ⟩:=jv hr;obtain⟨h2,h3,h4,h5,yH⟩:=hM.bk id _ hb;have sH:=(Gf.1 dK).1;obtain⟨cur,bS,h1,bY⟩:=yH om;have hc:lE ρ w (ρ.aP (.ap id)).b ((ρ.aP (.ap id)).au+i*esz+j) l:=by
   intro k c hi;have jx:k<n:=by rw[<-hl];exact(Gf.1 hi).1
   obtain⟨u,hu,b8⟩:=bY i cells (j+k) c dK ((kZ k jx).trans hi);exact⟨u,by rw[bS.cell,<-hu,aao _ j k],b8.QI (th iH c (NQ hi))⟩
  obtain⟨u,dq,b8⟩:=oe ha hs hl hc hm;exact⟨_,u,cv,rfl,dq,hK,b8⟩
 .rename_i ds;obtain⟨b,off,rfl,hS,bY⟩:=hd;obtain⟨l,hr,h⟩:=bc.1 h;obtain⟨cv,hm,hK⟩:=bc.1 h;obtain⟨hl,kZ⟩:=tf hr;have hc:lE ρ w b off l:=by
   intro i c hi;have jx:i<n:=by rw[<-hl];exact(Gf.1 hi).1
   obtain⟨d,vd,A5⟩:=kZ i jx;rw[hi]at A5;simp at A5;subst A5;exact bY i d vd
  obtain⟨u,dq,b8⟩:=oe ha hs hl hc hm;exact⟨_,u,cv,rfl,dq,hK,b8⟩
 .exact h.elim
def di(P:Program)(s:Sem Next)(ρ:bG)(m:Mem)(w:World)(K:CV->Mem->Prop):Prop:=
 ∃nx v w' cv m' ρ',s.run P w= .ok nx w'/\(nx= .value v\/(nx= .skip/\v=Go.undef))/\K cv m'/\aA ρ' m' w'/\bV ρ' w' cv v/\Ext ρ m w ρ' m' w'
theorem di.pure{s:Sem Next}{v:Value}{cv:CV}{K:CV->Mem->Prop}(hM:aA ρ m w)(hr:s.run P w= .ok (.value v) w)(hK:K cv m)(hd:bV ρ w cv v):di P s ρ m w K:=
 ⟨_,v,w,cv,m,ρ,hr,.inl rfl,hK,hM,hd,Ext.refl _ _ _⟩
theorem bJ{v x:Value}(h:bV ρ w (.rv (.one (.aa (.val x)))) v)(hx:x≠.slice none 0 0:=by first|(intro hh;cases hh;done)|assumption|simp):v=x/\cG x=true:=by
 cases h with
 |val v h=>exact⟨rfl,h⟩
 |no a=>exact absurd rfl hx
theorem b9{v:Value}(h:cG v=true):bV ρ w (.rv (.one (.aa (.val v)))) v:=cZ.val v h
theorem Lb{t:TypeId}(ht:P.underlying t=some .bool)(neg:Bool)(a b:Bool):
  (binOp (if neg then .neq else .eql) t (.bool a) (.bool b)).run P w= .ok (.bool (match neg with|true=>!(a==b)|false=>a==b)) w:=by
 have h:∀d,(Op.equalIn (d+1) t (.bool a) (.bool b)).run P w= .ok (a==b) w:=fun d=>by rw[Op.equalIn];simp[run_underlying ht]
 have h2:(Op.equal t (.bool a) (.bool b)).run P w= .ok (a==b) w:=h 9999;cases neg<;>simp[binOp,h2]
theorem Bu{op:BinOp}{x y v:Value}(h:Fa op x y=some v){t:TypeId}:(binOp op t x y).run P w= .ok v w/\cG v=true:=by
 cases x<;>cases y<;>simp only[Fa]at h<;>try(cases h;done)
 case int.int k a k' b=>
  by_cases hk:k=k'
  .subst hk;cases op<;>simp only[decide_true]at h
   case shl=>
    by_cases hb:b<0
    .simp[hb]at h
    .simp[hb]at h;subst h;simp[binOp,Op.shift,hb,cG]
   case shr=>
    by_cases hb:b<0
    .simp[hb]at h
    .simp[hb]at h;subst h;simp[binOp,Op.shift,hb,cG]
   case quo=>
    by_cases hb:b=0
    .simp[hb]at h
    .simp[hb]at h;subst h;simp[binOp,Op.intDiv,hb,cG]
   case rem=>
    by_cases hb:b=0
    .simp[hb]at h
    .simp[hb]at h;subst h;simp[binOp,Op.intDiv,hb,cG]
   all_goals first
    |(cases h;done)
    |(simp only[Wm]at h;subst h;simp[binOp,Op.intArith,Op.intBits,Op.intCmp,cG])
  .cases op<;>simp only[hk,decide_false]at h
   case shl=>
    by_cases hb:b<0
    .simp[hb]at h
    .simp[hb]at h;subst h;simp[binOp,Op.shift,hb,cG]
   case shr=>
    by_cases hb:b<0
    .simp[hb]at h
    .simp[hb]at h;subst h;simp[binOp,Op.shift,hb,cG]
   all_goals(cases h;done)
 case string.string a b=>
  cases op<;>simp only at h<;>try(cases h;done)
  case add=>
   by_cases hb:((a.size+b.size:Nat):Int)>IntKind.i64.max
   .rw[decide_eq_true hb]at h;cases h
   .rw[decide_eq_false hb]at h;simp only[Wm]at h;subst h;refine⟨?_,rfl⟩;simp only[binOp,Op.stringOp];rw[if_neg hb];rfl
  all_goals(simp only[Wm]at h;subst h;simp[binOp,Op.stringOp,cG])
theorem Ff{op:UnOp}{x v:Value}(h:TK op x=some v):(Op.unary op x).run P w= .ok v w/\cG v=true:=by
 cases x<;>simp only[TK]at h<;>try(cases h;done)
 all_goals cases op<;>simp only at h<;>try(cases h;done)
 all_goals(simp only[Wm]at h;subst h;simp[Op.unary,Op.intArith,cG])
theorem rB{op:BinOp}{t:TypeId}{x y:Operand}{a b:Value}(ha:cG a=true)(hn:a≠.nilIface):(eqGuard op t x y a b).run P w= .ok () w:=by
 unfold eqGuard;cases op<;>simp
 all_goals(cases a<;>simp_all[cG])
end
section
variable {P:Program} {ρ:bG} {m:Mem} {w:World} {aV:List CV} {a:Act} {K:CV->Mem->Prop}
theorem iw{cv:CV}{v:Value}{cs:List CC}(h:cellsOf cv=some cs)(hd:bV ρ w cv v):
  v.cells.size=cs.length/\(∀(i:Nat)c,cs[i]? =some c->∃u,v.cells[i]? =some u/\bq ρ w .none c u)/\(∀u∈v.cells.toList,u.oneCell'=true):=by
 unfold cellsOf at h;split at h
 .rename_i c;simp at h;subst h;have h1:v.oneCell'=true:=bq.one hd;have hc:v.cells= #[v]:=by cases v<;>first|rfl|simp[Value.oneCell']at h1
  refine⟨by simp[hc],fun i c' hi=>?_,by rw[hc];simpa using h1⟩
  cases i with
  |zero=>simp at hi;subst hi;exact⟨v,by simp[hc],hd⟩
  |succ i=>simp at hi
 .rename_i ef;simp at h;subst h;obtain⟨vs,rfl,hl,hc⟩:=hd;refine⟨by simp[Value.cells,hl],fun i c hi=>?_,fun u hu=>?_⟩
  .obtain⟨u,hu,b8⟩:=hc i c hi;exact⟨u,by simpa[Value.cells]using hu,b8⟩
  .simp only[Value.cells]at hu;obtain⟨i,hi,rfl⟩:=abx hu;have dP:i<vs.length:=by simpa using hi
   obtain⟨u,QL,b8⟩:=hc i (ef[i]'(by omega)) (sA om)
   rw[sA dP]at QL;simp at QL;simpa[QL]using b8.one
 .cases h
theorem ep:∀{vs:List Value}{cs:List CC},kU vs=some cs->vs.length=cs.length/\∀(i:Nat)c,cs[i]? =some c->∃u,vs[i]? =some u/\bq ρ w .none c u
 | [],cs,h=>by simp[kU]at h;subst h;simp
 |v::r,cs,h=>by
  simp only[kU,N7,Jm]at h;obtain⟨c,hc,l,hl,h⟩:=h;simp at h;subst h;obtain⟨h1,h2⟩:=ep hl;refine⟨by simp[h1],fun i c' hi=>?_⟩
  cases i with
  |zero=>simp at hi;subst hi;exact⟨v,aI,od hc⟩
  |succ i=>simpa using h2 i c' (by simpa using hi)
theorem y0(hM:aA ρ m w){cs:List CC}{cells:Array Value}{ty:TypeId}{w':World}(hw:w'=w.alloc (.cells cells ty)\/w'=w.drew.alloc (.cells cells ty))(hd:∀(i:Nat)c,cs[i]? =some c->∃u,cells[i]? =some u/\bq ρ w .none c u):
  ∃ρ',aA ρ' (m++ [.var cs]) w'/\Ext ρ m w ρ' (m++ [.var cs]) w'/\bV ρ' w' (.rv (.one (.ptr m.length 0))) (.pointer (some ⟨w.heap.size,0,none⟩)):=by
 have M7:dW w w':=by
  rcases hw with rfl|rfl
  .exact dW.alloc w _
  .exact(dW.drew w).trans (dW.alloc w.drew _)
 have bS:kQ True w' w.heap.size cells:=by
  rcases hw with rfl|rfl
  .exact kQ.new w cells ty
  .exact kQ.new w.drew cells ty
 have dn:w.heap.size<w'.heap.size:=bS.lt;let l:uW:=⟨w.heap.size,0,0,0⟩;have hn:=hM.n;have cz:(ρ.push l).aP (.ap m.length)=l:=by rw[<-hn];exact ρ.fQ l
 have g:hB ρ w (ρ.push l) w':=⟨by simp[bG.push],fun k hk=>ρ.ek l hk,fun b hb=>hb,fun b hb=>M7.heap b (hM.S b hb)⟩
 have hb:dV (ρ.push l) w' m.length (.var cs):=by
  refine⟨cells,by rw[cz];exact bS,fun j c hj=>?_⟩
  obtain⟨u,hu,b8⟩:=hd j c hj;exact⟨u,by rw[cz];simpa[l]using hu,b8.cE g aI⟩
 obtain⟨h1,h2⟩:=hM.push (l:=l) M7 (Pq _) dn hb trivial;refine⟨_,h1,h2,by simp[bG.push,hn],?_⟩
 rw[cz]
theorem HO(hM:aA ρ m w){esz cap:Nat}{elems:List (List CC)}{cells:Array Value}{ty:TypeId}{w':World}(hw:w'=w.alloc (.cells cells ty)\/w'=w.drew.alloc (.cells cells ty))(dn:cap*esz<=cells.size)(hlen:elems.length<=cap)(bl:cap<=maxLen)(nD:∀cs,cs∈elems->cs.length=esz)(hd:∀(i:Nat)cs(j:Nat)c,elems[i]? =some cs->cs[j]? =some c->∃u,cells[i*esz+j]? =some u/\bq ρ w .none c u):
  ∃ρ',aA ρ' (m++ [.row esz elems]) w'/\Ext ρ m w ρ' (m++ [.row esz elems]) w'/\
   bV ρ' w' (.rv (.one (.row m.length esz 0 none))) (.slice (some ⟨w.heap.size,0,none⟩) elems.length cap):=by
 have M7:dW w w':=by
  rcases hw with rfl|rfl
  .exact dW.alloc w _
  .exact(dW.drew w).trans (dW.alloc w.drew _)
 have bS:kQ (esz=1) w' w.heap.size cells:=by
  rcases hw with rfl|rfl
  .exact kQ.new w cells ty
  .exact kQ.new w.drew cells ty
 have aE:w.heap.size<w'.heap.size:=bS.lt;let l:uW:=⟨w.heap.size,0,elems.length,cap⟩;have hn:=hM.n;have cz:(ρ.push l).aP (.ap m.length)=l:=by rw[<-hn];exact ρ.fQ l
 have g:hB ρ w (ρ.push l) w':=⟨by simp[bG.push],fun k hk=>ρ.ek l hk,fun b hb=>hb,fun b hb=>M7.heap b (hM.S b hb)⟩
 have hb:dV (ρ.push l) w' m.length (.row esz elems):=by
  refine⟨by rw[cz],by rw[cz];exact hlen,by rw[cz];exact bl,nD,fun _=>⟨cells,by rw[cz];exact bS,by rw[cz];simpa[l]using dn,fun i cs j c hi hj=>?_⟩⟩
  obtain⟨u,hu,b8⟩:=hd i cs j c hi hj;exact⟨u,by rw[cz];simpa[l]using hu,(b8.cE g aI).ti _⟩
 obtain⟨h1,h2⟩:=hM.push (l:=l) M7 (Pq _) aE hb (fun i cs j c hi hj=>by obtain⟨u,hu,b8⟩:=hd i cs j c hi hj;exact b8.xb)
 refine⟨_,h1,h2,by simp[bG.push,hn],?_⟩
 rw[cz];refine⟨aI,aI,hlen,bl,_,rfl,fun _=>?_⟩
 simp[l]
theorem y2(hM:aA ρ m w){t:TypeId}{z:List CC}(hz:dB P t=some z)(h:step P (.alloc z) aV m K):
  di P (do pure (Next.value (<-Instr.alloc t true (.tuple #[])))) ρ m w K:=by
 simp only[dB,N7,Jm]at hz;obtain⟨i,hi,v,hv,hc⟩:=hz;obtain⟨hl,hd⟩:=ep (ρ:=ρ) (w:=w) hc;obtain⟨ρ',h1,h2,h3⟩:=y0 hM (ty:=t) (cells:=v.cells) (.inl rfl) (fun i c hi=>by
  obtain⟨u,hu,b8⟩:=hd i c hi;exact⟨u,by simpa using hu,b8⟩)
 simp only[step,gy,cf]at h;refine⟨_,_,_,_,_,ρ',?_,.inl rfl,h,h1,h3,h2⟩;simp[Instr.alloc,zeroValue,typeInfo,hi,hv,newVar,newRow]
theorem Fg(hM:aA ρ m w)(hE:be ρ w aV a.tmps){t:TypeId}{x:Operand}{x':X}(hx:bh x=some x')(h:step P (.box x') aV m K):
  di P (do pure (Next.value (<-Instr.box t (a.eval x)))) ρ m w K:=by
 simp only[step]at h;obtain⟨cs,eY,h⟩:=bc.1 h;obtain⟨hl,hd,_⟩:=iw eY (aN hE hx);obtain⟨ρ',h1,h2,h3⟩:=y0 hM (ty:=t) (cells:=(a.eval x).cells) (.inl rfl) hd;simp only[gy,cf]at h;refine⟨_,_,_,_,_,ρ',?_,.inl rfl,h,h1,h3,h2⟩;simp[Instr.box,newVar,newRow]
theorem p7(off:Nat):∀(vs:List Value)(k:Nat)(cells:Array Value),
  let r:=(vs.zipIdx k).foldl (fun(cs:Array Value)(p:Value×Nat)=>cs.setIfInBounds (off+p.2) p.1) cells
  r.size=cells.size/\(off+k+vs.length<=cells.size->∀i,r[i]? =if off+k<=i/\i<off+k+vs.length then vs[i-(off+k)]? else cells[i]?)
 | [],k,cells=>by simp;intro _ i h1 h2;omega
 |v::r,k,cells=>by
  simp only[List.zipIdx_cons,List.foldl_cons];obtain⟨h1,h2⟩:=p7 off r (k+1) (cells.setIfInBounds (off+k) v);refine⟨by rw[h1];simp,fun hle i=>?_⟩
  simp only[Wo]at hle;rw[h2 (by simp;omega) i]
  by_cases hc:off+(k+1)<=i/\i<off+(k+1)+r.length
  .rw[if_pos hc,if_pos (by simp;omega)]
   rw[show i-(off+k)=(i-(off+(k+1)))+1 by omega]
   simp
  .rw[if_neg hc];by_cases he:i=off+k
   .subst he;rw[if_pos aI];simp only[abB,abp];rw[aa6];simp;omega
   .rw[if_neg (by simp;omega),aa6,if_neg om]
def Cells(ρ:bG)(w:World)(cs:List CC)(cells:Array Value):Prop:=
 cells.size=cs.length/\∀(i:Nat)c,cs[i]? =some c->∃u,cells[i]? =some u/\bq ρ w .none c u
theorem y3{place:Nat->Option (Nat×Nat)}{i off sz:Nat}{v:Value}{rest:List (Nat×Value)}{z z' cs:List CC}{cells:Array Value}(hp:place i=some (off,sz))(hz:Cells ρ w z cells)(hv:v.cells.size=sz)(gT:cs.length=sz)(hd:∀(i:Nat)c,cs[i]? =some c->∃u,v.cells[i]? =some u/\bq ρ w .none c u)(hw:fG z off cs=some z'):∃eF,Instr.fill place cells ((i,v)::rest)=Instr.fill place eF rest/\Cells ρ w z' eF:=by
 obtain⟨h1,h2,h3⟩:=iv hw;refine⟨(v.cells.zipIdx.foldl (fun cs(p:Value×Nat)=>cs.setIfInBounds (off+p.2) p.1) cells),?_,?_⟩
 .rw[Instr.fill,hp];simp only;rw[if_neg (by rw[hz.1];simp;omega)]
 .have hf:=p7 off v.cells.toList 0 cells;simp only[abC]at hf;have he:v.cells.zipIdx.foldl (fun cs(p:Value×Nat)=>cs.setIfInBounds (off+p.2) p.1) cells=(v.cells.toList.zipIdx 0).foldl (fun(cs:Array Value)(p:Value×Nat)=>cs.setIfInBounds (off+p.2) p.1) cells:=by rw[<-Array.foldl_toList];simp
  rw[he];refine⟨by rw[hf.1,hz.1,h1],fun k c hk=>?_⟩
  rw[hf.2 (by rw[hz.1];simp;omega) k]
  rw[h3 k]at hk;have hlen:v.cells.toList.length=cs.length:=by simp[hv,gT]
  rw[hlen];by_cases hc:off<=k/\k<off+cs.length
  .rw[if_pos hc]at hk⊢;obtain⟨u,hu,b8⟩:=hd _ c hk;exact⟨u,by simpa using hu,b8⟩
  .rw[if_neg hc]at hk⊢;exact hz.2 k c hk
theorem rC(hE:be ρ w aV a.tmps){fs:Array Field}{place:Nat->Option (Nat×Nat)}(ix:∀i f,fs[i]? =some f->∀n,d6 P f.type=some n->place i=some (f.offset,n)):
  ∀{ps:List (Nat×Operand)}{oO:List (Nat×Nat×X)}{z z':List CC}{cells:Array Value},kV P fs ps=some oO->mF aV z oO=some z'->Cells ρ w z cells->
   ∃eF,Instr.fill place cells (ps.map fun p=>(p.1,a.eval p.2))=some eF/\Cells ρ w z' eF
 | [],oO,z,z',cells,hp,hf,hz=>by simp[kV]at hp;subst hp;simp[mF]at hf;subst hf;exact⟨cells,rfl,hz⟩
 |(i,x)::r,oO,z,z',cells,hp,hf,hz=>by
  simp only[kV,N7,Jm]at hp;obtain⟨f,Uz,n,hn,x',hx,r',hr,hp⟩:=hp;simp at hp;subst hp;simp only[mF]at hf;split at hf
  .rename_i cs eY;split at hf
   .rename_i hlen;have hlen:cs.length=n:=Wh hlen;split at hf
    .rename_i z1 QM;obtain⟨h1,h2,_⟩:=iw eY (aN hE hx);obtain⟨Om,he,Bv⟩:=y3 (rest:=r.map fun p=>(p.1,a.eval p.2)) (ix i f Uz n hn) hz (h1.trans hlen) hlen h2 QM
     obtain⟨eF,rz,oX⟩:=rC hE ix hr hf Bv;exact⟨eF,by rw[aar,he,rz],oX⟩
    .cases hf
   .cases hf
  .cases hf
theorem rD(hE:be ρ w aV a.tmps){sz:Nat}{place:Nat->Option (Nat×Nat)}(ix:∀i,place i=some (i*sz,sz)):
  ∀{ps:List (Nat×Operand)}{oO:List (Nat×Nat×X)}{z z':List CC}{cells:Array Value},jk sz ps=some oO->mF aV z oO=some z'->Cells ρ w z cells->
   ∃eF,Instr.fill place cells (ps.map fun p=>(p.1,a.eval p.2))=some eF/\Cells ρ w z' eF
 | [],oO,z,z',cells,hp,hf,hz=>by simp[jk]at hp;subst hp;simp[mF]at hf;subst hf;exact⟨cells,rfl,hz⟩
 |(i,x)::r,oO,z,z',cells,hp,hf,hz=>by
  simp only[jk,N7,Jm]at hp;obtain⟨x',hx,r',hr,hp⟩:=hp;simp at hp;subst hp;simp only[mF]at hf;split at hf
  .rename_i cs eY;split at hf
   .rename_i hlen;have hlen:cs.length=sz:=Wh hlen;split at hf
    .rename_i z1 QM;obtain⟨h1,h2,_⟩:=iw eY (aN hE hx);obtain⟨Om,he,Bv⟩:=y3 (rest:=r.map fun p=>(p.1,a.eval p.2)) (ix i) hz (h1.trans hlen) hlen h2 QM
     obtain⟨eF,rz,oX⟩:=rD hE ix hr hf Bv;exact⟨eF,by rw[aar,he,rz],oX⟩
    .cases hf
   .cases hf
  .cases hf
theorem Bw{t:TypeId}{z:List CC}(hz:dB P t=some z):∃v,(zeroValue t).run P w= .ok v w/\Cells ρ w z v.cells:=by
 simp only[dB,N7,Jm]at hz;obtain⟨i,hi,v,hv,hc⟩:=hz;obtain⟨hl,hd⟩:=ep (ρ:=ρ) (w:=w) hc;refine⟨v,by simp[zeroValue,typeInfo,hi,hv],by simpa using hl,fun i c hi=>?_⟩
 obtain⟨u,hu,b8⟩:=hd i c hi;exact⟨u,by simpa using hu,b8⟩
theorem DY{cs:List CC}{cells:Array Value}(h:Cells ρ w cs cells):bV ρ w (.rv (.agg cs)) (.agg cells):=
 ⟨cells.toList,aI,by simpa using h.1,fun i c hi=>let⟨u,hu,hd⟩:=h.2 i c hi;⟨u,by simpa using hu,hd⟩⟩
end
section
variable {P:Program} {ρ:bG} {m:Mem} {w:World} {aV:List CV} {a:Act} {K:CV->Mem->Prop}
theorem y4{α β:Type}{f:α->Option β}:∀{l:List α}{r:List β},l.mapM f=some r->∀(i:Nat)x,l[i]? =some x->∃y,f x=some y/\r[i]? =some y
 | [],r,h,i,x,hx=>by simp at hx
 |a::l,r,h,i,x,hx=>by
  simp only[List.mapM_cons,N7,Jm,Option.pure_def]at h;obtain⟨y,hy,ys,YD,h⟩:=h;simp at h;subst h;cases i with
  |zero=>simp at hx;subst hx;exact⟨y,hy,aI⟩
  |succ i=>simpa using y4 YD i x (by simpa using hx)
theorem rE(hM:aA ρ m w)(hE:be ρ w aV a.tmps){t:TypeId}{ps:Array (Nat×Operand)}{z:List CC}{oO:List (Nat×Nat×X)}(hz:dB P t=some z)(hp:(∃fs,P.underlying t=some (.struct fs)/\(fs.toList.mapM (fun f=>(P.info? f.type).map fun i=>(f.offset,i.size))).isSome=true/\kV P fs ps.toList=some oO)\/
   (∃n e sz,P.underlying t=some (.array n e)/\d6 P e=some sz/\jk sz ps.toList=some oO))(h:step P (.build z oO) aV m K):di P (do pure (Next.value (<-Instr.build t (ps.map fun(i,x)=>(i,a.eval x))))) ρ m w K:=by
 simp only[step]at h;obtain⟨z',hf,hK⟩:=bc.1 h;have A6:=hz;simp only[dB,N7,Jm]at hz;obtain⟨i,hi,v,hv,hc⟩:=hz;obtain⟨hl,hd⟩:=ep (ρ:=ρ) (w:=w) hc;have dK:Cells ρ w z v.cells:=⟨by simpa using hl,fun i c hi=>by
  obtain⟨u,hu,b8⟩:=hd i c hi;exact⟨u,by simpa using hu,b8⟩⟩
 have key:∃cells,P.built t (ps.map fun(i,x)=>(i,a.eval x)).toList=some cells/\Cells ρ w z' cells:=by
  rcases hp with⟨fs,hu,fm,UA⟩|⟨n,e,sz,hu,dn,UA⟩
  .obtain⟨places,ix⟩:=Option.isSome_iff_exists.1 fm;obtain⟨cells,h1,h2⟩:=rC hE (fs:=fs) (place:=fun i=>places.toArray[i]?) (fun i f Uz n hn=>by
    obtain⟨y,hy,hr⟩:=y4 ix i f (by simpa using Uz)
    simp only[d6,Yx]at hn hy;obtain⟨i1,M8,rfl⟩:=hn;obtain⟨i2,d5,rfl⟩:=hy;rw[M8]at d5;cases d5;simpa using hr) UA hf dK
   refine⟨cells,?_,h2⟩;unfold Program.built;simp only[hi,hu,hv,ix];simpa using h1
  .obtain⟨cells,h1,h2⟩:=rD hE (sz:=sz) (place:=fun i=>some (i*sz,sz)) (fun i=>rfl) UA hf dK
   refine⟨cells,?_,h2⟩;simp only[d6,Yx]at dn;obtain⟨ie,kT,rfl⟩:=dn;unfold Program.built;simp only[hi,hu,hv,kT];simpa using h1
 obtain⟨cells,hb,eY⟩:=key;refine di.pure hM (v:= .agg cells) ?_ hK (DY eY);rw[Sem.run_bind,run_build w t _ cells hb];rfl
theorem Bx(hM:aA ρ m w)(hE:be ρ w aV a.tmps){t:TypeId}{x:Operand}{x':X}{agg:Bool}{n:Nat}(ha:dO P t=some agg)(hs:d6 P t=some n)(hx:bh x=some x')(h:step P (.load agg n x') aV m K):di P (do pure (Next.value (<-Instr.loadAt t (a.eval x)))) ρ m w K:=by
 simp only[step]at h;obtain⟨ad,u,cv,hv,hr,hK,hd⟩:=rA hM ha hs h (aN hE hx);refine di.pure hM (v:=u) ?_ hK hd;rw[hv];simp[Instr.loadAt,Instr.sureAddr,hr]
theorem lF{mk:Prop}(g o:Nat):∀(vs:List Value)(i:Nat)(cur:Array Value)(w:World),kQ mk w g cur->o+i+vs.length<=cur.size->(∀v∈vs,v.oneCell'=true)->
  ∃w' fH,(storeCells ⟨g,o,none⟩ vs i).run P w= .ok () w'/\kQ mk w' g fH/\jw w w' g/\fH.size=cur.size/\
   ∀k,fH[k]? =if o+i<=k/\k<o+i+vs.length then vs[k-(o+i)]? else cur[k]?
 | [],i,cur,w,hc,_,_=>⟨w,cur,rfl,hc,⟨fun _ _=>rfl,rfl,rfl,rfl,rfl⟩,rfl,fun k=>by rw[if_neg aI]⟩
 |v::r,i,cur,w,hc,hl,h1=>by
  simp only[Wo]at hl;have hi:o+i<cur.size:=om;have iy:w.cell? ⟨g,o+i,none⟩=some cur[o+i]:=by rw[hc.cell];simp[hi]
  have UB:=hc.nZ hi;have yI:(store ((⟨g,o,none⟩:Addr).add i) v).run P w= .ok () (w.setCell ⟨g,o+i,none⟩ v):=by rw[kI,run_store P w _ v _ (h1 v aI),iy];simp[UB]
  have Bv:kQ mk (w.setCell ⟨g,o+i,none⟩ v) g (cur.setIfInBounds (o+i) v):=by
   obtain⟨ty,fr,hb,hf⟩:=hc;refine⟨ty,fr,?_,by simpa using hf⟩
   simp[World.setCell,aaG,hb]
  have xe:jw w (w.setCell ⟨g,o+i,none⟩ v) g:=⟨fun b hb=>by simp[World.setCell,aaG,Ne.symm hb],aI,rfl,rfl,rfl⟩
  obtain⟨w',fH,hr,oX,ht,dn,hk⟩:=lF g o r (i+1) _ _ Bv (by simp;omega) (fun x hx=>h1 x (by simp[hx]))
  refine⟨w',fH,?_,oX,⟨fun b hb=>(ht.heap b hb).trans (xe.heap b hb),ht.size.trans xe.size,ht.os,ht.tape,ht.output⟩,by simpa using dn,fun k=>?_⟩
  .simp only[storeCells,Sem.run_bind,yI,Result.andThen_ok];exact hr
  .rw[hk k];simp only[Wo];by_cases hb:o+(i+1)<=k/\k<o+(i+1)+r.length
   .rw[if_pos hb,if_pos om,show k-(o+i)=(k-(o+(i+1)))+1 by omega]
    simp
   .rw[if_neg hb,aa6];by_cases he:o+i=k
    .subst he;rw[if_pos rfl,if_pos om];simp
    .rw[if_neg he,if_neg om]
theorem y5(hM:aA ρ m w)(hE:be ρ w aV a.tmps){t:TypeId}{n:Nat}{p x:Operand}{p' x':X}(hs:d6 P t=some n)(Lc:n≠0)(hp:bh p=some p')(hx:bh x=some x')(h:step P (.store n p' x') aV m K):di P (do Instr.storeAt t (a.eval p) (a.eval x);pure Next.skip) ρ m w K:=by
 simp only[step]at h;obtain⟨xs,UC,h⟩:=bc.1 h;rcases cg.1 h with⟨hn,h⟩|⟨_,h⟩
 case inr=>exact h.elim
 have hn:xs.length=n:=Wh hn;obtain⟨c1,c2,c3⟩:=iw UC (aN hE hx);have TN:=aN hE hp;generalize a.eval p=pv at TN;generalize p'.ev aV=pc at TN h;generalize a.eval x=xv at c1 c2 c3;have sv:∀ad:Addr,Instr.storeAt t (.pointer (some ad)) xv=storeVar t ad xv:=fun ad=>rfl
 have run:∀{mk:Prop}(b off:Nat)(cur:Array Value),kQ mk w b cur->off+xs.length<=cur.size->∃w' fH,(storeVar t ⟨b,off,none⟩ xv).run P w= .ok () w'/\kQ mk w' b fH/\jw w w' b/\fH.size=cur.size/\
   ∀k,fH[k]? =if off<=k/\k<off+xs.length then xv.cells[k-off]? else cur[k]? :=by
  intro mk b off cur hc hle;obtain⟨w',fH,h1,h2,h3,h4,h5⟩:=lF (P:=P) b off xv.cells.toList 0 cur w hc (by simp[c1];omega) c3
  refine⟨w',fH,?_,h2,h3,h4,fun k=>?_⟩
  .unfold storeVar;rw[Sem.run_bind,eP hs];simp only[Result.andThen_ok];rw[if_neg (by rw[c1,hn];simp)]
   simpa using h1
  .rw[h5 k];simp[c1]
 split at h
 .rename_i id j;obtain⟨aE,rfl⟩:=TN;obtain⟨bk,hb,h⟩:=bc.1 h;rw[aU]at hb;cases bk<;>simp only at h
  rename_i cs;obtain⟨ef,hw,hK⟩:=bc.1 h;obtain⟨w1,w2,w3⟩:=iv hw;obtain⟨cur,bS,bY⟩:=hM.bk id _ hb;rw[bg]at hK;have iX:(ρ.aP (.ap id)).au+j+xs.length<=cur.size:=by obtain⟨u,hu,_⟩:=bY (j+xs.length-1) _ (sA om);have:=(Z4.1 hu).1;omega
  obtain⟨w',fH,hr,oX,ht,dn,hk⟩:=run (ρ.aP (.ap id)).b ((ρ.aP (.ap id)).au+j) cur bS iX;obtain⟨kJ,hX⟩:=hM.Ol (Bt:= .var ef) hb ⟨_,hb,aI,by rintro⟨_,_,e⟩;cases e⟩ ht (fun g=>⟨fH,oX,fun k c Ld=>by
   rw[w3 k]at Ld;rw[hk];by_cases jx:j<=k/\k<j+xs.length
   .rw[if_pos jx]at Ld;rw[if_pos om];obtain⟨u,hu,b8⟩:=c2 _ c Ld;exact⟨u,by rw[<-hu];congr 1;omega,b8.cE g aI⟩
   .rw[if_neg jx]at Ld;rw[if_neg om];obtain⟨u,hu,b8⟩:=bY k c Ld;exact⟨u,hu,b8.cE g aI⟩⟩) (by
   rintro i' j' esz e ⟨es,rows,HP,mL,_,_⟩;rw[Pr (by rw[<-hM.n];exact aE)]at mL
   cases mL)
  refine⟨.skip,Go.undef,w',.undef,_,ρ,?_,.inr ⟨rfl,rfl⟩,hK,kJ,rfl,hX⟩;rw[sv,Sem.run_bind,hr];rfl
 .rename_i id esz i j;obtain⟨aE,rfl⟩:=TN;obtain⟨bk,hb,h⟩:=bc.1 h;rw[aU]at hb;cases bk<;>simp only at h
  rename_i mG elems;rcases cg.1 h with⟨he,h⟩|⟨_,h⟩
  case inr=>exact h.elim
  have he:esz=mG:=Wh he;obtain⟨cells,dK,h⟩:=bc.1 h;rw[aU]at dK;rcases cg.1 h with⟨iH,h⟩|⟨_,h⟩
  case inr=>exact h.elim
  obtain⟨eF,hw,hK⟩:=bc.1 h;obtain⟨w1,w2,w3⟩:=iv hw;obtain⟨h2,h3,h4,h5,yH⟩:=hM.bk id _ hb;have sH:=(Gf.1 dK).1;have dd:0<(ρ.aP (.ap id)).cap:=om;obtain⟨cur,bS,h1,bY⟩:=yH dd;rw[bg,bg]at hK;subst he;have gT:cells.length=esz:=h5 _ (NQ dK);have hi:i<elems.length:=(Gf.1 dK).1;have hmul:i*esz+esz<=(ρ.aP (.ap id)).cap*esz:=by have:(i+1)*esz<=(ρ.aP (.ap id)).cap*esz:=aag _ om;rwa [aas,aaY]at this
  obtain⟨w',fH,hr,oX,ht,dn,hk⟩:=run (ρ.aP (.ap id)).b ((ρ.aP (.ap id)).au+i*esz+j) cur bS om;obtain⟨kJ,hX⟩:=hM.Ol (Bt:= .row esz (elems.set i eF)) hb ⟨_,hb,aI,fun _=>dd⟩ ht (fun g=>⟨by simpa using h2,h3,h4,fun cs eY=>by
    rcases aac eY with hm|rfl
    .exact h5 cs hm
    .rw[w1,gT],fun _=>⟨fH,oX,by rw[dn];exact h1,fun i' cs j' c dP uX=>by
   rw[hk];by_cases KM:i=i'
   .subst KM;rw[Pr hi]at dP;simp only[Wm]at dP;subst dP;rw[w3 j']at uX;by_cases jx:j<=j'/\j'<j+xs.length
    .rw[if_pos jx]at uX;rw[if_pos om];obtain⟨u,hu,b8⟩:=c2 _ c uX;exact⟨u,by rw[<-hu];congr 1;omega,(b8.cE g aI).ti _⟩
    .rw[if_neg jx]at uX;rw[if_neg om];obtain⟨u,hu,b8⟩:=bY i cells j' c dK uX;exact⟨u,hu,b8.cE g (by rintro _ _ _ e;cases e;exact aE)⟩
   .rw[Wf KM]at dP;obtain⟨u,hu,b8⟩:=bY i' cs j' c dP uX;have YE:j'<esz:=by rw[<-h5 _ (NQ dP)];exact(Gf.1 uX).1
    have eG:¬((ρ.aP (.ap id)).au+i*esz+j<=(ρ.aP (.ap id)).au+i'*esz+j'/\(ρ.aP (.ap id)).au+i'*esz+j'<(ρ.aP (.ap id)).au+i*esz+j+xs.length):=by
     rcases Nat.lt_or_gt_of_ne KM with mK|mK
     .have:(i+1)*esz<=i'*esz:=aag _ mK;rw[aas,aaY]at this;omega
     .have:(i'+1)*esz<=i*esz:=aag _ mK;rw[aas,aaY]at this;omega
    rw[if_neg eG];exact⟨u,hu,b8.cE g (by rintro _ _ _ e;cases e;exact aE)⟩⟩⟩) (by
   rintro i' j' u9 e ⟨es,rows,HP,mL,d5,jm⟩;rw[Pr (by rw[<-hM.n];exact aE)]at mL
   cases mL;by_cases KM:i=i'
   .subst KM;rw[Pr hi]at d5;cases d5;rw[w3 j']at jm;by_cases jx:j<=j'/\j'<j+xs.length
    .rw[if_pos jx]at jm;obtain⟨u,hu,b8⟩:=c2 _ _ jm;exact absurd rfl (b8.xb _ _)
    .rw[if_neg jx]at jm;exact⟨esz,elems,cells,hb,dK,jm⟩
   .rw[Wf KM]at d5;exact⟨esz,elems,HP,hb,d5,jm⟩)
  refine⟨.skip,Go.undef,w',.undef,_,ρ,?_,.inr ⟨rfl,rfl⟩,hK,kJ,rfl,hX⟩;rw[sv,Sem.run_bind,hr];rfl
 .exact h.elim
end
end Go.AM
