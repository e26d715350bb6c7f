/- Part 3 of 41: what the law stands on. -/
import Derived.Test.YthagjdhjmamakaaGreatDoorT02
set_option linter.unusedVariables false
set_option linter.unusedSimpArgs false
set_option linter.unnecessarySimpa false
set_option maxRecDepth 100000
set_option maxHeartbeats 64000000
namespace Go.AM
theorem aT{α:Type}:∀(l:List α)(i:Nat),cR l i=l[i]?
 | [],_=>by simp[cR]
 |_::_,0=>rfl
 |_::r,k+1=>by simpa[cR]using aT r k
theorem bg{α:Type}:∀(l:List α)(i:Nat)(x:α),a7 l i x=l.set i x
 | [],_,_=>rfl
 |_::_,0,_=>rfl
 |a::r,k+1,x=>by simp[a7,bg r k x]
theorem cg{α:Type}:∀(a b:List α),gX a b=a++b
 | [],_=>rfl
 |x::r,b=>by simp[gX,cg r b]
theorem fk{α:Type}:∀(n:Nat)(x:α),fI n x=List.replicate n x
 |0,_=>rfl
 |n+1,x=>by simp[fI,fk n x,List.replicate_succ]
theorem ew{α:Type}{β:Sort _}:∀(l:List α)(k:List α->β),hB l k=k l
 | [],_=>rfl
 |x::r,k=>ew r fun r'=>k (x::r')
theorem R9{β:Sort _}(v:CV)(k:CV->β):fV v k=k v:=by
 cases v with
 |rv r=>
  cases r with
  |one c=>rfl
  |agg cs=>exact ew cs _
 |_=>rfl
theorem kn:∀(e:List CV)(i:Nat),jd e i=(e[i]?).getD .aq
 | [],_=>by simp[jd]
 |_::_,0=>rfl
 |_::r,k+1=>by simpa[jd]using kn r k
theorem bc{α:Type}{o:Option α}{K:α->Prop}:ok o K↔∃x,o=some x/\K x:=by
 cases o<;>simp[ok]
theorem cj{t:Bool}{A B:Prop}:bB t A B↔(t=true/\A)\/(t=false/\B):=by
 cases t<;>simp[bB]
theorem zX{β:Sort _}(m0:Mem):∀(m:Mem)(c n:Nat)(k:Nat->β),m0.length=c+m.length->tT m0 m (List.range' c n) k=k m0.length
 | [],c,0,k,_=>by simp[tT]
 | [],c,n+1,k,h=>by simp[tT,abW,h]
 |_::r,c,0,k,h=>by simp[tT]
 |_::r,c,n+1,k,h=>by
  rw[abW,tT];exact zX m0 r (c+1) n k (by simp at h;omega)
theorem gI{β:Sort _}(m:Mem)(k:Nat->β):oJ m k=k m.length:=by have:=zX m m 0 64 k aK;exact this
theorem jG:∀{cs:List CC}{j n:Nat}{l:List CC},gH cs j n=some l->l.length=n/\∀i,i<n->cs[j+i]? =l[i]?
 |cs,0,0,l,h=>by cases cs<;>simp[gH]at h<;>subst h<;>simp
 | [],0,n+1,l,h=>by simp[gH]at h
 | [],j+1,n,l,h=>by cases n<;>simp[gH]at h
 |c::cs,0,n+1,l,h=>by
  simp only[gH]at h;cases hr:gH cs 0 n with
  |none=>simp[hr]at h
  |some l'=>
   simp[hr]at h;subst h;obtain⟨h1,h2⟩:=jG hr;refine⟨by simp[h1],fun i hi=>?_⟩
   cases i with
   |zero=>simp
   |succ i=>have:=h2 i (by omega);simpa using this
 |c::cs,j+1,n,l,h=>by
  have h':gH cs j n=some l:=by cases n<;>simpa[gH]using h
  obtain⟨h1,h2⟩:=jG h';refine⟨h1,fun i hi=>?_⟩
  have:=h2 i hi;rw[show j+1+i=(j+i)+1 by omega]
  simpa using this
theorem iG:∀{cs:List CC}{j:Nat}{xs l:List CC},fj cs j xs=some l->
  l.length=cs.length/\j+xs.length<=cs.length/\∀i,l[i]? =if j<=i/\i<j+xs.length then xs[i-j]? else cs[i]?
 |cs,0,[],l,h=>by
  cases cs<;>simp[fj]at h<;>subst h
  .simp
  .refine⟨rfl,aK,fun i=>?_⟩
   rw[if_neg aK]
 | [],0,x::xs,l,h=>by simp[fj]at h
 | [],j+1,xs,l,h=>by cases xs<;>simp[fj]at h
 |c::cs,0,x::xs,l,h=>by
  simp only[fj]at h;cases hr:fj cs 0 xs with
  |none=>simp[hr]at h
  |some l'=>
   simp[hr]at h;subst h;obtain⟨h1,h2,h3⟩:=iG hr;refine⟨by simp[h1],by simp at h2⊢;omega,fun i=>?_⟩
   cases i with
   |zero=>simp
   |succ i=>
    have:=h3 i;simp only[XL,true_and,aak,abf,XR,aaQ]at this⊢;rw[this];simp
 |c::cs,j+1,xs,l,h=>by
  have h':(fj cs j xs).map (c:: ·)=some l:=by
   rw[<-h];cases hr:fj cs j xs<;>cases xs<;>simp[fj,hr]
  cases hr:fj cs j xs with
  |none=>simp[hr]at h'
  |some l'=>
   simp[hr]at h';subst h';obtain⟨h1,h2,h3⟩:=iG hr;refine⟨by simp[h1],by simp;omega,fun i=>?_⟩
   cases i with
   |zero=>rw[if_neg om];simp
   |succ i=>
    have:=h3 i;simp only[aaQ,this];by_cases hc:j<=i/\i<j+xs.length
    .rw[if_pos hc,if_pos om,show i+1-(j+1)=i-j by omega]
    .rw[if_neg hc,if_neg om]
theorem t8:∀{ds:List Dt}{n:Nat}{l:List CC},tR ds n=some l->l.length=n/\∀i,i<n->∃d,ds[i]? =some d/\l[i]? =some (.aa d)
 |ds,0,l,h=>by cases ds<;>simp[tR]at h<;>subst h<;>simp
 | [],n+1,l,h=>by simp[tR]at h
 |d::ds,n+1,l,h=>by
  simp only[tR]at h;cases hr:tR ds n with
  |none=>simp[hr]at h
  |some l'=>
   simp[hr]at h;subst h;obtain⟨h1,h2⟩:=t8 hr;refine⟨by simp[h1],fun i hi=>?_⟩
   cases i with
   |zero=>exact⟨d,aK,aK⟩
   |succ i=>simpa using h2 i om
theorem ua:∀{l:List CC},hC l=true->∀c,c∈l->∀esz e,c≠.gp esz e
 | [],_,c,hc,_,_=>by simp at hc
 |x::r,h,c,hc,esz,e=>by
  cases x with
  |gp a b=>simp[hC]at h
  |_=>
   rcases aad.1 hc with rfl|hc
   .simp
   .exact ua (l:=r) (by simpa[hC]using h) c hc esz e
def Bk.PE:Bk->Prop
 | .row _ elems=>∀(i:Nat)cs(j:Nat)c,elems[i]? =some cs->cs[j]? =some c->∀esz e,c≠.gp esz e
 |_=>True
theorem br.x8{ρ:bH}{w:World}{c:CC}{v:Value}(h:br ρ w .none c v)(esz:Nat)(e:List (List Dt)):c≠.gp esz e:=by rintro rfl;obtain⟨_,_,_,e,_⟩:=h;cases e
theorem br.ub{ρ:bH}{w:World}{c:CC}{v:Value}(h:br ρ w .none c v)(pos:Option (Nat×Nat×Nat)):br ρ w pos c v:=by
 cases c<;>first|exact h|(obtain⟨_,_,_,e,_⟩:=h;cases e)
theorem br.Sa{ρ:bH}{w:World}{pos:Option (Nat×Nat×Nat)}{c:CC}{v:Value}(hn:∀esz e,c≠.gp esz e)(h:br ρ w pos c v):br ρ w .none c v:=by
 cases c<;>first|exact h|exact absurd rfl (hn _ _)
def bH.push(ρ:bH)(l:vU):bH:=
 {n:=ρ.n+1,aO:=fun k=>if k.id=ρ.n then l else ρ.aO k,S:=ρ.S}
theorem bH.ez(ρ:bH)(l:vU){k:kW}(h:k.id<ρ.n):(ρ.push l).aO k=ρ.aO k:=by simp only[bH.push];rw[if_neg om]
theorem bH.fZ(ρ:bH)(l:vU):(ρ.push l).aO (.ap ρ.n)=l:=by simp[bH.push,kW.id]
structure d5(w w':World):Prop where
 heap:∀b,b<w.heap.size->w'.heap[b]? =w.heap[b]?
 size:w.heap.size<=w'.heap.size
 os:w'.os=w.os
 tape:w'.tape=w.tape
 output:w'.output=w.output
theorem d5.alloc(w:World)(o:Obj):d5 w (w.alloc o):=⟨fun b h=>heap_alloc_old w o b h,aK,rfl,rfl,rfl⟩
theorem d5.drew(w:World):d5 w w.drew:=⟨fun _ _=>rfl,QN _,rfl,rfl,rfl⟩
theorem d5.trans{a b c:World}(h:d5 a b)(k:d5 b c):d5 a c:=
 ⟨fun x hx=>(k.heap x (aaf hx h.size)).trans (h.heap x hx),aaC h.size k.size,k.os.trans h.os,k.tape.trans h.tape,k.output.trans h.output⟩
theorem dZ.cF{ρ ρ':bH}{w w':World}{id:Nat}{bk:Bk}(g:ij ρ w ρ' w')(hid:id<ρ.n)(hb:bk≠.aZ->((∃esz elems,bk= .row esz elems)->0<(ρ.aO (.ap id)).cap)->w'.heap[(ρ.aO (.ap id)).b]? =w.heap[(ρ.aO (.ap id)).b]?)(h:dZ ρ w id bk):dZ ρ' w' id bk:=by
 have hl:ρ'.aO (.ap id)=ρ.aO (.ap id):=g.aO (.ap id) hid;cases bk with
 |aZ=>trivial
 |var cs=>
  obtain⟨cur,hc,hd⟩:=h;refine⟨cur,by rw[hl];exact hc.dz (hb aK (by rintro⟨_,_,e⟩;cases e)),fun j c hj=>?_⟩
  obtain⟨u,hu,b9⟩:=hd j c hj;exact⟨u,by rw[hl];exact hu,b9.cF g aK⟩
 |row esz elems=>
  obtain⟨h2,h3,h4,h5,bU⟩:=h;refine⟨by rw[hl];exact h2,by rw[hl];exact h3,by rw[hl];exact h4,h5,fun de=>?_⟩
  rw[hl]at de;obtain⟨cur,hc,h1,h6⟩:=bU de;refine⟨cur,by rw[hl];exact hc.dz (hb aK fun _=>de),by rw[hl];exact h1,fun i cs j c hi hj=>?_⟩
  obtain⟨u,hu,b9⟩:=h6 i cs j c hi hj;exact⟨u,by rw[hl];exact hu,b9.cF g (by rintro i3 i' j' e;cases e;exact hid)⟩
 |mp es=>
  obtain⟨cJ,clock,hc,h1,h2⟩:=h;refine⟨cJ,clock,⟨by rw[hl,hb aK (by rintro⟨_,_,e⟩;cases e)];exact hc.1,hc.2⟩,h1,fun i e hi=>?_⟩
  obtain⟨e',sh,hk,hd⟩:=h2 i e hi;exact⟨e',sh,hk,hd.cF g⟩
 |it cur left=>
  obtain⟨mb,seen,ck,cJ,h2,h3,h4,h5,h6⟩:=h;exact⟨mb,seen,ck,cJ,by rw[hl,hb aK (by rintro⟨_,_,e⟩;cases e)];exact h2,by rw[hl];exact h3,g.S _ h4,by rw[g.heap mb h4];exact h5,h6⟩
theorem xY.cF{ρ ρ':bH}{w w':World}(g:ij ρ w ρ' w'){l:vU}{esz:Nat}{elems:List (List Dt)}(hb:w'.heap[l.b]? =w.heap[l.b]?)(h:xY ρ w l esz elems):xY ρ' w' l esz elems:=by
 obtain⟨cur,hc,h1,h2,h3⟩:=h;refine⟨cur,hc.dz hb,h1,h2,fun i cs j d hi hj=>?_⟩
 obtain⟨u,hu,hd⟩:=h3 i cs j d hi hj;exact⟨u,hu,hd.mono g.S g.heap⟩
theorem aC.fX{ρ:bH}{m:Mem}{w:World}(hM:aC ρ m w){id:Nat}{bk:Bk}(h:m[id]? =some bk):id<ρ.n:=by rw[hM.n];exact(Hy.1 h).1
theorem aC.Om{ρ:bH}{m:Mem}{w w':World}{bk:Bk}{l:vU}(hM:aC ρ m w)(hw:d5 w w')(Ff:Live (ρ.push l) (m++ [bk]) (.ap ρ.n)->w.heap.size<=l.b/\l.b<w'.heap.size)(eT:dZ (ρ.push l) w' m.length bk)(hf:bk.PE):aC (ρ.push l) (m++ [bk]) w'/\Ext ρ m w (ρ.push l) (m++ [bk]) w':=by
 have hn:=hM.n;have g:ij ρ w (ρ.push l) w':=⟨by simp[bH.push],fun k hk=>ρ.ez l hk,fun b hb=>hb,fun b hb=>hw.heap b (hM.S b hb)⟩
 have get:∀{id:Nat}{b:Bk},(m++ [bk])[id]? =some b->(id<ρ.n/\m[id]? =some b)\/(id=ρ.n/\b=bk):=by
  intro id b hb;rcases XN id m.length with h|h
  .exact .inl ⟨om,by rwa [VO h]at hb⟩
  .rw[UX h]at hb;have:id-m.length=0:=by
    rcases aav (id-m.length)with h0|h0
    .exact h0
    .rw[aaj (by simp;omega)]at hb;cases hb
   rw[this]at hb;exact .inr ⟨om,by simpa using hb.symm⟩
 have gJ:∀{id i j esz elems},fp (m++ [bk]) id i j esz elems->id<ρ.n/\fp m id i j esz elems:=by
  rintro id i j esz elems ⟨es,rows,cs,hb,hi,hj⟩;rcases get hb with⟨aF,hb⟩|⟨_,rfl⟩
  .exact⟨aF,es,rows,cs,hb,hi,hj⟩
  .exact absurd rfl (hf i cs j _ hi hj esz elems)
 have cX:∀k,Live (ρ.push l) (m++ [bk]) k->(k.id<ρ.n/\Live ρ m k)\/k= .ap ρ.n:=by
  intro k hk;cases k with
  |ap id=>
   obtain⟨b,hb,eL,bl⟩:=hk;rcases get hb with⟨aF,hb⟩|⟨rfl,_⟩
   .rw[ρ.ez l (k:= .ap id) aF]at bl;exact .inl ⟨aF,b,hb,eL,bl⟩
   .exact .inr rfl
  |sub id i j=>
   obtain⟨⟨esz,elems,ho⟩,bl⟩:=hk;obtain⟨aF,ho⟩:=gJ ho;rw[ρ.ez l (k:= .sub id i j) aF]at bl;exact .inl ⟨aF,⟨esz,elems,ho⟩,bl⟩
 have x9:(ρ.push l).aO (.ap ρ.n)=l:=ρ.fZ l;refine⟨⟨by simp[bH.push,hn],fun b hb=>aaf (hM.S b hb) hw.size,?_,?_,?_,?_⟩,⟨by simp[bH.push],fun id hid=>ρ.ez l hid,fun b hb=>hb,fun b hb=>.inl hb,?_,?_,hw.size,hw.os,hw.tape,hw.output⟩⟩
 .intro k hk;rcases cX k hk with⟨aF,hk⟩|rfl
  .rw[ρ.ez l aF];exact⟨aaf (hM.a8 k hk).1 hw.size,(hM.a8 k hk).2⟩
  .rw[x9];exact⟨(Ff hk).2,fun hs=>by have:=hM.S _ hs;have:=(Ff hk).1;omega⟩
 .intro k k' hk gC he;rcases cX k hk with⟨aF,hk⟩|rfl<;>rcases cX k' gC with⟨nc,gC⟩|rfl
  .rw[ρ.ez l aF,ρ.ez l nc]at he;exact hM.inj k k' hk gC he
  .rw[ρ.ez l aF,x9]at he;have:=(hM.a8 k hk).1;have:=(Ff gC).1;omega
  .rw[ρ.ez l nc,x9]at he;have:=(hM.a8 k' gC).1;have:=(Ff hk).1;omega
  .rfl
 .intro id b hb;rcases get hb with⟨aF,hb⟩|⟨rfl,rfl⟩
  .exact(hM.bk id b hb).cF g aF fun eL bl=>hw.heap _ (hM.a8 (.ap id) ⟨b,hb,eL,bl⟩).1
  .rw[hn];exact eT
 .intro id i j esz elems ho bl;obtain⟨aF,ho⟩:=gJ ho;rw[ρ.ez l (k:= .sub id i j) aF]at bl⊢;exact(hM.gp id i j esz elems ho bl).cF g (hw.heap _ (hM.a8 (.sub id i j) ⟨⟨esz,elems,ho⟩,bl⟩).1)
 .intro k hk;rcases cX k hk with⟨aF,hk⟩|rfl
  .exact .inr ⟨k,hk,(by rw[ρ.ez l aF])⟩
  .exact .inl (by rw[x9];exact(Ff hk).1)
 .intro b hb _;exact hw.heap b hb
theorem aC.push{ρ:bH}{m:Mem}{w w':World}{bk:Bk}{l:vU}(hM:aC ρ m w)(hw:d5 w w')(h1:w.heap.size<=l.b)(h2:l.b<w'.heap.size)(eT:dZ (ρ.push l) w' m.length bk)(hf:bk.PE):aC (ρ.push l) (m++ [bk]) w'/\Ext ρ m w (ρ.push l) (m++ [bk]) w':=
 hM.Om hw (fun _=>⟨h1,h2⟩) eT hf
structure jH(w w':World)(g:Nat):Prop where
 heap:∀b,b≠g->w'.heap[b]? =w.heap[b]?
 size:w'.heap.size=w.heap.size
 os:w'.os=w.os
 tape:w'.tape=w.tape
 output:w'.output=w.output
theorem aC.PF{ρ:bH}{m:Mem}{w w':World}{id:Nat}{bk Cy:Bk}(hM:aC ρ m w)(hid:m[id]? =some bk)(cQ:Live ρ m (.ap id))(hw:jH w w' (ρ.aO (.ap id)).b)(eT:ij ρ w ρ w'->dZ ρ w' id Cy)(lD:∀i j esz e,fp (m.set id Cy) id i j esz e->fp m id i j esz e):aC ρ (m.set id Cy) w'/\Ext ρ m w ρ (m.set id Cy) w':=by
 have aF:id<m.length:=(Hy.1 hid).1;have hS:=(hM.a8 _ cQ).2;have g:ij ρ w ρ w':=⟨QN _,fun _ _=>rfl,fun _ h=>h,fun b hb=>hw.heap b fun e=>hS (e▸hb)⟩
 have get:∀{k:Nat}{b:Bk},(m.set id Cy)[k]? =some b->(k≠id/\m[k]? =some b)\/(k=id/\b=Cy):=by
  intro k b hb;by_cases hk:k=id
  .subst hk;rw[QO aF]at hb;exact .inr ⟨rfl,by simpa using hb.symm⟩
  .rw[XK (Ne.symm hk)]at hb;exact .inl ⟨hk,hb⟩
 have gJ:∀{k i j esz e},fp (m.set id Cy) k i j esz e->fp m k i j esz e:=by
  intro k i j esz e ho;by_cases hk:k=id
  .subst hk;exact lD i j esz e ho
  .obtain⟨es,rows,cs,hb,hi,hj⟩:=ho;rw[XK (Ne.symm hk)]at hb;exact⟨es,rows,cs,hb,hi,hj⟩
 have cX:∀k,Live ρ (m.set id Cy) k->Live ρ m k:=by
  intro k hk;cases k with
  |ap k=>
   obtain⟨b,hb,hn,bl⟩:=hk;rcases get hb with⟨_,hb⟩|⟨rfl,_⟩
   .exact⟨b,hb,hn,bl⟩
   .exact cQ
  |sub k i j=>
   obtain⟨⟨esz,e,ho⟩,bl⟩:=hk;exact⟨⟨esz,e,gJ ho⟩,bl⟩
 refine⟨⟨by simp[hM.n],fun b hb=>by rw[hw.size];exact hM.S b hb,fun k hk=>by rw[hw.size];exact hM.a8 k (cX k hk),fun k k' hk gC=>hM.inj k k' (cX k hk) (cX k' gC),?_,?_⟩,
  ⟨QN _,fun _ _=>rfl,fun _ h=>h,fun _ h=>.inl h,fun k hk=>.inr ⟨k,cX k hk,rfl⟩,fun b _ hk=>hw.heap b fun e=>hk _ cQ e.symm,by rw[hw.size];exact QN _,hw.os,hw.tape,hw.output⟩⟩
 .intro k b hb;rcases get hb with⟨Sb,hb⟩|⟨rfl,rfl⟩
  .refine(hM.bk k b hb).cF g (hM.fX hb) fun hn bl=>hw.heap _ fun e=>?_
   have:=hM.inj (.ap k) (.ap id) ⟨b,hb,hn,bl⟩ cQ e;injection this with this
   exact Sb this
  .exact eT g
 .intro k i j esz e ho bl;have iU:=gJ ho;refine(hM.gp k i j esz e iU bl).cF g (hw.heap _ fun he=>?_)
  have:=hM.inj (.sub k i j) (.ap id) ⟨⟨esz,e,iU⟩,bl⟩ cQ he;cases this
theorem br.cut{ρ:bH}{w:World}{pos:Option (Nat×Nat×Nat)}{c:CC}{v:Value}{n:Nat}(h:br ρ w pos c v)(hi:c.df n):br {ρ with n:=n} w pos c v:=by
 cases c<;>simp only[br,CC.df]at h hi⊢
 case ptr=>exact⟨hi,h.2⟩
 case lW=>exact⟨hi,h.2⟩
 case row=>exact⟨hi,h.2⟩
 case map=>exact⟨hi,h.2⟩
 case fn=>exact⟨hi,h.2⟩
 all_goals exact h
theorem dy.cut{ρ:bH}{w:World}{r:RV}{v:Value}{n:Nat}(h:dy ρ w r v)(hi:r.df n):dy {ρ with n:=n} w r v:=by
 cases r with
 |one c=>exact br.cut h hi
 |agg cs=>
  obtain⟨vs,hv,hl,hc⟩:=h;exact⟨vs,hv,hl,fun i c hj=>let⟨u,hu,hd⟩:=hc i c hj;⟨u,hu,hd.cut (hi c (O9 hj))⟩⟩
theorem bW.cut{ρ:bH}{w:World}{c:CV}{v:Value}{n:Nat}(h:bW ρ w c v)(hi:c.df n):bW {ρ with n:=n} w c v:=by
 cases c with
 |aq=>trivial
 |undef=>exact h
 |rv r=>exact dy.cut h hi
 |bG rs=>
  obtain⟨vs,hv,hl,hc⟩:=h;exact⟨vs,hv,hl,fun i c hj=>let⟨u,hu,hd⟩:=hc i c hj;⟨u,hu,hd.cut (hi c (O9 hj))⟩⟩
theorem dZ.cut{ρ:bH}{w:World}{id:Nat}{bk:Bk}{n:Nat}(h:dZ ρ w id bk)(hi:bk.df n):dZ {ρ with n:=n} w id bk:=by
 cases bk with
 |aZ=>trivial
 |var cs=>
  obtain⟨cur,hc,hd⟩:=h;exact⟨cur,hc,fun j c hj=>let⟨u,hu,b9⟩:=hd j c hj;⟨u,hu,b9.cut (hi c (O9 hj))⟩⟩
 |row esz elems=>
  obtain⟨h2,h3,h4,h5,bU⟩:=h;refine⟨h2,h3,h4,h5,fun de=>?_⟩
  obtain⟨cur,hc,h1,h6⟩:=bU de;exact⟨cur,hc,h1,fun i cs j c h7 h8=>let⟨u,hu,b9⟩:=h6 i cs j c h7 h8;⟨u,hu,b9.cut (hi cs (O9 h7) c (O9 h8))⟩⟩
 |mp es=>
  obtain⟨cJ,clock,hc,h1,h2⟩:=h;exact⟨cJ,clock,hc,h1,fun i e h7=>let⟨e',sh,hk,hd⟩:=h2 i e h7;⟨e',sh,hk,hd.cut (hi e (O9 h7))⟩⟩
 |it cur left=>exact h
theorem lC.spec{m m':Mem}(h:lC m m'):m'.length<=m.length/\∀(i:Nat)b,m'[i]? =some b->∃b0,m[i]? =some b0/\(b=b0\/b= .aZ):=by
 induction h with
 |nil m=>exact⟨aK,fun i b hb=>by simp at hb⟩
 |cons h hm ih=>
  refine⟨by simp[ih.1],fun i b hb=>?_⟩
  cases i with
  |zero=>simp at hb;subst hb;exact⟨_,aK,h⟩
  |succ i=>simpa using ih.2 i b (by simpa using hb)
theorem aC.I5{ρ:bH}{m m':Mem}{w:World}(hM:aC ρ m w)(h:lC m m')(I6:∀b,b∈m'->b.df m'.length):
  aC {ρ with n:=m'.length} m' w/\(∀k,Live {ρ with n:=m'.length} m' k->Live ρ m k):=by
 have hs:=h.spec.2;have gJ:∀{k i j esz e},fp m' k i j esz e->fp m k i j esz e:=by
  rintro k i j esz e ⟨es,rows,cs,hb,hi,hj⟩;obtain⟨b0,wb,rfl|h0⟩:=hs k _ hb
  .exact⟨es,rows,cs,wb,hi,hj⟩
  .cases h0
 have cX:∀k,Live {ρ with n:=m'.length} m' k->Live ρ m k:=by
  intro k hk;cases k with
  |ap k=>
   obtain⟨b,hb,hn,bl⟩:=hk;obtain⟨b0,wb,rfl|h0⟩:=hs k _ hb
   .exact⟨_,wb,hn,bl⟩
   .exact absurd h0 hn
  |sub k i j=>
   obtain⟨⟨esz,e,ho⟩,bl⟩:=hk;exact⟨⟨esz,e,gJ ho⟩,bl⟩
 refine⟨⟨rfl,hM.S,fun k hk=>hM.a8 k (cX k hk),fun k k' hk gC=>hM.inj k k' (cX k hk) (cX k' gC),fun id b hb=>?_,fun id i j esz e ho bl=>hM.gp id i j esz e (gJ ho) bl⟩,cX⟩
 obtain⟨b0,wb,rfl|h0⟩:=hs id b hb
 .exact(hM.bk id _ wb).cut (I6 _ (O9 hb))
 .subst h0;trivial
structure be(ρ:bH)(w:World)(aU:List CV)(tmps:Array Value):Prop where
 size:tmps.size=aU.length
 j7:∀(i:Nat)c,aU[i]? =some c->∃v,tmps[i]? =some v/\bW ρ w c v
section
variable {P:Program} {ρ:bH} {m:Mem} {w:World} {aU:List CV} {a:Act}
theorem be.get(hE:be ρ w aU a.tmps)(t:Nat):bW ρ w (jd aU t) (a.tmps.getD t Go.undef):=by
 rw[kn];cases h:aU[t]? with
 |none=>trivial
 |some c=>
  obtain⟨v,hv,hd⟩:=hE.j7 t c h;simpa[aaK,hv]using hd
theorem oM{v:Value}{c:CC}(h:tW v=some c):br ρ w .none c v:=by
 unfold tW at h;split at h
 .simp at h;subst h;exact⟨none,rfl⟩
 .split at h
  .rename_i hp;simp at h;subst h;exact cZ.val _ hp
  .cases h
theorem aN(hE:be ρ w aU a.tmps){x:Operand}{x':X}(h:bh x=some x'):bW ρ w (x'.ev aU) (a.eval x):=by
 cases x with
 |tmp t=>simp[bh]at h;subst h;exact hE.get t
 |const v=>
  simp only[bh,Z2]at h;obtain⟨c,hc,rfl⟩:=h;exact oM hc
 |func f=>simp[bh]at h;subst h;exact⟨aK,rfl⟩
 |global g=>simp[bh]at h
theorem eU{t:TypeId}{n:Nat}(h:d9 P t=some n):(sizeOf t).run P w= .ok n w:=by simp only[d9,Z2]at h;obtain⟨i,hi,rfl⟩:=h;simp[sizeOf,typeInfo,hi]
theorem nS{t:TypeId}{b:Bool}(h:dU P t=some b):(isAgg t).run P w= .ok b w:=by
 simp only[dU,Z2]at h;obtain⟨d,hd,rfl⟩:=h;simp only[isAgg,Sem.run_bind,run_underlying hd,Result.andThen_ok];cases d<;>rfl
theorem kX(b off j:Nat):(⟨b,off,none⟩:Addr).add j=⟨b,off+j,none⟩:=by
 unfold Addr.add;split<;>simp_all
def lZ(ρ:bH)(w:World)(b off:Nat)(l:List CC):Prop:=
 ∀(i:Nat)c,l[i]? =some c->∃u,w.cell? ⟨b,off+i,none⟩=some u/\br ρ w .none c u
theorem lZ.Sc:∀{l:List CC}{b off:Nat},lZ ρ w b off l->
  ∃vs:List Value,vs.length=l.length/\(∀j v,vs[j]? =some v->w.cell? ((⟨b,off,none⟩:Addr).add j)=some v)/\(∀(i:Nat)c,l[i]? =some c->∃u,vs[i]? =some u/\br ρ w .none c u)
 | [],b,off,h=>⟨[],rfl,aK,aK⟩
 |c::l,b,off,h=>by
  obtain⟨u,hu,hd⟩:=h 0 c aK;obtain⟨vs,h1,h2,h3⟩:=lZ.Sc (l:=l) (b:=b) (off:=off+1) (fun i c hi=>by
   have:=h (i+1) c (by simpa using hi)
   rwa [show off+(i+1)=off+1+i by omega]at this)
  refine⟨u::vs,by simp[h1],fun j v hj=>?_,fun i c' hi=>?_⟩
  .rw[kX];cases j with
   |zero=>simp at hj;subst hj;simpa using hu
   |succ j=>
    have:=h2 j v (by simpa using hj)
    rw[kX]at this;rwa [show off+(j+1)=off+1+j by omega]
  .cases i with
   |zero=>simp at hi;subst hi;exact⟨u,aK,hd⟩
   |succ i=>simpa using h3 i c' (by simpa using hi)
theorem oN{t:TypeId}{agg:Bool}{n:Nat}{b off:Nat}{l:List CC}{cv:CV}(ha:dU P t=some agg)(hs:d9 P t=some n)(hl:l.length=n)(hc:lZ ρ w b off l)(hm:IV agg l=some cv):∃v,(loadVar t ⟨b,off,none⟩).run P w= .ok v w/\bW ρ w cv v:=by
 obtain⟨vs,h1,h2,h3⟩:=hc.Sc;unfold loadVar;simp only[Sem.run_bind,nS ha,Result.andThen_ok];cases agg with
 |true=>
  simp[IV]at hm;subst hm;have hr:=run_loadCells_list (P:=P) w ⟨b,off,none⟩ vs h2;refine⟨.agg vs.toArray,?_,vs,rfl,h1,h3⟩;simp only[if_true,Sem.run_bind,eU hs,Result.andThen_ok,<-hl,<-h1,hr,Sem.run_pure]
 |false=>
  match l,hm with
  | [c],hm=>
   simp[IV]at hm;subst hm;obtain⟨u,hu,hd⟩:=h3 0 c aK;have:=h2 0 u hu;rw[kX]at this;refine⟨u,?_,hd⟩;simp only[aaR,if_false,run_load];rw[show(⟨b,off,none⟩:Addr)=⟨b,off+0,none⟩ by simp,this]
theorem si(hM:aC ρ m w){t:TypeId}{agg:Bool}{n:Nat}(ha:dU P t=some agg)(hs:d9 P t=some n){av:CV}{v:Value}{K:CV->Prop}(h:tU aU m agg n av K)(hd:bW ρ w av v):∃ad u cv,v= .pointer (some ad)/\(loadVar t ad).run P w= .ok u w/\K cv/\bW ρ w cv u:=by
 unfold tU at h;split at h
 .rename_i id j;obtain⟨aF,rfl⟩:=hd;obtain⟨bk,hb,h⟩:=bc.1 h;rw[aT]at hb;cases bk<;>simp only at h
  rename_i cs;obtain⟨l,hr,h⟩:=bc.1 h;obtain⟨cv,hm,hK⟩:=bc.1 h;obtain⟨hl,lE⟩:=jG hr;obtain⟨cur,bU,bY⟩:=hM.bk id _ hb;have hc:lZ ρ w (ρ.aO (.ap id)).b ((ρ.aO (.ap id)).au+j) l:=by
   intro i c hi;have jI:i<n:=by rw[<-hl];exact(Hy.1 hi).1
   obtain⟨u,hu,b9⟩:=bY (j+i) c ((lE i jI).trans hi);exact⟨u,by rw[bU.cell,<-hu,aau],b9⟩
  obtain⟨u,du,b9⟩:=oN ha hs hl hc hm;exact⟨_,u,cv,rfl,du,hK,b9⟩
 .rename_i id esz i j;obtain⟨aF,rfl⟩:=hd;obtain⟨bk,hb,h⟩:=bc.1 h;rw[aT]at hb;cases bk<;>simp only at h
  rename_i m8 elems;rcases cj.1 h with⟨he,g1⟩|⟨_,g1⟩
  case inr=>exact g1.elim
  have he:esz=m8:=XM he;subst he;obtain⟨cells,dO,g2⟩:=bc.1 g1;rw[aT]at dO;obtain⟨l,hr,g3⟩:=bc.1 g2;rcases cj.1 g3 with⟨iV,g4⟩|⟨_,g4⟩
  case inr=>exact g4.elim
  obtain⟨cv,hm,hK⟩:=bc.1 g4;obtain⟨hl,lE⟩:=jG hr;obtain⟨h2,h3,h4,h5,zE⟩:=hM.bk id _ hb;have tC:=(Hy.1 dO).1;obtain⟨cur,bU,h1,bY⟩:=zE om;have hc:lZ ρ w (ρ.aO (.ap id)).b ((ρ.aO (.ap id)).au+i*esz+j) l:=by
   intro k c hi;have jI:k<n:=by rw[<-hl];exact(Hy.1 hi).1
   obtain⟨u,hu,b9⟩:=bY i cells (j+k) c dO ((lE k jI).trans hi);exact⟨u,by rw[bU.cell,<-hu,aau _ j k],b9.Sa (ua iV c (O9 hi))⟩
  obtain⟨u,du,b9⟩:=oN ha hs hl hc hm;exact⟨_,u,cv,rfl,du,hK,b9⟩
 .rename_i ds;obtain⟨b,off,rfl,hS,bY⟩:=hd;obtain⟨l,hr,h⟩:=bc.1 h;obtain⟨cv,hm,hK⟩:=bc.1 h;obtain⟨hl,lE⟩:=t8 hr;have hc:lZ ρ w b off l:=by
   intro i c hi;have jI:i<n:=by rw[<-hl];exact(Hy.1 hi).1
   obtain⟨d,wd,Cc⟩:=lE i jI;rw[hi]at Cc;simp at Cc;subst Cc;exact bY i d wd
  obtain⟨u,du,b9⟩:=oN ha hs hl hc hm;exact⟨_,u,cv,rfl,du,hK,b9⟩
 .exact h.elim
def dl(P:Program)(s:Sem Next)(ρ:bH)(m:Mem)(w:World)(K:CV->Mem->Prop):Prop:=
 ∃nx v w' cv m' ρ',s.run P w= .ok nx w'/\(nx= .value v\/(nx= .skip/\v=Go.undef))/\K cv m'/\aC ρ' m' w'/\bW ρ' w' cv v/\Ext ρ m w ρ' m' w'
theorem dl.pure{s:Sem Next}{v:Value}{cv:CV}{K:CV->Mem->Prop}(hM:aC ρ m w)(hr:s.run P w= .ok (.value v) w)(hK:K cv m)(hd:bW ρ w cv v):dl P s ρ m w K:=
 ⟨_,v,w,cv,m,ρ,hr,.inl rfl,hK,hM,hd,Ext.refl _ _ _⟩
theorem bJ{v x:Value}(h:bW ρ w (.rv (.one (.aa (.val x)))) v)(hx:x≠.slice none 0 0:=by first|(intro hh;cases hh;done)|assumption|simp):v=x/\cI x=true:=by
 cases h with
 |val v h=>exact⟨rfl,h⟩
 |no a=>exact absurd rfl hx
theorem ce{v:Value}(h:cI v=true):bW ρ w (.rv (.one (.aa (.val v)))) v:=cZ.val v h
theorem Mz{t:TypeId}(ht:P.underlying t=some .bool)(neg:Bool)(a b:Bool):
  (binOp (if neg then .neq else .eql) t (.bool a) (.bool b)).run P w= .ok (.bool (match neg with|true=>!(a==b)|false=>a==b)) w:=by
 have h:∀d,(Op.equalIn (d+1) t (.bool a) (.bool b)).run P w= .ok (a==b) w:=fun d=>by rw[Op.equalIn];simp[run_underlying ht]
 have h2:(Op.equal t (.bool a) (.bool b)).run P w= .ok (a==b) w:=h 9999;cases neg<;>simp[binOp,h2]
theorem Cz{op:BinOp}{x y v:Value}(h:Gu op x y=some v){t:TypeId}:(binOp op t x y).run P w= .ok v w/\cI v=true:=by
 cases x<;>cases y<;>simp only[Gu]at h<;>try(cases h;done)
 case int.int k a k' b=>
  by_cases hk:k=k'
  .subst hk;cases op<;>simp only[decide_true]at h
   case shl=>
    by_cases hb:b<0
    .simp[hb]at h
    .simp[hb]at h;subst h;simp[binOp,Op.shift,hb,cI]
   case shr=>
    by_cases hb:b<0
    .simp[hb]at h
    .simp[hb]at h;subst h;simp[binOp,Op.shift,hb,cI]
   case quo=>
    by_cases hb:b=0
    .simp[hb]at h
    .simp[hb]at h;subst h;simp[binOp,Op.intDiv,hb,cI]
   case rem=>
    by_cases hb:b=0
    .simp[hb]at h
    .simp[hb]at h;subst h;simp[binOp,Op.intDiv,hb,cI]
   all_goals first
    |(cases h;done)
    |(simp only[XQ]at h;subst h;simp[binOp,Op.intArith,Op.intBits,Op.intCmp,cI])
  .cases op<;>simp only[hk,decide_false]at h
   case shl=>
    by_cases hb:b<0
    .simp[hb]at h
    .simp[hb]at h;subst h;simp[binOp,Op.shift,hb,cI]
   case shr=>
    by_cases hb:b<0
    .simp[hb]at h
    .simp[hb]at h;subst h;simp[binOp,Op.shift,hb,cI]
   all_goals(cases h;done)
 case string.string a b=>
  cases op<;>simp only at h<;>try(cases h;done)
  case add=>
   by_cases hb:((a.size+b.size:Nat):Int)>IntKind.i64.max
   .rw[decide_eq_true hb]at h;cases h
   .rw[decide_eq_false hb]at h;simp only[XQ]at h;subst h;refine⟨?_,rfl⟩;simp only[binOp,Op.stringOp];rw[if_neg hb];rfl
  all_goals(simp only[XQ]at h;subst h;simp[binOp,Op.stringOp,cI])
theorem Gz{op:UnOp}{x v:Value}(h:Ve op x=some v):(Op.unary op x).run P w= .ok v w/\cI v=true:=by
 cases x<;>simp only[Ve]at h<;>try(cases h;done)
 all_goals cases op<;>simp only at h<;>try(cases h;done)
 all_goals(simp only[XQ]at h;subst h;simp[Op.unary,Op.intArith,cI])
theorem sj{op:BinOp}{t:TypeId}{x y:Operand}{a b:Value}(ha:cI a=true)(hn:a≠.nilIface):(eqGuard op t x y a b).run P w= .ok () w:=by
 unfold eqGuard;cases op<;>simp
 all_goals(cases a<;>simp_all[cI])
end
section
variable {P:Program} {ρ:bH} {m:Mem} {w:World} {aU:List CV} {a:Act} {K:CV->Mem->Prop}
theorem iH{cv:CV}{v:Value}{cs:List CC}(h:cellsOf cv=some cs)(hd:bW ρ w cv v):
  v.cells.size=cs.length/\(∀(i:Nat)c,cs[i]? =some c->∃u,v.cells[i]? =some u/\br ρ w .none c u)/\(∀u∈v.cells.toList,u.oneCell'=true):=by
 unfold cellsOf at h;split at h
 .rename_i c;simp at h;subst h;have h1:v.oneCell'=true:=br.one hd;have hc:v.cells= #[v]:=by cases v<;>first|rfl|simp[Value.oneCell']at h1
  refine⟨by simp[hc],fun i c' hi=>?_,by rw[hc];simpa using h1⟩
  cases i with
  |zero=>simp at hi;subst hi;exact⟨v,by simp[hc],hd⟩
  |succ i=>simp at hi
 .rename_i ek;simp at h;subst h;obtain⟨vs,rfl,hl,hc⟩:=hd;refine⟨by simp[Value.cells,hl],fun i c hi=>?_,fun u hu=>?_⟩
  .obtain⟨u,hu,b9⟩:=hc i c hi;exact⟨u,by simpa[Value.cells]using hu,b9⟩
  .simp only[Value.cells]at hu;obtain⟨i,hi,rfl⟩:=abE hu;have dV:i<vs.length:=by simpa using hi
   obtain⟨u,Sd,b9⟩:=hc i (ek[i]'(by omega)) (tq om)
   rw[tq dV]at Sd;simp at Sd;simpa[Sd]using b9.one
 .cases h
theorem eA:∀{vs:List Value}{cs:List CC},lv vs=some cs->vs.length=cs.length/\∀(i:Nat)c,cs[i]? =some c->∃u,vs[i]? =some u/\br ρ w .none c u
 | [],cs,h=>by simp[lv]at h;subst h;simp
 |v::r,cs,h=>by
  simp only[lv,Pq,KG]at h;obtain⟨c,hc,l,hl,h⟩:=h;simp at h;subst h;obtain⟨h1,h2⟩:=eA hl;refine⟨by simp[h1],fun i c' hi=>?_⟩
  cases i with
  |zero=>simp at hi;subst hi;exact⟨v,aK,oM hc⟩
  |succ i=>simpa using h2 i c' (by simpa using hi)
theorem zY(hM:aC ρ m w){cs:List CC}{cells:Array Value}{ty:TypeId}{w':World}(hw:w'=w.alloc (.cells cells ty)\/w'=w.drew.alloc (.cells cells ty))(hd:∀(i:Nat)c,cs[i]? =some c->∃u,cells[i]? =some u/\br ρ w .none c u):
  ∃ρ',aC ρ' (m++ [.var cs]) w'/\Ext ρ m w ρ' (m++ [.var cs]) w'/\bW ρ' w' (.rv (.one (.ptr m.length 0))) (.pointer (some ⟨w.heap.size,0,none⟩)):=by
 have On:d5 w w':=by
  rcases hw with rfl|rfl
  .exact d5.alloc w _
  .exact(d5.drew w).trans (d5.alloc w.drew _)
 have bU:lq True w' w.heap.size cells:=by
  rcases hw with rfl|rfl
  .exact lq.new w cells ty
  .exact lq.new w.drew cells ty
 have dj:w.heap.size<w'.heap.size:=bU.lt;let l:vU:=⟨w.heap.size,0,0,0⟩;have hn:=hM.n;have cy:(ρ.push l).aO (.ap m.length)=l:=by rw[<-hn];exact ρ.fZ l
 have g:ij ρ w (ρ.push l) w':=⟨by simp[bH.push],fun k hk=>ρ.ez l hk,fun b hb=>hb,fun b hb=>On.heap b (hM.S b hb)⟩
 have hb:dZ (ρ.push l) w' m.length (.var cs):=by
  refine⟨cells,by rw[cy];exact bU,fun j c hj=>?_⟩
  obtain⟨u,hu,b9⟩:=hd j c hj;exact⟨u,by rw[cy];simpa[l]using hu,b9.cF g aK⟩
 obtain⟨h1,h2⟩:=hM.push (l:=l) On (QN _) dj hb trivial;refine⟨_,h1,h2,by simp[bH.push,hn],?_⟩
 rw[cy]
theorem I7(hM:aC ρ m w){esz cap:Nat}{elems:List (List CC)}{cells:Array Value}{ty:TypeId}{w':World}(hw:w'=w.alloc (.cells cells ty)\/w'=w.drew.alloc (.cells cells ty))(dj:cap*esz<=cells.size)(hlen:elems.length<=cap)(bl:cap<=maxLen)(pg:∀cs,cs∈elems->cs.length=esz)(hd:∀(i:Nat)cs(j:Nat)c,elems[i]? =some cs->cs[j]? =some c->∃u,cells[i*esz+j]? =some u/\br ρ w .none c u):
  ∃ρ',aC ρ' (m++ [.row esz elems]) w'/\Ext ρ m w ρ' (m++ [.row esz elems]) w'/\
   bW ρ' w' (.rv (.one (.row m.length esz 0 none))) (.slice (some ⟨w.heap.size,0,none⟩) elems.length cap):=by
 have On:d5 w w':=by
  rcases hw with rfl|rfl
  .exact d5.alloc w _
  .exact(d5.drew w).trans (d5.alloc w.drew _)
 have bU:lq (esz=1) w' w.heap.size cells:=by
  rcases hw with rfl|rfl
  .exact lq.new w cells ty
  .exact lq.new w.drew cells ty
 have aF:w.heap.size<w'.heap.size:=bU.lt;let l:vU:=⟨w.heap.size,0,elems.length,cap⟩;have hn:=hM.n;have cy:(ρ.push l).aO (.ap m.length)=l:=by rw[<-hn];exact ρ.fZ l
 have g:ij ρ w (ρ.push l) w':=⟨by simp[bH.push],fun k hk=>ρ.ez l hk,fun b hb=>hb,fun b hb=>On.heap b (hM.S b hb)⟩
 have hb:dZ (ρ.push l) w' m.length (.row esz elems):=by
  refine⟨by rw[cy],by rw[cy];exact hlen,by rw[cy];exact bl,pg,fun _=>⟨cells,by rw[cy];exact bU,by rw[cy];simpa[l]using dj,fun i cs j c hi hj=>?_⟩⟩
  obtain⟨u,hu,b9⟩:=hd i cs j c hi hj;exact⟨u,by rw[cy];simpa[l]using hu,(b9.cF g aK).ub _⟩
 obtain⟨h1,h2⟩:=hM.push (l:=l) On (QN _) aF hb (fun i cs j c hi hj=>by obtain⟨u,hu,b9⟩:=hd i cs j c hi hj;exact b9.x8)
 refine⟨_,h1,h2,by simp[bH.push,hn],?_⟩
 rw[cy];refine⟨aK,aK,hlen,bl,_,rfl,fun _=>?_⟩
 simp[l]
theorem zZ(hM:aC ρ m w){t:TypeId}{z:List CC}(hz:dE P t=some z)(h:step P (.alloc z) aU m K):
  dl P (do pure (Next.value (<-Instr.alloc t true (.tuple #[])))) ρ m w K:=by
 simp only[dE,Pq,KG]at hz;obtain⟨i,hi,v,hv,hc⟩:=hz;obtain⟨hl,hd⟩:=eA (ρ:=ρ) (w:=w) hc;obtain⟨ρ',h1,h2,h3⟩:=zY hM (ty:=t) (cells:=v.cells) (.inl rfl) (fun i c hi=>by
  obtain⟨u,hu,b9⟩:=hd i c hi;exact⟨u,by simpa using hu,b9⟩)
 simp only[step,gI,cg]at h;refine⟨_,_,_,_,_,ρ',?_,.inl rfl,h,h1,h3,h2⟩;simp[Instr.alloc,zeroValue,typeInfo,hi,hv,newVar,newRow]
theorem GA(hM:aC ρ m w)(hE:be ρ w aU a.tmps){t:TypeId}{x:Operand}{x':X}(hx:bh x=some x')(h:step P (.box x') aU m K):
  dl P (do pure (Next.value (<-Instr.box t (a.eval x)))) ρ m w K:=by
 simp only[step]at h;obtain⟨cs,fb,h⟩:=bc.1 h;obtain⟨hl,hd,_⟩:=iH fb (aN hE hx);obtain⟨ρ',h1,h2,h3⟩:=zY hM (ty:=t) (cells:=(a.eval x).cells) (.inl rfl) hd;simp only[gI,cg]at h;refine⟨_,_,_,_,_,ρ',?_,.inl rfl,h,h1,h3,h2⟩;simp[Instr.box,newVar,newRow]
theorem qS(off:Nat):∀(vs:List Value)(k:Nat)(cells:Array Value),
  let r:=(vs.zipIdx k).foldl (fun(cs:Array Value)(p:Value×Nat)=>cs.setIfInBounds (off+p.2) p.1) cells
  r.size=cells.size/\(off+k+vs.length<=cells.size->∀i,r[i]? =if off+k<=i/\i<off+k+vs.length then vs[i-(off+k)]? else cells[i]?)
 | [],k,cells=>by simp;intro _ i h1 h2;omega
 |v::r,k,cells=>by
  simp only[List.zipIdx_cons,List.foldl_cons];obtain⟨h1,h2⟩:=qS off r (k+1) (cells.setIfInBounds (off+k) v);refine⟨by rw[h1];simp,fun hle i=>?_⟩
  simp only[XR]at hle;rw[h2 (by simp;omega) i]
  by_cases hc:off+(k+1)<=i/\i<off+(k+1)+r.length
  .rw[if_pos hc,if_pos (by simp;omega)]
   rw[show i-(off+k)=(i-(off+(k+1)))+1 by omega]
   simp
  .rw[if_neg hc];by_cases he:i=off+k
   .subst he;rw[if_pos aK];simp only[abK,abt];rw[aa1];simp;omega
   .rw[if_neg (by simp;omega),aa1,if_neg om]
def Cells(ρ:bH)(w:World)(cs:List CC)(cells:Array Value):Prop:=
 cells.size=cs.length/\∀(i:Nat)c,cs[i]? =some c->∃u,cells[i]? =some u/\br ρ w .none c u
theorem z6{place:Nat->Option (Nat×Nat)}{i off sz:Nat}{v:Value}{rest:List (Nat×Value)}{z z' cs:List CC}{cells:Array Value}(hp:place i=some (off,sz))(hz:Cells ρ w z cells)(hv:v.cells.size=sz)(gK:cs.length=sz)(hd:∀(i:Nat)c,cs[i]? =some c->∃u,v.cells[i]? =some u/\br ρ w .none c u)(hw:fj z off cs=some z'):∃eK,Instr.fill place cells ((i,v)::rest)=Instr.fill place eK rest/\Cells ρ w z' eK:=by
 obtain⟨h1,h2,h3⟩:=iG hw;refine⟨(v.cells.zipIdx.foldl (fun cs(p:Value×Nat)=>cs.setIfInBounds (off+p.2) p.1) cells),?_,?_⟩
 .rw[Instr.fill,hp];simp only;rw[if_neg (by rw[hz.1];simp;omega)]
 .have hf:=qS off v.cells.toList 0 cells;simp only[abL]at hf;have he:v.cells.zipIdx.foldl (fun cs(p:Value×Nat)=>cs.setIfInBounds (off+p.2) p.1) cells=(v.cells.toList.zipIdx 0).foldl (fun(cs:Array Value)(p:Value×Nat)=>cs.setIfInBounds (off+p.2) p.1) cells:=by rw[<-Array.foldl_toList];simp
  rw[he];refine⟨by rw[hf.1,hz.1,h1],fun k c hk=>?_⟩
  rw[hf.2 (by rw[hz.1];simp;omega) k]
  rw[h3 k]at hk;have hlen:v.cells.toList.length=cs.length:=by simp[hv,gK]
  rw[hlen];by_cases hc:off<=k/\k<off+cs.length
  .rw[if_pos hc]at hk⊢;obtain⟨u,hu,b9⟩:=hd _ c hk;exact⟨u,by simpa using hu,b9⟩
  .rw[if_neg hc]at hk⊢;exact hz.2 k c hk
theorem sn(hE:be ρ w aU a.tmps){fs:Array Field}{place:Nat->Option (Nat×Nat)}(iI:∀i f,fs[i]? =some f->∀n,d9 P f.type=some n->place i=some (f.offset,n)):
  ∀{ps:List (Nat×Operand)}{ph:List (Nat×Nat×X)}{z z':List CC}{cells:Array Value},lw P fs ps=some ph->m7 aU z ph=some z'->Cells ρ w z cells->
   ∃eK,Instr.fill place cells (ps.map fun p=>(p.1,a.eval p.2))=some eK/\Cells ρ w z' eK
 | [],ph,z,z',cells,hp,hf,hz=>by simp[lw]at hp;subst hp;simp[m7]at hf;subst hf;exact⟨cells,rfl,hz⟩
 |(i,x)::r,ph,z,z',cells,hp,hf,hz=>by
  simp only[lw,Pq,KG]at hp;obtain⟨f,V0,n,hn,x',hx,r',hr,hp⟩:=hp;simp at hp;subst hp;simp only[m7]at hf;split at hf
  .rename_i cs fb;split at hf
   .rename_i hlen;have hlen:cs.length=n:=XM hlen;split at hf
    .rename_i z1 Se;obtain⟨h1,h2,_⟩:=iH fb (aN hE hx);obtain⟨PG,he,CA⟩:=z6 (rest:=r.map fun p=>(p.1,a.eval p.2)) (iI i f V0 n hn) hz (h1.trans hlen) hlen h2 Se
     obtain⟨eK,sh,px⟩:=sn hE iI hr hf CA;exact⟨eK,by rw[aay,he,sh],px⟩
    .cases hf
   .cases hf
  .cases hf
theorem so(hE:be ρ w aU a.tmps){sz:Nat}{place:Nat->Option (Nat×Nat)}(iI:∀i,place i=some (i*sz,sz)):
  ∀{ps:List (Nat×Operand)}{ph:List (Nat×Nat×X)}{z z':List CC}{cells:Array Value},jw sz ps=some ph->m7 aU z ph=some z'->Cells ρ w z cells->
   ∃eK,Instr.fill place cells (ps.map fun p=>(p.1,a.eval p.2))=some eK/\Cells ρ w z' eK
 | [],ph,z,z',cells,hp,hf,hz=>by simp[jw]at hp;subst hp;simp[m7]at hf;subst hf;exact⟨cells,rfl,hz⟩
 |(i,x)::r,ph,z,z',cells,hp,hf,hz=>by
  simp only[jw,Pq,KG]at hp;obtain⟨x',hx,r',hr,hp⟩:=hp;simp at hp;subst hp;simp only[m7]at hf;split at hf
  .rename_i cs fb;split at hf
   .rename_i hlen;have hlen:cs.length=sz:=XM hlen;split at hf
    .rename_i z1 Se;obtain⟨h1,h2,_⟩:=iH fb (aN hE hx);obtain⟨PG,he,CA⟩:=z6 (rest:=r.map fun p=>(p.1,a.eval p.2)) (iI i) hz (h1.trans hlen) hlen h2 Se
     obtain⟨eK,sh,px⟩:=so hE iI hr hf CA;exact⟨eK,by rw[aay,he,sh],px⟩
    .cases hf
   .cases hf
  .cases hf
theorem CB{t:TypeId}{z:List CC}(hz:dE P t=some z):∃v,(zeroValue t).run P w= .ok v w/\Cells ρ w z v.cells:=by
 simp only[dE,Pq,KG]at hz;obtain⟨i,hi,v,hv,hc⟩:=hz;obtain⟨hl,hd⟩:=eA (ρ:=ρ) (w:=w) hc;refine⟨v,by simp[zeroValue,typeInfo,hi,hv],by simpa using hl,fun i c hi=>?_⟩
 obtain⟨u,hu,b9⟩:=hd i c hi;exact⟨u,by simpa using hu,b9⟩
theorem Fg{cs:List CC}{cells:Array Value}(h:Cells ρ w cs cells):bW ρ w (.rv (.agg cs)) (.agg cells):=
 ⟨cells.toList,aK,by simpa using h.1,fun i c hi=>let⟨u,hu,hd⟩:=h.2 i c hi;⟨u,by simpa using hu,hd⟩⟩
end
section
variable {P:Program} {ρ:bH} {m:Mem} {w:World} {aU:List CV} {a:Act} {K:CV->Mem->Prop}
theorem z7{α β:Type}{f:α->Option β}:∀{l:List α}{r:List β},l.mapM f=some r->∀(i:Nat)x,l[i]? =some x->∃y,f x=some y/\r[i]? =some y
 | [],r,h,i,x,hx=>by simp at hx
 |a::l,r,h,i,x,hx=>by
  simp only[List.mapM_cons,Pq,KG,Option.pure_def]at h;obtain⟨y,hy,ys,Z9,h⟩:=h;simp at h;subst h;cases i with
  |zero=>simp at hx;subst hx;exact⟨y,hy,aK⟩
  |succ i=>simpa using z7 Z9 i x (by simpa using hx)
theorem sq(hM:aC ρ m w)(hE:be ρ w aU a.tmps){t:TypeId}{ps:Array (Nat×Operand)}{z:List CC}{ph:List (Nat×Nat×X)}(hz:dE P t=some z)(hp:(∃fs,P.underlying t=some (.struct fs)/\(fs.toList.mapM (fun f=>(P.info? f.type).map fun i=>(f.offset,i.size))).isSome=true/\lw P fs ps.toList=some ph)\/
   (∃n e sz,P.underlying t=some (.array n e)/\d9 P e=some sz/\jw sz ps.toList=some ph))(h:step P (.build z ph) aU m K):dl P (do pure (Next.value (<-Instr.build t (ps.map fun(i,x)=>(i,a.eval x))))) ρ m w K:=by
 simp only[step]at h;obtain⟨z',hf,hK⟩:=bc.1 h;have Cd:=hz;simp only[dE,Pq,KG]at hz;obtain⟨i,hi,v,hv,hc⟩:=hz;obtain⟨hl,hd⟩:=eA (ρ:=ρ) (w:=w) hc;have dO:Cells ρ w z v.cells:=⟨by simpa using hl,fun i c hi=>by
  obtain⟨u,hu,b9⟩:=hd i c hi;exact⟨u,by simpa using hu,b9⟩⟩
 have key:∃cells,P.built t (ps.map fun(i,x)=>(i,a.eval x)).toList=some cells/\Cells ρ w z' cells:=by
  rcases hp with⟨fs,hu,eB,V1⟩|⟨n,e,sz,hu,dj,V1⟩
  .obtain⟨places,iI⟩:=Option.isSome_iff_exists.1 eB;obtain⟨cells,h1,h2⟩:=sn hE (fs:=fs) (place:=fun i=>places.toArray[i]?) (fun i f V0 n hn=>by
    obtain⟨y,hy,hr⟩:=z7 iI i f (by simpa using V0)
    simp only[d9,Z2]at hn hy;obtain⟨i1,Oo,rfl⟩:=hn;obtain⟨i2,d8,rfl⟩:=hy;rw[Oo]at d8;cases d8;simpa using hr) V1 hf dO
   refine⟨cells,?_,h2⟩;unfold Program.built;simp only[hi,hu,hv,iI];simpa using h1
  .obtain⟨cells,h1,h2⟩:=so hE (sz:=sz) (place:=fun i=>some (i*sz,sz)) (fun i=>rfl) V1 hf dO
   refine⟨cells,?_,h2⟩;simp only[d9,Z2]at dj;obtain⟨ie,ko,rfl⟩:=dj;unfold Program.built;simp only[hi,hu,hv,ko];simpa using h1
 obtain⟨cells,hb,fb⟩:=key;refine dl.pure hM (v:= .agg cells) ?_ hK (Fg fb);rw[Sem.run_bind,run_build w t _ cells hb];rfl
theorem CD(hM:aC ρ m w)(hE:be ρ w aU a.tmps){t:TypeId}{x:Operand}{x':X}{agg:Bool}{n:Nat}(ha:dU P t=some agg)(hs:d9 P t=some n)(hx:bh x=some x')(h:step P (.load agg n x') aU m K):dl P (do pure (Next.value (<-Instr.loadAt t (a.eval x)))) ρ m w K:=by
 simp only[step]at h;obtain⟨ad,u,cv,hv,hr,hK,hd⟩:=si hM ha hs h (aN hE hx);refine dl.pure hM (v:=u) ?_ hK hd;rw[hv];simp[Instr.loadAt,Instr.sureAddr,hr]
theorem l3{mk:Prop}(g o:Nat):∀(vs:List Value)(i:Nat)(cur:Array Value)(w:World),lq mk w g cur->o+i+vs.length<=cur.size->(∀v∈vs,v.oneCell'=true)->
  ∃w' fP,(storeCells ⟨g,o,none⟩ vs i).run P w= .ok () w'/\lq mk w' g fP/\jH w w' g/\fP.size=cur.size/\
   ∀k,fP[k]? =if o+i<=k/\k<o+i+vs.length then vs[k-(o+i)]? else cur[k]?
 | [],i,cur,w,hc,_,_=>⟨w,cur,rfl,hc,⟨fun _ _=>rfl,rfl,rfl,rfl,rfl⟩,rfl,fun k=>by rw[if_neg aK]⟩
 |v::r,i,cur,w,hc,hl,h1=>by
  simp only[XR]at hl;have hi:o+i<cur.size:=om;have iJ:w.cell? ⟨g,o+i,none⟩=some cur[o+i]:=by rw[hc.cell];simp[hi]
  have V2:=hc.jD hi;have zF:(store ((⟨g,o,none⟩:Addr).add i) v).run P w= .ok () (w.setCell ⟨g,o+i,none⟩ v):=by rw[kX,run_store P w _ v _ (h1 v aK),iJ];simp[V2]
  have CA:lq mk (w.setCell ⟨g,o+i,none⟩ v) g (cur.setIfInBounds (o+i) v):=by
   obtain⟨ty,fr,hb,hf⟩:=hc;refine⟨ty,fr,?_,by simpa using hf⟩
   simp[World.setCell,aaJ,hb]
  have ya:jH w (w.setCell ⟨g,o+i,none⟩ v) g:=⟨fun b hb=>by simp[World.setCell,aaJ,Ne.symm hb],aK,rfl,rfl,rfl⟩
  obtain⟨w',fP,hr,px,ht,dj,hk⟩:=l3 g o r (i+1) _ _ CA (by simp;omega) (fun x hx=>h1 x (by simp[hx]))
  refine⟨w',fP,?_,px,⟨fun b hb=>(ht.heap b hb).trans (ya.heap b hb),ht.size.trans ya.size,ht.os,ht.tape,ht.output⟩,by simpa using dj,fun k=>?_⟩
  .simp only[storeCells,Sem.run_bind,zF,Result.andThen_ok];exact hr
  .rw[hk k];simp only[XR];by_cases hb:o+(i+1)<=k/\k<o+(i+1)+r.length
   .rw[if_pos hb,if_pos om,show k-(o+i)=(k-(o+(i+1)))+1 by omega]
    simp
   .rw[if_neg hb,aa1];by_cases he:o+i=k
    .subst he;rw[if_pos rfl,if_pos om];simp
    .rw[if_neg he,if_neg om]
theorem z8(hM:aC ρ m w)(hE:be ρ w aU a.tmps){t:TypeId}{n:Nat}{p x:Operand}{p' x':X}(hs:d9 P t=some n)(MA:n≠0)(hp:bh p=some p')(hx:bh x=some x')(h:step P (.store n p' x') aU m K):dl P (do Instr.storeAt t (a.eval p) (a.eval x);pure Next.skip) ρ m w K:=by
 simp only[step]at h;obtain⟨xs,V3,h⟩:=bc.1 h;rcases cj.1 h with⟨hn,h⟩|⟨_,h⟩
 case inr=>exact h.elim
 have hn:xs.length=n:=XM hn;obtain⟨c1,c2,c3⟩:=iH V3 (aN hE hx);have Vh:=aN hE hp;generalize a.eval p=pv at Vh;generalize p'.ev aU=pc at Vh h;generalize a.eval x=xv at c1 c2 c3;have sv:∀ad:Addr,Instr.storeAt t (.pointer (some ad)) xv=storeVar t ad xv:=fun ad=>rfl
 have run:∀{mk:Prop}(b off:Nat)(cur:Array Value),lq mk w b cur->off+xs.length<=cur.size->∃w' fP,(storeVar t ⟨b,off,none⟩ xv).run P w= .ok () w'/\lq mk w' b fP/\jH w w' b/\fP.size=cur.size/\
   ∀k,fP[k]? =if off<=k/\k<off+xs.length then xv.cells[k-off]? else cur[k]? :=by
  intro mk b off cur hc hle;obtain⟨w',fP,h1,h2,h3,h4,h5⟩:=l3 (P:=P) b off xv.cells.toList 0 cur w hc (by simp[c1];omega) c3
  refine⟨w',fP,?_,h2,h3,h4,fun k=>?_⟩
  .unfold storeVar;rw[Sem.run_bind,eU hs];simp only[Result.andThen_ok];rw[if_neg (by rw[c1,hn];simp)]
   simpa using h1
  .rw[h5 k];simp[c1]
 split at h
 .rename_i id j;obtain⟨aF,rfl⟩:=Vh;obtain⟨bk,hb,h⟩:=bc.1 h;rw[aT]at hb;cases bk<;>simp only at h
  rename_i cs;obtain⟨ek,hw,hK⟩:=bc.1 h;obtain⟨w1,w2,w3⟩:=iG hw;obtain⟨cur,bU,bY⟩:=hM.bk id _ hb;rw[bg]at hK;have jg:(ρ.aO (.ap id)).au+j+xs.length<=cur.size:=by obtain⟨u,hu,_⟩:=bY (j+xs.length-1) _ (tq om);have:=(aac.1 hu).1;omega
  obtain⟨w',fP,hr,px,ht,dj,hk⟩:=run (ρ.aO (.ap id)).b ((ρ.aO (.ap id)).au+j) cur bU jg;obtain⟨kY,hX⟩:=hM.PF (Cy:= .var ek) hb ⟨_,hb,aK,by rintro⟨_,_,e⟩;cases e⟩ ht (fun g=>⟨fP,px,fun k c MB=>by
   rw[w3 k]at MB;rw[hk];by_cases jI:j<=k/\k<j+xs.length
   .rw[if_pos jI]at MB;rw[if_pos om];obtain⟨u,hu,b9⟩:=c2 _ c MB;exact⟨u,by rw[<-hu];congr 1;omega,b9.cF g aK⟩
   .rw[if_neg jI]at MB;rw[if_neg om];obtain⟨u,hu,b9⟩:=bY k c MB;exact⟨u,hu,b9.cF g aK⟩⟩) (by
   rintro i' j' esz e ⟨es,rows,I8,nf,_,_⟩;rw[QO (by rw[<-hM.n];exact aF)]at nf
   cases nf)
  refine⟨.skip,Go.undef,w',.undef,_,ρ,?_,.inr ⟨rfl,rfl⟩,hK,kY,rfl,hX⟩;rw[sv,Sem.run_bind,hr];rfl
 .rename_i id esz i j;obtain⟨aF,rfl⟩:=Vh;obtain⟨bk,hb,h⟩:=bc.1 h;rw[aT]at hb;cases bk<;>simp only at h
  rename_i m8 elems;rcases cj.1 h with⟨he,h⟩|⟨_,h⟩
  case inr=>exact h.elim
  have he:esz=m8:=XM he;obtain⟨cells,dO,h⟩:=bc.1 h;rw[aT]at dO;rcases cj.1 h with⟨iV,h⟩|⟨_,h⟩
  case inr=>exact h.elim
  obtain⟨eK,hw,hK⟩:=bc.1 h;obtain⟨w1,w2,w3⟩:=iG hw;obtain⟨h2,h3,h4,h5,zE⟩:=hM.bk id _ hb;have tC:=(Hy.1 dO).1;have de:0<(ρ.aO (.ap id)).cap:=om;obtain⟨cur,bU,h1,bY⟩:=zE de;rw[bg,bg]at hK;subst he;have gK:cells.length=esz:=h5 _ (O9 dO);have hi:i<elems.length:=(Hy.1 dO).1;have hmul:i*esz+esz<=(ρ.aO (.ap id)).cap*esz:=by have:(i+1)*esz<=(ρ.aO (.ap id)).cap*esz:=aam _ om;rwa [aaz,aaU]at this
  obtain⟨w',fP,hr,px,ht,dj,hk⟩:=run (ρ.aO (.ap id)).b ((ρ.aO (.ap id)).au+i*esz+j) cur bU om;obtain⟨kY,hX⟩:=hM.PF (Cy:= .row esz (elems.set i eK)) hb ⟨_,hb,aK,fun _=>de⟩ ht (fun g=>⟨by simpa using h2,h3,h4,fun cs fb=>by
    rcases aag fb with hm|rfl
    .exact h5 cs hm
    .rw[w1,gK],fun _=>⟨fP,px,by rw[dj];exact h1,fun i' cs j' c dV vV=>by
   rw[hk];by_cases Mg:i=i'
   .subst Mg;rw[QO hi]at dV;simp only[XQ]at dV;subst dV;rw[w3 j']at vV;by_cases jI:j<=j'/\j'<j+xs.length
    .rw[if_pos jI]at vV;rw[if_pos om];obtain⟨u,hu,b9⟩:=c2 _ c vV;exact⟨u,by rw[<-hu];congr 1;omega,(b9.cF g aK).ub _⟩
    .rw[if_neg jI]at vV;rw[if_neg om];obtain⟨u,hu,b9⟩:=bY i cells j' c dO vV;exact⟨u,hu,b9.cF g (by rintro _ _ _ e;cases e;exact aF)⟩
   .rw[XK Mg]at dV;obtain⟨u,hu,b9⟩:=bY i' cs j' c dV vV;have aaa:j'<esz:=by rw[<-h5 _ (O9 dV)];exact(Hy.1 vV).1
    have eL:¬((ρ.aO (.ap id)).au+i*esz+j<=(ρ.aO (.ap id)).au+i'*esz+j'/\(ρ.aO (.ap id)).au+i'*esz+j'<(ρ.aO (.ap id)).au+i*esz+j+xs.length):=by
     rcases Nat.lt_or_gt_of_ne Mg with nc|nc
     .have:(i+1)*esz<=i'*esz:=aam _ nc;rw[aaz,aaU]at this;omega
     .have:(i'+1)*esz<=i*esz:=aam _ nc;rw[aaz,aaU]at this;omega
    rw[if_neg eL];exact⟨u,hu,b9.cF g (by rintro _ _ _ e;cases e;exact aF)⟩⟩⟩) (by
   rintro i' j' wa e ⟨es,rows,I8,nf,d8,jy⟩;rw[QO (by rw[<-hM.n];exact aF)]at nf
   cases nf;by_cases Mg:i=i'
   .subst Mg;rw[QO hi]at d8;cases d8;rw[w3 j']at jy;by_cases jI:j<=j'/\j'<j+xs.length
    .rw[if_pos jI]at jy;obtain⟨u,hu,b9⟩:=c2 _ _ jy;exact absurd rfl (b9.x8 _ _)
    .rw[if_neg jI]at jy;exact⟨esz,elems,cells,hb,dO,jy⟩
   .rw[XK Mg]at d8;exact⟨esz,elems,I8,hb,d8,jy⟩)
  refine⟨.skip,Go.undef,w',.undef,_,ρ,?_,.inr ⟨rfl,rfl⟩,hK,kY,rfl,hX⟩;rw[sv,Sem.run_bind,hr];rfl
 .exact h.elim
end
end Go.AM
