/- Part 3 of 35. -/
import Derived.Test.YtllkfpggoigbaaaGreatDoorS02
set_option linter.unusedVariables false
set_option linter.unusedSimpArgs false
set_option linter.unnecessarySimpa false
set_option maxRecDepth 100000
set_option maxHeartbeats 0
namespace Go.AM
theorem aW{α:Type}:∀(l:List α)(i:Nat),dh l i=l[i]?
 | [],_=>by simp[dh]
 |_::_,0=>rfl
 |_::r,k+1=>by simpa[dh]using aW r k
theorem bh{α:Type}:∀(l:List α)(i:Nat)(x:α),aX l i x=l.set i x
 | [],_,_=>rfl
 |_::_,0,_=>rfl
 |a::r,k+1,x=>by simp[aX,bh r k x]
theorem cf{α:Type}:∀(a b:List α),fT a b=a++b
 | [],_=>rfl
 |x::r,b=>by simp[fT,cf r b]
theorem fK{α:Type}:∀(n:Nat)(x:α),gP n x=List.replicate n x
 |0,_=>rfl
 |n+1,x=>by simp[gP,fK n x,List.replicate_succ]
theorem fq{α:Type}{β:Sort _}:∀(l:List α)(k:List α->β),jH l k=k l
 | [],_=>rfl
 |x::r,k=>fq r λr'=>k (x::r')
theorem YC{β:Sort _}(v:CV)(k:CV->β):fV v k=k v:=by
 cases v with
 |rv r=>
  cases r with
  |one c=>rfl
  |agg cs=>exact fq cs _
 |_=>rfl
theorem mM:∀(e:List CV)(i:Nat),lm e i=(e[i]?).getD .aH
 | [],_=>by simp[lm]
 |_::_,0=>rfl
 |_::r,k+1=>by simpa[lm]using mM r k
theorem bb{α:Type}{o:Option α}{K:α->Prop}:ok o K↔∃x,o=some x/\K x:=by
 cases o<;>simp[ok]
theorem cP{t:Bool}{A B:Prop}:bB t A B↔(t=true/\A)\/(t=false/\B):=by
 cases t<;>simp[bB]
theorem Dg{β:Sort _}(m0:Mem):∀(m:Mem)(c n:Nat)(k:Nat->β),m0.length=c+m.length->wZ m0 m (List.range' c n) k=k m0.length
 | [],c,0,k,_=>by simp[wZ]
 | [],c,n+1,k,h=>by simp[wZ,ad7,h]
 |_::r,c,0,k,h=>by simp[wZ]
 |_::r,c,n+1,k,h=>by
  rw[ad7,wZ];exact Dg m0 r (c+1) n k (by simp at h;omega)
theorem kh{β:Sort _}(m:Mem)(k:Nat->β):sy m k=k m.length:=by have:=Dg m m 0 64 k aD;exact this
theorem lP:∀{cs:List CC}{j n:Nat}{l:List CC},jI cs j n=some l->l.length=n/\∀i,i<n->cs[j+i]? =l[i]?
 |cs,0,0,l,h=>by cases cs<;>simp[jI]at h<;>subst h<;>simp
 | [],0,n+1,l,h=>by simp[jI]at h
 | [],j+1,n,l,h=>by cases n<;>simp[jI]at h
 |c::cs,0,n+1,l,h=>by
  simp only[jI]at h;cases hr:jI cs 0 n with
  |none=>simp[hr]at h
  |some l'=>
   simp[hr]at h;subst h;obtain⟨h1,h2⟩:=lP hr;refine⟨by simp[h1],λi hi=>?_⟩
   cases i with
   |zero=>simp
   |succ i=>have:=h2 i (by omega);simpa using this
 |c::cs,j+1,n,l,h=>by
  have h':jI cs j n=some l:=by cases n<;>simpa[jI]using h
  obtain⟨h1,h2⟩:=lP h';refine⟨h1,λi hi=>?_⟩
  have:=h2 i hi;rw[show j+1+i=(j+i)+1 by omega]
  simpa using this
theorem kq:∀{cs:List CC}{j:Nat}{xs l:List CC},io cs j xs=some l->
  l.length=cs.length/\j+xs.length<=cs.length/\∀i,l[i]? =if j<=i/\i<j+xs.length then xs[i-j]? else cs[i]?
 |cs,0,[],l,h=>by
  cases cs<;>simp[io]at h<;>subst h
  .simp
  .refine⟨rfl,aD,λi=>?_⟩
   rw[if_neg aD]
 | [],0,x::xs,l,h=>by simp[io]at h
 | [],j+1,xs,l,h=>by cases xs<;>simp[io]at h
 |c::cs,0,x::xs,l,h=>by
  simp only[io]at h;cases hr:io cs 0 xs with
  |none=>simp[hr]at h
  |some l'=>
   simp[hr]at h;subst h;obtain⟨h1,h2,h3⟩:=kq hr;refine⟨by simp[h1],by simp at h2|-;omega,λi=>?_⟩
   cases i with
   |zero=>simp
   |succ i=>
    have:=h3 i;simp only[WG,true_and,abV,acY,aa2,acr]at this|-;rw[this];simp
 |c::cs,j+1,xs,l,h=>by
  have h':(io cs j xs).map (c:: ·)=some l:=by
   rw[<-h];cases hr:io cs j xs<;>cases xs<;>simp[io,hr]
  cases hr:io cs j xs with
  |none=>simp[hr]at h'
  |some l'=>
   simp[hr]at h';subst h';obtain⟨h1,h2,h3⟩:=kq hr;refine⟨by simp[h1],by simp;omega,λi=>?_⟩
   cases i with
   |zero=>rw[if_neg om];simp
   |succ i=>
    have:=h3 i;simp only[acr,this];by_cases hc:j<=i/\i<j+xs.length
    .rw[if_pos hc,if_pos om,show i+1-(j+1)=i-j by omega]
    .rw[if_neg hc,if_neg om]
theorem xi:∀{ds:List Dt}{n:Nat}{l:List CC},wX ds n=some l->l.length=n/\∀i,i<n->∃d,ds[i]? =some d/\l[i]? =some (.ai d)
 |ds,0,l,h=>by cases ds<;>simp[wX]at h<;>subst h<;>simp
 | [],n+1,l,h=>by simp[wX]at h
 |d::ds,n+1,l,h=>by
  simp only[wX]at h;cases hr:wX ds n with
  |none=>simp[hr]at h
  |some l'=>
   simp[hr]at h;subst h;obtain⟨h1,h2⟩:=xi hr;refine⟨by simp[h1],λi hi=>?_⟩
   cases i with
   |zero=>exact⟨d,aD,aD⟩
   |succ i=>simpa using h2 i om
theorem xk:∀{l:List CC},jJ l=true->∀c,c∈l->∀esz e,c≠.iJ esz e
 | [],_,c,hc,_,_=>by simp at hc
 |x::r,h,c,hc,esz,e=>by
  cases x with
  |iJ a b=>simp[jJ]at h
  |_=>
   rcases abI.1 hc with rfl|hc
   .simp
   .exact xk (l:=r) (by simpa[jJ]using h) c hc esz e
def Bk.Ns:Bk->Prop
 | .row _ elems=>∀(i:Nat)cs(j:Nat)c,elems[i]? =some cs->cs[j]? =some c->∀esz e,c≠.iJ esz e
 |_=>True
theorem bH.BC{ρ:bX}{w:World}{c:CC}{v:Value}(h:bH ρ w .none c v)(esz:Nat)(e:List (List Dt)):c≠.iJ esz e:=by rintro rfl;obtain⟨_,_,_,e,_⟩:=h;cases e
theorem bH.xm{ρ:bX}{w:World}{c:CC}{v:Value}(h:bH ρ w .none c v)(pos:Option (Nat×Nat×Nat)):bH ρ w pos c v:=by
 cases c<;>first|exact h|(obtain⟨_,_,_,e,_⟩:=h;cases e)
theorem bH.YD{ρ:bX}{w:World}{pos:Option (Nat×Nat×Nat)}{c:CC}{v:Value}(hn:∀esz e,c≠.iJ esz e)(h:bH ρ w pos c v):bH ρ w .none c v:=by
 cases c<;>first|exact h|exact absurd rfl (hn _ _)
def bX.push(ρ:bX)(l:zA):bX:=
 {n:=ρ.n+1,aV:=λk=>if k.id=ρ.n then l else ρ.aV k,S:=ρ.S}
theorem bX.ft(ρ:bX)(l:zA){k:kN}(h:k.id<ρ.n):(ρ.push l).aV k=ρ.aV k:=by simp only[bX.push];rw[if_neg om]
theorem bX.ku(ρ:bX)(l:zA):(ρ.push l).aV (.ay ρ.n)=l:=by simp[bX.push,kN.id]
structure eT(w w':World):Prop where
 heap:∀b,b<w.heap.size->w'.heap[b]? =w.heap[b]?
 size:w.heap.size<=w'.heap.size
 os:w'.os=w.os
 tape:w'.tape=w.tape
 output:w'.output=w.output
theorem eT.alloc(w:World)(o:Obj):eT w (w.alloc o):=⟨λb h=>heap_alloc_old w o b h,aD,rfl,rfl,rfl⟩
theorem eT.drew(w:World):eT w w.drew:=⟨λ_ _=>rfl,aai _,rfl,rfl,rfl⟩
theorem eT.trans{a b c:World}(h:eT a b)(k:eT b c):eT a c:=
 ⟨λx hx=>(k.heap x (abL hx h.size)).trans (h.heap x hx),abJ h.size k.size,k.os.trans h.os,k.tape.trans h.tape,k.output.trans h.output⟩
theorem eS.cY{ρ U':bX}{w w':World}{id:Nat}{bk:Bk}(g:jC ρ w U' w')(hid:id<ρ.n)(hb:bk≠.aE->((∃esz elems,bk= .row esz elems)->0<(ρ.aV (.ay id)).cap)->w'.heap[(ρ.aV (.ay id)).b]? =w.heap[(ρ.aV (.ay id)).b]?)(h:eS ρ w id bk):eS U' w' id bk:=by
 have hl:U'.aV (.ay id)=ρ.aV (.ay id):=g.aV (.ay id) hid;cases bk with
 |aE=>trivial
 |var cs=>
  obtain⟨cur,hc,hd⟩:=h;refine⟨cur,by rw[hl];exact hc.cO (hb aD (by rintro⟨_,_,e⟩;cases e)),λj c hj=>?_⟩
  obtain⟨u,hu,cI⟩:=hd j c hj;exact⟨u,by rw[hl];exact hu,cI.cY g aD⟩
 |row esz elems=>
  obtain⟨h2,h3,h4,h5,cn⟩:=h;refine⟨by rw[hl];exact h2,by rw[hl];exact h3,by rw[hl];exact h4,h5,λdD=>?_⟩
  rw[hl]at dD;obtain⟨cur,hc,h1,h6⟩:=cn dD;refine⟨cur,by rw[hl];exact hc.cO (hb aD λ_=>dD),by rw[hl];exact h1,λi cs j c hi hj=>?_⟩
  obtain⟨u,hu,cI⟩:=h6 i cs j c hi hj;exact⟨u,by rw[hl];exact hu,cI.cY g (by rintro kZ i' j' e;cases e;exact hid)⟩
 |mp es=>
  obtain⟨fk,clock,hc,h1,h2⟩:=h;refine⟨fk,clock,by rw[hl,hb aD (by rintro⟨_,_,e⟩;cases e)];exact hc,h1,λi e hi=>?_⟩
  obtain⟨e',vf,hk,hd⟩:=h2 i e hi;exact⟨e',vf,hk,hd.cY g⟩
theorem Bx.cY{ρ U':bX}{w w':World}(g:jC ρ w U' w'){l:zA}{esz:Nat}{elems:List (List Dt)}(hb:w'.heap[l.b]? =w.heap[l.b]?)(h:Bx ρ w l esz elems):Bx U' w' l esz elems:=by
 obtain⟨cur,hc,h1,h2,h3⟩:=h;refine⟨cur,hc.cO hb,h1,h2,λi cs j d hi hj=>?_⟩
 obtain⟨u,hu,hd⟩:=h3 i cs j d hi hj;exact⟨u,hu,hd.mono g.S g.heap⟩
theorem aK.gO{ρ:bX}{m:Mem}{w:World}(hM:aK ρ m w){id:Nat}{bk:Bk}(h:m[id]? =some bk):id<ρ.n:=by rw[hM.n];exact(Lw.1 h).1
theorem aK.Um{ρ:bX}{m:Mem}{w w':World}{bk:Bk}{l:zA}(hM:aK ρ m w)(hw:eT w w')(Fo:Live (ρ.push l) (m++ [bk]) (.ay ρ.n)->w.heap.size<=l.b/\l.b<w'.heap.size)(gv:eS (ρ.push l) w' m.length bk)(hf:bk.Ns):aK (ρ.push l) (m++ [bk]) w'/\Ext ρ m w (ρ.push l) (m++ [bk]) w':=by
 have hn:=hM.n;have g:jC ρ w (ρ.push l) w':=⟨by simp[bX.push],λk hk=>ρ.ft l hk,λb hb=>hb,λb hb=>hw.heap b (hM.S b hb)⟩
 have get:∀{id:Nat}{b:Bk},(m++ [bk])[id]? =some b->(id<ρ.n/\m[id]? =some b)\/(id=ρ.n/\b=bk):=by
  intro id b hb;rcases aax id m.length with h|h
  .exact .inl ⟨om,by rwa [aaW h]at hb⟩
  .rw[aaS h]at hb;have:id-m.length=0:=by
    rcases abY (id-m.length)with h0|h0
    .exact h0
    .rw[abj (by simp;omega)]at hb;cases hb
   rw[this]at hb;exact .inr ⟨om,by simpa using hb.symm⟩
 have lQ:∀{id i j esz elems},gN (m++ [bk]) id i j esz elems->id<ρ.n/\gN m id i j esz elems:=by
  rintro id i j esz elems ⟨es,rows,cs,hb,hi,hj⟩;rcases get hb with⟨ax,hb⟩|⟨_,rfl⟩
  .exact⟨ax,es,rows,cs,hb,hi,hj⟩
  .exact absurd rfl (hf i cs j _ hi hj esz elems)
 have eH:∀k,Live (ρ.push l) (m++ [bk]) k->(k.id<ρ.n/\Live ρ m k)\/k= .ay ρ.n:=by
  intro k hk;cases k with
  |ay id=>
   obtain⟨b,hb,fG,bv⟩:=hk;rcases get hb with⟨ax,hb⟩|⟨rfl,_⟩
   .rw[ρ.ft l (k:= .ay id) ax]at bv;exact .inl ⟨ax,b,hb,fG,bv⟩
   .exact .inr rfl
  |sub id i j=>
   obtain⟨⟨esz,elems,ho⟩,bv⟩:=hk;obtain⟨ax,ho⟩:=lQ ho;rw[ρ.ft l (k:= .sub id i j) ax]at bv;exact .inl ⟨ax,⟨esz,elems,ho⟩,bv⟩
 have BD:(ρ.push l).aV (.ay ρ.n)=l:=ρ.ku l;refine⟨⟨by simp[bX.push,hn],λb hb=>abL (hM.S b hb) hw.size,?_,?_,?_,?_⟩,⟨by simp[bX.push],λid hid=>ρ.ft l hid,λb hb=>hb,λb hb=>.inl hb,?_,?_,hw.size,hw.os,hw.tape,hw.output⟩⟩
 .intro k hk;rcases eH k hk with⟨ax,hk⟩|rfl
  .rw[ρ.ft l ax];exact⟨abL (hM.aF k hk).1 hw.size,(hM.aF k hk).2⟩
  .rw[BD];exact⟨(Fo hk).2,λhs=>by have:=hM.S _ hs;have:=(Fo hk).1;omega⟩
 .intro k k' hk iG he;rcases eH k hk with⟨ax,hk⟩|rfl<;>rcases eH k' iG with⟨pz,iG⟩|rfl
  .rw[ρ.ft l ax,ρ.ft l pz]at he;exact hM.inj k k' hk iG he
  .rw[ρ.ft l ax,BD]at he;have:=(hM.aF k hk).1;have:=(Fo iG).1;omega
  .rw[ρ.ft l pz,BD]at he;have:=(hM.aF k' iG).1;have:=(Fo hk).1;omega
  .rfl
 .intro id b hb;rcases get hb with⟨ax,hb⟩|⟨rfl,rfl⟩
  .exact(hM.bk id b hb).cY g ax λfG bv=>hw.heap _ (hM.aF (.ay id) ⟨b,hb,fG,bv⟩).1
  .rw[hn];exact gv
 .intro id i j esz elems ho bv;obtain⟨ax,ho⟩:=lQ ho;rw[ρ.ft l (k:= .sub id i j) ax]at bv|-;exact(hM.iJ id i j esz elems ho bv).cY g (hw.heap _ (hM.aF (.sub id i j) ⟨⟨esz,elems,ho⟩,bv⟩).1)
 .intro k hk;rcases eH k hk with⟨ax,hk⟩|rfl
  .exact .inr ⟨k,hk,(by rw[ρ.ft l ax])⟩
  .exact .inl (by rw[BD];exact(Fo hk).1)
 .intro b hb _;exact hw.heap b hb
theorem aK.push{ρ:bX}{m:Mem}{w w':World}{bk:Bk}{l:zA}(hM:aK ρ m w)(hw:eT w w')(h1:w.heap.size<=l.b)(h2:l.b<w'.heap.size)(gv:eS (ρ.push l) w' m.length bk)(hf:bk.Ns):aK (ρ.push l) (m++ [bk]) w'/\Ext ρ m w (ρ.push l) (m++ [bk]) w':=
 hM.Um hw (λ_=>⟨h1,h2⟩) gv hf
structure m9(w w':World)(g:Nat):Prop where
 heap:∀b,b≠g->w'.heap[b]? =w.heap[b]?
 size:w'.heap.size=w.heap.size
 os:w'.os=w.os
 tape:w'.tape=w.tape
 output:w'.output=w.output
theorem aK.XZ{ρ:bX}{m:Mem}{w w':World}{id:Nat}{bk IF:Bk}(hM:aK ρ m w)(hid:m[id]? =some bk)(cZ:Live ρ m (.ay id))(hw:m9 w w' (ρ.aV (.ay id)).b)(gv:jC ρ w ρ w'->eS ρ w' id IF)(nv:∀i j esz e,gN (m.set id IF) id i j esz e->gN m id i j esz e):aK ρ (m.set id IF) w'/\Ext ρ m w ρ (m.set id IF) w':=by
 have ax:id<m.length:=(Lw.1 hid).1;have hS:=(hM.aF _ cZ).2;have g:jC ρ w ρ w':=⟨aai _,λ_ _=>rfl,λ_ h=>h,λb hb=>hw.heap b λe=>hS (e▸hb)⟩
 have get:∀{k:Nat}{b:Bk},(m.set id IF)[k]? =some b->(k≠id/\m[k]? =some b)\/(k=id/\b=IF):=by
  intro k b hb;by_cases hk:k=id
  .subst hk;rw[aaj ax]at hb;exact .inr ⟨rfl,by simpa using hb.symm⟩
  .rw[aam (Ne.symm hk)]at hb;exact .inl ⟨hk,hb⟩
 have lQ:∀{k i j esz e},gN (m.set id IF) k i j esz e->gN m k i j esz e:=by
  intro k i j esz e ho;by_cases hk:k=id
  .subst hk;exact nv i j esz e ho
  .obtain⟨es,rows,cs,hb,hi,hj⟩:=ho;rw[aam (Ne.symm hk)]at hb;exact⟨es,rows,cs,hb,hi,hj⟩
 have eH:∀k,Live ρ (m.set id IF) k->Live ρ m k:=by
  intro k hk;cases k with
  |ay k=>
   obtain⟨b,hb,hn,bv⟩:=hk;rcases get hb with⟨_,hb⟩|⟨rfl,_⟩
   .exact⟨b,hb,hn,bv⟩
   .exact cZ
  |sub k i j=>
   obtain⟨⟨esz,e,ho⟩,bv⟩:=hk;exact⟨⟨esz,e,lQ ho⟩,bv⟩
 refine⟨⟨by simp[hM.n],λb hb=>by rw[hw.size];exact hM.S b hb,λk hk=>by rw[hw.size];exact hM.aF k (eH k hk),λk k' hk iG=>hM.inj k k' (eH k hk) (eH k' iG),?_,?_⟩,
  ⟨aai _,λ_ _=>rfl,λ_ h=>h,λ_ h=>.inl h,λk hk=>.inr ⟨k,eH k hk,rfl⟩,λb _ hk=>hw.heap b λe=>hk _ cZ e.symm,by rw[hw.size];exact aai _,hw.os,hw.tape,hw.output⟩⟩
 .intro k b hb;rcases get hb with⟨YE,hb⟩|⟨rfl,rfl⟩
  .refine(hM.bk k b hb).cY g (hM.gO hb) λhn bv=>hw.heap _ λe=>?_
   have:=hM.inj (.ay k) (.ay id) ⟨b,hb,hn,bv⟩ cZ e;injection this with this
   exact YE this
  .exact gv g
 .intro k i j esz e ho bv;have d5:=lQ ho;refine(hM.iJ k i j esz e d5 bv).cY g (hw.heap _ λhe=>?_)
  have:=hM.inj (.sub k i j) (.ay id) ⟨⟨esz,e,d5⟩,bv⟩ cZ he;cases this
theorem bH.cut{ρ:bX}{w:World}{pos:Option (Nat×Nat×Nat)}{c:CC}{v:Value}{n:Nat}(h:bH ρ w pos c v)(hi:c.dF n):bH {ρ with n:=n} w pos c v:=by
 cases c<;>simp only[bH,CC.dF]at h hi|-
 case ptr=>exact⟨hi,h.2⟩
 case oq=>exact⟨hi,h.2⟩
 case row=>exact⟨hi,h.2⟩
 case map=>exact⟨hi,h.2⟩
 case fn=>exact⟨hi,h.2⟩
 all_goals exact h
theorem ep.cut{ρ:bX}{w:World}{r:RV}{v:Value}{n:Nat}(h:ep ρ w r v)(hi:r.dF n):ep {ρ with n:=n} w r v:=by
 cases r with
 |one c=>exact bH.cut h hi
 |agg cs=>
  obtain⟨vs,hv,hl,hc⟩:=h;exact⟨vs,hv,hl,λi c hj=>let⟨u,hu,hd⟩:=hc i c hj;⟨u,hu,hd.cut (hi c (Vm hj))⟩⟩
theorem cw.cut{ρ:bX}{w:World}{c:CV}{v:Value}{n:Nat}(h:cw ρ w c v)(hi:c.dF n):cw {ρ with n:=n} w c v:=by
 cases c with
 |aH=>trivial
 |undef=>exact h
 |rv r=>exact ep.cut h hi
 |bG rs=>
  obtain⟨vs,hv,hl,hc⟩:=h;exact⟨vs,hv,hl,λi c hj=>let⟨u,hu,hd⟩:=hc i c hj;⟨u,hu,hd.cut (hi c (Vm hj))⟩⟩
theorem eS.cut{ρ:bX}{w:World}{id:Nat}{bk:Bk}{n:Nat}(h:eS ρ w id bk)(hi:bk.dF n):eS {ρ with n:=n} w id bk:=by
 cases bk with
 |aE=>trivial
 |var cs=>
  obtain⟨cur,hc,hd⟩:=h;exact⟨cur,hc,λj c hj=>let⟨u,hu,cI⟩:=hd j c hj;⟨u,hu,cI.cut (hi c (Vm hj))⟩⟩
 |row esz elems=>
  obtain⟨h2,h3,h4,h5,cn⟩:=h;refine⟨h2,h3,h4,h5,λdD=>?_⟩
  obtain⟨cur,hc,h1,h6⟩:=cn dD;exact⟨cur,hc,h1,λi cs j c h7 h8=>let⟨u,hu,cI⟩:=h6 i cs j c h7 h8;⟨u,hu,cI.cut (hi cs (Vm h7) c (Vm h8))⟩⟩
 |mp es=>
  obtain⟨fk,clock,hc,h1,h2⟩:=h;exact⟨fk,clock,hc,h1,λi e h7=>let⟨e',vf,hk,hd⟩:=h2 i e h7;⟨e',vf,hk,hd.cut (hi e (Vm h7))⟩⟩
theorem nt.spec{m m':Mem}(h:nt m m'):m'.length<=m.length/\∀(i:Nat)b,m'[i]? =some b->∃b0,m[i]? =some b0/\(b=b0\/b= .aE):=by
 induction h with
 |nil m=>exact⟨aD,λi b hb=>by simp at hb⟩
 |cons h hm ih=>
  refine⟨by simp[ih.1],λi b hb=>?_⟩
  cases i with
  |zero=>simp at hb;subst hb;exact⟨_,aD,h⟩
  |succ i=>simpa using ih.2 i b (by simpa using hb)
theorem aK.Nt{ρ:bX}{m m':Mem}{w:World}(hM:aK ρ m w)(h:nt m m')(Nu:∀b,b∈m'->b.dF m'.length):
  aK {ρ with n:=m'.length} m' w/\(∀k,Live {ρ with n:=m'.length} m' k->Live ρ m k):=by
 have hs:=h.spec.2;have lQ:∀{k i j esz e},gN m' k i j esz e->gN m k i j esz e:=by
  rintro k i j esz e ⟨es,rows,cs,hb,hi,hj⟩;obtain⟨b0,vg,rfl|h0⟩:=hs k _ hb
  .exact⟨es,rows,cs,vg,hi,hj⟩
  .cases h0
 have eH:∀k,Live {ρ with n:=m'.length} m' k->Live ρ m k:=by
  intro k hk;cases k with
  |ay k=>
   obtain⟨b,hb,hn,bv⟩:=hk;obtain⟨b0,vg,rfl|h0⟩:=hs k _ hb
   .exact⟨_,vg,hn,bv⟩
   .exact absurd h0 hn
  |sub k i j=>
   obtain⟨⟨esz,e,ho⟩,bv⟩:=hk;exact⟨⟨esz,e,lQ ho⟩,bv⟩
 refine⟨⟨rfl,hM.S,λk hk=>hM.aF k (eH k hk),λk k' hk iG=>hM.inj k k' (eH k hk) (eH k' iG),λid b hb=>?_,λid i j esz e ho bv=>hM.iJ id i j esz e (lQ ho) bv⟩,eH⟩
 obtain⟨b0,vg,rfl|h0⟩:=hs id b hb
 .exact(hM.bk id _ vg).cut (Nu _ (Vm hb))
 .subst h0;trivial
structure bq(ρ:bX)(w:World)(aY:List CV)(tmps:Array Value):Prop where
 size:tmps.size=aY.length
 lR:∀(i:Nat)c,aY[i]? =some c->∃v,tmps[i]? =some v/\cw ρ w c v
section
variable {P:Program} {ρ:bX} {m:Mem} {w:World} {aY:List CV} {a:Act}
theorem bq.get(hE:bq ρ w aY a.tmps)(t:Nat):cw ρ w (lm aY t) (a.tmps.getD t Go.undef):=by
 rw[mM];cases h:aY[t]? with
 |none=>trivial
 |some c=>
  obtain⟨v,hv,hd⟩:=hE.lR t c h;simpa[ab8,hv]using hd
theorem rE{v:Value}{c:CC}(h:xd v=some c):bH ρ w .none c v:=by
 unfold xd at h;split at h
 .simp at h;subst h;exact⟨none,rfl⟩
 .split at h
  .rename_i hp;simp at h;subst h;exact dx.val _ hp
  .cases h
theorem aS(hE:bq ρ w aY a.tmps){x:Operand}{x':X}(h:bD x=some x'):cw ρ w (x'.ev aY) (a.eval x):=by
 cases x with
 |tmp t=>simp[bD]at h;subst h;exact hE.get t
 |const v=>
  simp only[bD,abA]at h;obtain⟨c,hc,rfl⟩:=h;exact rE hc
 |func f=>simp[bD]at h;subst h;exact⟨aD,rfl⟩
 |global g=>simp[bD]at h
theorem fN{t:TypeId}{n:Nat}(h:fh P t=some n):(sizeOf t).run P w= .ok n w:=by simp only[fh,abA]at h;obtain⟨i,hi,rfl⟩:=h;simp[sizeOf,typeInfo,hi]
theorem qv{t:TypeId}{b:Bool}(h:eL P t=some b):(isAgg t).run P w= .ok b w:=by
 simp only[eL,abA]at h;obtain⟨d,hd,rfl⟩:=h;simp only[isAgg,Sem.run_bind,run_underlying hd,Result.andThen_ok];cases d<;>rfl
theorem nc(b off j:Nat):(⟨b,off,none⟩:Addr).add j=⟨b,off+j,none⟩:=by
 unfold Addr.add;split<;>simp_all
def ox(ρ:bX)(w:World)(b off:Nat)(l:List CC):Prop:=
 ∀(i:Nat)c,l[i]? =some c->∃u,w.cell? ⟨b,off+i,none⟩=some u/\bH ρ w .none c u
theorem ox.YF:∀{l:List CC}{b off:Nat},ox ρ w b off l->
  ∃vs:List Value,vs.length=l.length/\(∀j v,vs[j]? =some v->w.cell? ((⟨b,off,none⟩:Addr).add j)=some v)/\(∀(i:Nat)c,l[i]? =some c->∃u,vs[i]? =some u/\bH ρ w .none c u)
 | [],b,off,h=>⟨[],rfl,aD,aD⟩
 |c::l,b,off,h=>by
  obtain⟨u,hu,hd⟩:=h 0 c aD;obtain⟨vs,h1,h2,h3⟩:=ox.YF (l:=l) (b:=b) (off:=off+1) (λi c hi=>by
   have:=h (i+1) c (by simpa using hi)
   rwa [show off+(i+1)=off+1+i by omega]at this)
  refine⟨u::vs,by simp[h1],λj v hj=>?_,λi c' hi=>?_⟩
  .rw[nc];cases j with
   |zero=>simp at hj;subst hj;simpa using hu
   |succ j=>
    have:=h2 j v (by simpa using hj)
    rw[nc]at this;rwa [show off+(j+1)=off+1+j by omega]
  .cases i with
   |zero=>simp at hi;subst hi;exact⟨u,aD,hd⟩
   |succ i=>simpa using h3 i c' (by simpa using hi)
theorem rF{t:TypeId}{agg:Bool}{n:Nat}{b off:Nat}{l:List CC}{cv:CV}(ha:eL P t=some agg)(hs:fh P t=some n)(hl:l.length=n)(hc:ox ρ w b off l)(hm:Nj agg l=some cv):∃v,(loadVar t ⟨b,off,none⟩).run P w= .ok v w/\cw ρ w cv v:=by
 obtain⟨vs,h1,h2,h3⟩:=hc.YF;unfold loadVar;simp only[Sem.run_bind,qv ha,Result.andThen_ok];cases agg with
 |true=>
  simp[Nj]at hm;subst hm;have hr:=run_loadCells_list (P:=P) w ⟨b,off,none⟩ vs h2;refine⟨.agg vs.toArray,?_,vs,rfl,h1,h3⟩;simp only[if_true,Sem.run_bind,fN hs,Result.andThen_ok,<-hl,<-h1,hr,Sem.run_pure]
 |false=>
  match l,hm with
  | [c],hm=>
   simp[Nj]at hm;subst hm;obtain⟨u,hu,hd⟩:=h3 0 c aD;have:=h2 0 u hu;rw[nc]at this;refine⟨u,?_,hd⟩;simp only[acj,if_false,run_load];rw[show(⟨b,off,none⟩:Addr)=⟨b,off+0,none⟩ by simp,this]
theorem vh(hM:aK ρ m w){t:TypeId}{agg:Bool}{n:Nat}(ha:eL P t=some agg)(hs:fh P t=some n){av:CV}{v:Value}{K:CV->Prop}(h:w8 aY m agg n av K)(hd:cw ρ w av v):∃ad u cv,v= .pointer (some ad)/\(loadVar t ad).run P w= .ok u w/\K cv/\cw ρ w cv u:=by
 unfold w8 at h;split at h
 .rename_i id j;obtain⟨ax,rfl⟩:=hd;obtain⟨bk,hb,h⟩:=bb.1 h;rw[aW]at hb;cases bk<;>simp only at h
  rename_i cs;obtain⟨l,hr,h⟩:=bb.1 h;obtain⟨cv,hm,hK⟩:=bb.1 h;obtain⟨hl,ny⟩:=lP hr;obtain⟨cur,cn,cD⟩:=hM.bk id _ hb;have hc:ox ρ w (ρ.aV (.ay id)).b ((ρ.aV (.ay id)).aB+j) l:=by
   intro i c hi;have ip:i<n:=by rw[<-hl];exact(Lw.1 hi).1
   obtain⟨u,hu,cI⟩:=cD (j+i) c ((ny i ip).trans hi);exact⟨u,by rw[cn.cell,<-hu,abX],cI⟩
  obtain⟨u,eU,cI⟩:=rF ha hs hl hc hm;exact⟨_,u,cv,rfl,eU,hK,cI⟩
 .rename_i id esz i j;obtain⟨ax,rfl⟩:=hd;obtain⟨bk,hb,h⟩:=bb.1 h;rw[aW]at hb;cases bk<;>simp only at h
  rename_i pw elems;rcases cP.1 h with⟨he,g1⟩|⟨_,g1⟩
  case inr=>exact g1.elim
  have he:esz=pw:=aa1 he;subst he;obtain⟨cells,eI,g2⟩:=bb.1 g1;rw[aW]at eI;obtain⟨l,hr,g3⟩:=bb.1 g2;rcases cP.1 g3 with⟨kj,g4⟩|⟨_,g4⟩
  case inr=>exact g4.elim
  obtain⟨cv,hm,hK⟩:=bb.1 g4;obtain⟨hl,ny⟩:=lP hr;obtain⟨h2,h3,h4,h5,CY⟩:=hM.bk id _ hb;have sj:=(Lw.1 eI).1;obtain⟨cur,cn,h1,cD⟩:=CY om;have hc:ox ρ w (ρ.aV (.ay id)).b ((ρ.aV (.ay id)).aB+i*esz+j) l:=by
   intro k c hi;have ip:k<n:=by rw[<-hl];exact(Lw.1 hi).1
   obtain⟨u,hu,cI⟩:=cD i cells (j+k) c eI ((ny k ip).trans hi);exact⟨u,by rw[cn.cell,<-hu,abX _ j k],cI.YD (xk kj c (Vm hi))⟩
  obtain⟨u,eU,cI⟩:=rF ha hs hl hc hm;exact⟨_,u,cv,rfl,eU,hK,cI⟩
 .rename_i ds;obtain⟨b,off,rfl,hS,cD⟩:=hd;obtain⟨l,hr,h⟩:=bb.1 h;obtain⟨cv,hm,hK⟩:=bb.1 h;obtain⟨hl,ny⟩:=xi hr;have hc:ox ρ w b off l:=by
   intro i c hi;have ip:i<n:=by rw[<-hl];exact(Lw.1 hi).1
   obtain⟨d,wI,Fp⟩:=ny i ip;rw[hi]at Fp;simp at Fp;subst Fp;exact cD i d wI
  obtain⟨u,eU,cI⟩:=rF ha hs hl hc hm;exact⟨_,u,cv,rfl,eU,hK,cI⟩
 .exact h.elim
def ec(P:Program)(s:Sem Next)(ρ:bX)(m:Mem)(w:World)(K:CV->Mem->Prop):Prop:=
 ∃nx v w' cv m' U',s.run P w= .ok nx w'/\(nx= .value v\/(nx= .skip/\v=Go.undef))/\K cv m'/\aK U' m' w'/\cw U' w' cv v/\Ext ρ m w U' m' w'
theorem ec.pure{s:Sem Next}{v:Value}{cv:CV}{K:CV->Mem->Prop}(hM:aK ρ m w)(hr:s.run P w= .ok (.value v) w)(hK:K cv m)(hd:cw ρ w cv v):ec P s ρ m w K:=
 ⟨_,v,w,cv,m,ρ,hr,.inl rfl,hK,hM,hd,Ext.refl _ _ _⟩
theorem bY{v x:Value}(h:cw ρ w (.rv (.one (.ai (.val x)))) v)(hx:x≠.slice none 0 0:=by first|(intro hh;cases hh;done)|assumption|simp):v=x/\dY x=true:=by
 cases h with
 |val v h=>exact⟨rfl,h⟩
 |no a=>exact absurd rfl hx
theorem cM{v:Value}(h:dY v=true):cw ρ w (.rv (.one (.ai (.val v)))) v:=dx.val v h
theorem RB{t:TypeId}(ht:P.underlying t=some .bool)(neg:Bool)(a b:Bool):
  (binOp (if neg then .neq else .eql) t (.bool a) (.bool b)).run P w= .ok (.bool (match neg with|true=>!(a==b)|false=>a==b)) w:=by
 have h:∀d,(Op.equalIn (d+1) t (.bool a) (.bool b)).run P w= .ok (a==b) w:=λd=>by rw[Op.equalIn];simp[run_underlying ht]
 have h2:(Op.equal t (.bool a) (.bool b)).run P w= .ok (a==b) w:=h 9999;cases neg<;>simp[binOp,h2]
theorem FN{op:BinOp}{x y v:Value}(h:Dc op x y=some v){t:TypeId}:(binOp op t x y).run P w= .ok v w/\dY v=true:=by
 cases x<;>cases y<;>simp only[Dc]at h<;>try(cases h;done)
 case int.int k a k' b=>
  by_cases hk:k=k'
  .subst hk;cases op<;>simp only[decide_true]at h
   case shl=>
    by_cases hb:b<0
    .simp[hb]at h
    .simp[hb]at h;subst h;simp[binOp,Op.shift,hb,dY]
   case shr=>
    by_cases hb:b<0
    .simp[hb]at h
    .simp[hb]at h;subst h;simp[binOp,Op.shift,hb,dY]
   case quo=>
    by_cases hb:b=0
    .simp[hb]at h
    .simp[hb]at h;subst h;simp[binOp,Op.intDiv,hb,dY]
   case rem=>
    by_cases hb:b=0
    .simp[hb]at h
    .simp[hb]at h;subst h;simp[binOp,Op.intDiv,hb,dY]
   all_goals first
    |(cases h;done)
    |(simp only[abe]at h;subst h;simp[binOp,Op.intArith,Op.intBits,Op.intCmp,dY])
  .cases op<;>simp only[hk,decide_false]at h
   case shl=>
    by_cases hb:b<0
    .simp[hb]at h
    .simp[hb]at h;subst h;simp[binOp,Op.shift,hb,dY]
   case shr=>
    by_cases hb:b<0
    .simp[hb]at h
    .simp[hb]at h;subst h;simp[binOp,Op.shift,hb,dY]
   all_goals(cases h;done)
 case string.string a b=>
  cases op<;>simp only at h<;>try(cases h;done)
  case add=>
   by_cases hb:((a.size+b.size:Nat):Int)>IntKind.i64.max
   .rw[decide_eq_true hb]at h;cases h
   .rw[decide_eq_false hb]at h;simp only[abe]at h;subst h;refine⟨?_,rfl⟩;simp only[binOp,Op.stringOp];rw[if_neg hb];rfl
  all_goals(simp only[abe]at h;subst h;simp[binOp,Op.stringOp,dY])
theorem Kp{op:UnOp}{x v:Value}(h:unV op x=some v):(Op.unary op x).run P w= .ok v w/\dY v=true:=by
 cases x<;>simp only[unV]at h<;>try(cases h;done)
 all_goals cases op<;>simp only at h<;>try(cases h;done)
 all_goals(simp only[abe]at h;subst h;simp[Op.unary,Op.intArith,dY])
theorem vj{op:BinOp}{t:TypeId}{x y:Operand}{a b:Value}(ha:dY a=true)(hn:a≠.nilIface):(eqGuard op t x y a b).run P w= .ok () w:=by
 unfold eqGuard;cases op<;>simp
 all_goals(cases a<;>simp_all[dY])
end
section
variable {P:Program} {ρ:bX} {m:Mem} {w:World} {aY:List CV} {a:Act} {K:CV->Mem->Prop}
theorem kD{cv:CV}{v:Value}{cs:List CC}(h:cellsOf cv=some cs)(hd:cw ρ w cv v):
  v.cells.size=cs.length/\(∀(i:Nat)c,cs[i]? =some c->∃u,v.cells[i]? =some u/\bH ρ w .none c u)/\(∀u∈v.cells.toList,u.oneCell'=true):=by
 unfold cellsOf at h;split at h
 .rename_i c;simp at h;subst h;have h1:v.oneCell'=true:=bH.one hd;have hc:v.cells= #[v]:=by cases v<;>first|rfl|simp[Value.oneCell']at h1
  refine⟨by simp[hc],λi c' hi=>?_,by rw[hc];simpa using h1⟩
  cases i with
  |zero=>simp at hi;subst hi;exact⟨v,by simp[hc],hd⟩
  |succ i=>simp at hi
 .rename_i fg;simp at h;subst h;obtain⟨vs,rfl,hl,hc⟩:=hd;refine⟨by simp[Value.cells,hl],λi c hi=>?_,λu hu=>?_⟩
  .obtain⟨u,hu,cI⟩:=hc i c hi;exact⟨u,by simpa[Value.cells]using hu,cI⟩
  .simp only[Value.cells]at hu;obtain⟨i,hi,rfl⟩:=adK hu;have eM:i<vs.length:=by simpa using hi
   obtain⟨u,VC,cI⟩:=hc i (fg[i]'(by omega)) (wy om)
   rw[wy eM]at VC;simp at VC;simpa[VC]using cI.one
 .cases h
theorem fu:∀{vs:List Value}{cs:List CC},nq vs=some cs->vs.length=cs.length/\∀(i:Nat)c,cs[i]? =some c->∃u,vs[i]? =some u/\bH ρ w .none c u
 | [],cs,h=>by simp[nq]at h;subst h;simp
 |v::r,cs,h=>by
  simp only[nq,WE,U2]at h;obtain⟨c,hc,l,hl,h⟩:=h;simp at h;subst h;obtain⟨h1,h2⟩:=fu hl;refine⟨by simp[h1],λi c' hi=>?_⟩
  cases i with
  |zero=>simp at hi;subst hi;exact⟨v,aD,rE hc⟩
  |succ i=>simpa using h2 i c' (by simpa using hi)
theorem Dh(hM:aK ρ m w){cs:List CC}{cells:Array Value}{ty:TypeId}{w':World}(hw:w'=w.alloc (.cells cells ty)\/w'=w.drew.alloc (.cells cells ty))(hd:∀(i:Nat)c,cs[i]? =some c->∃u,cells[i]? =some u/\bH ρ w .none c u):
  ∃U',aK U' (m++ [.var cs]) w'/\Ext ρ m w U' (m++ [.var cs]) w'/\cw U' w' (.rv (.one (.ptr m.length 0))) (.pointer (some ⟨w.heap.size,0,none⟩)):=by
 have Un:eT w w':=by
  rcases hw with rfl|rfl
  .exact eT.alloc w _
  .exact(eT.drew w).trans (eT.alloc w.drew _)
 have cn:m8 True w' w.heap.size cells:=by
  rcases hw with rfl|rfl
  .exact m8.new w cells ty
  .exact m8.new w.drew cells ty
 have dQ:w.heap.size<w'.heap.size:=cn.lt;let l:zA:=⟨w.heap.size,0,0,0⟩;have hn:=hM.n;have cV:(ρ.push l).aV (.ay m.length)=l:=by rw[<-hn];exact ρ.ku l
 have g:jC ρ w (ρ.push l) w':=⟨by simp[bX.push],λk hk=>ρ.ft l hk,λb hb=>hb,λb hb=>Un.heap b (hM.S b hb)⟩
 have hb:eS (ρ.push l) w' m.length (.var cs):=by
  refine⟨cells,by rw[cV];exact cn,λj c hj=>?_⟩
  obtain⟨u,hu,cI⟩:=hd j c hj;exact⟨u,by rw[cV];simpa[l]using hu,cI.cY g aD⟩
 obtain⟨h1,h2⟩:=hM.push (l:=l) Un (aai _) dQ hb trivial;refine⟨_,h1,h2,by simp[bX.push,hn],?_⟩
 rw[cV]
theorem Nv(hM:aK ρ m w){esz cap:Nat}{elems:List (List CC)}{cells:Array Value}{ty:TypeId}{w':World}(hw:w'=w.alloc (.cells cells ty)\/w'=w.drew.alloc (.cells cells ty))(dQ:cap*esz<=cells.size)(hlen:elems.length<=cap)(bv:cap<=maxLen)(oh:∀cs,cs∈elems->cs.length=esz)(hd:∀(i:Nat)cs(j:Nat)c,elems[i]? =some cs->cs[j]? =some c->∃u,cells[i*esz+j]? =some u/\bH ρ w .none c u):
  ∃U',aK U' (m++ [.row esz elems]) w'/\Ext ρ m w U' (m++ [.row esz elems]) w'/\
   cw U' w' (.rv (.one (.row m.length esz 0 none))) (.slice (some ⟨w.heap.size,0,none⟩) elems.length cap):=by
 have Un:eT w w':=by
  rcases hw with rfl|rfl
  .exact eT.alloc w _
  .exact(eT.drew w).trans (eT.alloc w.drew _)
 have cn:m8 (esz=1) w' w.heap.size cells:=by
  rcases hw with rfl|rfl
  .exact m8.new w cells ty
  .exact m8.new w.drew cells ty
 have ax:w.heap.size<w'.heap.size:=cn.lt;let l:zA:=⟨w.heap.size,0,elems.length,cap⟩;have hn:=hM.n;have cV:(ρ.push l).aV (.ay m.length)=l:=by rw[<-hn];exact ρ.ku l
 have g:jC ρ w (ρ.push l) w':=⟨by simp[bX.push],λk hk=>ρ.ft l hk,λb hb=>hb,λb hb=>Un.heap b (hM.S b hb)⟩
 have hb:eS (ρ.push l) w' m.length (.row esz elems):=by
  refine⟨by rw[cV],by rw[cV];exact hlen,by rw[cV];exact bv,oh,λ_=>⟨cells,by rw[cV];exact cn,by rw[cV];simpa[l]using dQ,λi cs j c hi hj=>?_⟩⟩
  obtain⟨u,hu,cI⟩:=hd i cs j c hi hj;exact⟨u,by rw[cV];simpa[l]using hu,(cI.cY g aD).xm _⟩
 obtain⟨h1,h2⟩:=hM.push (l:=l) Un (aai _) ax hb (λi cs j c hi hj=>by obtain⟨u,hu,cI⟩:=hd i cs j c hi hj;exact cI.BC)
 refine⟨_,h1,h2,by simp[bX.push,hn],?_⟩
 rw[cV];refine⟨aD,aD,hlen,bv,_,rfl,λ_=>?_⟩
 simp[l]
theorem Di(hM:aK ρ m w){t:TypeId}{z:List CC}(hz:eu P t=some z)(h:step P (.alloc z) aY m K):
  ec P (do pure (Next.value (<-Instr.alloc t true (.tuple #[])))) ρ m w K:=by
 simp only[eu,WE,U2]at hz;obtain⟨i,hi,v,hv,hc⟩:=hz;obtain⟨hl,hd⟩:=fu (ρ:=ρ) (w:=w) hc;obtain⟨U',h1,h2,h3⟩:=Dh hM (ty:=t) (cells:=v.cells) (.inl rfl) (λi c hi=>by
  obtain⟨u,hu,cI⟩:=hd i c hi;exact⟨u,by simpa using hu,cI⟩)
 simp only[step,kh,cf]at h;refine⟨_,_,_,_,_,U',?_,.inl rfl,h,h1,h3,h2⟩;simp[Instr.alloc,zeroValue,typeInfo,hi,hv,newVar,newRow]
theorem Kq(hM:aK ρ m w)(hE:bq ρ w aY a.tmps){t:TypeId}{x:Operand}{x':X}(hx:bD x=some x')(h:step P (.box x') aY m K):
  ec P (do pure (Next.value (<-Instr.box t (a.eval x)))) ρ m w K:=by
 simp only[step]at h;obtain⟨cs,fA,h⟩:=bb.1 h;obtain⟨hl,hd,_⟩:=kD fA (aS hE hx);obtain⟨U',h1,h2,h3⟩:=Dh hM (ty:=t) (cells:=(a.eval x).cells) (.inl rfl) hd;simp only[kh,cf]at h;refine⟨_,_,_,_,_,U',?_,.inl rfl,h,h1,h3,h2⟩;simp[Instr.box,newVar,newRow]
theorem uc(off:Nat):∀(vs:List Value)(k:Nat)(cells:Array Value),
  let r:=(vs.zipIdx k).foldl (λ(cs:Array Value)(p:Value×Nat)=>cs.setIfInBounds (off+p.2) p.1) cells
  r.size=cells.size/\(off+k+vs.length<=cells.size->∀i,r[i]? =if off+k<=i/\i<off+k+vs.length then vs[i-(off+k)]? else cells[i]?)
 | [],k,cells=>by simp;intro _ i h1 h2;omega
 |v::r,k,cells=>by
  simp only[List.zipIdx_cons,List.foldl_cons];obtain⟨h1,h2⟩:=uc off r (k+1) (cells.setIfInBounds (off+k) v);refine⟨by rw[h1];simp,λhle i=>?_⟩
  simp only[aa2]at hle;rw[h2 (by simp;omega) i]
  by_cases hc:off+(k+1)<=i/\i<off+(k+1)+r.length
  .rw[if_pos hc,if_pos (by simp;omega)]
   rw[show i-(off+k)=(i-(off+(k+1)))+1 by omega]
   simp
  .rw[if_neg hc];by_cases he:i=off+k
   .subst he;rw[if_pos aD];simp only[adv,List.getElem?_cons_zero];rw[acA];simp;omega
   .rw[if_neg (by simp;omega),acA,if_neg om]
def Cells(ρ:bX)(w:World)(cs:List CC)(cells:Array Value):Prop:=
 cells.size=cs.length/\∀(i:Nat)c,cs[i]? =some c->∃u,cells[i]? =some u/\bH ρ w .none c u
theorem Dj{place:Nat->Option (Nat×Nat)}{i off sz:Nat}{v:Value}{rest:List (Nat×Value)}{z z' cs:List CC}{cells:Array Value}(hp:place i=some (off,sz))(hz:Cells ρ w z cells)(hv:v.cells.size=sz)(gF:cs.length=sz)(hd:∀(i:Nat)c,cs[i]? =some c->∃u,v.cells[i]? =some u/\bH ρ w .none c u)(hw:io z off cs=some z'):∃fz,Instr.fill place cells ((i,v)::rest)=Instr.fill place fz rest/\Cells ρ w z' fz:=by
 obtain⟨h1,h2,h3⟩:=kq hw;refine⟨(v.cells.zipIdx.foldl (λcs(p:Value×Nat)=>cs.setIfInBounds (off+p.2) p.1) cells),?_,?_⟩
 .rw[Instr.fill,hp];simp only;rw[if_neg (by rw[hz.1];simp;omega)]
 .have hf:=uc off v.cells.toList 0 cells;simp only[adS]at hf;have he:v.cells.zipIdx.foldl (λcs(p:Value×Nat)=>cs.setIfInBounds (off+p.2) p.1) cells=(v.cells.toList.zipIdx 0).foldl (λ(cs:Array Value)(p:Value×Nat)=>cs.setIfInBounds (off+p.2) p.1) cells:=by rw[<-Array.foldl_toList];simp
  rw[he];refine⟨by rw[hf.1,hz.1,h1],λk c hk=>?_⟩
  rw[hf.2 (by rw[hz.1];simp;omega) k]
  rw[h3 k]at hk;have hlen:v.cells.toList.length=cs.length:=by simp[hv,gF]
  rw[hlen];by_cases hc:off<=k/\k<off+cs.length
  .rw[if_pos hc]at hk|-;obtain⟨u,hu,cI⟩:=hd _ c hk;exact⟨u,by simpa using hu,cI⟩
  .rw[if_neg hc]at hk|-;exact hz.2 k c hk
theorem vl(hE:bq ρ w aY a.tmps){fs:Array Field}{place:Nat->Option (Nat×Nat)}(eF:∀i f,fs[i]? =some f->∀n,fh P f.type=some n->place i=some (f.offset,n)):
  ∀{ps:List (Nat×Operand)}{oy:List (Nat×Nat×X)}{z z':List CC}{cells:Array Value},nr P fs ps=some oy->pu aY z oy=some z'->Cells ρ w z cells->
   ∃fz,Instr.fill place cells (ps.map λp=>(p.1,a.eval p.2))=some fz/\Cells ρ w z' fz
 | [],oy,z,z',cells,hp,hf,hz=>by simp[nr]at hp;subst hp;simp[pu]at hf;subst hf;exact⟨cells,rfl,hz⟩
 |(i,x)::r,oy,z,z',cells,hp,hf,hz=>by
  simp only[nr,WE,U2]at hp;obtain⟨f,X0,n,hn,x',hx,r',hr,hp⟩:=hp;simp at hp;subst hp;simp only[pu]at hf;split at hf
  .rename_i cs fA;split at hf
   .rename_i hlen;have hlen:cs.length=n:=aa1 hlen;split at hf
    .rename_i z1 Ks;obtain⟨h1,h2,_⟩:=kD fA (aS hE hx);obtain⟨VD,he,FO⟩:=Dj (rest:=r.map λp=>(p.1,a.eval p.2)) (eF i f X0 n hn) hz (h1.trans hlen) hlen h2 Ks
     obtain⟨fz,vf,sF⟩:=vl hE eF hr hf FO;exact⟨fz,by rw[ab2,he,vf],sF⟩
    .cases hf
   .cases hf
  .cases hf
theorem vm(hE:bq ρ w aY a.tmps){sz:Nat}{place:Nat->Option (Nat×Nat)}(eF:∀i,place i=some (i*sz,sz)):
  ∀{ps:List (Nat×Operand)}{oy:List (Nat×Nat×X)}{z z':List CC}{cells:Array Value},lF sz ps=some oy->pu aY z oy=some z'->Cells ρ w z cells->
   ∃fz,Instr.fill place cells (ps.map λp=>(p.1,a.eval p.2))=some fz/\Cells ρ w z' fz
 | [],oy,z,z',cells,hp,hf,hz=>by simp[lF]at hp;subst hp;simp[pu]at hf;subst hf;exact⟨cells,rfl,hz⟩
 |(i,x)::r,oy,z,z',cells,hp,hf,hz=>by
  simp only[lF,WE,U2]at hp;obtain⟨x',hx,r',hr,hp⟩:=hp;simp at hp;subst hp;simp only[pu]at hf;split at hf
  .rename_i cs fA;split at hf
   .rename_i hlen;have hlen:cs.length=sz:=aa1 hlen;split at hf
    .rename_i z1 Ks;obtain⟨h1,h2,_⟩:=kD fA (aS hE hx);obtain⟨VD,he,FO⟩:=Dj (rest:=r.map λp=>(p.1,a.eval p.2)) (eF i) hz (h1.trans hlen) hlen h2 Ks
     obtain⟨fz,vf,sF⟩:=vm hE eF hr hf FO;exact⟨fz,by rw[ab2,he,vf],sF⟩
    .cases hf
   .cases hf
  .cases hf
theorem FP{t:TypeId}{z:List CC}(hz:eu P t=some z):∃v,(zeroValue t).run P w= .ok v w/\Cells ρ w z v.cells:=by
 simp only[eu,WE,U2]at hz;obtain⟨i,hi,v,hv,hc⟩:=hz;obtain⟨hl,hd⟩:=fu (ρ:=ρ) (w:=w) hc;refine⟨v,by simp[zeroValue,typeInfo,hi,hv],by simpa using hl,λi c hi=>?_⟩
 obtain⟨u,hu,cI⟩:=hd i c hi;exact⟨u,by simpa using hu,cI⟩
theorem IG{cs:List CC}{cells:Array Value}(h:Cells ρ w cs cells):cw ρ w (.rv (.agg cs)) (.agg cells):=
 ⟨cells.toList,aD,by simpa using h.1,λi c hi=>let⟨u,hu,hd⟩:=h.2 i c hi;⟨u,by simpa using hu,hd⟩⟩
end
section
variable {P:Program} {ρ:bX} {m:Mem} {w:World} {aY:List CV} {a:Act} {K:CV->Mem->Prop}
theorem Dk{α β:Type}{f:α->Option β}:∀{l:List α}{r:List β},l.mapM f=some r->∀(i:Nat)x,l[i]? =some x->∃y,f x=some y/\r[i]? =some y
 | [],r,h,i,x,hx=>by simp at hx
 |a::l,r,h,i,x,hx=>by
  simp only[List.mapM_cons,WE,U2,Option.pure_def]at h;obtain⟨y,hy,ys,hys,h⟩:=h;simp at h;subst h;cases i with
  |zero=>simp at hx;subst hx;exact⟨y,hy,aD⟩
  |succ i=>simpa using Dk hys i x (by simpa using hx)
theorem vn(hM:aK ρ m w)(hE:bq ρ w aY a.tmps){t:TypeId}{ps:Array (Nat×Operand)}{z:List CC}{oy:List (Nat×Nat×X)}(hz:eu P t=some z)(hp:(∃fs,P.underlying t=some (.struct fs)/\(fs.toList.mapM (λf=>(P.info? f.type).map λi=>(f.offset,i.size))).isSome=true/\nr P fs ps.toList=some oy)\/
   (∃n e sz,P.underlying t=some (.array n e)/\fh P e=some sz/\lF sz ps.toList=some oy))(h:step P (.build z oy) aY m K):ec P (do pure (Next.value (<-Instr.build t (ps.map λ(i,x)=>(i,a.eval x))))) ρ m w K:=by
 simp only[step]at h;obtain⟨z',hf,hK⟩:=bb.1 h;have CZ:=hz;simp only[eu,WE,U2]at hz;obtain⟨i,hi,v,hv,hc⟩:=hz;obtain⟨hl,hd⟩:=fu (ρ:=ρ) (w:=w) hc;have eI:Cells ρ w z v.cells:=⟨by simpa using hl,λi c hi=>by
  obtain⟨u,hu,cI⟩:=hd i c hi;exact⟨u,by simpa using hu,cI⟩⟩
 have key:∃cells,P.built t (ps.map λ(i,x)=>(i,a.eval x)).toList=some cells/\Cells ρ w z' cells:=by
  rcases hp with⟨fs,hu,gj,hlp⟩|⟨n,e,sz,hu,dQ,hlp⟩
  .obtain⟨places,eF⟩:=Option.isSome_iff_exists.1 gj;obtain⟨cells,h1,h2⟩:=vl hE (fs:=fs) (place:=λi=>places.toArray[i]?) (λi f X0 n hn=>by
    obtain⟨y,hy,hr⟩:=Dk eF i f (by simpa using X0)
    simp only[fh,abA]at hn hy;obtain⟨i1,Uo,rfl⟩:=hn;obtain⟨i2,eR,rfl⟩:=hy;rw[Uo]at eR;cases eR;simpa using hr) hlp hf eI
   refine⟨cells,?_,h2⟩;unfold Program.built;simp only[hi,hu,hv,eF];simpa using h1
  .obtain⟨cells,h1,h2⟩:=vm hE (sz:=sz) (place:=λi=>some (i*sz,sz)) (λi=>rfl) hlp hf eI
   refine⟨cells,?_,h2⟩;simp only[fh,abA]at dQ;obtain⟨ie,iw,rfl⟩:=dQ;unfold Program.built;simp only[hi,hu,hv,iw];simpa using h1
 obtain⟨cells,hb,fA⟩:=key;refine ec.pure hM (v:= .agg cells) ?_ hK (IG fA);rw[Sem.run_bind,run_build w t _ cells hb];rfl
theorem FQ(hM:aK ρ m w)(hE:bq ρ w aY a.tmps){t:TypeId}{x:Operand}{x':X}{agg:Bool}{n:Nat}(ha:eL P t=some agg)(hs:fh P t=some n)(hx:bD x=some x')(h:step P (.load agg n x') aY m K):ec P (do pure (Next.value (<-Instr.loadAt t (a.eval x)))) ρ m w K:=by
 simp only[step]at h;obtain⟨ad,u,cv,hv,hr,hK,hd⟩:=vh hM ha hs h (aS hE hx);refine ec.pure hM (v:=u) ?_ hK hd;rw[hv];simp[Instr.loadAt,Instr.sureAddr,hr]
theorem oz{mk:Prop}(g o:Nat):∀(vs:List Value)(i:Nat)(cur:Array Value)(w:World),m8 mk w g cur->o+i+vs.length<=cur.size->(∀v∈vs,v.oneCell'=true)->
  ∃w' iq,(storeCells ⟨g,o,none⟩ vs i).run P w= .ok () w'/\m8 mk w' g iq/\m9 w w' g/\iq.size=cur.size/\
   ∀k,iq[k]? =if o+i<=k/\k<o+i+vs.length then vs[k-(o+i)]? else cur[k]?
 | [],i,cur,w,hc,_,_=>⟨w,cur,rfl,hc,⟨λ_ _=>rfl,rfl,rfl,rfl,rfl⟩,rfl,λk=>by rw[if_neg aD]⟩
 |v::r,i,cur,w,hc,hl,h1=>by
  simp only[aa2]at hl;have hi:o+i<cur.size:=om;have kF:w.cell? ⟨g,o+i,none⟩=some cur[o+i]:=by rw[hc.cell];simp[hi]
  have acK:=hc.ry hi;have wg:(store ((⟨g,o,none⟩:Addr).add i) v).run P w= .ok () (w.setCell ⟨g,o+i,none⟩ v):=by rw[nc,run_store P w _ v _ (h1 v aD),kF];simp[acK]
  have FO:m8 mk (w.setCell ⟨g,o+i,none⟩ v) g (cur.setIfInBounds (o+i) v):=by
   obtain⟨ty,fr,hb,hf⟩:=hc;refine⟨ty,fr,?_,by simpa using hf⟩
   simp[World.setCell,ace,hb]
  have BE:m9 w (w.setCell ⟨g,o+i,none⟩ v) g:=⟨λb hb=>by simp[World.setCell,ace,Ne.symm hb],aD,rfl,rfl,rfl⟩
  obtain⟨w',iq,hr,sF,ht,dQ,hk⟩:=oz g o r (i+1) _ _ FO (by simp;omega) (λx hx=>h1 x (by simp[hx]))
  refine⟨w',iq,?_,sF,⟨λb hb=>(ht.heap b hb).trans (BE.heap b hb),ht.size.trans BE.size,ht.os,ht.tape,ht.output⟩,by simpa using dQ,λk=>?_⟩
  .simp only[storeCells,Sem.run_bind,wg,Result.andThen_ok];exact hr
  .rw[hk k];simp only[aa2];by_cases hb:o+(i+1)<=k/\k<o+(i+1)+r.length
   .rw[if_pos hb,if_pos om,show k-(o+i)=(k-(o+(i+1)))+1 by omega]
    simp
   .rw[if_neg hb,acA];by_cases he:o+i=k
    .subst he;rw[if_pos rfl,if_pos om];simp
    .rw[if_neg he,if_neg om]
theorem Dl(hM:aK ρ m w)(hE:bq ρ w aY a.tmps){t:TypeId}{n:Nat}{p x:Operand}{p' x':X}(hs:fh P t=some n)(RD:n≠0)(hp:bD p=some p')(hx:bD x=some x')(h:step P (.store n p' x') aY m K):ec P (do Instr.storeAt t (a.eval p) (a.eval x);pure Next.skip) ρ m w K:=by
 simp only[step]at h;obtain⟨xs,X1,h⟩:=bb.1 h;rcases cP.1 h with⟨hn,h⟩|⟨_,h⟩
 case inr=>exact h.elim
 have hn:xs.length=n:=aa1 hn;obtain⟨c1,c2,c3⟩:=kD X1 (aS hE hx);have hdp:=aS hE hp;generalize a.eval p=pv at hdp;generalize p'.ev aY=pc at hdp h;generalize a.eval x=xv at c1 c2 c3;have sv:∀ad:Addr,Instr.storeAt t (.pointer (some ad)) xv=storeVar t ad xv:=λad=>rfl
 have run:∀{mk:Prop}(b off:Nat)(cur:Array Value),m8 mk w b cur->off+xs.length<=cur.size->∃w' iq,(storeVar t ⟨b,off,none⟩ xv).run P w= .ok () w'/\m8 mk w' b iq/\m9 w w' b/\iq.size=cur.size/\
   ∀k,iq[k]? =if off<=k/\k<off+xs.length then xv.cells[k-off]? else cur[k]? :=by
  intro mk b off cur hc hle;obtain⟨w',iq,h1,h2,h3,h4,h5⟩:=oz (P:=P) b off xv.cells.toList 0 cur w hc (by simp[c1];omega) c3
  refine⟨w',iq,?_,h2,h3,h4,λk=>?_⟩
  .unfold storeVar;rw[Sem.run_bind,fN hs];simp only[Result.andThen_ok];rw[if_neg (by rw[c1,hn];simp)]
   simpa using h1
  .rw[h5 k];simp[c1]
 split at h
 .rename_i id j;obtain⟨ax,rfl⟩:=hdp;obtain⟨bk,hb,h⟩:=bb.1 h;rw[aW]at hb;cases bk<;>simp only at h
  rename_i cs;obtain⟨fg,hw,hK⟩:=bb.1 h;obtain⟨w1,w2,w3⟩:=kq hw;obtain⟨cur,cn,cD⟩:=hM.bk id _ hb;rw[bh]at hK;have lq:(ρ.aV (.ay id)).aB+j+xs.length<=cur.size:=by obtain⟨u,hu,_⟩:=cD (j+xs.length-1) _ (wy om);have:=(abG.1 hu).1;omega
  obtain⟨w',iq,hr,sF,ht,dQ,hk⟩:=run (ρ.aV (.ay id)).b ((ρ.aV (.ay id)).aB+j) cur cn lq;obtain⟨nA,hX⟩:=hM.XZ (IF:= .var fg) hb ⟨_,hb,aD,by rintro⟨_,_,e⟩;cases e⟩ ht (λg=>⟨iq,sF,λk c Nw=>by
   rw[w3 k]at Nw;rw[hk];by_cases ip:j<=k/\k<j+xs.length
   .rw[if_pos ip]at Nw;rw[if_pos om];obtain⟨u,hu,cI⟩:=c2 _ c Nw;exact⟨u,by rw[<-hu];congr 1;omega,cI.cY g aD⟩
   .rw[if_neg ip]at Nw;rw[if_neg om];obtain⟨u,hu,cI⟩:=cD k c Nw;exact⟨u,hu,cI.cY g aD⟩⟩) (by
   rintro i' j' esz e ⟨es,rows,Q0,kG,_,_⟩;rw[aaj (by rw[<-hM.n];exact ax)]at kG
   cases kG)
  refine⟨.skip,Go.undef,w',.undef,_,ρ,?_,.inr ⟨rfl,rfl⟩,hK,nA,rfl,hX⟩;rw[sv,Sem.run_bind,hr];rfl
 .rename_i id esz i j;obtain⟨ax,rfl⟩:=hdp;obtain⟨bk,hb,h⟩:=bb.1 h;rw[aW]at hb;cases bk<;>simp only at h
  rename_i pw elems;rcases cP.1 h with⟨he,h⟩|⟨_,h⟩
  case inr=>exact h.elim
  have he:esz=pw:=aa1 he;obtain⟨cells,eI,h⟩:=bb.1 h;rw[aW]at eI;rcases cP.1 h with⟨kj,h⟩|⟨_,h⟩
  case inr=>exact h.elim
  obtain⟨fz,hw,hK⟩:=bb.1 h;obtain⟨w1,w2,w3⟩:=kq hw;obtain⟨h2,h3,h4,h5,CY⟩:=hM.bk id _ hb;have sj:=(Lw.1 eI).1;have dD:0<(ρ.aV (.ay id)).cap:=om;obtain⟨cur,cn,h1,cD⟩:=CY dD;rw[bh,bh]at hK;subst he;have gF:cells.length=esz:=h5 _ (Vm eI);have hi:i<elems.length:=(Lw.1 eI).1;have hmul:i*esz+esz<=(ρ.aV (.ay id)).cap*esz:=by have:(i+1)*esz<=(ρ.aV (.ay id)).cap*esz:=abS _ om;rwa [ab3,acs]at this
  obtain⟨w',iq,hr,sF,ht,dQ,hk⟩:=run (ρ.aV (.ay id)).b ((ρ.aV (.ay id)).aB+i*esz+j) cur cn om;obtain⟨nA,hX⟩:=hM.XZ (IF:= .row esz (elems.set i fz)) hb ⟨_,hb,aD,λ_=>dD⟩ ht (λg=>⟨by simpa using h2,h3,h4,λcs fA=>by
    rcases abF fA with hm|rfl
    .exact h5 cs hm
    .rw[w1,gF],λ_=>⟨iq,sF,by rw[dQ];exact h1,λi' cs j' c eM rG=>by
   rw[hk];by_cases Q1:i=i'
   .subst Q1;rw[aaj hi]at eM;simp only[abe]at eM;subst eM;rw[w3 j']at rG;by_cases ip:j<=j'/\j'<j+xs.length
    .rw[if_pos ip]at rG;rw[if_pos om];obtain⟨u,hu,cI⟩:=c2 _ c rG;exact⟨u,by rw[<-hu];congr 1;omega,(cI.cY g aD).xm _⟩
    .rw[if_neg ip]at rG;rw[if_neg om];obtain⟨u,hu,cI⟩:=cD i cells j' c eI rG;exact⟨u,hu,cI.cY g (by rintro _ _ _ e;cases e;exact ax)⟩
   .rw[aam Q1]at eM;obtain⟨u,hu,cI⟩:=cD i' cs j' c eM rG;have ahB:j'<esz:=by rw[<-h5 _ (Vm eM)];exact(Lw.1 rG).1
    have fG:¬((ρ.aV (.ay id)).aB+i*esz+j<=(ρ.aV (.ay id)).aB+i'*esz+j'/\(ρ.aV (.ay id)).aB+i'*esz+j'<(ρ.aV (.ay id)).aB+i*esz+j+xs.length):=by
     rcases Nat.lt_or_gt_of_ne Q1 with pz|pz
     .have:(i+1)*esz<=i'*esz:=abS _ pz;rw[ab3,acs]at this;omega
     .have:(i'+1)*esz<=i*esz:=abS _ pz;rw[ab3,acs]at this;omega
    rw[if_neg fG];exact⟨u,hu,cI.cY g (by rintro _ _ _ e;cases e;exact ax)⟩⟩⟩) (by
   rintro i' j' zE e ⟨es,rows,Q0,kG,eR,k6⟩;rw[aaj (by rw[<-hM.n];exact ax)]at kG
   cases kG;by_cases Q1:i=i'
   .subst Q1;rw[aaj hi]at eR;cases eR;rw[w3 j']at k6;by_cases ip:j<=j'/\j'<j+xs.length
    .rw[if_pos ip]at k6;obtain⟨u,hu,cI⟩:=c2 _ _ k6;exact absurd rfl (cI.BC _ _)
    .rw[if_neg ip]at k6;exact⟨esz,elems,cells,hb,eI,k6⟩
   .rw[aam Q1]at eR;exact⟨esz,elems,Q0,hb,eR,k6⟩)
  refine⟨.skip,Go.undef,w',.undef,_,ρ,?_,.inr ⟨rfl,rfl⟩,hK,nA,rfl,hX⟩;rw[sv,Sem.run_bind,hr];rfl
 .exact h.elim
end
end Go.AM
