/- Part 3 of 43: what the law stands on. -/
import Derived.Test.YtojhmadmlnfpcaaGreatDoorK02
set_option linter.unusedVariables false
set_option linter.unusedSimpArgs false
set_option linter.unnecessarySimpa false
set_option maxRecDepth 100000
set_option maxHeartbeats 64000000
namespace Go.AM
theorem aX{α:Type}:∀(l:List α)(i:Nat),df l i=l[i]?
 | [],_=>by simp[df]
 |_::_,0=>rfl
 |_::r,k+1=>by simpa[df]using aX r k
theorem bn{α:Type}:∀(l:List α)(i:Nat)(x:α),ba l i x=l.set i x
 | [],_,_=>rfl
 |_::_,0,_=>rfl
 |a::r,k+1,x=>by simp[ba,bn r k x]
theorem cr{α:Type}:∀(a b:List α),iI a b=a++b
 | [],_=>rfl
 |x::r,b=>by simp[iI,cr r b]
theorem fA{α:Type}:∀(n:Nat)(x:α),gg n x=List.replicate n x
 |0,_=>rfl
 |n+1,x=>by simp[gg,fA n x,List.replicate_succ]
theorem eU{α:Type}{β:Sort _}:∀(l:List α)(k:List α->β),iM l k=k l
 | [],_=>rfl
 |x::r,k=>eU r fun r'=>k (x::r')
theorem TR{β:Sort _}(v:CV)(k:CV->β):fV v k=k v:=by
 cases v with
 |rv r=>
  cases r with
  |one c=>rfl
  |agg cs=>exact eU cs _
 |_=>rfl
theorem lw:∀(e:List CV)(i:Nat),jR e i=(e[i]?).getD .ap
 | [],_=>by simp[jR]
 |_::_,0=>rfl
 |_::r,k+1=>by simpa[jR]using lw r k
theorem be{α:Type}{o:Option α}{K:α->Prop}:ok o K↔∃x,o=some x/\K x:=by
 cases o<;>simp[ok]
theorem ct{t:Bool}{A B:Prop}:bB t A B↔(t=true/\A)\/(t=false/\B):=by
 cases t<;>simp[bB]
theorem BA{β:Sort _}(m0:Mem):∀(m:Mem)(c n:Nat)(k:Nat->β),m0.length=c+m.length->u3 m0 m (List.range' c n) k=k m0.length
 | [],c,0,k,_=>by simp[u3]
 | [],c,n+1,k,h=>by simp[u3,acm,h]
 |_::r,c,0,k,h=>by simp[u3]
 |_::r,c,n+1,k,h=>by
  rw[acm,u3];exact BA m0 r (c+1) n k (by simp at h;omega)
theorem ip{β:Sort _}(m:Mem)(k:Nat->β):pC m k=k m.length:=by have:=BA m m 0 64 k aG;exact this
theorem kI:∀{cs:List CC}{j n:Nat}{l:List CC},io cs j n=some l->l.length=n/\∀i,i<n->cs[j+i]? =l[i]?
 |cs,0,0,l,h=>by cases cs<;>simp[io]at h<;>subst h<;>simp
 | [],0,n+1,l,h=>by simp[io]at h
 | [],j+1,n,l,h=>by cases n<;>simp[io]at h
 |c::cs,0,n+1,l,h=>by
  simp only[io]at h;cases hr:io cs 0 n with
  |none=>simp[hr]at h
  |some l'=>
   simp[hr]at h;subst h;obtain⟨h1,h2⟩:=kI hr;refine⟨by simp[h1],fun i hi=>?_⟩
   cases i with
   |zero=>simp
   |succ i=>have:=h2 i (by omega);simpa using this
 |c::cs,j+1,n,l,h=>by
  have h':io cs j n=some l:=by cases n<;>simpa[io]using h
  obtain⟨h1,h2⟩:=kI h';refine⟨h1,fun i hi=>?_⟩
  have:=h2 i hi;rw[show j+1+i=(j+i)+1 by omega]
  simpa using this
theorem jo:∀{cs:List CC}{j:Nat}{xs l:List CC},fz cs j xs=some l->
  l.length=cs.length/\j+xs.length<=cs.length/\∀i,l[i]? =if j<=i/\i<j+xs.length then xs[i-j]? else cs[i]?
 |cs,0,[],l,h=>by
  cases cs<;>simp[fz]at h<;>subst h
  .simp
  .refine⟨rfl,aG,fun i=>?_⟩
   rw[if_neg aG]
 | [],0,x::xs,l,h=>by simp[fz]at h
 | [],j+1,xs,l,h=>by cases xs<;>simp[fz]at h
 |c::cs,0,x::xs,l,h=>by
  simp only[fz]at h;cases hr:fz cs 0 xs with
  |none=>simp[hr]at h
  |some l'=>
   simp[hr]at h;subst h;obtain⟨h1,h2,h3⟩:=jo hr;refine⟨by simp[h1],by simp at h2⊢;omega,fun i=>?_⟩
   cases i with
   |zero=>simp
   |succ i=>
    have:=h3 i;simp only[aao,true_and,aaS,abC,aax,aa9]at this⊢;rw[this];simp
 |c::cs,j+1,xs,l,h=>by
  have h':(fz cs j xs).map (c:: ·)=some l:=by
   rw[<-h];cases hr:fz cs j xs<;>cases xs<;>simp[fz,hr]
  cases hr:fz cs j xs with
  |none=>simp[hr]at h'
  |some l'=>
   simp[hr]at h';subst h';obtain⟨h1,h2,h3⟩:=jo hr;refine⟨by simp[h1],by simp;omega,fun i=>?_⟩
   cases i with
   |zero=>rw[if_neg om];simp
   |succ i=>
    have:=h3 i;simp only[aa9,this];by_cases hc:j<=i/\i<j+xs.length
    .rw[if_pos hc,if_pos om,show i+1-(j+1)=i-j by omega]
    .rw[if_neg hc,if_neg om]
theorem ve:∀{ds:List Dt}{n:Nat}{l:List CC},uZ ds n=some l->l.length=n/\∀i,i<n->∃d,ds[i]? =some d/\l[i]? =some (.aa d)
 |ds,0,l,h=>by cases ds<;>simp[uZ]at h<;>subst h<;>simp
 | [],n+1,l,h=>by simp[uZ]at h
 |d::ds,n+1,l,h=>by
  simp only[uZ]at h;cases hr:uZ ds n with
  |none=>simp[hr]at h
  |some l'=>
   simp[hr]at h;subst h;obtain⟨h1,h2⟩:=ve hr;refine⟨by simp[h1],fun i hi=>?_⟩
   cases i with
   |zero=>exact⟨d,aG,aG⟩
   |succ i=>simpa using h2 i om
theorem vf:∀{l:List CC},iN l=true->∀c,c∈l->∀esz e,c≠.gX esz e
 | [],_,c,hc,_,_=>by simp at hc
 |x::r,h,c,hc,esz,e=>by
  cases x with
  |gX a b=>simp[iN]at h
  |_=>
   rcases aaJ.1 hc with rfl|hc
   .simp
   .exact vf (l:=r) (by simpa[iN]using h) c hc esz e
def Bk.KJ:Bk->Prop
 | .row _ elems=>∀(i:Nat)cs(j:Nat)c,elems[i]? =some cs->cs[j]? =some c->∀esz e,c≠.gX esz e
 |_=>True
theorem bz.zx{ρ:bL}{w:World}{c:CC}{v:Value}(h:bz ρ w .none c v)(esz:Nat)(e:List (List Dt)):c≠.gX esz e:=by rintro rfl;obtain⟨_,_,_,e,_⟩:=h;cases e
theorem bz.vg{ρ:bL}{w:World}{c:CC}{v:Value}(h:bz ρ w .none c v)(pos:Option (Nat×Nat×Nat)):bz ρ w pos c v:=by
 cases c<;>first|exact h|(obtain⟨_,_,_,e,_⟩:=h;cases e)
theorem bz.TS{ρ:bL}{w:World}{pos:Option (Nat×Nat×Nat)}{c:CC}{v:Value}(hn:∀esz e,c≠.gX esz e)(h:bz ρ w pos c v):bz ρ w .none c v:=by
 cases c<;>first|exact h|exact absurd rfl (hn _ _)
def bL.push(ρ:bL)(l:xA):bL:=
 {n:=ρ.n+1,aR:=fun k=>if k.id=ρ.n then l else ρ.aR k,S:=ρ.S}
theorem bL.eV(ρ:bL)(l:xA){k:lT}(h:k.id<ρ.n):(ρ.push l).aR k=ρ.aR k:=by simp only[bL.push];rw[if_neg om]
theorem bL.gD(ρ:bL)(l:xA):(ρ.push l).aR (.au ρ.n)=l:=by simp[bL.push,lT.id]
structure eG(w w':World):Prop where
 heap:∀b,b<w.heap.size->w'.heap[b]? =w.heap[b]?
 size:w.heap.size<=w'.heap.size
 os:w'.os=w.os
 tape:w'.tape=w.tape
 output:w'.output=w.output
theorem eG.alloc(w:World)(o:Obj):eG w (w.alloc o):=⟨fun b h=>heap_alloc_old w o b h,aG,rfl,rfl,rfl⟩
theorem eG.drew(w:World):eG w w.drew:=⟨fun _ _=>rfl,aaj _,rfl,rfl,rfl⟩
theorem eG.trans{a b c:World}(h:eG a b)(k:eG b c):eG a c:=
 ⟨fun x hx=>(k.heap x (aaH hx h.size)).trans (h.heap x hx),aa0 h.size k.size,k.os.trans h.os,k.tape.trans h.tape,k.output.trans h.output⟩
theorem eF.cM{ρ ρ':bL}{w w':World}{id:Nat}{bk:Bk}(g:iT ρ w ρ' w')(hid:id<ρ.n)(hb:bk≠.bh->((∃esz elems,bk= .row esz elems)->0<(ρ.aR (.au id)).cap)->w'.heap[(ρ.aR (.au id)).b]? =w.heap[(ρ.aR (.au id)).b]?)(h:eF ρ w id bk):eF ρ' w' id bk:=by
 have hl:ρ'.aR (.au id)=ρ.aR (.au id):=g.aR (.au id) hid;cases bk with
 |bh=>trivial
 |var cs=>
  obtain⟨cur,hc,hd⟩:=h;refine⟨cur,by rw[hl];exact hc.dK (hb aG (by rintro⟨_,_,e⟩;cases e)),fun j c hj=>?_⟩
  obtain⟨u,hu,cn⟩:=hd j c hj;exact⟨u,by rw[hl];exact hu,cn.cM g aG⟩
 |row esz elems=>
  obtain⟨h2,h3,h4,h5,b9⟩:=h;refine⟨by rw[hl];exact h2,by rw[hl];exact h3,by rw[hl];exact h4,h5,fun dD=>?_⟩
  rw[hl]at dD;obtain⟨cur,hc,h1,h6⟩:=b9 dD;refine⟨cur,by rw[hl];exact hc.dK (hb aG fun _=>dD),by rw[hl];exact h1,fun i cs j c hi hj=>?_⟩
  obtain⟨u,hu,cn⟩:=h6 i cs j c hi hj;exact⟨u,by rw[hl];exact hu,cn.cM g (by rintro jL i' j' e;cases e;exact hid)⟩
 |mp es=>
  obtain⟨cV,clock,hc,h1,h2⟩:=h;refine⟨cV,clock,⟨by rw[hl,hb aG (by rintro⟨_,_,e⟩;cases e)];exact hc.1,hc.2⟩,h1,fun i e hi=>?_⟩
  obtain⟨e',tE,hk,hd⟩:=h2 i e hi;exact⟨e',tE,hk,hd.cM g⟩
 |it cur left=>
  obtain⟨mb,seen,ck,cV,h2,h3,h4,h5,h6⟩:=h;exact⟨mb,seen,ck,cV,by rw[hl,hb aG (by rintro⟨_,_,e⟩;cases e)];exact h2,by rw[hl];exact h3,g.S _ h4,by rw[g.heap mb h4];exact h5,h6⟩
theorem zs.cM{ρ ρ':bL}{w w':World}(g:iT ρ w ρ' w'){l:xA}{esz:Nat}{elems:List (List Dt)}(hb:w'.heap[l.b]? =w.heap[l.b]?)(h:zs ρ w l esz elems):zs ρ' w' l esz elems:=by
 obtain⟨cur,hc,h1,h2,h3⟩:=h;refine⟨cur,hc.dK hb,h1,h2,fun i cs j d hi hj=>?_⟩
 obtain⟨u,hu,hd⟩:=h3 i cs j d hi hj;exact⟨u,hu,hd.mono g.S g.heap⟩
theorem aH.gB{ρ:bL}{m:Mem}{w:World}(hM:aH ρ m w){id:Nat}{bk:Bk}(h:m[id]? =some bk):id<ρ.n:=by rw[hM.n];exact(aac.1 h).1
theorem aH.Ql{ρ:bL}{m:Mem}{w w':World}{bk:Bk}{l:xA}(hM:aH ρ m w)(hw:eG w w')(GM:Live (ρ.push l) (m++ [bk]) (.au ρ.n)->w.heap.size<=l.b/\l.b<w'.heap.size)(fj:eF (ρ.push l) w' m.length bk)(hf:bk.KJ):aH (ρ.push l) (m++ [bk]) w'/\Ext ρ m w (ρ.push l) (m++ [bk]) w':=by
 have hn:=hM.n;have g:iT ρ w (ρ.push l) w':=⟨by simp[bL.push],fun k hk=>ρ.eV l hk,fun b hb=>hb,fun b hb=>hw.heap b (hM.S b hb)⟩
 have get:∀{id:Nat}{b:Bk},(m++ [bk])[id]? =some b->(id<ρ.n/\m[id]? =some b)\/(id=ρ.n/\b=bk):=by
  intro id b hb;rcases aaq id m.length with h|h
  .exact .inl ⟨om,by rwa [aar h]at hb⟩
  .rw[aan h]at hb;have:id-m.length=0:=by
    rcases aaY (id-m.length)with h0|h0
    .exact h0
    .rw[aaG (by simp;omega)]at hb;cases hb
   rw[this]at hb;exact .inr ⟨om,by simpa using hb.symm⟩
 have iq:∀{id i j esz elems},fI (m++ [bk]) id i j esz elems->id<ρ.n/\fI m id i j esz elems:=by
  rintro id i j esz elems ⟨es,rows,cs,hb,hi,hj⟩;rcases get hb with⟨aC,hb⟩|⟨_,rfl⟩
  .exact⟨aC,es,rows,cs,hb,hi,hj⟩
  .exact absurd rfl (hf i cs j _ hi hj esz elems)
 have du:∀k,Live (ρ.push l) (m++ [bk]) k->(k.id<ρ.n/\Live ρ m k)\/k= .au ρ.n:=by
  intro k hk;cases k with
  |au id=>
   obtain⟨b,hb,eW,bp⟩:=hk;rcases get hb with⟨aC,hb⟩|⟨rfl,_⟩
   .rw[ρ.eV l (k:= .au id) aC]at bp;exact .inl ⟨aC,b,hb,eW,bp⟩
   .exact .inr rfl
  |sub id i j=>
   obtain⟨⟨esz,elems,ho⟩,bp⟩:=hk;obtain⟨aC,ho⟩:=iq ho;rw[ρ.eV l (k:= .sub id i j) aC]at bp;exact .inl ⟨aC,⟨esz,elems,ho⟩,bp⟩
 have zy:(ρ.push l).aR (.au ρ.n)=l:=ρ.gD l;refine⟨⟨by simp[bL.push,hn],fun b hb=>aaH (hM.S b hb) hw.size,?_,?_,?_,?_⟩,⟨by simp[bL.push],fun id hid=>ρ.eV l hid,fun b hb=>hb,fun b hb=>.inl hb,?_,?_,hw.size,hw.os,hw.tape,hw.output⟩⟩
 .intro k hk;rcases du k hk with⟨aC,hk⟩|rfl
  .rw[ρ.eV l aC];exact⟨aaH (hM.aV k hk).1 hw.size,(hM.aV k hk).2⟩
  .rw[zy];exact⟨(GM hk).2,fun hs=>by have:=hM.S _ hs;have:=(GM hk).1;omega⟩
 .intro k k' hk ij he;rcases du k hk with⟨aC,hk⟩|rfl<;>rcases du k' ij with⟨nU,ij⟩|rfl
  .rw[ρ.eV l aC,ρ.eV l nU]at he;exact hM.inj k k' hk ij he
  .rw[ρ.eV l aC,zy]at he;have:=(hM.aV k hk).1;have:=(GM ij).1;omega
  .rw[ρ.eV l nU,zy]at he;have:=(hM.aV k' ij).1;have:=(GM hk).1;omega
  .rfl
 .intro id b hb;rcases get hb with⟨aC,hb⟩|⟨rfl,rfl⟩
  .exact(hM.bk id b hb).cM g aC fun eW bp=>hw.heap _ (hM.aV (.au id) ⟨b,hb,eW,bp⟩).1
  .rw[hn];exact fj
 .intro id i j esz elems ho bp;obtain⟨aC,ho⟩:=iq ho;rw[ρ.eV l (k:= .sub id i j) aC]at bp⊢;exact(hM.gX id i j esz elems ho bp).cM g (hw.heap _ (hM.aV (.sub id i j) ⟨⟨esz,elems,ho⟩,bp⟩).1)
 .intro k hk;rcases du k hk with⟨aC,hk⟩|rfl
  .exact .inr ⟨k,hk,(by rw[ρ.eV l aC])⟩
  .exact .inl (by rw[zy];exact(GM hk).1)
 .intro b hb _;exact hw.heap b hb
theorem aH.push{ρ:bL}{m:Mem}{w w':World}{bk:Bk}{l:xA}(hM:aH ρ m w)(hw:eG w w')(h1:w.heap.size<=l.b)(h2:l.b<w'.heap.size)(fj:eF (ρ.push l) w' m.length bk)(hf:bk.KJ):aH (ρ.push l) (m++ [bk]) w'/\Ext ρ m w (ρ.push l) (m++ [bk]) w':=
 hM.Ql hw (fun _=>⟨h1,h2⟩) fj hf
structure kJ(w w':World)(g:Nat):Prop where
 heap:∀b,b≠g->w'.heap[b]? =w.heap[b]?
 size:w'.heap.size=w.heap.size
 os:w'.os=w.os
 tape:w'.tape=w.tape
 output:w'.output=w.output
theorem aH.Ru{ρ:bL}{m:Mem}{w w':World}{id:Nat}{bk DZ:Bk}(hM:aH ρ m w)(hid:m[id]? =some bk)(dg:Live ρ m (.au id))(hw:kJ w w' (ρ.aR (.au id)).b)(fj:iT ρ w ρ w'->eF ρ w' id DZ)(mr:∀i j esz e,fI (m.set id DZ) id i j esz e->fI m id i j esz e):aH ρ (m.set id DZ) w'/\Ext ρ m w ρ (m.set id DZ) w':=by
 have aC:id<m.length:=(aac.1 hid).1;have hS:=(hM.aV _ dg).2;have g:iT ρ w ρ w':=⟨aaj _,fun _ _=>rfl,fun _ h=>h,fun b hb=>hw.heap b fun e=>hS (e▸hb)⟩
 have get:∀{k:Nat}{b:Bk},(m.set id DZ)[k]? =some b->(k≠id/\m[k]? =some b)\/(k=id/\b=DZ):=by
  intro k b hb;by_cases hk:k=id
  .subst hk;rw[aal aC]at hb;exact .inr ⟨rfl,by simpa using hb.symm⟩
  .rw[aas (Ne.symm hk)]at hb;exact .inl ⟨hk,hb⟩
 have iq:∀{k i j esz e},fI (m.set id DZ) k i j esz e->fI m k i j esz e:=by
  intro k i j esz e ho;by_cases hk:k=id
  .subst hk;exact mr i j esz e ho
  .obtain⟨es,rows,cs,hb,hi,hj⟩:=ho;rw[aas (Ne.symm hk)]at hb;exact⟨es,rows,cs,hb,hi,hj⟩
 have du:∀k,Live ρ (m.set id DZ) k->Live ρ m k:=by
  intro k hk;cases k with
  |au k=>
   obtain⟨b,hb,hn,bp⟩:=hk;rcases get hb with⟨_,hb⟩|⟨rfl,_⟩
   .exact⟨b,hb,hn,bp⟩
   .exact dg
  |sub k i j=>
   obtain⟨⟨esz,e,ho⟩,bp⟩:=hk;exact⟨⟨esz,e,iq ho⟩,bp⟩
 refine⟨⟨by simp[hM.n],fun b hb=>by rw[hw.size];exact hM.S b hb,fun k hk=>by rw[hw.size];exact hM.aV k (du k hk),fun k k' hk ij=>hM.inj k k' (du k hk) (du k' ij),?_,?_⟩,
  ⟨aaj _,fun _ _=>rfl,fun _ h=>h,fun _ h=>.inl h,fun k hk=>.inr ⟨k,du k hk,rfl⟩,fun b _ hk=>hw.heap b fun e=>hk _ dg e.symm,by rw[hw.size];exact aaj _,hw.os,hw.tape,hw.output⟩⟩
 .intro k b hb;rcases get hb with⟨TT,hb⟩|⟨rfl,rfl⟩
  .refine(hM.bk k b hb).cM g (hM.gB hb) fun hn bp=>hw.heap _ fun e=>?_
   have:=hM.inj (.au k) (.au id) ⟨b,hb,hn,bp⟩ dg e;injection this with this
   exact TT this
  .exact fj g
 .intro k i j esz e ho bp;have ir:=iq ho;refine(hM.gX k i j esz e ir bp).cM g (hw.heap _ fun he=>?_)
  have:=hM.inj (.sub k i j) (.au id) ⟨⟨esz,e,ir⟩,bp⟩ dg he;cases this
theorem bz.cut{ρ:bL}{w:World}{pos:Option (Nat×Nat×Nat)}{c:CC}{v:Value}{n:Nat}(h:bz ρ w pos c v)(hi:c.dF n):bz {ρ with n:=n} w pos c v:=by
 cases c<;>simp only[bz,CC.dF]at h hi⊢
 case ptr=>exact⟨hi,h.2⟩
 case mQ=>exact⟨hi,h.2⟩
 case row=>exact⟨hi,h.2⟩
 case map=>exact⟨hi,h.2⟩
 case fn=>exact⟨hi,h.2⟩
 all_goals exact h
theorem dW.cut{ρ:bL}{w:World}{r:RV}{v:Value}{n:Nat}(h:dW ρ w r v)(hi:r.dF n):dW {ρ with n:=n} w r v:=by
 cases r with
 |one c=>exact bz.cut h hi
 |agg cs=>
  obtain⟨vs,hv,hl,hc⟩:=h;exact⟨vs,hv,hl,fun i c hj=>let⟨u,hu,hd⟩:=hc i c hj;⟨u,hu,hd.cut (hi c (aag hj))⟩⟩
theorem b8.cut{ρ:bL}{w:World}{c:CV}{v:Value}{n:Nat}(h:b8 ρ w c v)(hi:c.dF n):b8 {ρ with n:=n} w c v:=by
 cases c with
 |ap=>trivial
 |undef=>exact h
 |rv r=>exact dW.cut h hi
 |bF rs=>
  obtain⟨vs,hv,hl,hc⟩:=h;exact⟨vs,hv,hl,fun i c hj=>let⟨u,hu,hd⟩:=hc i c hj;⟨u,hu,hd.cut (hi c (aag hj))⟩⟩
theorem eF.cut{ρ:bL}{w:World}{id:Nat}{bk:Bk}{n:Nat}(h:eF ρ w id bk)(hi:bk.dF n):eF {ρ with n:=n} w id bk:=by
 cases bk with
 |bh=>trivial
 |var cs=>
  obtain⟨cur,hc,hd⟩:=h;exact⟨cur,hc,fun j c hj=>let⟨u,hu,cn⟩:=hd j c hj;⟨u,hu,cn.cut (hi c (aag hj))⟩⟩
 |row esz elems=>
  obtain⟨h2,h3,h4,h5,b9⟩:=h;refine⟨h2,h3,h4,h5,fun dD=>?_⟩
  obtain⟨cur,hc,h1,h6⟩:=b9 dD;exact⟨cur,hc,h1,fun i cs j c h7 h8=>let⟨u,hu,cn⟩:=h6 i cs j c h7 h8;⟨u,hu,cn.cut (hi cs (aag h7) c (aag h8))⟩⟩
 |mp es=>
  obtain⟨cV,clock,hc,h1,h2⟩:=h;exact⟨cV,clock,hc,h1,fun i e h7=>let⟨e',tE,hk,hd⟩:=h2 i e h7;⟨e',tE,hk,hd.cut (hi e (aag h7))⟩⟩
 |it cur left=>exact h
theorem mq.spec{m m':Mem}(h:mq m m'):m'.length<=m.length/\∀(i:Nat)b,m'[i]? =some b->∃b0,m[i]? =some b0/\(b=b0\/b= .bh):=by
 induction h with
 |nil m=>exact⟨aG,fun i b hb=>by simp at hb⟩
 |cons h hm ih=>
  refine⟨by simp[ih.1],fun i b hb=>?_⟩
  cases i with
  |zero=>simp at hb;subst hb;exact⟨_,aG,h⟩
  |succ i=>simpa using ih.2 i b (by simpa using hb)
theorem aH.KK{ρ:bL}{m m':Mem}{w:World}(hM:aH ρ m w)(h:mq m m')(KL:∀b,b∈m'->b.dF m'.length):
  aH {ρ with n:=m'.length} m' w/\(∀k,Live {ρ with n:=m'.length} m' k->Live ρ m k):=by
 have hs:=h.spec.2;have iq:∀{k i j esz e},fI m' k i j esz e->fI m k i j esz e:=by
  rintro k i j esz e ⟨es,rows,cs,hb,hi,hj⟩;obtain⟨b0,xO,rfl|h0⟩:=hs k _ hb
  .exact⟨es,rows,cs,xO,hi,hj⟩
  .cases h0
 have du:∀k,Live {ρ with n:=m'.length} m' k->Live ρ m k:=by
  intro k hk;cases k with
  |au k=>
   obtain⟨b,hb,hn,bp⟩:=hk;obtain⟨b0,xO,rfl|h0⟩:=hs k _ hb
   .exact⟨_,xO,hn,bp⟩
   .exact absurd h0 hn
  |sub k i j=>
   obtain⟨⟨esz,e,ho⟩,bp⟩:=hk;exact⟨⟨esz,e,iq ho⟩,bp⟩
 refine⟨⟨rfl,hM.S,fun k hk=>hM.aV k (du k hk),fun k k' hk ij=>hM.inj k k' (du k hk) (du k' ij),fun id b hb=>?_,fun id i j esz e ho bp=>hM.gX id i j esz e (iq ho) bp⟩,du⟩
 obtain⟨b0,xO,rfl|h0⟩:=hs id b hb
 .exact(hM.bk id _ xO).cut (KL _ (aag hb))
 .subst h0;trivial
structure bj(ρ:bL)(w:World)(aY:List CV)(tmps:Array Value):Prop where
 size:tmps.size=aY.length
 lg:∀(i:Nat)c,aY[i]? =some c->∃v,tmps[i]? =some v/\b8 ρ w c v
section
variable {P:Program} {ρ:bL} {m:Mem} {w:World} {aY:List CV} {a:Act}
theorem bj.get(hE:bj ρ w aY a.tmps)(t:Nat):b8 ρ w (jR aY t) (a.tmps.getD t Go.undef):=by
 rw[lw];cases h:aY[t]? with
 |none=>trivial
 |some c=>
  obtain⟨v,hv,hd⟩:=hE.lg t c h;simpa[abb,hv]using hd
theorem pH{v:Value}{c:CC}(h:u6 v=some c):bz ρ w .none c v:=by
 unfold u6 at h;split at h
 .simp at h;subst h;exact⟨none,rfl⟩
 .split at h
  .rename_i hp;simp at h;subst h;exact dz.val _ hp
  .cases h
theorem aP(hE:bj ρ w aY a.tmps){x:Operand}{x':X}(h:bo x=some x'):b8 ρ w (x'.ev aY) (a.eval x):=by
 cases x with
 |tmp t=>simp[bo]at h;subst h;exact hE.get t
 |const v=>
  simp only[bo,aaD]at h;obtain⟨c,hc,rfl⟩:=h;exact pH hc
 |func f=>simp[bo]at h;subst h;exact⟨aG,rfl⟩
 |global g=>simp[bo]at h
theorem fk{t:TypeId}{n:Nat}(h:eN P t=some n):(sizeOf t).run P w= .ok n w:=by simp only[eN,aaD]at h;obtain⟨i,hi,rfl⟩:=h;simp[sizeOf,typeInfo,hi]
theorem oJ{t:TypeId}{b:Bool}(h:eB P t=some b):(isAgg t).run P w= .ok b w:=by
 simp only[eB,aaD]at h;obtain⟨d,hd,rfl⟩:=h;simp only[isAgg,Sem.run_bind,run_underlying hd,Result.andThen_ok];cases d<;>rfl
theorem lU(b off j:Nat):(⟨b,off,none⟩:Addr).add j=⟨b,off+j,none⟩:=by
 unfold Addr.add;split<;>simp_all
def mS(ρ:bL)(w:World)(b off:Nat)(l:List CC):Prop:=
 ∀(i:Nat)c,l[i]? =some c->∃u,w.cell? ⟨b,off+i,none⟩=some u/\bz ρ w .none c u
theorem mS.TU:∀{l:List CC}{b off:Nat},mS ρ w b off l->
  ∃vs:List Value,vs.length=l.length/\(∀j v,vs[j]? =some v->w.cell? ((⟨b,off,none⟩:Addr).add j)=some v)/\(∀(i:Nat)c,l[i]? =some c->∃u,vs[i]? =some u/\bz ρ w .none c u)
 | [],b,off,h=>⟨[],rfl,aG,aG⟩
 |c::l,b,off,h=>by
  obtain⟨u,hu,hd⟩:=h 0 c aG;obtain⟨vs,h1,h2,h3⟩:=mS.TU (l:=l) (b:=b) (off:=off+1) (fun i c hi=>by
   have:=h (i+1) c (by simpa using hi)
   rwa [show off+(i+1)=off+1+i by omega]at this)
  refine⟨u::vs,by simp[h1],fun j v hj=>?_,fun i c' hi=>?_⟩
  .rw[lU];cases j with
   |zero=>simp at hj;subst hj;simpa using hu
   |succ j=>
    have:=h2 j v (by simpa using hj)
    rw[lU]at this;rwa [show off+(j+1)=off+1+j by omega]
  .cases i with
   |zero=>simp at hi;subst hi;exact⟨u,aG,hd⟩
   |succ i=>simpa using h3 i c' (by simpa using hi)
theorem pI{t:TypeId}{agg:Bool}{n:Nat}{b off:Nat}{l:List CC}{cv:CV}(ha:eB P t=some agg)(hs:eN P t=some n)(hl:l.length=n)(hc:mS ρ w b off l)(hm:Kz agg l=some cv):∃v,(loadVar t ⟨b,off,none⟩).run P w= .ok v w/\b8 ρ w cv v:=by
 obtain⟨vs,h1,h2,h3⟩:=hc.TU;unfold loadVar;simp only[Sem.run_bind,oJ ha,Result.andThen_ok];cases agg with
 |true=>
  simp[Kz]at hm;subst hm;have hr:=run_loadCells_list (P:=P) w ⟨b,off,none⟩ vs h2;refine⟨.agg vs.toArray,?_,vs,rfl,h1,h3⟩;simp only[if_true,Sem.run_bind,fk hs,Result.andThen_ok,<-hl,<-h1,hr,Sem.run_pure]
 |false=>
  match l,hm with
  | [c],hm=>
   simp[Kz]at hm;subst hm;obtain⟨u,hu,hd⟩:=h3 0 c aG;have:=h2 0 u hu;rw[lU]at this;refine⟨u,?_,hd⟩;simp only[abh,if_false,run_load];rw[show(⟨b,off,none⟩:Addr)=⟨b,off+0,none⟩ by simp,this]
theorem tF(hM:aH ρ m w){t:TypeId}{agg:Bool}{n:Nat}(ha:eB P t=some agg)(hs:eN P t=some n){av:CV}{v:Value}{K:CV->Prop}(h:u4 aY m agg n av K)(hd:b8 ρ w av v):∃ad u cv,v= .pointer (some ad)/\(loadVar t ad).run P w= .ok u w/\K cv/\b8 ρ w cv u:=by
 unfold u4 at h;split at h
 .rename_i id j;obtain⟨aC,rfl⟩:=hd;obtain⟨bk,hb,h⟩:=be.1 h;rw[aX]at hb;cases bk<;>simp only at h
  rename_i cs;obtain⟨l,hr,h⟩:=be.1 h;obtain⟨cv,hm,hK⟩:=be.1 h;obtain⟨hl,mt⟩:=kI hr;obtain⟨cur,b9,cj⟩:=hM.bk id _ hb;have hc:mS ρ w (ρ.aR (.au id)).b ((ρ.aR (.au id)).ax+j) l:=by
   intro i c hi;have iV:i<n:=by rw[<-hl];exact(aac.1 hi).1
   obtain⟨u,hu,cn⟩:=cj (j+i) c ((mt i iV).trans hi);exact⟨u,by rw[b9.cell,<-hu,aaV],cn⟩
  obtain⟨u,dV,cn⟩:=pI ha hs hl hc hm;exact⟨_,u,cv,rfl,dV,hK,cn⟩
 .rename_i id esz i j;obtain⟨aC,rfl⟩:=hd;obtain⟨bk,hb,h⟩:=be.1 h;rw[aX]at hb;cases bk<;>simp only at h
  rename_i nR elems;rcases ct.1 h with⟨he,g1⟩|⟨_,g1⟩
  case inr=>exact g1.elim
  have he:esz=nR:=aav he;subst he;obtain⟨cells,ez,g2⟩:=be.1 g1;rw[aX]at ez;obtain⟨l,hr,g3⟩:=be.1 g2;rcases ct.1 g3 with⟨jC,g4⟩|⟨_,g4⟩
  case inr=>exact g4.elim
  obtain⟨cv,hm,hK⟩:=be.1 g4;obtain⟨hl,mt⟩:=kI hr;obtain⟨h2,h3,h4,h5,Bg⟩:=hM.bk id _ hb;have uN:=(aac.1 ez).1;obtain⟨cur,b9,h1,cj⟩:=Bg om;have hc:mS ρ w (ρ.aR (.au id)).b ((ρ.aR (.au id)).ax+i*esz+j) l:=by
   intro k c hi;have iV:k<n:=by rw[<-hl];exact(aac.1 hi).1
   obtain⟨u,hu,cn⟩:=cj i cells (j+k) c ez ((mt k iV).trans hi);exact⟨u,by rw[b9.cell,<-hu,aaV _ j k],cn.TS (vf jC c (aag hi))⟩
  obtain⟨u,dV,cn⟩:=pI ha hs hl hc hm;exact⟨_,u,cv,rfl,dV,hK,cn⟩
 .rename_i ds;obtain⟨b,off,rfl,hS,cj⟩:=hd;obtain⟨l,hr,h⟩:=be.1 h;obtain⟨cv,hm,hK⟩:=be.1 h;obtain⟨hl,mt⟩:=ve hr;have hc:mS ρ w b off l:=by
   intro i c hi;have iV:i<n:=by rw[<-hl];exact(aac.1 hi).1
   obtain⟨d,xP,DA⟩:=mt i iV;rw[hi]at DA;simp at DA;subst DA;exact cj i d xP
  obtain⟨u,dV,cn⟩:=pI ha hs hl hc hm;exact⟨_,u,cv,rfl,dV,hK,cn⟩
 .exact h.elim
def dO(P:Program)(s:Sem Next)(ρ:bL)(m:Mem)(w:World)(K:CV->Mem->Prop):Prop:=
 ∃nx v w' cv m' ρ',s.run P w= .ok nx w'/\(nx= .value v\/(nx= .skip/\v=Go.undef))/\K cv m'/\aH ρ' m' w'/\b8 ρ' w' cv v/\Ext ρ m w ρ' m' w'
theorem dO.pure{s:Sem Next}{v:Value}{cv:CV}{K:CV->Mem->Prop}(hM:aH ρ m w)(hr:s.run P w= .ok (.value v) w)(hK:K cv m)(hd:b8 ρ w cv v):dO P s ρ m w K:=
 ⟨_,v,w,cv,m,ρ,hr,.inl rfl,hK,hM,hd,Ext.refl _ _ _⟩
theorem bM{v x:Value}(h:b8 ρ w (.rv (.one (.aa (.val x)))) v)(hx:x≠.slice none 0 0:=by first|(intro hh;cases hh;done)|assumption|simp):v=x/\cT x=true:=by
 cases h with
 |val v h=>exact⟨rfl,h⟩
 |no a=>exact absurd rfl hx
theorem cq{v:Value}(h:cT v=true):b8 ρ w (.rv (.one (.aa (.val v)))) v:=dz.val v h
theorem Ou{t:TypeId}(ht:P.underlying t=some .bool)(neg:Bool)(a b:Bool):
  (binOp (if neg then .neq else .eql) t (.bool a) (.bool b)).run P w= .ok (.bool (match neg with|true=>!(a==b)|false=>a==b)) w:=by
 have h:∀d,(Op.equalIn (d+1) t (.bool a) (.bool b)).run P w= .ok (a==b) w:=fun d=>by rw[Op.equalIn];simp[run_underlying ht]
 have h2:(Op.equal t (.bool a) (.bool b)).run P w= .ok (a==b) w:=h 9999;cases neg<;>simp[binOp,h2]
theorem D0{op:BinOp}{x y v:Value}(h:HY op x y=some v){t:TypeId}:(binOp op t x y).run P w= .ok v w/\cT v=true:=by
 cases x<;>cases y<;>simp only[HY]at h<;>try(cases h;done)
 case int.int k a k' b=>
  by_cases hk:k=k'
  .subst hk;cases op<;>simp only[decide_true]at h
   case shl=>
    by_cases hb:b<0
    .simp[hb]at h
    .simp[hb]at h;subst h;simp[binOp,Op.shift,hb,cT]
   case shr=>
    by_cases hb:b<0
    .simp[hb]at h
    .simp[hb]at h;subst h;simp[binOp,Op.shift,hb,cT]
   case quo=>
    by_cases hb:b=0
    .simp[hb]at h
    .simp[hb]at h;subst h;simp[binOp,Op.intDiv,hb,cT]
   case rem=>
    by_cases hb:b=0
    .simp[hb]at h
    .simp[hb]at h;subst h;simp[binOp,Op.intDiv,hb,cT]
   all_goals first
    |(cases h;done)
    |(simp only[aaA]at h;subst h;simp[binOp,Op.intArith,Op.intBits,Op.intCmp,cT])
  .cases op<;>simp only[hk,decide_false]at h
   case shl=>
    by_cases hb:b<0
    .simp[hb]at h
    .simp[hb]at h;subst h;simp[binOp,Op.shift,hb,cT]
   case shr=>
    by_cases hb:b<0
    .simp[hb]at h
    .simp[hb]at h;subst h;simp[binOp,Op.shift,hb,cT]
   all_goals(cases h;done)
 case string.string a b=>
  cases op<;>simp only at h<;>try(cases h;done)
  case add=>
   by_cases hb:((a.size+b.size:Nat):Int)>IntKind.i64.max
   .rw[decide_eq_true hb]at h;cases h
   .rw[decide_eq_false hb]at h;simp only[aaA]at h;subst h;refine⟨?_,rfl⟩;simp only[binOp,Op.stringOp];rw[if_neg hb];rfl
  all_goals(simp only[aaA]at h;subst h;simp[binOp,Op.stringOp,cT])
theorem H4{op:UnOp}{x v:Value}(h:WH op x=some v):(Op.unary op x).run P w= .ok v w/\cT v=true:=by
 cases x<;>simp only[WH]at h<;>try(cases h;done)
 all_goals cases op<;>simp only at h<;>try(cases h;done)
 all_goals(simp only[aaA]at h;subst h;simp[Op.unary,Op.intArith,cT])
theorem tG{op:BinOp}{t:TypeId}{x y:Operand}{a b:Value}(ha:cT a=true)(hn:a≠.nilIface):(eqGuard op t x y a b).run P w= .ok () w:=by
 unfold eqGuard;cases op<;>simp
 all_goals(cases a<;>simp_all[cT])
end
section
variable {P:Program} {ρ:bL} {m:Mem} {w:World} {aY:List CV} {a:Act} {K:CV->Mem->Prop}
theorem jp{cv:CV}{v:Value}{cs:List CC}(h:cellsOf cv=some cs)(hd:b8 ρ w cv v):
  v.cells.size=cs.length/\(∀(i:Nat)c,cs[i]? =some c->∃u,v.cells[i]? =some u/\bz ρ w .none c u)/\(∀u∈v.cells.toList,u.oneCell'=true):=by
 unfold cellsOf at h;split at h
 .rename_i c;simp at h;subst h;have h1:v.oneCell'=true:=bz.one hd;have hc:v.cells= #[v]:=by cases v<;>first|rfl|simp[Value.oneCell']at h1
  refine⟨by simp[hc],fun i c' hi=>?_,by rw[hc];simpa using h1⟩
  cases i with
  |zero=>simp at hi;subst hi;exact⟨v,by simp[hc],hd⟩
  |succ i=>simp at hi
 .rename_i eu;simp at h;subst h;obtain⟨vs,rfl,hl,hc⟩:=hd;refine⟨by simp[Value.cells,hl],fun i c hi=>?_,fun u hu=>?_⟩
  .obtain⟨u,hu,cn⟩:=hc i c hi;exact⟨u,by simpa[Value.cells]using hu,cn⟩
  .simp only[Value.cells]at hu;obtain⟨i,hi,rfl⟩:=ab4 hu;have eC:i<vs.length:=by simpa using hi
   obtain⟨u,TV,cn⟩:=hc i (eu[i]'(by omega)) (aab om)
   rw[aab eC]at TV;simp at TV;simpa[TV]using cn.one
 .cases h
theorem eX:∀{vs:List Value}{cs:List CC},mi vs=some cs->vs.length=cs.length/\∀(i:Nat)c,cs[i]? =some c->∃u,vs[i]? =some u/\bz ρ w .none c u
 | [],cs,h=>by simp[mi]at h;subst h;simp
 |v::r,cs,h=>by
  simp only[mi,aah,aae]at h;obtain⟨c,hc,l,hl,h⟩:=h;simp at h;subst h;obtain⟨h1,h2⟩:=eX hl;refine⟨by simp[h1],fun i c' hi=>?_⟩
  cases i with
  |zero=>simp at hi;subst hi;exact⟨v,aG,pH hc⟩
  |succ i=>simpa using h2 i c' (by simpa using hi)
theorem BB(hM:aH ρ m w){cs:List CC}{cells:Array Value}{ty:TypeId}{w':World}(hw:w'=w.alloc (.cells cells ty)\/w'=w.drew.alloc (.cells cells ty))(hd:∀(i:Nat)c,cs[i]? =some c->∃u,cells[i]? =some u/\bz ρ w .none c u):
  ∃ρ',aH ρ' (m++ [.var cs]) w'/\Ext ρ m w ρ' (m++ [.var cs]) w'/\b8 ρ' w' (.rv (.one (.ptr m.length 0))) (.pointer (some ⟨w.heap.size,0,none⟩)):=by
 have Qm:eG w w':=by
  rcases hw with rfl|rfl
  .exact eG.alloc w _
  .exact(eG.drew w).trans (eG.alloc w.drew _)
 have b9:mf True w' w.heap.size cells:=by
  rcases hw with rfl|rfl
  .exact mf.new w cells ty
  .exact mf.new w.drew cells ty
 have dI:w.heap.size<w'.heap.size:=b9.lt;let l:xA:=⟨w.heap.size,0,0,0⟩;have hn:=hM.n;have cE:(ρ.push l).aR (.au m.length)=l:=by rw[<-hn];exact ρ.gD l
 have g:iT ρ w (ρ.push l) w':=⟨by simp[bL.push],fun k hk=>ρ.eV l hk,fun b hb=>hb,fun b hb=>Qm.heap b (hM.S b hb)⟩
 have hb:eF (ρ.push l) w' m.length (.var cs):=by
  refine⟨cells,by rw[cE];exact b9,fun j c hj=>?_⟩
  obtain⟨u,hu,cn⟩:=hd j c hj;exact⟨u,by rw[cE];simpa[l]using hu,cn.cM g aG⟩
 obtain⟨h1,h2⟩:=hM.push (l:=l) Qm (aaj _) dI hb trivial;refine⟨_,h1,h2,by simp[bL.push,hn],?_⟩
 rw[cE]
theorem KM(hM:aH ρ m w){esz cap:Nat}{elems:List (List CC)}{cells:Array Value}{ty:TypeId}{w':World}(hw:w'=w.alloc (.cells cells ty)\/w'=w.drew.alloc (.cells cells ty))(dI:cap*esz<=cells.size)(hlen:elems.length<=cap)(bp:cap<=maxLen)(qn:∀cs,cs∈elems->cs.length=esz)(hd:∀(i:Nat)cs(j:Nat)c,elems[i]? =some cs->cs[j]? =some c->∃u,cells[i*esz+j]? =some u/\bz ρ w .none c u):
  ∃ρ',aH ρ' (m++ [.row esz elems]) w'/\Ext ρ m w ρ' (m++ [.row esz elems]) w'/\
   b8 ρ' w' (.rv (.one (.row m.length esz 0 none))) (.slice (some ⟨w.heap.size,0,none⟩) elems.length cap):=by
 have Qm:eG w w':=by
  rcases hw with rfl|rfl
  .exact eG.alloc w _
  .exact(eG.drew w).trans (eG.alloc w.drew _)
 have b9:mf (esz=1) w' w.heap.size cells:=by
  rcases hw with rfl|rfl
  .exact mf.new w cells ty
  .exact mf.new w.drew cells ty
 have aC:w.heap.size<w'.heap.size:=b9.lt;let l:xA:=⟨w.heap.size,0,elems.length,cap⟩;have hn:=hM.n;have cE:(ρ.push l).aR (.au m.length)=l:=by rw[<-hn];exact ρ.gD l
 have g:iT ρ w (ρ.push l) w':=⟨by simp[bL.push],fun k hk=>ρ.eV l hk,fun b hb=>hb,fun b hb=>Qm.heap b (hM.S b hb)⟩
 have hb:eF (ρ.push l) w' m.length (.row esz elems):=by
  refine⟨by rw[cE],by rw[cE];exact hlen,by rw[cE];exact bp,qn,fun _=>⟨cells,by rw[cE];exact b9,by rw[cE];simpa[l]using dI,fun i cs j c hi hj=>?_⟩⟩
  obtain⟨u,hu,cn⟩:=hd i cs j c hi hj;exact⟨u,by rw[cE];simpa[l]using hu,(cn.cM g aG).vg _⟩
 obtain⟨h1,h2⟩:=hM.push (l:=l) Qm (aaj _) aC hb (fun i cs j c hi hj=>by obtain⟨u,hu,cn⟩:=hd i cs j c hi hj;exact cn.zx)
 refine⟨_,h1,h2,by simp[bL.push,hn],?_⟩
 rw[cE];refine⟨aG,aG,hlen,bp,_,rfl,fun _=>?_⟩
 simp[l]
theorem BC(hM:aH ρ m w){t:TypeId}{z:List CC}(hz:d8 P t=some z)(h:step P (.alloc z) aY m K):
  dO P (do pure (Next.value (<-Instr.alloc t true (.tuple #[])))) ρ m w K:=by
 simp only[d8,aah,aae]at hz;obtain⟨i,hi,v,hv,hc⟩:=hz;obtain⟨hl,hd⟩:=eX (ρ:=ρ) (w:=w) hc;obtain⟨ρ',h1,h2,h3⟩:=BB hM (ty:=t) (cells:=v.cells) (.inl rfl) (fun i c hi=>by
  obtain⟨u,hu,cn⟩:=hd i c hi;exact⟨u,by simpa using hu,cn⟩)
 simp only[step,ip,cr]at h;refine⟨_,_,_,_,_,ρ',?_,.inl rfl,h,h1,h3,h2⟩;simp[Instr.alloc,zeroValue,typeInfo,hi,hv,newVar,newRow]
theorem H5(hM:aH ρ m w)(hE:bj ρ w aY a.tmps){t:TypeId}{x:Operand}{x':X}(hx:bo x=some x')(h:step P (.box x') aY m K):
  dO P (do pure (Next.value (<-Instr.box t (a.eval x)))) ρ m w K:=by
 simp only[step]at h;obtain⟨cs,dG,h⟩:=be.1 h;obtain⟨hl,hd,_⟩:=jp dG (aP hE hx);obtain⟨ρ',h1,h2,h3⟩:=BB hM (ty:=t) (cells:=(a.eval x).cells) (.inl rfl) hd;simp only[ip,cr]at h;refine⟨_,_,_,_,_,ρ',?_,.inl rfl,h,h1,h3,h2⟩;simp[Instr.box,newVar,newRow]
theorem rX(off:Nat):∀(vs:List Value)(k:Nat)(cells:Array Value),
  let r:=(vs.zipIdx k).foldl (fun(cs:Array Value)(p:Value×Nat)=>cs.setIfInBounds (off+p.2) p.1) cells
  r.size=cells.size/\(off+k+vs.length<=cells.size->∀i,r[i]? =if off+k<=i/\i<off+k+vs.length then vs[i-(off+k)]? else cells[i]?)
 | [],k,cells=>by simp;intro _ i h1 h2;omega
 |v::r,k,cells=>by
  simp only[List.zipIdx_cons,List.foldl_cons];obtain⟨h1,h2⟩:=rX off r (k+1) (cells.setIfInBounds (off+k) v);refine⟨by rw[h1];simp,fun hle i=>?_⟩
  simp only[aax]at hle;rw[h2 (by simp;omega) i]
  by_cases hc:off+(k+1)<=i/\i<off+(k+1)+r.length
  .rw[if_pos hc,if_pos (by simp;omega)]
   rw[show i-(off+k)=(i-(off+(k+1)))+1 by omega]
   simp
  .rw[if_neg hc];by_cases he:i=off+k
   .subst he;rw[if_pos aG];simp only[ab9,abR];rw[abr];simp;omega
   .rw[if_neg (by simp;omega),abr,if_neg om]
def Cells(ρ:bL)(w:World)(cs:List CC)(cells:Array Value):Prop:=
 cells.size=cs.length/\∀(i:Nat)c,cs[i]? =some c->∃u,cells[i]? =some u/\bz ρ w .none c u
theorem BD{place:Nat->Option (Nat×Nat)}{i off sz:Nat}{v:Value}{rest:List (Nat×Value)}{z z' cs:List CC}{cells:Array Value}(hp:place i=some (off,sz))(hz:Cells ρ w z cells)(hv:v.cells.size=sz)(gZ:cs.length=sz)(hd:∀(i:Nat)c,cs[i]? =some c->∃u,v.cells[i]? =some u/\bz ρ w .none c u)(hw:fz z off cs=some z'):∃e9,Instr.fill place cells ((i,v)::rest)=Instr.fill place e9 rest/\Cells ρ w z' e9:=by
 obtain⟨h1,h2,h3⟩:=jo hw;refine⟨(v.cells.zipIdx.foldl (fun cs(p:Value×Nat)=>cs.setIfInBounds (off+p.2) p.1) cells),?_,?_⟩
 .rw[Instr.fill,hp];simp only;rw[if_neg (by rw[hz.1];simp;omega)]
 .have hf:=rX off v.cells.toList 0 cells;simp only[aca]at hf;have he:v.cells.zipIdx.foldl (fun cs(p:Value×Nat)=>cs.setIfInBounds (off+p.2) p.1) cells=(v.cells.toList.zipIdx 0).foldl (fun(cs:Array Value)(p:Value×Nat)=>cs.setIfInBounds (off+p.2) p.1) cells:=by rw[<-Array.foldl_toList];simp
  rw[he];refine⟨by rw[hf.1,hz.1,h1],fun k c hk=>?_⟩
  rw[hf.2 (by rw[hz.1];simp;omega) k]
  rw[h3 k]at hk;have hlen:v.cells.toList.length=cs.length:=by simp[hv,gZ]
  rw[hlen];by_cases hc:off<=k/\k<off+cs.length
  .rw[if_pos hc]at hk⊢;obtain⟨u,hu,cn⟩:=hd _ c hk;exact⟨u,by simpa using hu,cn⟩
  .rw[if_neg hc]at hk⊢;exact hz.2 k c hk
theorem tH(hE:bj ρ w aY a.tmps){fs:Array Field}{place:Nat->Option (Nat×Nat)}(gE:∀i f,fs[i]? =some f->∀n,eN P f.type=some n->place i=some (f.offset,n)):
  ∀{ps:List (Nat×Operand)}{qp:List (Nat×Nat×X)}{z z':List CC}{cells:Array Value},mj P fs ps=some qp->nP aY z qp=some z'->Cells ρ w z cells->
   ∃e9,Instr.fill place cells (ps.map fun p=>(p.1,a.eval p.2))=some e9/\Cells ρ w z' e9
 | [],qp,z,z',cells,hp,hf,hz=>by simp[mj]at hp;subst hp;simp[nP]at hf;subst hf;exact⟨cells,rfl,hz⟩
 |(i,x)::r,qp,z,z',cells,hp,hf,hz=>by
  simp only[mj,aah,aae]at hp;obtain⟨f,Xz,n,hn,x',hx,r',hr,hp⟩:=hp;simp at hp;subst hp;simp only[nP]at hf;split at hf
  .rename_i cs dG;split at hf
   .rename_i hlen;have hlen:cs.length=n:=aav hlen;split at hf
    .rename_i z1 TW;obtain⟨h1,h2,_⟩:=jp dG (aP hE hx);obtain⟨Rw,he,D1⟩:=BD (rest:=r.map fun p=>(p.1,a.eval p.2)) (gE i f Xz n hn) hz (h1.trans hlen) hlen h2 TW
     obtain⟨e9,tE,qG⟩:=tH hE gE hr hf D1;exact⟨e9,by rw[aaX,he,tE],qG⟩
    .cases hf
   .cases hf
  .cases hf
theorem tI(hE:bj ρ w aY a.tmps){sz:Nat}{place:Nat->Option (Nat×Nat)}(gE:∀i,place i=some (i*sz,sz)):
  ∀{ps:List (Nat×Operand)}{qp:List (Nat×Nat×X)}{z z':List CC}{cells:Array Value},ki sz ps=some qp->nP aY z qp=some z'->Cells ρ w z cells->
   ∃e9,Instr.fill place cells (ps.map fun p=>(p.1,a.eval p.2))=some e9/\Cells ρ w z' e9
 | [],qp,z,z',cells,hp,hf,hz=>by simp[ki]at hp;subst hp;simp[nP]at hf;subst hf;exact⟨cells,rfl,hz⟩
 |(i,x)::r,qp,z,z',cells,hp,hf,hz=>by
  simp only[ki,aah,aae]at hp;obtain⟨x',hx,r',hr,hp⟩:=hp;simp at hp;subst hp;simp only[nP]at hf;split at hf
  .rename_i cs dG;split at hf
   .rename_i hlen;have hlen:cs.length=sz:=aav hlen;split at hf
    .rename_i z1 TW;obtain⟨h1,h2,_⟩:=jp dG (aP hE hx);obtain⟨Rw,he,D1⟩:=BD (rest:=r.map fun p=>(p.1,a.eval p.2)) (gE i) hz (h1.trans hlen) hlen h2 TW
     obtain⟨e9,tE,qG⟩:=tI hE gE hr hf D1;exact⟨e9,by rw[aaX,he,tE],qG⟩
    .cases hf
   .cases hf
  .cases hf
theorem D2{t:TypeId}{z:List CC}(hz:d8 P t=some z):∃v,(zeroValue t).run P w= .ok v w/\Cells ρ w z v.cells:=by
 simp only[d8,aah,aae]at hz;obtain⟨i,hi,v,hv,hc⟩:=hz;obtain⟨hl,hd⟩:=eX (ρ:=ρ) (w:=w) hc;refine⟨v,by simp[zeroValue,typeInfo,hi,hv],by simpa using hl,fun i c hi=>?_⟩
 obtain⟨u,hu,cn⟩:=hd i c hi;exact⟨u,by simpa using hu,cn⟩
theorem GN{cs:List CC}{cells:Array Value}(h:Cells ρ w cs cells):b8 ρ w (.rv (.agg cs)) (.agg cells):=
 ⟨cells.toList,aG,by simpa using h.1,fun i c hi=>let⟨u,hu,hd⟩:=h.2 i c hi;⟨u,by simpa using hu,hd⟩⟩
end
section
variable {P:Program} {ρ:bL} {m:Mem} {w:World} {aY:List CV} {a:Act} {K:CV->Mem->Prop}
theorem BE{α β:Type}{f:α->Option β}:∀{l:List α}{r:List β},l.mapM f=some r->∀(i:Nat)x,l[i]? =some x->∃y,f x=some y/\r[i]? =some y
 | [],r,h,i,x,hx=>by simp at hx
 |a::l,r,h,i,x,hx=>by
  simp only[List.mapM_cons,aah,aae,Option.pure_def]at h;obtain⟨y,hy,ys,hys,h⟩:=h;simp at h;subst h;cases i with
  |zero=>simp at hx;subst hx;exact⟨y,hy,aG⟩
  |succ i=>simpa using BE hys i x (by simpa using hx)
theorem tJ(hM:aH ρ m w)(hE:bj ρ w aY a.tmps){t:TypeId}{ps:Array (Nat×Operand)}{z:List CC}{qp:List (Nat×Nat×X)}(hz:d8 P t=some z)(hp:(∃fs,P.underlying t=some (.struct fs)/\(fs.toList.mapM (fun f=>(P.info? f.type).map fun i=>(f.offset,i.size))).isSome=true/\mj P fs ps.toList=some qp)\/
   (∃n e sz,P.underlying t=some (.array n e)/\eN P e=some sz/\ki sz ps.toList=some qp))(h:step P (.build z qp) aY m K):dO P (do pure (Next.value (<-Instr.build t (ps.map fun(i,x)=>(i,a.eval x))))) ρ m w K:=by
 simp only[step]at h;obtain⟨z',hf,hK⟩:=be.1 h;have DB:=hz;simp only[d8,aah,aae]at hz;obtain⟨i,hi,v,hv,hc⟩:=hz;obtain⟨hl,hd⟩:=eX (ρ:=ρ) (w:=w) hc;have ez:Cells ρ w z v.cells:=⟨by simpa using hl,fun i c hi=>by
  obtain⟨u,hu,cn⟩:=hd i c hi;exact⟨u,by simpa using hu,cn⟩⟩
 have key:∃cells,P.built t (ps.map fun(i,x)=>(i,a.eval x)).toList=some cells/\Cells ρ w z' cells:=by
  rcases hp with⟨fs,hu,fl,WK⟩|⟨n,e,sz,hu,dI,WK⟩
  .obtain⟨places,gE⟩:=Option.isSome_iff_exists.1 fl;obtain⟨cells,h1,h2⟩:=tH hE (fs:=fs) (place:=fun i=>places.toArray[i]?) (fun i f Xz n hn=>by
    obtain⟨y,hy,hr⟩:=BE gE i f (by simpa using Xz)
    simp only[eN,aaD]at hn hy;obtain⟨i1,Qn,rfl⟩:=hn;obtain⟨i2,eL,rfl⟩:=hy;rw[Qn]at eL;cases eL;simpa using hr) WK hf ez
   refine⟨cells,?_,h2⟩;unfold Program.built;simp only[hi,hu,hv,gE];simpa using h1
  .obtain⟨cells,h1,h2⟩:=tI hE (sz:=sz) (place:=fun i=>some (i*sz,sz)) (fun i=>rfl) WK hf ez
   refine⟨cells,?_,h2⟩;simp only[eN,aaD]at dI;obtain⟨ie,lA,rfl⟩:=dI;unfold Program.built;simp only[hi,hu,hv,lA];simpa using h1
 obtain⟨cells,hb,dG⟩:=key;refine dO.pure hM (v:= .agg cells) ?_ hK (GN dG);rw[Sem.run_bind,run_build w t _ cells hb];rfl
theorem D3(hM:aH ρ m w)(hE:bj ρ w aY a.tmps){t:TypeId}{x:Operand}{x':X}{agg:Bool}{n:Nat}(ha:eB P t=some agg)(hs:eN P t=some n)(hx:bo x=some x')(h:step P (.load agg n x') aY m K):dO P (do pure (Next.value (<-Instr.loadAt t (a.eval x)))) ρ m w K:=by
 simp only[step]at h;obtain⟨ad,u,cv,hv,hr,hK,hd⟩:=tF hM ha hs h (aP hE hx);refine dO.pure hM (v:=u) ?_ hK hd;rw[hv];simp[Instr.loadAt,Instr.sureAddr,hr]
theorem mT{mk:Prop}(g o:Nat):∀(vs:List Value)(i:Nat)(cur:Array Value)(w:World),mf mk w g cur->o+i+vs.length<=cur.size->(∀v∈vs,v.oneCell'=true)->
  ∃w' gn,(storeCells ⟨g,o,none⟩ vs i).run P w= .ok () w'/\mf mk w' g gn/\kJ w w' g/\gn.size=cur.size/\
   ∀k,gn[k]? =if o+i<=k/\k<o+i+vs.length then vs[k-(o+i)]? else cur[k]?
 | [],i,cur,w,hc,_,_=>⟨w,cur,rfl,hc,⟨fun _ _=>rfl,rfl,rfl,rfl,rfl⟩,rfl,fun k=>by rw[if_neg aG]⟩
 |v::r,i,cur,w,hc,hl,h1=>by
  simp only[aax]at hl;have hi:o+i<cur.size:=om;have jq:w.cell? ⟨g,o+i,none⟩=some cur[o+i]:=by rw[hc.cell];simp[hi]
  have XA:=hc.iU hi;have yp:(store ((⟨g,o,none⟩:Addr).add i) v).run P w= .ok () (w.setCell ⟨g,o+i,none⟩ v):=by rw[lU,run_store P w _ v _ (h1 v aG),jq];simp[XA]
  have D1:mf mk (w.setCell ⟨g,o+i,none⟩ v) g (cur.setIfInBounds (o+i) v):=by
   obtain⟨ty,fr,hb,hf⟩:=hc;refine⟨ty,fr,?_,by simpa using hf⟩
   simp[World.setCell,aba,hb]
  have zA:kJ w (w.setCell ⟨g,o+i,none⟩ v) g:=⟨fun b hb=>by simp[World.setCell,aba,Ne.symm hb],aG,rfl,rfl,rfl⟩
  obtain⟨w',gn,hr,qG,ht,dI,hk⟩:=mT g o r (i+1) _ _ D1 (by simp;omega) (fun x hx=>h1 x (by simp[hx]))
  refine⟨w',gn,?_,qG,⟨fun b hb=>(ht.heap b hb).trans (zA.heap b hb),ht.size.trans zA.size,ht.os,ht.tape,ht.output⟩,by simpa using dI,fun k=>?_⟩
  .simp only[storeCells,Sem.run_bind,yp,Result.andThen_ok];exact hr
  .rw[hk k];simp only[aax];by_cases hb:o+(i+1)<=k/\k<o+(i+1)+r.length
   .rw[if_pos hb,if_pos om,show k-(o+i)=(k-(o+(i+1)))+1 by omega]
    simp
   .rw[if_neg hb,abr];by_cases he:o+i=k
    .subst he;rw[if_pos rfl,if_pos om];simp
    .rw[if_neg he,if_neg om]
theorem BF(hM:aH ρ m w)(hE:bj ρ w aY a.tmps){t:TypeId}{n:Nat}{p x:Operand}{p' x':X}(hs:eN P t=some n)(Ov:n≠0)(hp:bo p=some p')(hx:bo x=some x')(h:step P (.store n p' x') aY m K):dO P (do Instr.storeAt t (a.eval p) (a.eval x);pure Next.skip) ρ m w K:=by
 simp only[step]at h;obtain⟨xs,XB,h⟩:=be.1 h;rcases ct.1 h with⟨hn,h⟩|⟨_,h⟩
 case inr=>exact h.elim
 have hn:xs.length=n:=aav hn;obtain⟨c1,c2,c3⟩:=jp XB (aP hE hx);have WL:=aP hE hp;generalize a.eval p=pv at WL;generalize p'.ev aY=pc at WL h;generalize a.eval x=xv at c1 c2 c3;have sv:∀ad:Addr,Instr.storeAt t (.pointer (some ad)) xv=storeVar t ad xv:=fun ad=>rfl
 have run:∀{mk:Prop}(b off:Nat)(cur:Array Value),mf mk w b cur->off+xs.length<=cur.size->∃w' gn,(storeVar t ⟨b,off,none⟩ xv).run P w= .ok () w'/\mf mk w' b gn/\kJ w w' b/\gn.size=cur.size/\
   ∀k,gn[k]? =if off<=k/\k<off+xs.length then xv.cells[k-off]? else cur[k]? :=by
  intro mk b off cur hc hle;obtain⟨w',gn,h1,h2,h3,h4,h5⟩:=mT (P:=P) b off xv.cells.toList 0 cur w hc (by simp[c1];omega) c3
  refine⟨w',gn,?_,h2,h3,h4,fun k=>?_⟩
  .unfold storeVar;rw[Sem.run_bind,fk hs];simp only[Result.andThen_ok];rw[if_neg (by rw[c1,hn];simp)]
   simpa using h1
  .rw[h5 k];simp[c1]
 split at h
 .rename_i id j;obtain⟨aC,rfl⟩:=WL;obtain⟨bk,hb,h⟩:=be.1 h;rw[aX]at hb;cases bk<;>simp only at h
  rename_i cs;obtain⟨eu,hw,hK⟩:=be.1 h;obtain⟨w1,w2,w3⟩:=jo hw;obtain⟨cur,b9,cj⟩:=hM.bk id _ hb;rw[bn]at hK;have jr:(ρ.aR (.au id)).ax+j+xs.length<=cur.size:=by obtain⟨u,hu,_⟩:=cj (j+xs.length-1) _ (aab om);have:=(aaF.1 hu).1;omega
  obtain⟨w',gn,hr,qG,ht,dI,hk⟩:=run (ρ.aR (.au id)).b ((ρ.aR (.au id)).ax+j) cur b9 jr;obtain⟨lV,hX⟩:=hM.Ru (DZ:= .var eu) hb ⟨_,hb,aG,by rintro⟨_,_,e⟩;cases e⟩ ht (fun g=>⟨gn,qG,fun k c Ow=>by
   rw[w3 k]at Ow;rw[hk];by_cases iV:j<=k/\k<j+xs.length
   .rw[if_pos iV]at Ow;rw[if_pos om];obtain⟨u,hu,cn⟩:=c2 _ c Ow;exact⟨u,by rw[<-hu];congr 1;omega,cn.cM g aG⟩
   .rw[if_neg iV]at Ow;rw[if_neg om];obtain⟨u,hu,cn⟩:=cj k c Ow;exact⟨u,hu,cn.cM g aG⟩⟩) (by
   rintro i' j' esz e ⟨es,rows,KN,jD,_,_⟩;rw[aal (by rw[<-hM.n];exact aC)]at jD
   cases jD)
  refine⟨.skip,Go.undef,w',.undef,_,ρ,?_,.inr ⟨rfl,rfl⟩,hK,lV,rfl,hX⟩;rw[sv,Sem.run_bind,hr];rfl
 .rename_i id esz i j;obtain⟨aC,rfl⟩:=WL;obtain⟨bk,hb,h⟩:=be.1 h;rw[aX]at hb;cases bk<;>simp only at h
  rename_i nR elems;rcases ct.1 h with⟨he,h⟩|⟨_,h⟩
  case inr=>exact h.elim
  have he:esz=nR:=aav he;obtain⟨cells,ez,h⟩:=be.1 h;rw[aX]at ez;rcases ct.1 h with⟨jC,h⟩|⟨_,h⟩
  case inr=>exact h.elim
  obtain⟨e9,hw,hK⟩:=be.1 h;obtain⟨w1,w2,w3⟩:=jo hw;obtain⟨h2,h3,h4,h5,Bg⟩:=hM.bk id _ hb;have uN:=(aac.1 ez).1;have dD:0<(ρ.aR (.au id)).cap:=om;obtain⟨cur,b9,h1,cj⟩:=Bg dD;rw[bn,bn]at hK;subst he;have gZ:cells.length=esz:=h5 _ (aag ez);have hi:i<elems.length:=(aac.1 ez).1;have hmul:i*esz+esz<=(ρ.aR (.au id)).cap*esz:=by have:(i+1)*esz<=(ρ.aR (.au id)).cap*esz:=aaP _ om;rwa [aa2,abl]at this
  obtain⟨w',gn,hr,qG,ht,dI,hk⟩:=run (ρ.aR (.au id)).b ((ρ.aR (.au id)).ax+i*esz+j) cur b9 om;obtain⟨lV,hX⟩:=hM.Ru (DZ:= .row esz (elems.set i e9)) hb ⟨_,hb,aG,fun _=>dD⟩ ht (fun g=>⟨by simpa using h2,h3,h4,fun cs dG=>by
    rcases aaI dG with hm|rfl
    .exact h5 cs hm
    .rw[w1,gZ],fun _=>⟨gn,qG,by rw[dI];exact h1,fun i' cs j' c eC xD=>by
   rw[hk];by_cases N3:i=i'
   .subst N3;rw[aal hi]at eC;simp only[aaA]at eC;subst eC;rw[w3 j']at xD;by_cases iV:j<=j'/\j'<j+xs.length
    .rw[if_pos iV]at xD;rw[if_pos om];obtain⟨u,hu,cn⟩:=c2 _ c xD;exact⟨u,by rw[<-hu];congr 1;omega,(cn.cM g aG).vg _⟩
    .rw[if_neg iV]at xD;rw[if_neg om];obtain⟨u,hu,cn⟩:=cj i cells j' c ez xD;exact⟨u,hu,cn.cM g (by rintro _ _ _ e;cases e;exact aC)⟩
   .rw[aas N3]at eC;obtain⟨u,hu,cn⟩:=cj i' cs j' c eC xD;have abw:j'<esz:=by rw[<-h5 _ (aag eC)];exact(aac.1 xD).1
    have eW:¬((ρ.aR (.au id)).ax+i*esz+j<=(ρ.aR (.au id)).ax+i'*esz+j'/\(ρ.aR (.au id)).ax+i'*esz+j'<(ρ.aR (.au id)).ax+i*esz+j+xs.length):=by
     rcases Nat.lt_or_gt_of_ne N3 with nU|nU
     .have:(i+1)*esz<=i'*esz:=aaP _ nU;rw[aa2,abl]at this;omega
     .have:(i'+1)*esz<=i*esz:=aaP _ nU;rw[aa2,abl]at this;omega
    rw[if_neg eW];exact⟨u,hu,cn.cM g (by rintro _ _ _ e;cases e;exact aC)⟩⟩⟩) (by
   rintro i' j' xN e ⟨es,rows,KN,jD,eL,km⟩;rw[aal (by rw[<-hM.n];exact aC)]at jD
   cases jD;by_cases N3:i=i'
   .subst N3;rw[aal hi]at eL;cases eL;rw[w3 j']at km;by_cases iV:j<=j'/\j'<j+xs.length
    .rw[if_pos iV]at km;obtain⟨u,hu,cn⟩:=c2 _ _ km;exact absurd rfl (cn.zx _ _)
    .rw[if_neg iV]at km;exact⟨esz,elems,cells,hb,ez,km⟩
   .rw[aas N3]at eL;exact⟨esz,elems,KN,hb,eL,km⟩)
  refine⟨.skip,Go.undef,w',.undef,_,ρ,?_,.inr ⟨rfl,rfl⟩,hK,lV,rfl,hX⟩;rw[sv,Sem.run_bind,hr];rfl
 .exact h.elim
end
end Go.AM
