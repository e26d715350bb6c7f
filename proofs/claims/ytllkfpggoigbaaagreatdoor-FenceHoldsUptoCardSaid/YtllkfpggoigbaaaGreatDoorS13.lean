/- Part 13 of 35. -/
import Derived.Test.YtllkfpggoigbaaaGreatDoorS12
import Derived.ChangeArms
import Derived.OpenShut
set_option linter.unusedVariables false
set_option linter.unusedSimpArgs false
set_option linter.unnecessarySimpa false
set_option maxRecDepth 100000
set_option maxHeartbeats 0
namespace Go.AM
inductive Lf where
 |b
 |i (k:IntKind)
 |s
 |sl (ls:List Lf)
inductive jF:List Lf->List Dt->Prop
 |nil:jF [] []
 |b (x:Bool) {ls:List Lf} {ds:List Dt} (h:jF ls ds):jF (.b::ls) (.val (.bool x)::ds)
 |i (k:IntKind) (n:Int) {ls:List Lf} {ds:List Dt} (hw:(Lit.int k n).wf=true) (h:jF ls ds):jF (.i k::ls) (.val (.int k n)::ds)
 |s (x:ByteArray) {ls:List Lf} {ds:List Dt} (h:jF ls ds):jF (.s::ls) (.val (.string x)::ds)
 |sl (es:List Lf) (elems:List (List Dt)) {ls:List Lf} {ds:List Dt} (he:∀e,e∈elems->jF es e) (h:jF ls ds):jF (.sl es::ls) (.sl es.length elems::ds)
theorem jF.len{ls:List Lf}{ds:List Dt}(h:jF ls ds):ds.length=ls.length:=by
 induction h with
 |nil=>rfl
 |b _ _ ih=>simp[ih]
 |i _ _ _ _ ih=>simp[ih]
 |s _ _ ih=>simp[ih]
 |sl _ _ _ _ _ ih=>simp[ih]
theorem jF.append{ls ls':List Lf}{ds ds':List Dt}(h:jF ls ds)(h':jF ls' ds'):jF (ls++ls') (ds++ds'):=by
 induction h with
 |nil=>exact h'
 |b x _ ih=>exact .b x ih
 |i k n hw _ ih=>exact .i k n hw ih
 |s x _ ih=>exact .s x ih
 |sl es elems he _ _ ih=>exact .sl es elems he ih
mutual
def Dt.size:Dt->Nat
 | .val (.string s)=>s.size+1
 | .val _=>1
 | .sl _ elems=>Dt.eA elems+1
def Dt.gH:List Dt->Nat
 | []=>0
 |d::r=>d.size+Dt.gH r
def Dt.eA:List (List Dt)->Nat
 | []=>0
 |l::r=>Dt.gH l+Dt.eA r
end
theorem Dt.oB:∀(a b:List Dt),Dt.gH (a++b)=Dt.gH a+Dt.gH b
 | [],b=>by simp[Dt.gH]
 |x::r,b=>by simp[Dt.gH,Dt.oB r b];omega
def mE{H:Type}(f:DataW H->Nat):List (DataW H)->Nat
 | []=>0
 |d::r=>f d+mE f r
structure R2(H:Type) where
 f:DataW H->Nat
 str:∀s,f (.lit (.string s))=s.length+1
 lit:∀l,1<=f (.lit l)
 nil:1<=f .nil
 slice:∀a b,mE f a+mE f b+1<=f (.slice a b)
 agg:∀a,mE f a<=f (.agg a)
def xM(P:Program)(g:TypeId->Option (List Lf)):List Field->Nat->Option (List Lf)
 | [],_=>some []
 |f::r,off=>if f.offset=off then
   match g f.type with
   |some ks=>if P.cellsOf f.type=ks.length then
     match xM P g r (off+ks.length)with
     |some ls=>some (ks++ls)
     |none=>none
    else none
   |none=>none
  else none
def VX{α:Type}:Nat->List α->List α
 |0,_=>[]
 |n+1,l=>l++VX n l
def pE(P:Program):Nat->TypeId->Option (List Lf)
 |0,_=>none
 |d+1,t=>match P.underlying t with
  |some .bool=>some [.b]
  |some (.int k)=>some [.i k]
  |some .string=>some [.s]
  |some (.slice e)=>match pE P d e with
   |some ls=>if P.cellsOf e=ls.length/\0<ls.length then some [.sl ls]else none
   |none=>none
  |some (.struct fs)=>match xM P (pE P d) fs.toList 0 with
   |some ls=>if P.cellsOf t=ls.length then some ls else none
   |none=>none
  |some (.array n e)=>match pE P d e with
   |some ls=>if P.cellsOf e=ls.length/\P.cellsOf t=n*ls.length then some (VX n ls)else none
   |none=>none
  |_=>none
section
variable {H:Type} {enc:TypeId×Value->H} {P:Program} {w:World} {aB:Nat} {spare:Nat->Bool} {held:Bool}
def iA(w:World)(cs:List Value)(ds:List Dt):Prop:=cs.length=ds.length/\∀(i:Nat)v d,cs[i]? =some v->ds[i]? =some d->dx (λb=>b<w.heap.size) w d v
theorem iA.nil:iA w [] []:=⟨rfl,aD⟩
theorem iA.one{v:Value}{d:Dt}(h:dx (λb=>b<w.heap.size) w d v):iA w [v] [d]:=by
 refine⟨rfl,λi v' d' h1 h2=>?_⟩
 cases i with
 |zero=>simp at h1 h2;subst h1 h2;exact h
 |succ i=>simp at h1
theorem iA.append{a b:List Value}{x y:List Dt}(h:iA w a x)(h':iA w b y):iA w (a++b) (x++y):=by
 refine⟨by simp[h.1,h'.1],λi v d h1 h2=>?_⟩
 rcases aax i a.length with ax|ef
 .rw[aaW ax]at h1;rw[aaW (by rw[<-h.1];exact ax)]at h2
  exact h.2 i v d h1 h2
 .rw[aaS ef]at h1;rw[aaS (by rw[<-h.1];exact ef)]at h2
  exact h'.2 _ v d h1 (by rw[h.1];exact h2)
theorem KQ{a:Addr}{v:Value}(h:w.cell? a=some v):a.spot=none:=by
 unfold World.cell? at h;split at h
 .split at h
  .cases h
  .rename_i hs;cases zO:a.spot with
   |none=>rfl
   |some x=>rw[zO]at hs;simp at hs
 .cases h
theorem Gm(bk:R2 H):∀(d:Nat)(t:TypeId)(ls:List Lf),pE P d t=some ls->∀(fuel:Nat)(cs:List Value)(x:DataW H×List MemPlace),DataW.trod enc P w aB spare held fuel t cs=some x->
  ∃ds,jF ls ds/\iA w cs ds/\Dt.gH ds<=bk.f x.1:=by
 intro d
 induction d with
 |zero=>intro t ls h;simp[pE]at h
 |succ d ih=>
  intro t ls h fuel cs x hx;simp only[pE]at h;split at h
  .rename_i ht;cases h;obtain⟨b,rfl,rfl⟩:=DataW.trod_bool ht hx;exact⟨[.val (.bool b)],.b b .nil,iA.one (.val _ rfl),by simpa[Dt.gH,Dt.size]using bk.lit _⟩
  .rename_i k ht;cases h;obtain⟨n,rfl,rfl,hw⟩:=DataW.trod_int ht hx;exact⟨[.val (.int k n)],.i k n hw .nil,iA.one (.val _ rfl),by simpa[Dt.gH,Dt.size]using bk.lit _⟩
  .rename_i ht;cases h;obtain⟨s,rfl,rfl,hs⟩:=DataW.trod_string ht hx;refine⟨[.val (.string s)],.s s .nil,iA.one (.val _ rfl),?_⟩;have:s.data.toList.length=s.size:=by rw[acF];rfl
   simp only[Dt.gH,Dt.size,bk.str,this];omega
  .rename_i e ht;split at h
   .rename_i es oh;split at h
    .rename_i hc;cases h;rcases DataW.trod_slice ht hx with⟨rfl,rfl⟩|⟨a,len,cap,elems,rest,n,rfl,rfl,rfl,hb,tX,hcm,KR,vK,_,_⟩
     .exact⟨[.sl es.length []],.sl es [] aD .nil,iA.one (.nil _ none 0 (WG _)),by simpa[Dt.gH,Dt.size,Dt.eA]using bk.nil⟩
     .have mD:∀i,i<len->∃C6 x0 Q8,w.cells? aB (a.add (i*es.length)) es.length=some C6/\elems[i]? =some x0/\jF es Q8/\iA w C6 Q8/\Dt.gH Q8<=bk.f x0.1:=by intro i hi;have h1:=vK i hi;rw[hc.1]at h1;have ax:i<elems.length:=om;rw[wy ax]at h1;obtain⟨C6,DO,N3⟩:=U2.1 h1;obtain⟨Q8,f0,r0,s0⟩:=ih e es oh n C6 _ N3;exact⟨C6,_,Q8,DO,wy ax,f0,r0,s0⟩
      have mk:∀k,k<=len->∃rN:List (List Dt),rN.length=k/\(∀e,e∈rN->jF es e)/\(∀(i:Nat)Q8,rN[i]? =some Q8->∃C6,w.cells? aB (a.add (i*es.length)) es.length=some C6/\iA w C6 Q8)/\
        Dt.eA rN<=mE bk.f ((elems.take k).map (·.1)):=by
       intro k
       induction k with
       |zero=>intro _;exact⟨[],rfl,aD,aD,by simp[Dt.eA]⟩
       |succ k ihk=>
        intro hk;obtain⟨rN,h1,h2,h3,h4⟩:=ihk om;obtain⟨C6,x0,Q8,DO,YV,f0,r0,s0⟩:=mD k om;refine⟨rN++ [Q8],by simp[h1],λe he=>?_,λi ds' hi=>?_,?_⟩
        .rcases abH.1 he with he|he
         .exact h2 e he
         .simp at he;subst he;exact f0
        .rcases adZ i k with ax|rfl|Q9
         .rw[aaW om]at hi;exact h3 i ds' hi
         .rw[aaS om,h1]at hi;simp at hi;subst hi;exact⟨C6,DO,r0⟩
         .rw[aaS om,h1,show i-k=(i-k-1)+1 by omega]at hi
          simp at hi
        .have BE:elems.take (k+1)=elems.take k++ [x0]:=by rw[acb,YV];rfl
         have adw:∀(p q:List (DataW H)),mE bk.f (p++q)=mE bk.f p+mE bk.f q:=by
          intro p
          induction p with
          |nil=>intro q;simp[mE]
          |cons y r ihp=>intro q;simp[mE,ihp q];omega
         have hLL:∀(p q:List (List Dt)),Dt.eA (p++q)=Dt.eA p+Dt.eA q:=by
          intro p
          induction p with
          |nil=>intro q;simp[Dt.eA]
          |cons y r ihp=>intro q;simp[Dt.eA,ihp q];omega
         rw[BE,abM,adw,hLL];simp only[ab2,aeg,mE,Dt.eA];omega
      obtain⟨rN,h1,h2,h3,h4⟩:=mk len (aai _);refine⟨[.sl es.length rN],.sl es rN h2 .nil,iA.one ?_,?_⟩
      .rcases abY len with h0|dD
       .subst h0;rw[aaX h1];exact .nil _ _ _ hcm
       .have h0:=h3 0 rN[0] (wy om);obtain⟨C6,DO,hr0⟩:=h0;obtain⟨vg,MX,BW⟩:=World.cells?_some DO;have zO:a.spot=none:=by
         have h5:=BW 0 hc.2;have hz:((a.add (0*es.length)).add 0)=a:=by simp[Addr.add]
         rw[hz]at h5;have ax:0<C6.length:=om;rw[wy ax]at h5;exact KQ h5
        have hblk:a.block<w.heap.size:=by
         have:=World.cells?_block DO hc.2;have hz:(a.add (0*es.length))=a:=by simp[Addr.add]
         rw[hz]at this;exact this
        have VG:∀i j,((a.add (i*es.length)).add j)=⟨a.block,a.off+i*es.length+j,none⟩:=by
         intro i j;obtain⟨ab,ao,asp⟩:=a;simp only at zO;subst zO;unfold Addr.add;split<;>split<;>simp_all
        rw[<-h1];have ea:a=⟨a.block,a.off,none⟩:=by obtain⟨ab,ao,asp⟩:=a;simp only at zO;subst zO;rfl
        rw[ea];have key:∀(i:Nat)fg(j:Nat)d',rN[i]? =some fg->fg[j]? =some d'->∃u,w.cell? ⟨a.block,a.off+i*es.length+j,none⟩=some u/\dx (λb=>b<w.heap.size) w d' u:=by
         intro i fg j d' hi hj;obtain⟨cs1,Zr,C7⟩:=h3 i fg hi;obtain⟨_,rH,BX⟩:=World.cells?_some Zr;have bQ:j<cs1.length:=by rw[C7.1];exact(Lw.1 hj).1
         have h6:=BX j om;rw[VG,wy bQ]at h6;exact⟨_,h6,C7.2 j _ d' (wy bQ) hj⟩
        refine dx.sl es.length rN a.block a.off cap (λi j=>(w.cell? ⟨a.block,a.off+i*es.length+j,none⟩).getD Go.undef) hblk om hcm (λfg NB=>(h2 fg NB).len)
         (λi fg j d' hi hj=>by obtain⟨u,hu,_⟩:=key i fg j d' hi hj;rw[hu];rfl)
         (λi fg j d' hi hj=>by obtain⟨u,hu,hd⟩:=key i fg j d' hi hj;rw[hu];exact hd)
      .have h5:=bk.slice (elems.map (·.1)) (rest.map (·.1))
       have h6:elems.take len=elems:=ach om;rw[h6]at h4;simp only[Dt.gH,Dt.size];omega
    .cases h
   .cases h
  .rename_i fs ht;obtain⟨xs,n,rfl,rfl,hl,hlen,hf⟩:=DataW.trod_struct ht hx;have go:∀(l:List Field)(k off:Nat)(ls:List Lf),fs.toList.drop k=l->xM P (pE P d) l off=some ls->cs.length=off+ls.length->∃ds,jF ls ds/\iA w (cs.drop off) ds/\Dt.gH ds<=mE bk.f ((xs.drop k).map (·.1)):=by
    intro l
    induction l with
    |nil=>
     intro k off ls _ ug gF;simp only[xM]at ug;cases ug;refine⟨[],.nil,?_,by simp[Dt.gH]⟩
     have:cs.drop off=[]:=ac2 (by simp at gF;omega)
     rw[this];exact iA.nil
    |cons f r ihl=>
     intro k off ls hk ug gF;simp only[xM]at ug;split at ug
     .rename_i Gh;split at ug
      .rename_i ks hks;split at ug
       .rename_i hck;split at ug
        .rename_i rs VW;cases ug;have Zs:fs[k]? =some f:=by
          have:(fs.toList.drop k)[0]? =some f:=by rw[hk];rfl
          simpa using this
         have hr:fs.toList.drop (k+1)=r:=by rw[<-List.tail_drop,hk];rfl
         have eJ:k<xs.length:=by rw[hlen];exact(abG.1 Zs).1
         have N3:=hf k f Zs;rw[Gh,hck,wy eJ]at N3;obtain⟨ds1,f1,r1,s1⟩:=ih f.type ks hks n _ _ N3;rw[abT]at gF;obtain⟨ds2,f2,r2,s2⟩:=ihl (k+1) (off+ks.length) rs hr VW om;refine⟨ds1++ds2,f1.append f2,?_,?_⟩
         .have:cs.drop off=(cs.drop off).take ks.length++cs.drop (off+ks.length):=by rw[<-aeu,ady]
          rw[this];exact r1.append r2
         .rw[Dt.oB,acX eJ];simp only[ab2,mE];omega
        .cases ug
       .cases ug
      .cases ug
     .cases ug
   split at h
   .rename_i ls' ug;split at h
    .rename_i hc;cases h;obtain⟨ds,f1,r1,s1⟩:=go fs.toList 0 0 _ aD ug om;refine⟨ds,f1,by simpa using r1,?_⟩
     have:=bk.agg (xs.map (·.1))
     simp only[aev]at s1;show _<=bk.f (DataW.agg (xs.map (·.1)))
     omega
    .cases h
   .cases h
  .rename_i n e ht;split at h
   .rename_i es oh;split at h
    .rename_i hc;cases h;obtain⟨xs,m,rfl,rfl,hl,hlen,vK⟩:=DataW.trod_array ht hx;have go:∀(k i:Nat),i+k=n->∃ds,jF (VX k es) ds/\iA w (cs.drop (i*es.length)) ds/\Dt.gH ds<=mE bk.f ((xs.drop i).map (·.1)):=by
      intro k
      induction k with
      |zero=>
       intro i hi;refine⟨[],.nil,?_,by simp[Dt.gH]⟩
       have:cs.drop (i*es.length)=[]:=ac2 (by rw[hl,hc.2,show i=n by omega];exact aai _)
       rw[this];exact iA.nil
      |succ k ihk=>
       intro i hi;have N3:=vK i om;have pG:i<xs.length:=om;rw[hc.1,wy pG]at N3;obtain⟨ds1,f1,r1,s1⟩:=ih e es oh m _ _ N3;obtain⟨ds2,f2,r2,s2⟩:=ihk (i+1) om;refine⟨ds1++ds2,f1.append f2,?_,?_⟩
       .have:cs.drop (i*es.length)=(cs.drop (i*es.length)).take es.length++cs.drop ((i+1)*es.length):=by rw[ab3,acs,<-aeu,ady]
        rw[this];exact r1.append r2
       .rw[Dt.oB,acX pG];simp only[ab2,mE];omega
     obtain⟨ds,f1,r1,s1⟩:=go n 0 om;refine⟨ds,f1,by simpa using r1,?_⟩
     have:=bk.agg (xs.map (·.1))
     simp only[aev]at s1;show _<=bk.f (DataW.agg (xs.map (·.1)))
     omega
    .cases h
   .cases h
  .cases h
def Zt(agg:Bool)(ds:List Dt):CV:=match agg,ds with
 |true,ds=>.rv (.agg (ds.map .ai))
 |false,[d]=>.rv (.one (.ai d))
 |false,_=>.aH
theorem N4{agg:Bool}{v:Value}{ds:List Dt}(hr:iA w v.cells.toList ds)(ha:agg=true->∃vs,v= .agg vs)(hn:agg=false->v.oneCell'=true):cw (KP w) w (Zt agg ds) v:=by
 cases agg with
 |true=>
  obtain⟨vs,rfl⟩:=ha rfl;refine⟨vs.toList,aD,by simpa[Value.cells]using hr.1,λi c hi=>?_⟩
  rw[Qu]at hi;cases hd:ds[i]? with
  |none=>rw[hd]at hi;cases hi
  |some d=>
   rw[hd]at hi;cases hi;have ax:i<vs.toList.length:=by have:=(Lw.1 hd).1;have h1:=hr.1;simp only[Value.cells]at h1;omega
   exact⟨_,wy ax,hr.2 i _ d (wy ax) hd⟩
 |false=>
  have h1:=hn rfl;have hc:v.cells.toList=[v]:=by cases v<;>first|rfl|simp[Value.oneCell']at h1
  rw[hc]at hr
  match ds,hr with
  | [d],hr=>exact hr.2 0 v d rfl rfl
end
end Go.AM
